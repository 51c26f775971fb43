/- One code done: both machines. -/
import Derived.Test.YtfnmihhcopkkbaaGreatStP
namespace Go.Proofs.YtfnmihhcopkkbaaGreat
open Go Fr
set_option linter.unusedVariables false
set_option linter.unusedSimpArgs false
set_option maxRecDepth 20000
structure Inv (s : T_State) : Prop where
  regs : s.Regs.length = 16
  regsU : ∀ z ∈ s.Regs, U z
  mem : s.Mem.length = 256
  memU : ∀ z ∈ s.Mem, U z
  inl : s.In_.length ≤ 100
  inU : ∀ z ∈ s.In_, U z
  taken : 0 ≤ s.Taken ∧ s.Taken ≤ s.In_.length
  outU : ∀ z ∈ s.Out, U z
  pc : 0 ≤ s.PC ∧ s.PC ≤ 1024
  stack : s.Stack.length ≤ 16
  stackN : ∀ z ∈ s.Stack, 0 ≤ z ∧ z ≤ 1024
structure Near (s s1 : T_State) : Prop where
  regs : s1.Regs = s.Regs
  pc : s1.PC = s.PC
  stop : s1.Stop = s.Stop
  inn : s1.In_ = s.In_
  fly : s1.Fly = s.Fly
  jump : s1.Jump = s.Jump
  delay : s1.Delay = s.Delay
  mem : s1.Mem.length = s.Mem.length
  memU : ∀ z ∈ s1.Mem, U z
  taken : s.Taken ≤ s1.Taken ∧ s1.Taken ≤ s.In_.length
  out : ∃ o, s1.Out = s.Out ++ o ∧ o.length ≤ 1 ∧ ∀ z ∈ o, U z
  stack : s1.Stack.length ≤ 16
  stackN : ∀ z ∈ s1.Stack, 0 ≤ z ∧ z ≤ 1024
theorem Inv.near {s : T_State} (h : Inv s) : Near s s :=
  ⟨rfl, rfl, rfl, rfl, rfl, rfl, rfl, rfl, h.memU, ⟨by omega, h.taken.2⟩, ⟨[], by simp, by simp, by simp⟩, h.stack, h.stackN⟩
def Sq (s : T_State) (x : T_Ins) (a b nxt : Int) (s1 : T_State) (d : T_deed) : Prop :=
  ∃ s0 v e, seq_Act s x a b = some (s0, v, e) ∧ s0.PC = s.PC ∧ ((e ≠ 0 ∧ s1 = s0 ∧ d.stop = e) ∨ (e = 0 ∧ ∃ to j, seq_Turn s0 x a nxt = some (s1, to, j, d.stop) ∧
    (d.stop = 0 → d.has = isa_HasD (isa_Shape x.Op) ∧ (d.has = true → v = d.result) ∧ d.jumps = j ∧ (j = true → d.to = to))))
def Both (s : T_State) (x : T_Ins) (a b nxt : Int) : Prop :=
  ∃ s1 d, r5_do s x a b nxt = some (s1, d) ∧ Near s s1 ∧ (0 ≤ d.stop ∧ d.stop ≤ 5) ∧ (d.has = true → U d.result) ∧ (d.jumps = true → 0 ≤ d.to ∧ d.to ≤ 1024) ∧ Sq s x a b nxt s1 d
theorem turn_no {s : T_State} {x : T_Ins} {a n : Int} (h : x.Op < 28 ∨ 32 < x.Op) : seq_Turn s x a n = some (s, 0, false, 0) := by
  have h1 : ¬ x.Op = 28 := by omega
  have h2 : ¬ x.Op = 29 := by omega
  have h3 : ¬ x.Op = 30 := by omega
  have h4 : ¬ x.Op = 31 := by omega
  have h5 : ¬ x.Op = 32 := by omega
  simp [seq_Turn, seq_Turn_k1, cut, h1, h2, h3, h4, h5]
theorem both_plain {s s1 : T_State} {x : T_Ins} {a b nxt v r : Int} {has : Bool} (h : x.Op < 28 ∨ 32 < x.Op) (h1 : r5_do s x a b nxt = some (s1, ⟨has, r, false, 0, 0⟩)) (hn : Near s s1)
    (hu : has = true → U r) (h2 : seq_Act s x a b = some (s1, v, 0)) (h3 : has = isa_HasD (isa_Shape x.Op)) (h4 : has = true → v = r) : Both s x a b nxt :=
  ⟨s1, _, h1, hn, ⟨by simp, by simp⟩, hu, by simp, s1, v, 0, h2, hn.pc, .inr ⟨rfl, 0, false, turn_no h, fun _ => ⟨h3, h4, rfl, by simp⟩⟩⟩
theorem both_stop {s s1 : T_State} {x : T_Ins} {a b nxt v e : Int} (h1 : r5_do s x a b nxt = some (s1, ⟨false, 0, false, 0, e⟩)) (hn : Near s s1) (he : 1 ≤ e ∧ e ≤ 5)
    (h2 : seq_Act s x a b = some (s1, v, e)) : Both s x a b nxt :=
  ⟨s1, _, h1, hn, ⟨by simp; omega, by simp; omega⟩, by simp, by simp, s1, v, e, h2, hn.pc, .inl ⟨by omega, rfl, rfl⟩⟩
theorem both_turn {s s1 : T_State} {x : T_Ins} {a b nxt to e : Int} {j : Bool} (h1 : r5_do s x a b nxt = some (s1, ⟨false, 0, j, to, e⟩)) (hn : Near s s1) (he : 0 ≤ e ∧ e ≤ 5) (ht : j = true → 0 ≤ to ∧ to ≤ 1024)
    (h2 : seq_Act s x a b = some (s, 0, 0)) (h3 : isa_HasD (isa_Shape x.Op) = false) {to' : Int} (h4 : seq_Turn s x a nxt = some (s1, to', j, e)) (h5 : j = true → to = to') : Both s x a b nxt :=
  ⟨s1, _, h1, hn, he, by simp, ht, s, 0, 0, h2, rfl, .inr ⟨rfl, to', j, h4, fun _ => ⟨h3.symm, by simp, rfl, h5⟩⟩⟩
theorem hasD_word {op : Int} (h : 1 ≤ op ∧ op ≤ 21) : isa_HasD (isa_Shape op) = true := by
  rcases (show op = 1 ∨ op = 2 ∨ op = 3 ∨ op = 4 ∨ op = 5 ∨ op = 6 ∨ op = 7 ∨ op = 8 ∨ op = 9 ∨ op = 10 ∨ op = 11 ∨ op = 12 ∨ op = 13 ∨ op = 14 ∨ op = 15 ∨ op = 16 ∨ op = 17 ∨ op = 18 ∨ op = 19 ∨ op = 20 ∨ op = 21 by omega) with rfl | rfl | rfl | rfl | rfl | rfl | rfl | rfl | rfl | rfl | rfl | rfl | rfl | rfl | rfl | rfl | rfl | rfl | rfl | rfl | rfl <;> decide
theorem do_word {s : T_State} {x : T_Ins} {a b nxt : Int} (hI : Inv s) (ho : 1 ≤ x.Op ∧ x.Op ≤ 17) (ha : U a) (hb : U b) : Both s x a b nxt := by
  have e1 : r1_Has x.Op = true := by simp [r1_Has, r0_Between, ho.1, ho.2]
  have e2 : pair_Has x.Op = false := by have : ¬ 18 ≤ x.Op := by omega
                                        simp [pair_Has, this]
  have e3 : word_Has x.Op = true := by simp [word_Has, ho.1, ho.2]
  rcases word_both ho ha hb with ⟨v, hv, h1, h2⟩ | ⟨v, e, v', he, h1, h2⟩
  · refine both_plain (s1 := s) (v := v) (r := v) (has := true) (.inl (by omega)) ?_ hI.near (fun _ => hv) ?_ (hasD_word ⟨ho.1, by omega⟩).symm (fun _ => rfl)
    · simp [r5_do, e1, h2]
    · simp [seq_Act, e2, e3, h1]
  · refine both_stop (s1 := s) (v := 0) (e := 3) ?_ hI.near (by decide) ?_
    · simp [r5_do, e1, h2]
    · simp [seq_Act, e2, e3, h1, he]
theorem do_pair {s : T_State} {x : T_Ins} {a b nxt : Int} (hI : Inv s) (ho : 18 ≤ x.Op ∧ x.Op ≤ 21) (ha : U a) (hb : U b) : Both s x a b nxt := by
  have e1 : r1_Has x.Op = false := by have h1 : 1 ≤ x.Op := by omega
                                      have : ¬ x.Op ≤ 17 := by omega
                                      simp [r1_Has, r0_Between, h1, this]
  have e4 : r1_Paired x.Op = true := by simp [r1_Paired, r0_Between, ho.1, ho.2]
  have e2 : pair_Has x.Op = true := by simp [pair_Has, ho.1, ho.2]
  obtain ⟨v, hv, h1, h2⟩ := pair_both ho ha hb
  refine both_plain (s1 := s) (v := v) (r := v) (has := true) (.inl (by omega)) ?_ hI.near (fun _ => hv) ?_ (hasD_word ⟨by omega, ho.2⟩).symm (fun _ => rfl)
  · simp [r5_do, e1, e4, h2]
  · simp [seq_Act, e2, h1]
theorem in_mem {s : T_State} (hI : Inv s) {n : Int} (h0 : 0 ≤ n) (h : n < 256) : ∃ v, U v ∧ at' s.Mem n = some v := by
  obtain ⟨hl, h1⟩ := at'_int (xs := s.Mem) h0 (by have := hI.mem; omega)
  exact ⟨_, hI.memU _ (List.getElem_mem hl), h1⟩
theorem do_mem {s : T_State} {x : T_Ins} {a b nxt : Int} (hI : Inv s) (ho : x.Op = 24 ∨ x.Op = 25) (ha : U a) (hb : U b) : Both s x a b nxt := by
  have hu := u_wrap (a + IntKind.u32.wrap x.Imm)
  by_cases h : 256 ≤ IntKind.u32.wrap (a + IntKind.u32.wrap x.Imm)
  · refine both_stop (s1 := s) (v := 0) (e := 2) ?_ hI.near (by decide) ?_
    · rcases ho with ho | ho <;> simp [r5_do, r5_do_k1, r1_Has, r1_Paired, r0_Between, cut, ho, h]
    · rcases ho with ho | ho <;> simp [seq_Act, seq_memory, pair_Has, word_Has, ho, h]
  · rcases ho with ho | ho
    · obtain ⟨v, hv, h1⟩ := in_mem hI hu.1 (by omega)
      refine both_plain (s1 := s) (v := v) (r := v) (has := true) (.inl (by omega)) ?_ hI.near (fun _ => hv) ?_ (by rw [ho]; decide) (fun _ => rfl)
      · simp [r5_do, r5_do_k1, r1_Has, r1_Paired, r0_Between, cut, ho, h, h1]
      · simp [seq_Act, seq_memory, pair_Has, word_Has, ho, h, h1]
    · have h1 := set'_int (xs := s.Mem) (x := b) hu.1 (by have := hI.mem; omega)
      obtain ⟨hl, h2⟩ := at'_int (xs := s.Mem.set (IntKind.u32.wrap (a + IntKind.u32.wrap x.Imm)).toNat b) hu.1 (by have := hI.mem; simp; omega)
      refine both_plain (s1 := { s with Mem := s.Mem.set (IntKind.u32.wrap (a + IntKind.u32.wrap x.Imm)).toNat b }) (v := (s.Mem.set (IntKind.u32.wrap (a + IntKind.u32.wrap x.Imm)).toNat b)[(IntKind.u32.wrap (a + IntKind.u32.wrap x.Imm)).toNat]) (r := 0) (has := false) (.inl (by omega)) ?_ ?_ (by simp) ?_ (by rw [ho]; decide) (by simp)
      · simp [r5_do, r5_do_k1, r1_Has, r1_Paired, r0_Between, cut, ho, h, h1]
      · refine { hI.near with mem := by simp, memU := fun z hz => ?_ }
        rcases List.mem_or_eq_of_mem_set hz with hz | rfl
        · exact hI.memU z hz
        · exact hb
      · simp [seq_Act, seq_memory, pair_Has, word_Has, ho, h, h1, h2]
theorem do_flat {s : T_State} {x : T_Ins} {a b nxt : Int} (hI : Inv s) (hO : s.Out.length < 4294967296) (ho : x.Op = 0 ∨ x.Op = 22 ∨ x.Op = 23 ∨ x.Op = 26 ∨ x.Op = 27 ∨ x.Op = 33) (ha : U a) (hb : U b) : Both s x a b nxt := by
  rcases ho with ho | ho | ho | ho | ho | ho
  · refine both_plain (s1 := s) (v := 0) (r := 0) (has := false) (.inl (by omega)) ?_ hI.near (by simp) ?_ (by rw [ho]; decide) (by simp)
    · simp [r5_do, r5_do_k1, r1_Has, r1_Paired, r0_Between, cut, ho]
    · simp [seq_Act, pair_Has, word_Has, ho]
  · refine both_plain (s1 := s) (has := true) (.inl (by omega)) ?_ hI.near (fun _ => u_wrap (a + IntKind.u32.wrap x.Imm)) ?_ (by rw [ho]; decide) (fun _ => rfl)
    · simp [r5_do, r5_do_k1, r1_Has, r1_Paired, r0_Between, cut, ho]
    · simp [seq_Act, pair_Has, word_Has, ho]
  · refine both_plain (s1 := s) (has := true) (.inl (by omega)) ?_ hI.near (fun _ => u_wrap x.Imm) ?_ (by rw [ho]; decide) (fun _ => rfl)
    · simp [r5_do, r5_do_k1, r1_Has, r1_Paired, r0_Between, cut, ho]
    · simp [seq_Act, pair_Has, word_Has, ho]
  · by_cases h : s.Taken < s.In_.length
    · obtain ⟨hl, h1⟩ := at'_int (xs := s.In_) hI.taken.1 h
      have h2 : IntKind.i64.wrap (s.Taken + 1) = s.Taken + 1 := wrap_i64 (by have := hI.taken; omega) (by have := hI.inl; omega)
      refine both_plain (s1 := { s with Taken := s.Taken + 1 }) (has := true) (.inl (by omega)) ?_ { hI.near with taken := ⟨by simp; omega, by simp; omega⟩ } (fun _ => hI.inU _ (List.getElem_mem hl)) ?_ (by rw [ho]; decide) (fun _ => rfl)
      · simp [r5_do, r5_do_k1, r1_Has, r1_Paired, r0_Between, cut, ho, h, h1, h2]
      · simp [seq_Act, pair_Has, word_Has, ho, h, h1, h2]
    · refine both_plain (s1 := s) (v := 0) (r := 0) (has := true) (.inl (by omega)) ?_ hI.near (fun _ => ⟨by decide, by decide⟩) ?_ (by rw [ho]; decide) (fun _ => rfl)
      · simp [r5_do, r5_do_k1, r1_Has, r1_Paired, r0_Between, cut, ho, h]
      · simp [seq_Act, pair_Has, word_Has, ho, h]
  · have h1 : app' s.Out [a] = some (s.Out ++ [a]) := app'_le (by simp; omega)
    refine both_plain (s1 := { s with Out := s.Out ++ [a] }) (v := 0) (r := 0) (has := false) (.inl (by omega)) ?_ { hI.near with out := ⟨[a], rfl, by simp, by simpa using ha⟩ } (by simp) ?_ (by rw [ho]; decide) (by simp)
    · simp [r5_do, r5_do_k1, r1_Has, r1_Paired, r0_Between, cut, ho, h1]
    · simp [seq_Act, pair_Has, word_Has, ho, h1]
  · refine both_stop (s1 := s) (v := 0) (e := 1) ?_ hI.near (by decide) ?_
    · simp [r5_do, r5_do_k1, r1_Has, r1_Paired, r0_Between, cut, ho]
    · simp [seq_Act, pair_Has, word_Has, ho]
theorem do_turn {s : T_State} {x : T_Ins} {a b nxt : Int} (hI : Inv s) (ho : x.Op = 28 ∨ x.Op = 29 ∨ x.Op = 30 ∨ x.Op = 31 ∨ x.Op = 32) (hi : x.Op ≠ 32 → 0 ≤ x.Imm ∧ x.Imm ≤ 1024) (hn : 0 ≤ nxt ∧ nxt ≤ 1024) : Both s x a b nxt := by
  rcases ho with ho | ho | ho | ho | ho
  · have hi := hi (by omega)
    refine both_turn (s1 := s) (j := true) (to := x.Imm) (e := 0) ?_ hI.near (by decide) (fun _ => hi) ?_ (by rw [ho]; decide) (to' := x.Imm) ?_ (fun _ => rfl)
    · simp [r5_do, r5_do_k1, r1_Has, r1_Paired, r0_Between, cut, ho]
    · simp [seq_Act, pair_Has, word_Has, ho]
    · simp [seq_Turn, seq_Turn_k1, cut, ho]
  · have hi := hi (by omega)
    refine both_turn (s1 := s) (j := decide (a = 0)) (to := x.Imm) (e := 0) ?_ hI.near (by decide) (fun _ => hi) ?_ (by rw [ho]; decide) (to' := if a = 0 then x.Imm else 0) ?_ ?_
    · simp [r5_do, r5_do_k1, r1_Has, r1_Paired, r0_Between, cut, ho]
    · simp [seq_Act, pair_Has, word_Has, ho]
    · by_cases h : a = 0 <;> simp [seq_Turn, seq_Turn_k1, cut, ho, h]
    · intro h; simp at h; simp [h]
  · have hi := hi (by omega)
    refine both_turn (s1 := s) (j := decide (a ≠ 0)) (to := x.Imm) (e := 0) ?_ hI.near (by decide) (fun _ => hi) ?_ (by rw [ho]; decide) (to' := if a = 0 then 0 else x.Imm) ?_ ?_
    · simp [r5_do, r5_do_k1, r1_Has, r1_Paired, r0_Between, cut, ho]
    · simp [seq_Act, pair_Has, word_Has, ho]
    · by_cases h : a = 0 <;> simp [seq_Turn, seq_Turn_k1, cut, ho, h]
    · intro h; simp at h; simp [h]
  · have hi := hi (by omega)
    by_cases h : 16 ≤ (s.Stack.length : Int)
    · refine both_turn (s1 := s) (j := false) (to := 0) (e := 4) ?_ hI.near (by decide) (by simp) ?_ (by rw [ho]; decide) (to' := 0) ?_ (fun _ => rfl)
      · simp [r5_do, r5_do_k1, r1_Has, r1_Paired, r0_Between, cut, ho, h]
      · simp [seq_Act, pair_Has, word_Has, ho]
      · simp [seq_Turn, seq_Turn_k1, cut, ho, h]
    · have h1 : app' s.Stack [nxt] = some (s.Stack ++ [nxt]) := app'_le (by simp; omega)
      refine both_turn (s1 := { s with Stack := s.Stack ++ [nxt] }) (j := true) (to := x.Imm) (e := 0) ?_ { hI.near with stack := by simp; omega, stackN := fun z hz => ?_ } (by decide) (fun _ => hi) ?_ (by rw [ho]; decide) (to' := x.Imm) ?_ (fun _ => rfl)
      · simp [r5_do, r5_do_k1, r1_Has, r1_Paired, r0_Between, cut, ho, h, h1]
      · rcases List.mem_append.1 hz with hz | hz
        · exact hI.stackN z hz
        · rw [List.mem_singleton.1 hz]; exact hn
      · simp [seq_Act, pair_Has, word_Has, ho]
      · simp [seq_Turn, seq_Turn_k1, cut, ho, h, h1]
  · have hw : IntKind.i64.wrap ((s.Stack.length : Int) - 1) = (s.Stack.length : Int) - 1 := wrap_i64 (by omega) (by have := hI.stack; omega)
    by_cases h : s.Stack = []
    · refine both_turn (s1 := s) (j := false) (to := 0) (e := 4) ?_ hI.near (by decide) (by simp) ?_ (by rw [ho]; decide) (to' := 0) ?_ (fun _ => rfl)
      · simp [r5_do, r5_do_k1, r1_Has, r1_Paired, r0_Between, cut, ho, h] <;> (cases s; simp_all)
      · simp [seq_Act, pair_Has, word_Has, ho]
      · simp [seq_Turn, seq_Turn_k1, cut, ho, h, show IntKind.i64.wrap (-1) = -1 from by decide] <;> (cases s; simp_all)
    · have hl : 0 < s.Stack.length := List.length_pos_iff.2 h
      obtain ⟨hl1, h1⟩ := at'_int (xs := s.Stack) (i := (s.Stack.length : Int) - 1) (by omega) (by omega)
      have h2 : upto' s.Stack ((s.Stack.length : Int) - 1) = some (s.Stack.take ((s.Stack.length : Int) - 1).toNat) := by
        simp only [upto']; rw [if_pos ⟨by omega, by omega⟩]
      have h3 : ¬ (s.Stack.length : Int) = 0 := by omega
      have h4 : ¬ (s.Stack.length : Int) - 1 < 0 := by omega
      refine both_turn (s1 := { s with Stack := s.Stack.take ((s.Stack.length : Int) - 1).toNat }) (j := true) (e := 0) ?_ { hI.near with stack := by have := hI.stack; simp; omega, stackN := fun z hz => hI.stackN z (List.mem_of_mem_take hz) } (by decide) (fun _ => hI.stackN _ (List.getElem_mem hl1)) ?_ (by rw [ho]; decide) ?_ (fun _ => rfl)
      · simp [r5_do, r5_do_k1, r1_Has, r1_Paired, r0_Between, cut, ho, hw, h1, h2, h]
      · simp [seq_Act, pair_Has, word_Has, ho]
      · simp [seq_Turn, seq_Turn_k1, cut, ho, hw, h1, h2, h, h4]
theorem code_facts {x : T_Ins} (h : codeB x = true) : (0 ≤ x.Op ∧ x.Op ≤ 33) ∧ (0 ≤ x.D ∧ x.D ≤ 15) ∧ (0 ≤ x.A ∧ x.A ≤ 15) ∧ (0 ≤ x.B ∧ x.B ≤ 15) ∧ (28 ≤ x.Op ∧ x.Op ≤ 31 → 0 ≤ x.Imm ∧ x.Imm ≤ 1023) := by
  simp only [codeB, insB, Bool.and_eq_true, decide_eq_true_eq] at h
  obtain ⟨_, ⟨⟨⟨h1, h2⟩, h3⟩, h4⟩, h5⟩ := h
  have hr : ∀ {b n}, regB b n = true → 0 ≤ n ∧ n ≤ 15 := by
    intro b n h
    cases b <;> simp [regB] at h <;> omega
  refine ⟨h1, hr h2, hr h3, hr h4, fun h6 => ?_⟩
  rcases (show x.Op = 28 ∨ x.Op = 29 ∨ x.Op = 30 ∨ x.Op = 31 by omega) with ho | ho | ho | ho <;> rw [ho] at h5
  · rw [show isa_Shape 28 = 8 from by decide] at h5; simpa [immB] using h5
  · rw [show isa_Shape 29 = 9 from by decide] at h5; simpa [immB] using h5
  · rw [show isa_Shape 30 = 9 from by decide] at h5; simpa [immB] using h5
  · rw [show isa_Shape 31 = 8 from by decide] at h5; simpa [immB] using h5
theorem do_both {s : T_State} {x : T_Ins} {a b nxt : Int} (hI : Inv s) (hO : s.Out.length < 4294967296) (hx : codeB x = true) (ha : U a) (hb : U b) (hn : 0 ≤ nxt ∧ nxt ≤ 1024) : Both s x a b nxt := by
  obtain ⟨h1, _, _, _, h5⟩ := code_facts hx
  by_cases hw : 1 ≤ x.Op ∧ x.Op ≤ 17
  · exact do_word hI hw ha hb
  by_cases hp : 18 ≤ x.Op ∧ x.Op ≤ 21
  · exact do_pair hI hp ha hb
  by_cases hm : x.Op = 24 ∨ x.Op = 25
  · exact do_mem hI hm ha hb
  by_cases ht : 28 ≤ x.Op ∧ x.Op ≤ 32
  · exact do_turn hI (by omega) (fun h => by have := h5 ⟨ht.1, by omega⟩; omega) hn
  · exact do_flat hI hO (by omega) ha hb
end Go.Proofs.YtfnmihhcopkkbaaGreat
