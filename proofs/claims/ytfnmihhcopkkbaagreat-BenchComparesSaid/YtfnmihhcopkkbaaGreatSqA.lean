/- One step of the flat machine, and runs: both judges. -/
import Derived.Test.YtfnmihhcopkkbaaGreatPiH
namespace Go.Proofs.YtfnmihhcopkkbaaGreat
open Go Fr
set_option linter.unusedVariables false
set_option linter.unusedSimpArgs false
set_option maxRecDepth 20000
def progB (p : List T_Ins) : Bool := decide (p.length ≤ 1024) && p.all codeB
theorem r3_prog_b {p : List T_Ins} (hw : ∀ z ∈ p, Wf_Ins z) : r3_Program p = some (progB p) := by
  have hat : ∀ i : Nat, ∀ h : i < p.length, i ≤ 1024 → r3_Program_b1 p i = some (bif codeB p[i] then .next ((i + 1 : Nat) : Int) else .done false) := by
    intro i h h1
    have hd : decide ((i : Int) < p.length) = true := by simpa using h
    have hd2 : decide ((i : Int) ≤ 1024) = true := by simp; omega
    simp only [r3_Program_b1, hd, hd2, cond_true, at'_nat h, Option.bind_some]
    obtain ⟨b, hb⟩ := r3_ins_ends (hw p[i] (List.getElem_mem h))
    by_cases hs : p[i].Sym = ByteArray.mk #[]
    · rw [r3_ins0 hs]
      simp only [Option.bind_some, hs, codeB, decide_true, Bool.true_and, Bool.not_true, cond_false]
      rw [wrap_nat (by omega)]
      cases insB p[i] <;> rfl
    · simp only [hb, Option.bind_some, hs, codeB, decide_false, Bool.false_and, Bool.not_false, cond_true, cond_false]
      cases b <;> rfl
  simp only [r3_Program]
  by_cases hl : p.length ≤ 1024
  · have h := loop_list (b := r3_Program_b1 p) (xs := p) (q := codeB) (no := false) (yes := true) (fun i h => hat i h (by omega)) (by simp [r3_Program_b1]; omega)
    rw [h]
    simp [progB, hl]
  · have h := loop_list (b := r3_Program_b1 p) (xs := p.take 1025) (q := codeB) (no := false) (yes := false) (fun i h => by
        have h2 : i < 1025 := by simp at h; omega
        rw [List.getElem_take]
        exact hat i (by simp at h; omega) (by omega)) (by
        have h3 : (p.take 1025).length = 1025 := by simp; omega
        rw [h3]
        have h4 : ¬ (p.length : Int) ≤ 1024 := by omega
        simp [r3_Program_b1, h4])
    rw [h]
    simp [progB, hl]
theorem seq_prog_b {p : List T_Ins} (hw : ∀ z ∈ p, Wf_Ins z) : seq_Program p = some (progB p) := by
  simp only [seq_Program]
  by_cases hl : p.length ≤ 1024
  · have hl2 : decide ((p.length : Int) ≤ 1024) = true := by simp; omega
    have h := loop_find (b := slices_IndexFunc_api_Ins_api_Ins_seq_Program_1_b1 p) (xs := p) (q := codeB) (fun i h => by
        have hd : decide ((i : Int) < p.length) = true := by simpa using h
        simp only [slices_IndexFunc_api_Ins_api_Ins_seq_Program_1_b1, hd, cond_true, at'_nat h, Option.bind_some, seq_Program_1]
        obtain ⟨b, hb⟩ := isa_ins_ends (hw p[i] (List.getElem_mem h))
        by_cases hs : p[i].Sym = ByteArray.mk #[]
        · rw [isa_ins0 hs]
          simp only [Option.bind_some, hs, codeB, decide_true, Bool.true_and, Bool.not_true, cond_false]
          rw [wrap_nat (by omega)]
          cases insB p[i] <;> rfl
        · simp only [hb, Option.bind_some, hs, codeB, decide_false, Bool.false_and, Bool.not_false, cond_true, cond_false]
          cases b <;> rfl) (by simp [slices_IndexFunc_api_Ins_api_Ins_seq_Program_1_b1])
    obtain ⟨r, hr, hd⟩ := h
    simp only [hl2, cond_true, slices_ContainsFunc_api_Ins_api_Ins_seq_Program_1, slices_IndexFunc_api_Ins_api_Ins_seq_Program_1, hr, Option.bind_some, hd, progB, hl, decide_true, Bool.true_and, Bool.not_not]
  · have hl2 : decide ((p.length : Int) ≤ 1024) = false := by simp; omega
    simp [hl2, progB, hl]
structure SInv (s : T_State) : Prop where
  inv : Inv s
  stop : 0 ≤ s.Stop ∧ s.Stop ≤ 5
  fly : s.Fly = []
  jump : s.Jump = 0
  delay : s.Delay = 0
structure SGoes (s s' : T_State) : Prop where
  inv : SInv s'
  inn : s'.In_ = s.In_
  taken : s.Taken ≤ s'.Taken
  out : ∃ o, s'.Out = s.Out ++ o ∧ o.length ≤ 1
theorem prog_code {p : List T_Ins} (h : progB p = true) : p.length ≤ 1024 ∧ ∀ x ∈ p, codeB x = true := by
  simp only [progB, Bool.and_eq_true, decide_eq_true_eq, List.all_eq_true] at h
  exact h
theorem sq_near_inv {s s1 : T_State} (hI : SInv s) (hn : Near s s1) : SInv s1 where
  inv := {
    regs := by rw [hn.regs]; exact hI.inv.regs
    regsU := by rw [hn.regs]; exact hI.inv.regsU
    mem := by rw [hn.mem]; exact hI.inv.mem
    memU := hn.memU
    inl := by rw [hn.inn]; exact hI.inv.inl
    inU := by rw [hn.inn]; exact hI.inv.inU
    taken := by rw [hn.inn]; have := hn.taken; have := hI.inv.taken; omega
    outU := by
      obtain ⟨o, h1, h2, h3⟩ := hn.out
      rw [h1]; intro z hz
      rcases List.mem_append.1 hz with hz | hz
      · exact hI.inv.outU z hz
      · exact h3 z hz
    pc := by rw [hn.pc]; exact hI.inv.pc
    stack := hn.stack
    stackN := hn.stackN }
  stop := by rw [hn.stop]; exact hI.stop
  fly := by rw [hn.fly]; exact hI.fly
  jump := by rw [hn.jump]; exact hI.jump
  delay := by rw [hn.delay]; exact hI.delay
theorem sq_near_goes {s s1 : T_State} (hI : SInv s) (hn : Near s s1) : SGoes s s1 :=
  ⟨sq_near_inv hI hn, hn.inn, hn.taken.1, by obtain ⟨o, h1, h2, _⟩ := hn.out; exact ⟨o, h1, h2⟩⟩
theorem step_both {p : List T_Ins} {s : T_State} (hp : progB p = true) (hI : SInv s) (hO : s.Out.length < 4294967296) :
    ∃ s', r5_step p s = some s' ∧ seq_step p s = some s' ∧ SGoes s s' := by
  obtain ⟨hl, hc⟩ := prog_code hp
  have hw : IntKind.i64.wrap (s.PC + 1) = s.PC + 1 := wrap_i64 (by have := hI.inv.pc; omega) (by have := hI.inv.pc; omega)
  by_cases hpc : (p.length : Int) ≤ s.PC
  · refine ⟨{ s with Stop := 5 }, by simp [r5_step, hpc], by simp [seq_step, hpc], ⟨{ hI with inv := { hI.inv with }, stop := ⟨by simp, by simp⟩ }, rfl, by simp, [], by simp, by simp⟩⟩
  obtain ⟨hx, hat⟩ := at'_int (xs := p) hI.inv.pc.1 (by omega)
  have hcx := hc _ (List.getElem_mem hx)
  generalize p[s.PC.toNat] = x at hat hcx
  obtain ⟨_, hD, hA, hB, _⟩ := code_facts hcx
  have hr := hI.inv.regs
  obtain ⟨hla, hra⟩ := at'_int (xs := s.Regs) hA.1 (by omega)
  obtain ⟨hlb, hrb⟩ := at'_int (xs := s.Regs) hB.1 (by omega)
  have ua := hI.inv.regsU _ (List.getElem_mem hla)
  have ub := hI.inv.regsU _ (List.getElem_mem hlb)
  generalize s.Regs[x.A.toNat] = a at hra ua
  generalize s.Regs[x.B.toNat] = b at hrb ub
  obtain ⟨s1, d, h1, hN, hst, hres, hto, s0, v, e, ha, hpc0, hcase⟩ := do_both (nxt := s.PC + 1) hI.inv hO hcx ua ub (by have := hI.inv.pc; omega)
  have hI1 := sq_near_inv hI hN
  have hG1 := sq_near_goes hI hN
  have hw1 : IntKind.i64.wrap (s1.PC + 1) = s.PC + 1 := by rw [hN.pc, hw]
  have hw0 : IntKind.i64.wrap (s0.PC + 1) = s.PC + 1 := by rw [hpc0, hw]
  have hset := fun v => set'_int (xs := s1.Regs) (i := x.D) (x := v) hD.1 (by rw [hN.regs]; omega)
  have hpcf : decide ((p.length : Int) ≤ s.PC) = false := by simpa using hpc
  by_cases hd : d.stop = 0
  · refine ⟨{ s1 with Regs := bif d.has then s1.Regs.set x.D.toNat d.result else s1.Regs, PC := bif d.jumps then d.to else s.PC + 1 }, ?_, ?_, ?_⟩
    · simp only [r5_step, hpcf, cond_false, hat, Option.bind_some, hra, hrb, hw, h1, cut, r5_step_k1, hd, ne_eq, not_true_eq_false, decide_false]
      cases d.has <;> cases d.jumps <;> simp [hset, r5_step_k2, hw1]
    · rcases hcase with ⟨he, rfl, h2⟩ | ⟨rfl, to, j, h2, h3⟩
      · exact absurd (h2.symm.trans hd) he
      · obtain ⟨h4, h5, h6, h7⟩ := h3 hd
        simp only [seq_step, hpcf, cond_false, hat, Option.bind_some, hra, hrb, ha, cut, decide_true, cond_true, hw0, h2]
        subst h6
        rw [hd]
        cases hj : d.jumps <;> cases hh : d.has <;> rw [hh] at h4 <;> simp [seq_step_k1, ← h4, hset]
        · exact congrArg _ (h5 hh)
        · exact (h7 hj).symm
        · exact ⟨congrArg _ (h5 hh), (h7 hj).symm⟩
    · refine ⟨{ hI1 with inv := { hI1.inv with regs := ?_, regsU := ?_, pc := ?_ } }, hG1.inn, hG1.taken, hG1.out⟩
      · cases d.has <;> simp [hI1.inv.regs]
      · intro z hz
        cases hh : d.has with
        | false => rw [hh] at hz; exact hI1.inv.regsU z hz
        | true =>
          rw [hh] at hz
          rcases List.mem_or_eq_of_mem_set hz with hz | rfl
          · exact hI1.inv.regsU z hz
          · exact hres hh
      · cases hj : d.jumps with
        | false => simp; have := hI.inv.pc; omega
        | true => exact hto hj
  · refine ⟨{ s1 with Stop := d.stop }, ?_, ?_, ?_⟩
    · simp [r5_step, hpcf, hat, hra, hrb, hw, h1, cut, r5_step_k1, hd]
    · rcases hcase with ⟨he, rfl, h2⟩ | ⟨rfl, to, j, h2, h3⟩
      · simp [seq_step, hpcf, hat, hra, hrb, ha, cut, he, seq_step_k1, h2]
      · simp only [seq_step, hpcf, cond_false, hat, Option.bind_some, hra, hrb, ha, cut, decide_true, cond_true, hw0, h2]
        cases j <;> simp [seq_step_k1, hd]
    · exact ⟨{ hI1 with inv := { hI1.inv with }, stop := hst }, hG1.inn, hG1.taken, hG1.out⟩
noncomputable def stp (p : List T_Ins) (s : T_State) : T_State := (r5_step p s).getD s
theorem stp_of {p : List T_Ins} {s : T_State} (hp : progB p = true) (hI : SInv s) (hO : s.Out.length < 4294967296) : r5_step p s = some (stp p s) ∧ seq_step p s = some (stp p s) ∧ SGoes s (stp p s) := by
  obtain ⟨s', h1, h2, h3⟩ := step_both hp hI hO
  have : stp p s = s' := by simp [stp, h1]
  rw [this]; exact ⟨h1, h2, h3⟩
noncomputable def go (p : List T_Ins) : Nat → T_State → T_State × Nat
  | 0, s => (s, 0)
  | n + 1, s => if s.Stop = 0 then ((go p n (stp p s)).1, (go p n (stp p s)).2 + 1) else (s, 0)
theorem r5_loop {p : List T_Ins} (hp : progB p = true) {n : Int} (hn : n ≤ 1000000) : ∀ (m i : Nat) (s : T_State), (i : Int) + m = n → SInv s → s.Out.length + m < 4294967296 →
    loop (r5_Run_b1 n p) (i, s.Regs, s.Mem, s.In_, s.Taken, s.Out, s.PC, s.Stack, s.Stop, s.Fly, s.Jump, s.Delay) = some ((go p m s).1, ((i + (go p m s).2 : Nat) : Int))
  | 0, i, s, hi, hI, hO => by
    have : decide ((i : Int) < n) = false := by simp; omega
    rw [loop_done (r := (s, (i : Int))) (by simp only [r5_Run_b1, this, cond_false])]
    rfl
  | m + 1, i, s, hi, hI, hO => by
    have h1 : decide ((i : Int) < n) = true := by simp; omega
    by_cases hs : s.Stop = 0
    · obtain ⟨h2, _, h3⟩ := stp_of (s := s) hp hI (by omega)
      rw [loop_next (s' := (((i + 1 : Nat) : Int), (stp p s).Regs, (stp p s).Mem, (stp p s).In_, (stp p s).Taken, (stp p s).Out, (stp p s).PC, (stp p s).Stack, (stp p s).Stop, (stp p s).Fly, (stp p s).Jump, (stp p s).Delay))]
      · rw [r5_loop hp hn m (i + 1) (stp p s) (by omega) h3.inv (by obtain ⟨o, h4, h5⟩ := h3.out; rw [h4]; simp; omega)]
        simp only [go, hs, if_true]
        congr 2
        omega
      · simp only [r5_Run_b1, h1, cond_true, hs, decide_true, Option.bind_some]
        have h2' : r5_step p ⟨s.Regs, s.Mem, s.In_, s.Taken, s.Out, s.PC, s.Stack, 0, s.Fly, s.Jump, s.Delay⟩ = some (stp p s) := by rw [← h2]; congr 1; rw [← hs]
        rw [h2']
        simp only [Option.bind_some]
        rw [wrap_nat (by omega)]
    · have h2 : decide (s.Stop = 0) = false := by simpa using hs
      rw [loop_done (r := (s, (i : Int))) (by simp only [r5_Run_b1, h1, cond_true, h2, cond_false])]
      simp only [go, hs, if_false]
      rfl
theorem seq_loop {p : List T_Ins} (hp : progB p = true) {n : Int} (hn : n ≤ 1000000) : ∀ (m i : Nat) (s : T_State), (i : Int) + m = n → SInv s → s.Out.length + m < 4294967296 →
    loop (seq_Run_b2 n p) (i, s.Regs, s.Mem, s.In_, s.Taken, s.Out, s.PC, s.Stack, s.Stop, s.Fly, s.Jump, s.Delay) = some ((go p m s).1, ((i + (go p m s).2 : Nat) : Int), 0)
  | 0, i, s, hi, hI, hO => by
    have : decide ((i : Int) < n) = false := by simp; omega
    rw [loop_done (r := (s, (i : Int), 0)) (by simp only [seq_Run_b2, this, cond_false])]
    rfl
  | m + 1, i, s, hi, hI, hO => by
    have h1 : decide ((i : Int) < n) = true := by simp; omega
    by_cases hs : s.Stop = 0
    · obtain ⟨_, h2, h3⟩ := stp_of (s := s) hp hI (by omega)
      rw [loop_next (s' := (((i + 1 : Nat) : Int), (stp p s).Regs, (stp p s).Mem, (stp p s).In_, (stp p s).Taken, (stp p s).Out, (stp p s).PC, (stp p s).Stack, (stp p s).Stop, (stp p s).Fly, (stp p s).Jump, (stp p s).Delay))]
      · rw [seq_loop hp hn m (i + 1) (stp p s) (by omega) h3.inv (by obtain ⟨o, h4, h5⟩ := h3.out; rw [h4]; simp; omega)]
        simp only [go, hs, if_true]
        congr 3
        omega
      · simp only [seq_Run_b2, h1, cond_true, hs, decide_true, Option.bind_some]
        have h2' : seq_step p ⟨s.Regs, s.Mem, s.In_, s.Taken, s.Out, s.PC, s.Stack, 0, s.Fly, s.Jump, s.Delay⟩ = some (stp p s) := by rw [← h2]; congr 1; rw [← hs]
        rw [h2']
        simp only [Option.bind_some]
        rw [wrap_nat (by omega)]
    · have h2 : decide (s.Stop = 0) = false := by simpa using hs
      rw [loop_done (r := (s, (i : Int), 0)) (by simp only [seq_Run_b2, h1, cond_true, h2, cond_false])]
      simp only [go, hs, if_false]
      rfl
structure SRan (n : Nat) (s s' : T_State) : Prop where
  inv : SInv s'
  inn : s'.In_ = s.In_
  taken : s.Taken ≤ s'.Taken
  out : ∃ o, s'.Out = s.Out ++ o ∧ o.length ≤ n
theorem go_ran {p : List T_Ins} (hp : progB p = true) : ∀ (n : Nat) (s : T_State), SInv s → s.Out.length + n < 4294967296 → SRan n s (go p n s).1
  | 0, s, hI, _ => ⟨hI, rfl, by simp [go], [], by simp [go], by simp⟩
  | n + 1, s, hI, hO => by
    by_cases hs : s.Stop = 0
    · obtain ⟨_, _, h3⟩ := stp_of (s := s) hp hI (by omega)
      obtain ⟨o, h4, h5⟩ := h3.out
      have ih := go_ran hp n (stp p s) h3.inv (by rw [h4]; simp; omega)
      obtain ⟨o2, h6, h7⟩ := ih.out
      simp only [go, hs, if_true]
      exact ⟨ih.inv, by rw [ih.inn, h3.inn], by have := ih.taken; have := h3.taken; omega, o ++ o2, by rw [h6, h4, List.append_assoc], by simp; omega⟩
    · simp only [go, hs, if_false]
      exact ⟨hI, rfl, by omega, [], by simp, by simp⟩
theorem sinv_short {s : T_State} (h : SInv s) {n : Nat} (hn : 256 ≤ n) (ho : s.Out.length ≤ n) : Short n s :=
  ⟨by have := h.inv.regs; omega, by have := h.inv.mem; omega, by have := h.inv.inl; omega, ho, by have := h.inv.stack; omega, by rw [h.fly]; simp⟩
theorem sinv_may {s : T_State} (h : SInv s) : seq_May s = some true := by
  have hst := h.inv.stack
  have h1 := seq_core_b (s := s) (by omega)
  have h2 : coreB s = true := by
    have i := h.inv
    simp only [coreB, numB, Bool.and_eq_true, decide_eq_true_eq, List.all_eq_true]
    exact ⟨⟨⟨⟨⟨⟨i.regs, i.mem⟩, i.inl⟩, i.stack⟩, i.taken⟩, i.pc⟩, i.stackN⟩
  have h3 : seq_upto 5 [s.Stop] = some true := by
    rw [upto_eq (by simp)]; have := h.stop; simp [numB]; omega
  simp only [seq_May, h1, h2, h3, Option.bind_some, cond_true, h.fly, h.jump, h.delay, List.length_nil]
  rfl
theorem r5_run {p : List T_Ins} {s : T_State} {n : Nat} (hp : progB p = true) (hI : SInv s) (hn : n ≤ 20000) (hO : s.Out.length + n < 4294967296) :
    r5_Run p s (n : Int) = some ((go p n s).1, ((go p n s).2 : Int)) := by
  simp only [r5_Run, copyState (sinv_short hI (n := 4294967296) (by omega) (by omega)), Option.bind_some]
  have := r5_loop hp (n := n) (by omega) n 0 s (by omega) hI hO
  simpa using this
theorem seq_run {p : List T_Ins} {s : T_State} {n : Nat} (hw : ∀ z ∈ p, Wf_Ins z) (hp : progB p = true) (hI : SInv s) (hn : n ≤ 20000) (hO : s.Out.length + n < 4294967296) :
    seq_Run p s (n : Int) = some ((go p n s).1, ((go p n s).2 : Int), 0) := by
  have h1 := seq_prog_b hw
  have h2 := sinv_may hI
  have h3 : seq_upto 20000 [(n : Int)] = some true := by
    rw [upto_eq (by simp)]; simp [numB]; omega
  rw [hp] at h1
  simp only [seq_Run, h1, h2, h3, Option.bind_some, Bool.not_true, cond_false, cut, seq_Run_k1, own (sinv_short hI (n := 4294967296) (by omega) (by omega))]
  have := seq_loop hp (n := n) (by omega) n 0 s (by omega) hI hO
  simpa using this
end Go.Proofs.YtfnmihhcopkkbaaGreat
