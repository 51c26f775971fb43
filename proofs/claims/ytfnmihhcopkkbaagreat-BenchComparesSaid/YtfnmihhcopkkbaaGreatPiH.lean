/- Hazards: both judges, and the machines that look. -/
import Derived.Test.YtfnmihhcopkkbaaGreatPiF
namespace Go.Proofs.YtfnmihhcopkkbaaGreat
open Go Fr
set_option linter.unusedVariables false
set_option linter.unusedSimpArgs false
set_option maxRecDepth 20000
theorem any_find {α : Type} {b : Int → Option (Step Int Int)} {xs : List α} {t : α → Bool}
    (hs : ∀ (i : Nat) (h : i < xs.length), b i = some (bif t xs[i] then .done (i : Int) else .next ((i + 1 : Nat) : Int)))
    (he : b xs.length = some (.done (-1))) : ∃ r, loop b 0 = some r ∧ decide (0 ≤ r) = xs.any t := by
  obtain ⟨r, h1, h2⟩ := loop_find (b := b) (xs := xs) (q := fun x => !t x) (fun i h => by rw [hs i h]; cases t xs[i] <;> rfl) he
  refine ⟨r, h1, ?_⟩
  rw [h2]
  clear hs he h1 h2
  induction xs with
  | nil => rfl
  | cons x xs ih => simp only [List.all_cons, List.any_cons, Bool.not_and, Bool.not_not, ih]
def flyB (s : T_State) (reg : Int) : Bool := s.Fly.any fun w => decide (w.Reg = reg)
theorem first1_b {s : T_State} {reg : Int} (hl : s.Fly.length ≤ 1000) : hazard_first_1 reg s = some (flyB s reg) := by
  obtain ⟨r, h1, h2⟩ := any_find (b := slices_IndexFunc_api_Write_api_Write_hazard_first_1_1_b1 s.Fly reg) (xs := s.Fly) (t := fun w => decide (w.Reg = reg)) (fun i h => by
    have hd : decide ((i : Int) < s.Fly.length) = true := by simpa using h
    simp only [slices_IndexFunc_api_Write_api_Write_hazard_first_1_1_b1, hd, cond_true, at'_nat h, Option.bind_some, hazard_first_1_1]
    rw [wrap_nat (by omega)]
    cases decide (s.Fly[i].Reg = reg) <;> rfl) (by simp [slices_IndexFunc_api_Write_api_Write_hazard_first_1_1_b1])
  simp only [hazard_first_1, slices_ContainsFunc_api_Write_api_Write_hazard_first_1_1, slices_IndexFunc_api_Write_api_Write_hazard_first_1_1, h1, Option.bind_some, h2, flyB]
theorem contf_b {s : T_State} {l : List Int} (hl : s.Fly.length ≤ 1000) (h2 : l.length ≤ 1000) : slices_ContainsFunc_int_int_hazard_first_1 l s = some (l.any (flyB s)) := by
  obtain ⟨r, h1, h2⟩ := any_find (b := slices_IndexFunc_int_int_hazard_first_1_b1 l s) (xs := l) (t := flyB s) (fun i h => by
    have hd : decide ((i : Int) < l.length) = true := by simpa using h
    simp only [slices_IndexFunc_int_int_hazard_first_1_b1, hd, cond_true, at'_nat h, Option.bind_some, first1_b hl]
    rw [wrap_nat (by omega)]
    cases flyB s l[i] <;> rfl) (by simp [slices_IndexFunc_int_int_hazard_first_1_b1])
  simp only [slices_ContainsFunc_int_int_hazard_first_1, slices_IndexFunc_int_int_hazard_first_1, h1, Option.bind_some, h2]
theorem cont_b {l : List Int} {v : Int} (h2 : l.length ≤ 1000) : slices_Contains_int_int l v = some (l.any fun x => decide (x = v)) := by
  obtain ⟨r, h1, h2⟩ := any_find (b := slices_Index_int_int_b1 l v) (xs := l) (t := fun x => decide (x = v)) (fun i h => by
    have hd : decide ((i : Int) < l.length) = true := by simpa using h
    simp only [slices_Index_int_int_b1, hd, cond_true, at'_nat h, Option.bind_some]
    rw [wrap_nat (by omega)]
    by_cases h1 : l[i] = v
    · simp [h1]
    · have h2 : ¬ v = l[i] := fun e => h1 e.symm
      simp [h1, h2]) (by simp [slices_Index_int_int_b1])
  simp only [slices_Contains_int_int, slices_Index_int_int, h1, Option.bind_some, h2]
def readL (x : T_Ins) : List Int := (bif isa_HasA (isa_Shape x.Op) then [x.A] else []) ++ (bif isa_HasB (isa_Shape x.Op) then [x.B] else [])
theorem read_isa (x : T_Ins) : isa_Read x = some (readL x) := by
  simp only [isa_Read, readL]
  cases isa_HasA (isa_Shape x.Op) <;> cases isa_HasB (isa_Shape x.Op) <;> rfl
theorem read_r3 {x : T_Ins} (ho : 0 ≤ x.Op ∧ x.Op ≤ 33) : r3_Reads x = some (readL x) := by
  obtain ⟨h1, h2⟩ := form_shape ho
  simp only [r3_Reads, h1, Option.bind_some, hasA_eq h2, hasB_eq h2, readL]
  cases isa_HasA (isa_Shape x.Op) <;> cases isa_HasB (isa_Shape x.Op) <;> rfl
theorem write_r3 {x : T_Ins} (ho : 0 ≤ x.Op ∧ x.Op ≤ 33) : r3_Writes x = some (bif isa_HasD (isa_Shape x.Op) then x.D else -1) := by
  obtain ⟨h1, h2⟩ := form_shape ho
  simp only [r3_Writes, h1, Option.bind_some, hasD_eq h2]
  cases isa_HasD (isa_Shape x.Op) <;> rfl
theorem readL_len (x : T_Ins) : (readL x).length ≤ 2 := by
  simp only [readL]
  cases isa_HasA (isa_Shape x.Op) <;> cases isa_HasB (isa_Shape x.Op) <;> simp
theorem ends_eq (op : Int) : r3_Ends op = isa_Ends op := rfl
abbrev busyL (s : T_State) : List Int := s.Fly.map (·.Reg)
theorem busy_any (s : T_State) (v : Int) : (busyL s).any (fun x => decide (x = v)) = flyB s v := by
  simp only [busyL, flyB, List.any_map]
  rfl
theorem busy_loop {s : T_State} (hl : s.Fly.length ≤ 1000) : loop (r5_find_b2 s) ([], 0) = some (.next (busyL s)) := by
  have : ∀ m i : Nat, i + m = s.Fly.length → loop (r5_find_b2 s) ((busyL s).take i, (i : Int)) = some (.next (busyL s)) := by
    intro m
    induction m with
    | zero =>
      intro i h
      obtain rfl : i = s.Fly.length := by omega
      refine loop_done ?_
      have : (busyL s).take s.Fly.length = busyL s := by rw [List.take_of_length_le (by simp)]
      simp [r5_find_b2, this]
    | succ m ih =>
      intro i h
      have hi : i < s.Fly.length := by omega
      have hd : decide ((i : Int) < s.Fly.length) = true := by simpa using hi
      have ht : (busyL s).take (i + 1) = (busyL s).take i ++ [s.Fly[i].Reg] := by rw [List.take_succ_eq_append_getElem (by simpa using hi)]; simp
      rw [← ih (i + 1) (by omega)]
      refine loop_next ?_
      simp only [r5_find_b2, hd, cond_true, at'_nat hi, Option.bind_some]
      rw [app'_le (by simp; omega)]
      simp only [Option.bind_some]
      rw [wrap_nat (by omega), ht]
  exact this s.Fly.length 0 (by omega)
def hitB (s : T_State) (x : T_Ins) (l : List Int) : Bool := (readL x).any (flyB s) || ((isa_HasD (isa_Shape x.Op) && (flyB s x.D || l.any fun y => decide (y = x.D))) || (isa_Ends x.Op && decide (0 < s.Delay)))
def nextL (x : T_Ins) (l : List Int) : List Int := bif isa_HasD (isa_Shape x.Op) then l ++ [x.D] else l
theorem nextL_len (x : T_Ins) (l : List Int) : (nextL x l).length ≤ l.length + 1 := by
  simp only [nextL]; cases isa_HasD (isa_Shape x.Op) <;> simp
theorem look_slot {b : A4 T_Ins} {s : T_State} {k : Nat} {x : T_Ins} {l : List Int} (hk : k < 4) (hx : at' [b.x0, b.x1, b.x2, b.x3] (k : Int) = some x) (hc : codeB x = true) (hl : s.Fly.length ≤ 1000) (hll : l.length ≤ k) :
    hazard_first_b2 b s (l, (k : Int)) = some (bif hitB s x l then .done (k : Int) else .next (nextL x l, ((k + 1 : Nat) : Int))) ∧
    r5_find_b3 b (busyL s) s (l, (k : Int)) = some (bif hitB s x l then .done (k : Int) else .next (nextL x l, ((k + 1 : Nat) : Int))) := by
  obtain ⟨ho, hD, _⟩ := code_facts hc
  have hd : decide ((k : Int) < 4) = true := decide_eq_true (by omega)
  have wk := wrap_nat (i := k) (by omega)
  have hr := readL_len x
  have e1 := contf_b (s := s) (l := readL x) hl (by omega)
  have e2 := first1_b (s := s) (reg := x.D) hl
  have e3 := cont_b (l := l) (v := x.D) (by omega)
  have e4 : app' l [x.D] = some (l ++ [x.D]) := app'_le (by simp; omega)
  have rb : ∀ v : Int, ∃ r, r0_In (busyL s) v = some r ∧ decide (0 ≤ r) = flyB s v := fun v => by
    obtain ⟨r, q1, q2⟩ := r0_in (xs := busyL s) (v := v) (by simp; omega)
    exact ⟨r, q1, by rw [q2, busy_any]⟩
  have hrl : loop (r5_find_b5 (readL x) (busyL s) (k : Int)) 0 = some (bif (readL x).any (flyB s) then .done (.done (k : Int)) else .next ()) := by
    have h := loop_list (b := r5_find_b5 (readL x) (busyL s) (k : Int)) (xs := readL x) (q := fun v => !flyB s v) (no := .done (.done (k : Int))) (yes := .next ()) (fun i h => by
      have hd2 : decide ((i : Int) < (readL x).length) = true := by simpa using h
      obtain ⟨r, q1, q2⟩ := rb (readL x)[i]
      simp only [r5_find_b5, hd2, cond_true, at'_nat h, Option.bind_some, q1, q2]
      rw [wrap_nat (by omega)]
      cases flyB s (readL x)[i] <;> rfl) (by simp [r5_find_b5])
    rw [h]
    have : (readL x).all (fun v => !flyB s v) = !(readL x).any (flyB s) := by simp [List.all_eq_not_any_not]
    rw [this]
    cases (readL x).any (flyB s) <;> rfl
  obtain ⟨rd, qd1, qd2⟩ := rb x.D
  obtain ⟨rl, ql1, ql2⟩ := r0_in (xs := l) (v := x.D) (by omega)
  have hD0 : isa_HasD (isa_Shape x.Op) = true → decide (0 ≤ x.D) = true := fun _ => decide_eq_true hD.1
  simp only [hazard_first_b2, r5_find_b3, hd, cond_true, hx, Option.bind_some, read_isa, e1, read_r3 ho, hrl, hitB, nextL]
  cases hA : (readL x).any (flyB s) with
  | true => exact ⟨by cases isa_Ends x.Op <;> cases decide (0 < s.Delay) <;> rfl, rfl⟩
  | false =>
    simp only [cond_false, cut, hazard_first_k3, r5_find_k4, hx, Option.bind_some, write_r3 ho, e2, e3, e4, ends_eq, wk, Bool.false_or]
    cases hh : isa_HasD (isa_Shape x.Op) with
    | false =>
      simp only [cond_false, show decide ((0 : Int) ≤ -1) = false from rfl, Bool.not_false, cond_true, Bool.false_and, Bool.false_or]
      cases isa_Ends x.Op <;> cases decide (0 < s.Delay) <;> exact ⟨rfl, rfl⟩
    | true =>
      simp only [cond_true, hD0 hh, qd1, ql1, Option.bind_some, qd2, ql2, Bool.not_true, cond_false, Bool.true_and]
      cases hf : flyB s x.D with
      | true => cases isa_Ends x.Op <;> cases decide (0 < s.Delay) <;> exact ⟨rfl, rfl⟩
      | false =>
        simp only [cond_false, Bool.false_or, e4, Option.bind_some]
        cases hlA : (l.any fun x_1 => decide (x_1 = x.D)) <;> cases isa_Ends x.Op <;> cases decide (0 < s.Delay) <;> exact ⟨rfl, rfl⟩
def firF (s : T_State) : List T_Ins → Int → List Int → Int
  | [], _, _ => -1
  | x :: xs, k, l => bif hitB s x l then k else firF s xs (k + 1) (nextL x l)
theorem look_all {b : A4 T_Ins} {s : T_State} (hb : bunB b = true) (hl : s.Fly.length ≤ 1000) :
    (-1 ≤ firF s [b.x0, b.x1, b.x2, b.x3] 0 [] ∧ firF s [b.x0, b.x1, b.x2, b.x3] 0 [] ≤ 3) ∧ loop (hazard_first_b2 b s) ([], 0) = some (firF s [b.x0, b.x1, b.x2, b.x3] 0 []) ∧ loop (r5_find_b3 b (busyL s) s) ([], 0) = some (firF s [b.x0, b.x1, b.x2, b.x3] 0 []) := by
  have step : ∀ (k : Nat) (x : T_Ins) (xs : List T_Ins) (l : List Int), k < 4 → at' [b.x0, b.x1, b.x2, b.x3] (k : Int) = some x → l.length ≤ k →
      ((-1 ≤ firF s xs ((k + 1 : Nat) : Int) (nextL x l) ∧ firF s xs ((k + 1 : Nat) : Int) (nextL x l) ≤ 3) ∧ loop (hazard_first_b2 b s) (nextL x l, ((k + 1 : Nat) : Int)) = some (firF s xs ((k + 1 : Nat) : Int) (nextL x l)) ∧ loop (r5_find_b3 b (busyL s) s) (nextL x l, ((k + 1 : Nat) : Int)) = some (firF s xs ((k + 1 : Nat) : Int) (nextL x l))) →
      (-1 ≤ firF s (x :: xs) (k : Int) l ∧ firF s (x :: xs) (k : Int) l ≤ 3) ∧ loop (hazard_first_b2 b s) (l, (k : Int)) = some (firF s (x :: xs) (k : Int) l) ∧ loop (r5_find_b3 b (busyL s) s) (l, (k : Int)) = some (firF s (x :: xs) (k : Int) l) := by
    intro k x xs l hk hx hll h
    obtain ⟨x', hx', hc⟩ := at_slot hb (k := k) hk
    rw [hx] at hx'
    obtain rfl := Option.some.inj hx'
    obtain ⟨h1, h2⟩ := look_slot (s := s) (l := l) hk hx hc hl hll
    have ek : ((k + 1 : Nat) : Int) = (k : Int) + 1 := by omega
    simp only [firF]
    cases hh : hitB s x l with
    | true =>
      rw [hh] at h1 h2
      exact ⟨by simp only [cond_true]; omega, loop_done h1, loop_done h2⟩
    | false =>
      rw [hh] at h1 h2
      rw [ek] at h h1 h2
      simp only [cond_false] at h1 h2 ⊢
      rw [loop_next h1, loop_next h2]
      exact h
  have n0 := nextL_len b.x0 []
  have n1 := nextL_len b.x1 (nextL b.x0 [])
  have n2 := nextL_len b.x2 (nextL b.x1 (nextL b.x0 []))
  simp only [List.length_nil] at n0
  refine step 0 b.x0 _ [] (by omega) rfl (by simp) (step 1 b.x1 _ _ (by omega) rfl (by omega) (step 2 b.x2 _ _ (by omega) rfl (by omega) (step 3 b.x3 _ _ (by omega) rfl (by omega) ⟨by simp only [firF]; omega, loop_done (by simp [hazard_first_b2, firF]), loop_done (by simp [r5_find_b3, firF])⟩)))
def firV (c : List (A4 T_Ins)) (s : T_State) : Option Int := bif decide (s.Stop = 0) then bif decide ((c.length : Int) ≤ s.PC) then some (-1) else (at' c s.PC).bind fun b => some (firF s [b.x0, b.x1, b.x2, b.x3] 0 []) else some (-1)
theorem find_both {c : List (A4 T_Ins)} {s : T_State} (hc : pcodB c = true) (hpc : 0 ≤ s.PC ∧ s.PC ≤ 1024) (hl : s.Fly.length ≤ 1000) (hs : s.Stop = 0) :
    ∃ r : Int, (-1 ≤ r ∧ r ≤ 3) ∧ hazard_first c s = some r ∧ r5_find c s = some r ∧ firV c s = some r := by
  simp only [pcodB, Bool.and_eq_true, decide_eq_true_eq, List.all_eq_true] at hc
  by_cases hp : (c.length : Int) ≤ s.PC
  · exact ⟨-1, by decide, by simp [hazard_first, hs, hp, cut], by simp [r5_find, hp], by simp [firV, hs, hp]⟩
  obtain ⟨hi, hat⟩ := at'_int (xs := c) hpc.1 (by omega)
  have hb := hc.2 _ (List.getElem_mem hi)
  generalize c[s.PC.toNat] = b at hat hb
  obtain ⟨hr, h1, h2⟩ := look_all (s := s) hb hl
  refine ⟨_, hr, ?_, ?_, ?_⟩
  · simp [hazard_first, hs, hp, cut, hazard_first_k1, hat, h1]
  · simp [r5_find, hp, busy_loop hl, cut, r5_find_k1, hat, h2]
  · simp [firV, hs, hp, hat]
theorem first_stop {c : List (A4 T_Ins)} {s : T_State} (hs : s.Stop ≠ 0) : hazard_first c s = some (-1) := by simp [hazard_first, hs, cut]
noncomputable def fnd (c : List (A4 T_Ins)) (s : T_State) : Int := (hazard_first c (landS s)).getD 0
theorem fnd_of {c : List (A4 T_Ins)} {s : T_State} (hc : pcodB c = true) (hP : PInv s) : (-1 ≤ fnd c s ∧ fnd c s ≤ 3) ∧ hazard_first c (landS s) = some (fnd c s) ∧ (s.Stop = 0 → r5_find c (landS s) = some (fnd c s)) ∧ (s.Stop ≠ 0 → fnd c s = -1) ∧ firV c (landS s) = some (fnd c s) := by
  have hM := land_mid hP
  have hlf := (left_ok hP.fly).len
  by_cases hs : s.Stop = 0
  · obtain ⟨r, h0, h1, h2, h3⟩ := find_both (s := landS s) hc hM.inv.pc (by show (leftL s.Fly).length ≤ 1000; omega) hs
    have : fnd c s = r := by simp [fnd, h1]
    rw [this]
    exact ⟨h0, h1, fun _ => h2, fun h => absurd hs h, h3⟩
  · have h1 := first_stop (c := c) (s := landS s) hs
    have : fnd c s = -1 := by simp [fnd, h1]
    rw [this]
    exact ⟨by decide, h1, fun h => absurd h hs, fun _ => rfl, by
      have hs' : (landS s).Stop ≠ 0 := hs
      simp [firV, hs']⟩
noncomputable def hcyc (c : List (A4 T_Ins)) (s : T_State) : T_State := if 0 ≤ fnd c s then { landS s with Stop := 6 } else cyc c s
theorem hcyc_of {c : List (A4 T_Ins)} {s : T_State} (hc : pcodB c = true) (hP : PInv s) (hs : s.Stop = 0) (hO : s.Out.length + 4 < 4294967296) :
    hazard_Go c s = some (hcyc c s) ∧ Nxt s (hcyc c s) := by
  obtain ⟨h0, h1, h2, _⟩ := fnd_of hc hP
  obtain ⟨l1, _⟩ := land_both hP.inv.regs hP.fly
  obtain ⟨g1, _, _, g4⟩ := cyc_of hc hP hs hO
  simp only [pipe_Run_1, l1, Option.bind_some] at g1
  obtain ⟨g, hg, hg2⟩ := ob g1
  obtain rfl := Option.some.inj hg2
  by_cases hf : 0 ≤ fnd c s
  · have hM := land_mid hP
    have e : hcyc c s = { landS s with Stop := 6 } := by simp [hcyc, hf]
    refine ⟨by simp only [hazard_Go, l1, Option.bind_some, h1, hf, decide_true, cond_true, e], ?_⟩
    rw [e]
    exact ⟨⟨inv_of hM.inv rfl rfl rfl rfl rfl rfl rfl, by simp, hM.jump, hM.delay, hM.ok, hM.u, by have := hM.l0; simp at this ⊢; omega, by have := hM.l1; simp at this ⊢; omega, by have := hM.l2; simp at this ⊢; omega, by have := hM.l3; simp at this ⊢; omega, by have := hM.l4; simp at this ⊢; omega⟩, rfl, Int.le_refl _, ⟨[], by simp [landS], by simp⟩, fun h => by cases h⟩
  · have e : hcyc c s = cyc c s := by simp [hcyc, hf]
    rw [e]
    exact ⟨by simp only [hazard_Go, l1, Option.bind_some, h1, hf, decide_false, cond_false, hg], g4⟩
theorem hby_loop {c : List (A4 T_Ins)} (hc : pcodB c = true) {n : Int} (hn : n ≤ 1000000) (m : Nat) (s : T_State) (hi : (m : Int) = n) (hP : PInv s) (hO : s.Out.length + 4 * m < 4294967296) :
    loop (pipe_By_hazard_Go_b2 n c) (tupS 0 s) = some ((runf (hcyc c) m s).1, ((runf (hcyc c) m s).2 : Int), 0) := by
  have h := run_loop (b := pipe_By_hazard_Go_b2 n c) (n := n) (f := hcyc c) (e := fun s i => (s, i, 0)) hn (fun s hP hs hO => by
    obtain ⟨h1, h4⟩ := hcyc_of hc hP hs hO
    refine ⟨h4, fun i hi => ?_⟩
    have h1' : hazard_Go c ⟨s.Regs, s.Mem, s.In_, s.Taken, s.Out, s.PC, s.Stack, 0, s.Fly, s.Jump, s.Delay⟩ = some (hcyc c s) := by rw [← h1]; congr 1; rw [← hs]
    simp only [tupS, pipe_By_hazard_Go_b2, hi, decide_true, cond_true, hs, h1', Option.bind_some]) (fun s i h => by
    rcases h with h | h
    · simp only [tupS, pipe_By_hazard_Go_b2, h, decide_false, cond_false]
    · by_cases h1 : i < n
      · simp only [tupS, pipe_By_hazard_Go_b2, h1, h, decide_true, decide_false, cond_true, cond_false]
      · simp only [tupS, pipe_By_hazard_Go_b2, h1, decide_false, cond_false]) m 0 s (by omega) hP hO
  simpa using h
theorem hcycles_loop {c : List (A4 T_Ins)} (hc : pcodB c = true) {n : Int} (hn : n ≤ 1000000) (m : Nat) (s : T_State) (hi : (m : Int) = n) (hP : PInv s) (hO : s.Out.length + 4 * m < 4294967296) :
    loop (r5_Cycles_b1 n true c) (tupS 0 s) = some ((runf (hcyc c) m s).1, ((runf (hcyc c) m s).2 : Int)) := by
  have h := run_loop (b := r5_Cycles_b1 n true c) (n := n) (f := hcyc c) (e := fun s i => (s, i)) hn (fun s hP hs hO => by
    obtain ⟨_, h4⟩ := hcyc_of hc hP hs hO
    obtain ⟨_, h2, h3, _⟩ := cyc_of hc hP hs hO
    obtain ⟨_, _, f2, _⟩ := fnd_of hc hP
    refine ⟨h4, fun i hi => ?_⟩
    have h2' : r5_lands ⟨s.Regs, s.Mem, s.In_, s.Taken, s.Out, s.PC, s.Stack, 0, s.Fly, s.Jump, s.Delay⟩ = some (landS s) := by rw [← h2]; congr 1; rw [← hs]
    simp only [tupS, r5_Cycles_b1, hi, decide_true, cond_true, hs, h2', Option.bind_some, f2 hs]
    by_cases hf : 0 ≤ fnd c s
    · simp only [hf, decide_true, cond_true, hcyc, if_true]
    · simp only [hf, decide_false, cond_false, h3, Option.bind_some, hcyc, if_false]) (fun s i h => by
    rcases h with h | h
    · simp only [tupS, r5_Cycles_b1, h, decide_false, cond_false]
    · by_cases h1 : i < n
      · simp only [tupS, r5_Cycles_b1, h1, h, decide_true, decide_false, cond_true, cond_false]
      · simp only [tupS, r5_Cycles_b1, h1, decide_false, cond_false]) m 0 s (by omega) hP hO
  simpa using h
theorem hazard_run {c : List (A4 T_Ins)} {s : T_State} {n : Nat} (hw : ∀ z ∈ c, Wf_Bundle z) (hc : pcodB c = true) (hP : PInv s) (hn : n ≤ 20000) (hO : s.Out.length + 4 * n < 4294967296) :
    hazard_Run c s (n : Int) = some ((runf (hcyc c) n s).1, ((runf (hcyc c) n s).2 : Int), 0) := by
  have h1 := pipe_code_b hw
  rw [hc] at h1
  have h2 := pinv_may hP
  have h3 : decide ((n : Int) < 0) = false := decide_eq_false (by omega)
  have h4 : decide ((20000 : Int) < (n : Int)) = false := decide_eq_false (by omega)
  have h5 := own (inv_short hP (n := 4294967296) (by omega) (by omega))
  have h6 := hby_loop hc (n := (n : Int)) (by omega) n s rfl hP hO
  simp only [tupS] at h6
  simp only [hazard_Run, pipe_By_hazard_Go, h1, h2, h3, h4, Option.bind_some, Bool.not_true, cond_false, cut, pipe_By_hazard_Go_k1, h5, h6]
theorem r5_hcycles {c : List (A4 T_Ins)} {s : T_State} {n : Nat} (hc : pcodB c = true) (hP : PInv s) (hn : n ≤ 20000) (hO : s.Out.length + 4 * n < 4294967296) :
    r5_Cycles c s (n : Int) true = some ((runf (hcyc c) n s).1, ((runf (hcyc c) n s).2 : Int)) := by
  have h5 := copyState (inv_short hP (n := 4294967296) (by omega) (by omega))
  have h6 := hcycles_loop hc (n := (n : Int)) (by omega) n s rfl hP hO
  simp only [tupS] at h6
  simp only [r5_Cycles, h5, Option.bind_some, h6]
theorem hnxt {c : List (A4 T_Ins)} (hc : pcodB c = true) : ∀ s, PInv s → s.Stop = 0 → s.Out.length + 4 < 4294967296 → Nxt s (hcyc c s) := fun s hP hs hO => (hcyc_of hc hP hs hO).2
noncomputable def hrunC (c : List (A4 T_Ins)) : Nat → T_State → Option (T_State × Nat)
  | 0, s => some (s, 0)
  | n + 1, s => bif decide (s.Stop = 0) then (firV c (landS s)).bind fun f => (bif decide (0 ≤ f) then some { landS s with Stop := 6 } else goC c (landS s)).bind fun s' => (hrunC c n s').bind fun r => some (r.1, r.2 + 1) else some (s, 0)
theorem hrunC_eq {c : List (A4 T_Ins)} (hc : pcodB c = true) : ∀ (n : Nat) {s : T_State} {r : T_State × Nat}, PInv s → s.Out.length + 4 * n < 4294967296 → hrunC c n s = some r → runf (hcyc c) n s = r
  | 0, s, r, _, _, h => Option.some.inj h
  | n + 1, s, r, hP, hO, h => by
    by_cases hs : s.Stop = 0
    · simp only [hrunC, hs, decide_true, cond_true] at h
      obtain ⟨f, h0, ha⟩ := ob h
      obtain ⟨s', h1, hb⟩ := ob ha
      obtain ⟨r', h2, hc'⟩ := ob hb
      have hf := (fnd_of hc hP).2.2.2.2
      rw [h0] at hf
      obtain rfl := Option.some.inj hf
      have e1 : hcyc c s = s' := by
        by_cases hf : 0 ≤ fnd c s
        · simp only [hf, decide_true, cond_true] at h1
          have := Option.some.inj h1
          rw [← this]
          simp [hcyc, hf]
        · simp only [hf, decide_false, cond_false] at h1
          have := goC_eq hc hP hs (by omega) h1
          simp [hcyc, hf, this]
      have hN := (hcyc_of hc hP hs (by omega)).2
      rw [e1] at hN
      obtain ⟨o, o1, o2⟩ := hN.out
      have e2 := hrunC_eq hc n hN.inv (by rw [o1]; simp; omega) h2
      obtain rfl := Option.some.inj hc'
      simp only [runf, hs, if_true, e1, e2]
    · simp only [hrunC, hs, decide_false, cond_false, Option.some.injEq] at h
      simp only [runf, hs, if_false, h]
end Go.Proofs.YtfnmihhcopkkbaaGreat
