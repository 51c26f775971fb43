/- A cycle, and runs: both machines. -/
import Derived.Test.YtfnmihhcopkkbaaGreatPiD
namespace Go.Proofs.YtfnmihhcopkkbaaGreat
open Go Fr
set_option linter.unusedVariables false
set_option linter.unusedSimpArgs false
set_option maxRecDepth 20000
structure PInv (s : T_State) : Prop where
  inv : Inv s
  stop : 0 ≤ s.Stop ∧ s.Stop ≤ 6
  jump : 0 ≤ s.Jump ∧ s.Jump ≤ 1024
  delay : 0 ≤ s.Delay ∧ s.Delay ≤ 2
  ok : ∀ w ∈ s.Fly, okW w = true
  u : ∀ w ∈ s.Fly, U w.Value
  l0 : late 0 s.Fly ≤ 20
  l1 : late 1 s.Fly ≤ 16
  l2 : late 2 s.Fly ≤ 12
  l3 : late 3 s.Fly ≤ 8
  l4 : late 4 s.Fly ≤ 4
theorem PInv.fly {s : T_State} (h : PInv s) : FlyOk s.Fly := ⟨h.ok, h.u, by have := late_all h.ok; have := h.l0; omega⟩
theorem numB_iff {n x : Int} : numB n x = true ↔ 0 ≤ x ∧ x ≤ n := by simp [numB]
theorem inv_pp {s : T_State} (h : PInv s) : ppB s = true := by
  simp only [ppB, coreB, fliesB, lateB, Bool.and_eq_true, decide_eq_true_eq, numB_iff, List.all_eq_true]
  exact ⟨⟨⟨⟨⟨⟨⟨⟨⟨⟨h.inv.regs, h.inv.mem⟩, h.inv.inl⟩, h.inv.stack⟩, h.inv.taken⟩, h.inv.pc⟩, fun z hz => h.inv.stackN z hz⟩, h.stop⟩, h.jump⟩, h.delay⟩, h.ok, ⟨⟨⟨h.l0, h.l1⟩, h.l2⟩, h.l3⟩, h.l4⟩
theorem late_nil5 {l : List T_Write} (h : ∀ w ∈ l, okW w = true) : late 5 l = 0 := by
  simp only [late]
  have : l.countP (fun w => decide ((5 : Int) ≤ w.Left)) = 0 := by
    rw [List.countP_eq_zero]
    intro w hw
    obtain ⟨_, _, q⟩ := okW_iff.1 (h w hw)
    simp; omega
  omega
theorem land_mid {s : T_State} (h : PInv s) : Mid (landS s) 0 (landS s) := by
  have hl := left_ok h.fly
  have hi : Inv (landS s) := { h.inv with
    regs := by show (wrs s.Regs (nowW s.Fly)).length = 16; rw [wrs_len]; exact h.inv.regs
    regsU := wrs_u h.inv.regsU (fun w hw => h.u w (List.mem_filter.1 hw).1) }
  refine ⟨hi, rfl, rfl, rfl, Int.le_refl _, ⟨[], by simp, by simp⟩, h.jump, h.delay, hl.ok, hl.u, ?_, ?_, ?_, ?_, ?_⟩
  · show late 0 (leftL s.Fly) ≤ _; rw [late_left (by decide)]; have := h.l1; simpa using this
  · show late 1 (leftL s.Fly) ≤ _; rw [late_left (by decide)]; have := h.l2; simpa using this
  · show late 2 (leftL s.Fly) ≤ _; rw [late_left (by decide)]; have := h.l3; simpa using this
  · show late 3 (leftL s.Fly) ≤ _; rw [late_left (by decide)]; have := h.l4; simpa using this
  · show late 4 (leftL s.Fly) ≤ _; rw [late_left (by decide)]; have := late_nil5 h.ok; simp; omega
structure Nxt (s s' : T_State) : Prop where
  inv : PInv s'
  inn : s'.In_ = s.In_
  taken : s.Taken ≤ s'.Taken
  out : ∃ o, s'.Out = s.Out ++ o ∧ o.length ≤ 4
  halt : s'.Stop = 1 → s'.Fly = []
theorem mid_inv {s0 s : T_State} (h : Mid s0 4 s) (hs : 0 ≤ s.Stop ∧ s.Stop ≤ 6) : PInv s :=
  ⟨h.inv, hs, h.jump, h.delay, h.ok, h.u, by have := h.l0; omega, by have := h.l1; omega, by have := h.l2; omega, by have := h.l3; omega, by have := h.l4; omega⟩
theorem clone_words {xs : List Int} (h : xs.length ≤ 4294967296) : slices_Clone_uint32 xs = some xs := by
  simp only [slices_Clone_uint32]
  rw [app'_le (by simpa using h)]
  rfl
theorem copyWords {xs : List Int} (h : xs.length ≤ 4294967296) : r0_CopyWords xs = some xs := loop_copied h fun _ _ => rfl
theorem go_both {c : List (A4 T_Ins)} {s : T_State} (hc : pcodB c = true) (hM : Mid s 0 s) (hs : s.Stop = 0) (hO : s.Out.length + 4 < 4294967296) :
    ∃ s', pipe_Go c s = some s' ∧ r5_issue c s = some s' ∧ Nxt s s' := by
  simp only [pcodB, Bool.and_eq_true, decide_eq_true_eq, List.all_eq_true] at hc
  have hpc := hM.inv.pc
  by_cases hp : (c.length : Int) ≤ s.PC
  · refine ⟨{ s with Stop := 5 }, by simp [pipe_Go, hp], by simp [r5_issue, hp], ?_, rfl, Int.le_refl _, ⟨[], by simp, by simp⟩, fun h => by cases h⟩
    exact ⟨inv_of hM.inv rfl rfl rfl rfl rfl rfl rfl, by simp, hM.jump, hM.delay, hM.ok, hM.u, by have := hM.l0; simp at this ⊢; omega, by have := hM.l1; simp at this ⊢; omega, by have := hM.l2; simp at this ⊢; omega, by have := hM.l3; simp at this ⊢; omega, by have := hM.l4; simp at this ⊢; omega⟩
  obtain ⟨hi, hat⟩ := at'_int (xs := c) hpc.1 (by omega)
  have hb := hc.2 _ (List.getElem_mem hi)
  generalize c[s.PC.toNat] = b at hat hb
  obtain ⟨s2, t2, hM2, hst, h1, h2⟩ := slots_both (was := s.Regs) (s0 := s) hb hM.inv.regs hM.inv.regsU hO 4 0 s false rfl hM hs
  have h1' : loop (pipe_issue_b1 b s.Regs) (false, 0, s.Regs, s.Mem, s.In_, s.Taken, s.Out, s.PC, s.Stack, s.Stop, s.Fly, s.Jump, s.Delay) = some (s2, t2) := h1
  have h2' : loop (r5_issue_b2 b s.Regs) (false, 0, s.Regs, s.Mem, s.In_, s.Taken, s.Out, s.PC, s.Stack, s.Stop, s.Fly, s.Jump, s.Delay) = some (.next (tupR t2 s2)) := h2
  have hr := hM.inv.regs
  have hcl := clone_words (xs := s.Regs) (by omega)
  have hcw := copyWords (xs := s.Regs) (by omega)
  have hpf : decide ((c.length : Int) ≤ s.PC) = false := decide_eq_false hp
  have hI2 := mid_inv hM2 ⟨hst.1, by omega⟩
  obtain ⟨o, ho1, ho2⟩ := hM2.out
  have e1 : pipe_issue s b = some (s2, t2) := by simp only [pipe_issue, hcl, Option.bind_some, h1']
  by_cases hh : s2.Stop = 1
  · have hr2 : s2.Regs.length = 16 := hM2.inv.regs
    have hla := lands_all (s0 := s2) 5 s2.Regs s2.Fly hr2 hI2.fly (fun w hw => by have := okW_iff.1 (hM2.ok w hw); omega)
    refine ⟨{ s2 with Regs := wrs s2.Regs (cat 5 s2.Fly), Fly := [] }, ?_, ?_, ?_, hM2.inn, hM2.taken, ⟨o, ho1, ho2⟩, fun _ => rfl⟩
    · simp only [pipe_Go, hpf, cond_false, hat, Option.bind_some, e1, hh, decide_true, cond_true, settle_eq hr2 hI2.fly]
    · simp only [r5_issue, hpf, cond_false, hat, Option.bind_some, hcw, h2', cut, tupR, r5_issue_k1, hh, decide_true, cond_true]
      rw [hh] at hla
      rw [hla]
    · exact ⟨{ hM2.inv with
        regs := by show (wrs s2.Regs (cat 5 s2.Fly)).length = 16; rw [wrs_len]; exact hr2
        regsU := wrs_u hM2.inv.regsU (fun w hw => hM2.u w (mem_cat hw).1) }, ⟨hst.1, by show s2.Stop ≤ 6; omega⟩, hM2.jump, hM2.delay, by simp, by simp, by simp [late], by simp [late], by simp [late], by simp [late], by simp [late]⟩
  by_cases h0 : s2.Stop = 0
  · have hpc2 : s2.PC = s.PC := hM2.pc
    have hl2 : s.PC + 1 ≤ 1024 := by omega
    have w1 : IntKind.i64.wrap (s2.PC + 1) = s2.PC + 1 := wrap_i64 (by omega) (by omega)
    have hdl := hM2.delay
    have w2 : IntKind.i64.wrap (s2.Delay - 1) = s2.Delay - 1 := wrap_i64 (by omega) (by omega)
    have fin : ∀ (pc j d : Int), 0 ≤ pc ∧ pc ≤ 1024 → 0 ≤ j ∧ j ≤ 1024 → 0 ≤ d ∧ d ≤ 2 → Nxt s ⟨s2.Regs, s2.Mem, s2.In_, s2.Taken, s2.Out, pc, s2.Stack, s2.Stop, s2.Fly, j, d⟩ := fun pc j d hp hj hd =>
      ⟨⟨{ hM2.inv with pc := hp }, hI2.stop, hj, hd, hI2.ok, hI2.u, hI2.l0, hI2.l1, hI2.l2, hI2.l3, hI2.l4⟩, hM2.inn, hM2.taken, ⟨o, ho1, ho2⟩, fun h => absurd h hh⟩
    simp only [pipe_Go, r5_issue, hpf, cond_false, hat, Option.bind_some, e1, hcw, h2', cut, tupR, r5_issue_k1, r5_issue_k4, h0, decide_true, decide_false, cond_false, cond_true, ne_eq, not_true_eq_false, show ¬ (0 : Int) = 1 by decide, w1, w2]
    cases t2 with
    | true => 
      have := fin (s2.PC + 1) s2.Jump s2.Delay (by omega) hM2.jump hdl
      rw [h0] at this
      exact ⟨_, rfl, rfl, this⟩
    | false =>
      simp only [Bool.not_false, cond_true]
      by_cases hd : 0 < s2.Delay
      · simp only [hd, decide_true, cond_true]
        by_cases hd1 : s2.Delay - 1 = 0
        · simp only [hd1, decide_true, cond_true]
          have := fin s2.Jump 0 0 hM2.jump (by decide) (by decide)
          rw [h0] at this
          exact ⟨_, rfl, rfl, this⟩
        · simp only [hd1, decide_false, cond_false]
          have := fin (s2.PC + 1) s2.Jump (s2.Delay - 1) (by omega) hM2.jump (by omega)
          rw [h0] at this
          exact ⟨_, rfl, rfl, this⟩
      · simp only [hd, decide_false, cond_false]
        have := fin (s2.PC + 1) s2.Jump s2.Delay (by omega) hM2.jump hdl
        rw [h0] at this
        exact ⟨_, rfl, rfl, this⟩
  · refine ⟨s2, ?_, ?_, hI2, hM2.inn, hM2.taken, ⟨o, ho1, ho2⟩, fun h => absurd h hh⟩
    · simp only [pipe_Go, hpf, cond_false, hat, Option.bind_some, e1, hh, decide_false, h0, ne_eq, not_false_eq_true, decide_true, cond_true]
    · simp only [r5_issue, hpf, cond_false, hat, Option.bind_some, hcw, h2', cut, tupR, r5_issue_k1, r5_issue_k4, hh, decide_false, h0, ne_eq, not_false_eq_true, decide_true, cond_true]
theorem nxt_land {s s' : T_State} (h : Nxt (landS s) s') : Nxt s s' := ⟨h.inv, h.inn, h.taken, h.out, h.halt⟩
theorem cycle_both {c : List (A4 T_Ins)} {s : T_State} (hc : pcodB c = true) (hP : PInv s) (hs : s.Stop = 0) (hO : s.Out.length + 4 < 4294967296) :
    ∃ s', pipe_Run_1 c s = some s' ∧ r5_lands s = some (landS s) ∧ r5_issue c (landS s) = some s' ∧ Nxt s s' := by
  obtain ⟨l1, l2⟩ := land_both hP.inv.regs hP.fly
  obtain ⟨s', g1, g2, g3⟩ := go_both hc (land_mid hP) hs hO
  exact ⟨s', by simp only [pipe_Run_1, l1, Option.bind_some, g1], l2, g2, nxt_land g3⟩
def runf (f : T_State → T_State) : Nat → T_State → T_State × Nat
  | 0, s => (s, 0)
  | n + 1, s => if s.Stop = 0 then ((runf f n (f s)).1, (runf f n (f s)).2 + 1) else (s, 0)
abbrev tupS (i : Int) (s : T_State) : Int × List Int × List Int × List Int × Int × List Int × Int × List Int × Int × List T_Write × Int × Int := (i, s.Regs, s.Mem, s.In_, s.Taken, s.Out, s.PC, s.Stack, s.Stop, s.Fly, s.Jump, s.Delay)
theorem run_loop {ρ : Type} {b : Int × List Int × List Int × List Int × Int × List Int × Int × List Int × Int × List T_Write × Int × Int → Option (Step (Int × List Int × List Int × List Int × Int × List Int × Int × List Int × Int × List T_Write × Int × Int) ρ)} {n : Int} {f : T_State → T_State} {e : T_State → Int → ρ} (hn : n ≤ 1000000)
    (hf : ∀ s, PInv s → s.Stop = 0 → s.Out.length + 4 < 4294967296 → Nxt s (f s) ∧ ∀ i : Int, i < n → b (tupS i s) = some (.next (tupS (IntKind.i64.wrap (i + 1)) (f s))))
    (he : ∀ s (i : Int), (¬ i < n ∨ s.Stop ≠ 0) → b (tupS i s) = some (.done (e s i))) : ∀ (m i : Nat) (s : T_State), (i : Int) + m = n → PInv s → s.Out.length + 4 * m < 4294967296 →
    loop b (tupS i s) = some (e (runf f m s).1 ((i + (runf f m s).2 : Nat) : Int))
  | 0, i, s, hi, hP, hO => by rw [loop_done (he s i (.inl (by omega)))]; rfl
  | m + 1, i, s, hi, hP, hO => by
    by_cases hs : s.Stop = 0
    · obtain ⟨h1, h2⟩ := hf s hP hs (by omega)
      obtain ⟨o, o1, o2⟩ := h1.out
      rw [loop_next (h2 i (by omega)), wrap_nat (by omega), run_loop hn hf he m (i + 1) (f s) (by omega) h1.inv (by rw [o1]; simp; omega)]
      simp only [runf, hs, if_true]
      congr 2
      omega
    · rw [loop_done (he s i (.inr hs))]
      simp only [runf, hs, if_false]
      rfl
structure Ran (n : Nat) (s s' : T_State) : Prop where
  inv : PInv s'
  inn : s'.In_ = s.In_
  taken : s.Taken ≤ s'.Taken
  out : ∃ o, s'.Out = s.Out ++ o ∧ o.length ≤ 4 * n
theorem runf_ran {f : T_State → T_State} (hf : ∀ s, PInv s → s.Stop = 0 → s.Out.length + 4 < 4294967296 → Nxt s (f s)) : ∀ (n : Nat) (s : T_State), PInv s → s.Out.length + 4 * n < 4294967296 → Ran n s (runf f n s).1
  | 0, s, hP, _ => ⟨hP, rfl, Int.le_refl _, [], by simp [runf], by simp⟩
  | n + 1, s, hP, hO => by
    by_cases hs : s.Stop = 0
    · have h3 := hf s hP hs (by omega)
      obtain ⟨o, h4, h5⟩ := h3.out
      have ih := runf_ran hf n (f s) h3.inv (by rw [h4]; simp; omega)
      obtain ⟨o2, h6, h7⟩ := ih.out
      simp only [runf, hs, if_true]
      exact ⟨ih.inv, by rw [ih.inn, h3.inn], by have := ih.taken; have := h3.taken; omega, o ++ o2, by rw [h6, h4, List.append_assoc], by simp; omega⟩
    · simp only [runf, hs, if_false]
      exact ⟨hP, rfl, by omega, [], by simp, by simp⟩
noncomputable def cyc (c : List (A4 T_Ins)) (s : T_State) : T_State := (pipe_Run_1 c s).getD s
theorem cyc_of {c : List (A4 T_Ins)} {s : T_State} (hc : pcodB c = true) (hP : PInv s) (hs : s.Stop = 0) (hO : s.Out.length + 4 < 4294967296) :
    pipe_Run_1 c s = some (cyc c s) ∧ r5_lands s = some (landS s) ∧ r5_issue c (landS s) = some (cyc c s) ∧ Nxt s (cyc c s) := by
  obtain ⟨s', h1, h2, h3, h4⟩ := cycle_both hc hP hs hO
  have : cyc c s = s' := by simp [cyc, h1]
  rw [this]; exact ⟨h1, h2, h3, h4⟩
theorem cycles_loop {c : List (A4 T_Ins)} (hc : pcodB c = true) {n : Int} (hn : n ≤ 1000000) (m : Nat) (s : T_State) (hi : (m : Int) = n) (hP : PInv s) (hO : s.Out.length + 4 * m < 4294967296) :
    loop (r5_Cycles_b1 n false c) (tupS 0 s) = some ((runf (cyc c) m s).1, ((runf (cyc c) m s).2 : Int)) := by
  have h := run_loop (b := r5_Cycles_b1 n false c) (n := n) (f := cyc c) (e := fun s i => (s, i)) hn (fun s hP hs hO => by
    obtain ⟨_, h2, h3, h4⟩ := cyc_of hc hP hs hO
    refine ⟨h4, fun i hi => ?_⟩
    have h2' : r5_lands ⟨s.Regs, s.Mem, s.In_, s.Taken, s.Out, s.PC, s.Stack, 0, s.Fly, s.Jump, s.Delay⟩ = some (landS s) := by rw [← h2]; congr 1; rw [← hs]
    simp only [tupS, r5_Cycles_b1, hi, decide_true, cond_true, hs, h2', Option.bind_some, cond_false, h3]) (fun s i h => by
    rcases h with h | h
    · simp only [tupS, r5_Cycles_b1, h, decide_false, cond_false]
    · by_cases h1 : i < n
      · simp only [tupS, r5_Cycles_b1, h1, h, decide_true, decide_false, cond_true, cond_false]
      · simp only [tupS, r5_Cycles_b1, h1, decide_false, cond_false]) m 0 s (by omega) hP hO
  simpa using h
end Go.Proofs.YtfnmihhcopkkbaaGreat
