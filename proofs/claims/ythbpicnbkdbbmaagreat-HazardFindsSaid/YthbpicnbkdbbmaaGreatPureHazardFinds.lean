/- The law HazardFinds, as a plain statement: proved. -/
import Derived.Test.YthbpicnbkdbbmaaGreatLHazardFinds
import Derived.Test.YthbpicnbkdbbmaaGreatPiH
namespace Go.Proofs.YthbpicnbkdbbmaaGreat
open Go Go.RowKit Fr
set_option linter.unusedVariables false
set_option linter.unusedSimpArgs false
set_option maxRecDepth 20000
noncomputable abbrev K5 (x : T_Script) (may : Bool) (i n : Int) := l7_HazardFinds_k5 x.C x.S.Regs x.S.Mem x.S.In_ x.S.Taken x.S.Out x.S.PC x.S.Stack x.S.Stop x.S.Fly x.S.Jump x.S.Delay may x i n
theorem k5_ok {x : T_Script} (hx : Wf_Script x) (hL : Light x) {i n : Int} (hi : 0 ≤ i ∧ i ≤ 1000) (hn : n ≤ 150 ∨ 20000 < n) : K5 x (pcodB x.C && ppB x.S) i n = some (.next (i + 1)) := by
  have w : IntKind.i64.wrap (i + 1) = i + 1 := wrap_i64 (by omega) (by omega)
  have q3 := eqState (none_short 140737488351232)
  simp only [none'] at q3
  have l1 : x.S.Stack.length ≤ 140737488351232 := by have := hL.stack; omega
  have l2 : x.S.Fly.length ≤ 140737488351232 := by have := hL.fly; omega
  cases hb : (pcodB x.C && ppB x.S) with
  | false =>
    have h1 := hazard_run_bad (n := n) hx.h1 l1 l2 (by rw [hb]; rfl)
    simp only [none'] at h1
    simp only [K5, l7_HazardFinds_k5, h1, Option.bind_some, cond_false, l7_num, ne_eq, not_true_eq_false, decide_false, q3, Bool.not_true, w]
  | true =>
    by_cases h0 : 0 ≤ n ∧ n ≤ 20000
    · obtain ⟨m, rfl⟩ := Int.eq_ofNat_of_zero_le h0.1
      simp only [Bool.and_eq_true] at hb
      have hP := pp_inv hx.h2 hb.2
      have o0 := hL.out
      have h1 := hazard_run hx.h1 hb.1 hP (n := m) (by omega) (by omega)
      have h2 := r5_hcycles hb.1 hP (n := m) (by omega) (by omega)
      have hr := runf_ran (hnxt hb.1) m x.S hP (by omega)
      obtain ⟨o, e1, l1⟩ := hr.out
      have q4 := eqState (s := (runf (hcyc x.C) m x.S).1) (inv_short hr.inv (by omega) (by rw [e1]; simp; omega))
      have h3 : r0_Num (m : Int) 20000 = true := by rw [num_eq]; exact numB_iff.2 ⟨by omega, by omega⟩
      simp only [K5, l7_HazardFinds_k5, h1, Option.bind_some, cond_true, cond_false, h2, h3, l7_num, ne_eq, not_true_eq_false, decide_false, q4, Bool.not_true, w]
    · have h1 := hazard_run_bad (n := n) hx.h1 l1 l2 (by rw [hb, Bool.true_and]; exact decide_eq_false h0)
      simp only [none'] at h1
      have h3 : r0_Num n 20000 = false := by rw [num_eq]; simp only [numB, decide_eq_false_iff_not]; exact h0
      simp only [K5, l7_HazardFinds_k5, h1, Option.bind_some, cond_true, cond_false, h3, l7_num, ne_eq, not_true_eq_false, decide_false, q3, Bool.not_true, w]
/-- The first loop. -/
theorem loop3 {x : T_Script} (hx : Wf_Script x) (hL : Light x) (zs : List Int) : loop (l7_HazardFinds_b3 zs x.C x.S.Regs x.S.Mem x.S.In_ x.S.Taken x.S.Out x.S.PC x.S.Stack x.S.Stop x.S.Fly x.S.Jump x.S.Delay (pcodB x.C && ppB x.S) x) 0 = some (.next ()) := by
  obtain ⟨r, h, rfl⟩ := loop_ex (b := l7_HazardFinds_b3 zs x.C x.S.Regs x.S.Mem x.S.In_ x.S.Taken x.S.Out x.S.PC x.S.Stack x.S.Stop x.S.Fly x.S.Jump x.S.Delay (pcodB x.C && ppB x.S) x) (fun i => 0 ≤ i ∧ i ≤ 8) (fun i => (8 - i).toNat) (fun r => r = .next ()) (fun i hi => by
    by_cases h1 : i < zs.length
    · by_cases h2 : i < 8
      · obtain ⟨hl, hat⟩ := at'_int (xs := zs) hi.1 h1
        refine .inl ⟨i + 1, ?_, by omega, by omega⟩
        generalize zs[i.toNat] = n at hat
        simp only [l7_HazardFinds_b3, h1, h2, decide_true, cond_true, cut, l7_HazardFinds_k4, hat, Option.bind_some]
        by_cases h3 : 150 < n
        · by_cases h4 : n ≤ 20000
          · simp only [h3, h4, decide_true, cond_true]
            exact k5_ok hx hL (by omega) (by omega)
          · simp only [h3, h4, decide_true, decide_false, cond_true, cond_false]
            exact k5_ok hx hL (by omega) (by omega)
        · simp only [h3, decide_false, cond_false]
          exact k5_ok hx hL (by omega) (by omega)
      · exact .inr ⟨_, by simp [l7_HazardFinds_b3, h1, h2, cut], rfl⟩
    · exact .inr ⟨_, by simp [l7_HazardFinds_b3, h1, cut], rfl⟩) 9 0 (by decide) (by decide)
  exact h
theorem cycles_one {c : List (A4 T_Ins)} {s : T_State} (hc : pcodB c = true) (hP : PInv s) (hO : s.Out.length + 4 < 4294967296) (b : Bool) :
    ∃ s' k, r5_Cycles c s 1 b = some (s', k) ∧ PInv s' ∧ s'.Out.length ≤ s.Out.length + 4 := by
  cases b with
  | true =>
    have h3 := r5_hcycles hc hP (n := 1) (by omega) (by omega)
    have hr := runf_ran (hnxt hc) 1 s hP (by omega)
    obtain ⟨o, ho, hol⟩ := hr.out
    exact ⟨_, _, h3, hr.inv, by rw [ho]; simp; omega⟩
  | false =>
    have h3 := r5_cycles hc hP (n := 1) (by omega) (by omega)
    have hr := runf_ran (fun s hP hs hO => (cyc_of hc hP hs hO).2.2.2) 1 s hP (by omega)
    obtain ⟨o, ho, hol⟩ := hr.out
    exact ⟨_, _, h3, hr.inv, by rw [ho]; simp; omega⟩
/-- The second loop, over a good script. -/
theorem loop7 {x : T_Script} (hx : Wf_Script x) (hp : pcodB x.C = true) : ∀ (m i : Nat) (s : T_State), i + m = 30 → PInv s → s.Out.length ≤ 12000 + 4 * i →
    loop (l7_HazardFinds_b7 x.C true x) (tupS (i : Int) s) = some (.next ())
  | 0, i, s, hi, hI, hO => by
    have : decide ((i : Int) < 30) = false := decide_eq_false (by omega)
    exact loop_done (by simp only [tupS, l7_HazardFinds_b7, this, cond_false])
  | m + 1, i, s, hi, hI, hO => by
    have h1 : decide ((i : Int) < 30) = true := decide_eq_true (by omega)
    have f1 := hazard_find hx.h1 hp hI (by omega)
    have f2 := r5_findS hp hI (by omega)
    have h2 := hazard_cycle hx.h1 hp hI (by omega)
    have h3 := r5_hcycles hp hI (n := 1) (by omega) (by omega)
    have h3' : r5_Cycles x.C s 1 true = some ((runf (hcyc x.C) 1 s).1, ((runf (hcyc x.C) 1 s).2 : Int)) := h3
    have hr2 := runf_ran (hnxt hp) 1 s hI (by omega)
    generalize (runf (hcyc x.C) 1 s).1 = s2 at h2 h3' hr2
    obtain ⟨o2, ho2, hol2⟩ := hr2.out
    have hs := inv_short hr2.inv (n := 140737488351232) (by omega) (by rw [ho2]; simp; omega)
    obtain ⟨r, _, hm⟩ := modN i (k := 2) (by omega)
    have hm' : rem' (i : Int) 2 = some (r : Int) := hm
    obtain ⟨s1, k, h5, hI1, hO1⟩ := cycles_one hp hI (by omega) (decide ((r : Int) = 0))
    rw [loop_next (s' := tupS ((i + 1 : Nat) : Int) s1)]
    · exact loop7 hx hp m (i + 1) s1 (by omega) hI1 (by omega)
    · simp only [tupS, l7_HazardFinds_b7, h1, cond_true, f1, f2, h2, h3', Option.bind_some, Bool.not_true, cond_false, l7_num, ne_eq, not_true_eq_false, decide_false, eqState hs, state_spent hs, hm', h5]
      rw [wrap_nat (by omega)]
theorem pure_HazardFinds (x : T_Script) (hx : Wf_Script x) : l7_HazardFinds x = some true := by
  obtain ⟨h, h1, hL⟩ := heavy hx
  simp only [l7_HazardFinds, h1, Option.bind_some]
  cases h with
  | true => rfl
  | false =>
    have hL := hL rfl
    have c1 := copyState (light_short hL (n := 4294967296) (by omega))
    have c2 := copyBundles (xs := x.C) (by have := hL.c; omega)
    have q1 := eqState (light_short hL (n := 140737488351232) (by omega))
    have q2 := eqBundles (xs := x.C) (by have := hL.c; omega)
    have q3 := eqState (none_short 140737488351232)
    simp only [none'] at q3
    have hap : app' ([0, 1, 25, (-1), 20001] : List Int) x.N = some ([0, 1, 25, (-1), 20001] ++ x.N) := app'_le (by have := hL.n; simp; omega)
    have k2 : l7_HazardFinds_k2 x x.C (pcodB x.C && ppB x.S) x.S.Regs x.S.Mem x.S.In_ x.S.Taken x.S.Out x.S.PC x.S.Stack x.S.Stop x.S.Fly x.S.Jump x.S.Delay () = some true := by
      cases hb : (pcodB x.C && ppB x.S) with
      | true =>
        simp only [Bool.and_eq_true] at hb
        have h8 := loop7 hx hb.1 30 0 x.S (by omega) (pp_inv hx.h2 hb.2) (by have := hL.out; omega)
        have h8' : loop (l7_HazardFinds_b7 x.C true x) (0, x.S.Regs, x.S.Mem, x.S.In_, x.S.Taken, x.S.Out, x.S.PC, x.S.Stack, x.S.Stop, x.S.Fly, x.S.Jump, x.S.Delay) = some (.next ()) := h8
        simp only [l7_HazardFinds_k2, c1, Option.bind_some, h8', cut, l7_HazardFinds_k6, q1, q2, cond_true, hwakes]
      | false =>
        have hl1 : x.S.Stack.length ≤ 140737488351232 := by have := hL.stack; omega
        have hl2 : x.S.Fly.length ≤ 140737488351232 := by have := hL.fly; omega
        have hb1 := hazard_run_bad (n := 1) hx.h1 hl1 hl2 (c := x.C) (s := x.S) (by rw [hb]; rfl)
        have hb2 := hazard_find_bad hx.h1 hl1 hl2 (c := x.C) (s := x.S) hb
        simp only [none'] at hb1
        have h8 : loop (l7_HazardFinds_b7 x.C false x) (0, x.S.Regs, x.S.Mem, x.S.In_, x.S.Taken, x.S.Out, x.S.PC, x.S.Stack, x.S.Stop, x.S.Fly, x.S.Jump, x.S.Delay) = some (.done true) := by
          refine loop_done ?_
          simp only [l7_HazardFinds_b7, show decide ((0 : Int) < 30) = true from rfl, cond_true, hazard_Cycle, hb1, hb2, Option.bind_some, Bool.not_false, l7_num, decide_true, q3, hwakes]
        simp only [l7_HazardFinds_k2, c1, Option.bind_some, h8, cut]
    simp only [cond_false, c1, c2, Option.bind_some, cut, l7_HazardFinds_k1, may_b hx, hap, loop3 hx hL, k2]
end Go.Proofs.YthbpicnbkdbbmaaGreat
