/- The law PipeCycles, as a plain statement: proved. -/
import Derived.Test.YthbpicnbkdbbmaaGreatLPipeCycles
import Derived.Test.YthbpicnbkdbbmaaGreatPiG
namespace Go.Proofs.YthbpicnbkdbbmaaGreat
open Go Go.RowKit Fr
set_option linter.unusedVariables false
set_option linter.unusedSimpArgs false
set_option maxRecDepth 20000
noncomputable abbrev K5 (x : T_Script) (i n : Int) := l6_PipeCycles_k5 x.C x.S.Regs x.S.Mem x.S.In_ x.S.Taken x.S.Out x.S.PC x.S.Stack x.S.Stop x.S.Fly x.S.Jump x.S.Delay x i n
theorem k5_ok {x : T_Script} (hx : Wf_Script x) (hL : Light x) {i n : Int} (hi : 0 ≤ i ∧ i ≤ 1000) (hn : n ≤ 150 ∨ 20000 < n) : K5 x i n = some (.next (i + 1)) := by
  have w : IntKind.i64.wrap (i + 1) = i + 1 := wrap_i64 (by omega) (by omega)
  have q1 := eqState (light_short hL (n := 140737488351232) (by omega))
  have q2 := eqBundles (xs := x.C) (by have := hL.c; omega)
  have q3 := eqState (none_short 140737488351232)
  simp only [none'] at q3
  have l1 : x.S.Stack.length ≤ 140737488351232 := by have := hL.stack; omega
  have l2 : x.S.Fly.length ≤ 140737488351232 := by have := hL.fly; omega
  cases hb : (pcodB x.C && ppB x.S) with
  | false =>
    have h1 := pipe_run_bad (n := n) hx.h1 l1 l2 (by rw [hb]; rfl)
    simp only [none'] at h1
    simp only [K5, l6_PipeCycles_k5, h1, may_b hx, hb, Option.bind_some, cond_false, cut, l6_PipeCycles_k6, l6_num, ne_eq, not_true_eq_false, decide_false, q1, q2, q3, Bool.not_true, w]
  | true =>
    by_cases h0 : 0 ≤ n ∧ n ≤ 20000
    · obtain ⟨m, rfl⟩ := Int.eq_ofNat_of_zero_le h0.1
      simp only [Bool.and_eq_true] at hb
      have hP := pp_inv hx.h2 hb.2
      have o0 := hL.out
      have h1 := pipe_run hx.h1 hb.1 hP (n := m) (by omega) (by omega)
      have h2 := r5_cycles hb.1 hP (n := m) (by omega) (by omega)
      have hr := runf_ran (fun s hP hs hO => (cyc_of hb.1 hP hs hO).2.2.2) m x.S hP (by omega)
      obtain ⟨o, e1, l1⟩ := hr.out
      have q4 := eqState (s := (runf (cyc x.C) m x.S).1) (inv_short hr.inv (by omega) (by rw [e1]; simp; omega))
      have h3 : r0_Num (m : Int) 20000 = true := by rw [num_eq]; exact numB_iff.2 ⟨by omega, by omega⟩
      simp only [K5, l6_PipeCycles_k5, h1, may_b hx, hb.1, hb.2, Bool.and_self, Option.bind_some, cond_true, cond_false, h2, h3, cut, l6_PipeCycles_k6, l6_num, ne_eq, not_true_eq_false, decide_false, q1, q2, q4, Bool.not_true, w]
    · have h1 := pipe_run_bad (n := n) hx.h1 l1 l2 (by rw [hb, Bool.true_and]; exact decide_eq_false h0)
      simp only [none'] at h1
      have h3 : r0_Num n 20000 = false := by rw [num_eq]; simp only [numB, decide_eq_false_iff_not]; exact h0
      simp only [K5, l6_PipeCycles_k5, h1, may_b hx, hb, Option.bind_some, cond_true, cond_false, h3, cut, l6_PipeCycles_k6, l6_num, ne_eq, not_true_eq_false, decide_false, q1, q2, q3, Bool.not_true, w]
/-- The first loop. -/
theorem loop3 {x : T_Script} (hx : Wf_Script x) (hL : Light x) (zs : List Int) : loop (l6_PipeCycles_b3 zs x.C x.S.Regs x.S.Mem x.S.In_ x.S.Taken x.S.Out x.S.PC x.S.Stack x.S.Stop x.S.Fly x.S.Jump x.S.Delay x) 0 = some (.next ()) := by
  obtain ⟨r, h, rfl⟩ := loop_ex (b := l6_PipeCycles_b3 zs x.C x.S.Regs x.S.Mem x.S.In_ x.S.Taken x.S.Out x.S.PC x.S.Stack x.S.Stop x.S.Fly x.S.Jump x.S.Delay x) (fun i => 0 ≤ i ∧ i ≤ 9) (fun i => (9 - i).toNat) (fun r => r = .next ()) (fun i hi => by
    by_cases h1 : i < zs.length
    · by_cases h2 : i < 9
      · obtain ⟨hl, hat⟩ := at'_int (xs := zs) hi.1 h1
        refine .inl ⟨i + 1, ?_, by omega, by omega⟩
        generalize zs[i.toNat] = n at hat
        simp only [l6_PipeCycles_b3, h1, h2, decide_true, cond_true, cut, l6_PipeCycles_k4, hat, Option.bind_some]
        by_cases h3 : 150 < n
        · by_cases h4 : n ≤ 20000
          · simp only [h3, h4, decide_true, cond_true]
            exact k5_ok hx hL (by omega) (by omega)
          · simp only [h3, h4, decide_true, decide_false, cond_true, cond_false]
            exact k5_ok hx hL (by omega) (by omega)
        · simp only [h3, decide_false, cond_false]
          exact k5_ok hx hL (by omega) (by omega)
      · exact .inr ⟨_, by simp [l6_PipeCycles_b3, h1, h2, cut], rfl⟩
    · exact .inr ⟨_, by simp [l6_PipeCycles_b3, h1, cut], rfl⟩) 10 0 (by decide) (by decide)
  exact h
/-- The second loop, over a good script. -/
theorem loop8 {x : T_Script} (hx : Wf_Script x) (hp : pcodB x.C = true) (hb : ppB x.S = true) : ∀ (m i : Nat) (s : T_State), i + m = 40 → PInv s → s.Out.length ≤ 12000 + 4 * i →
    loop (l6_PipeCycles_b8 x.C x) (tupS (i : Int) s) = some (.next ())
  | 0, i, s, hi, hI, hO => by
    have : decide ((i : Int) < 40) = false := decide_eq_false (by omega)
    exact loop_done (by simp only [tupS, l6_PipeCycles_b8, this, cond_false])
  | m + 1, i, s, hi, hI, hO => by
    have h1 : decide ((i : Int) < 40) = true := decide_eq_true (by omega)
    have h2 := pipe_cycle hx.h1 hp hI (by omega)
    have h3 := r5_cycles hp hI (n := 1) (by omega) (by omega)
    have hr := runf_ran (fun s hP hs hO => (cyc_of hp hP hs hO).2.2.2) 1 s hI (by omega)
    generalize (runf (cyc x.C) 1 s).1 = s1 at h2 h3 hr
    obtain ⟨o, ho, hol⟩ := hr.out
    have hO1 : s1.Out.length ≤ 12000 + 4 * (i + 1) := by rw [ho]; simp; omega
    have hs := inv_short hr.inv (n := 140737488351232) (by omega) (by omega)
    rw [loop_next (s' := tupS ((i + 1 : Nat) : Int) s1)]
    · exact loop8 hx hp hb m (i + 1) s1 (by omega) hr.inv (by omega)
    · have h3' : r5_Cycles x.C s 1 false = some (s1, ((runf (cyc x.C) 1 s).2 : Int)) := h3
      simp only [tupS, l6_PipeCycles_b8, h1, cond_true, h2, Option.bind_some, may_b hx, hp, hb, Bool.and_self, Bool.not_true, cond_false, h3', l6_num, ne_eq, not_true_eq_false, decide_false, eqState hs, state_spent hs]
      rw [wrap_nat (by omega)]
theorem pure_PipeCycles (x : T_Script) (hx : Wf_Script x) : l6_PipeCycles x = some true := by
  obtain ⟨h, h1, hL⟩ := heavy hx
  simp only [l6_PipeCycles, h1, Option.bind_some]
  cases h with
  | true => rfl
  | false =>
    have hL := hL rfl
    have c1 := copyState (light_short hL (n := 4294967296) (by omega))
    have c2 := copyBundles (xs := x.C) (by have := hL.c; omega)
    have m1 := pipe_may_b (s := x.S) (by have := hL.stack; omega) (by have := hL.fly; omega)
    have m2 := r5_pipe_b (s := x.S) (by have := hL.stack; omega) (by have := hL.fly; omega)
    have q1 := eqState (light_short hL (n := 140737488351232) (by omega))
    have q3 := eqState (none_short 140737488351232)
    simp only [none'] at q3
    have ck : ∃ n, pipe_Check x.S = some n ∧ (decide (l6_num n = 0) != ppB x.S) = false := by
      simp only [pipe_Check, m1, Option.bind_some]
      cases ppB x.S
      · exact ⟨1, rfl, rfl⟩
      · exact ⟨0, rfl, rfl⟩
    obtain ⟨n, ck1, ck2⟩ := ck
    have hap : app' ([0, 1, 2, 30, (-1), 20001] : List Int) x.N = some ([0, 1, 2, 30, (-1), 20001] ++ x.N) := app'_le (by have := hL.n; simp; omega)
    have k2 : l6_PipeCycles_k2 x x.C x.S.Regs x.S.Mem x.S.In_ x.S.Taken x.S.Out x.S.PC x.S.Stack x.S.Stop x.S.Fly x.S.Jump x.S.Delay () = some true := by
      cases hb : (pcodB x.C && ppB x.S) with
      | true =>
        simp only [Bool.and_eq_true] at hb
        have h8 := loop8 hx hb.1 hb.2 40 0 x.S (by omega) (pp_inv hx.h2 hb.2) (by have := hL.out; omega)
        have h8' : loop (l6_PipeCycles_b8 x.C x) (0, x.S.Regs, x.S.Mem, x.S.In_, x.S.Taken, x.S.Out, x.S.PC, x.S.Stack, x.S.Stop, x.S.Fly, x.S.Jump, x.S.Delay) = some (.next ()) := h8
        simp only [l6_PipeCycles_k2, c1, Option.bind_some, h8', cut, l6_PipeCycles_k7, q1, cond_true, wakes]
      | false =>
        have hb1 := pipe_run_bad (n := 1) hx.h1 (by have := hL.stack; omega) (by have := hL.fly; omega) (c := x.C) (s := x.S) (by rw [hb]; rfl)
        simp only [none'] at hb1
        have h8 : loop (l6_PipeCycles_b8 x.C x) (0, x.S.Regs, x.S.Mem, x.S.In_, x.S.Taken, x.S.Out, x.S.PC, x.S.Stack, x.S.Stop, x.S.Fly, x.S.Jump, x.S.Delay) = some (.done true) := by
          refine loop_done ?_
          simp only [l6_PipeCycles_b8, show decide ((0 : Int) < 40) = true from rfl, cond_true, pipe_Cycle, hb1, Option.bind_some, may_b hx, hb, Bool.not_false, l6_num, decide_true, q3, wakes]
        simp only [l6_PipeCycles_k2, c1, Option.bind_some, h8, cut]
    simp only [cond_false, c1, c2, Option.bind_some, cut, l6_PipeCycles_k1, ck1, m2, ck2, hap, loop3 hx hL, k2]
end Go.Proofs.YthbpicnbkdbbmaaGreat
