/- The law HazardSame, as a plain statement: proved. -/
import Derived.Test.YthbpicnbkdbbmaaGreatLHazardSame
import Derived.Test.YthbpicnbkdbbmaaGreatPiH
namespace Go.Proofs.YthbpicnbkdbbmaaGreat
open Go Go.RowKit Fr
set_option linter.unusedVariables false
set_option linter.unusedSimpArgs false
set_option maxRecDepth 20000
/-- One looking cycle: as the plain one, or nothing but the stop. -/
theorem hone {c : List (A4 T_Ins)} {s : T_State} (hc : pcodB c = true) (hP : PInv s) :
    (fnd c s < 0 → (runf (hcyc c) 1 s).1 = (runf (cyc c) 1 s).1) ∧ (0 ≤ fnd c s → (runf (hcyc c) 1 s).1.Stop = 6 ∧ (runf (hcyc c) 1 s).1.PC = s.PC ∧ (runf (hcyc c) 1 s).1.Mem = s.Mem ∧ (runf (hcyc c) 1 s).1.Out = s.Out) := by
  obtain ⟨_, _, _, h4, _⟩ := fnd_of hc hP
  by_cases hs : s.Stop = 0
  · refine ⟨fun h => ?_, fun h => ?_⟩
    · have : ¬ 0 ≤ fnd c s := by omega
      simp [runf, hs, hcyc, this]
    · simp [runf, hs, hcyc, h, landS]
  · refine ⟨fun h => by simp [runf, hs], fun h => by have := h4 hs; omega⟩
theorem loop3 {x : T_Script} (hx : Wf_Script x) (hp : pcodB x.C = true) : ∀ (m i : Nat) (s : T_State), i + m = 40 → PInv s → s.Out.length ≤ 12000 + 4 * i →
    loop (l7_HazardSame_b3 x) (tupS (i : Int) s) = some (.next ())
  | 0, i, s, hi, hI, hO => by
    have : decide ((i : Int) < 40) = false := decide_eq_false (by omega)
    exact loop_done (by simp only [tupS, l7_HazardSame_b3, this, cond_false])
  | m + 1, i, s, hi, hI, hO => by
    have h1 : decide ((i : Int) < 40) = true := decide_eq_true (by omega)
    have f1 := hazard_find hx.h1 hp hI (by omega)
    have h2 := hazard_cycle hx.h1 hp hI (by omega)
    have h3 := pipe_cycle hx.h1 hp hI (by omega)
    obtain ⟨⟨fa, fb⟩, _⟩ := fnd_of hp hI
    obtain ⟨g1, g2⟩ := hone hp hI
    have hr := runf_ran (fun s hP hs hO => (cyc_of hp hP hs hO).2.2.2) 1 s hI (by omega)
    generalize (runf (hcyc x.C) 1 s).1 = s2 at h2 g1 g2
    generalize (runf (cyc x.C) 1 s).1 = s1 at h3 g1 hr
    generalize fnd x.C s = f at *
    obtain ⟨o, ho, hol⟩ := hr.out
    have hO1 : s1.Out.length ≤ 12000 + 4 * (i + 1) := by rw [ho]; simp; omega
    have hs := inv_short hr.inv (n := 140737488351232) (by omega) (by omega)
    have d1 : decide (f < -1) = false := decide_eq_false (by omega)
    have d2 : decide (3 < f) = false := decide_eq_false (by omega)
    have hs0 := inv_short hI (n := 140737488351232) (by omega) (by omega)
    have ws : IntKind.i64.wrap ((i : Int) + 1) = ((i + 1 : Nat) : Int) := wrap_nat (by omega)
    rw [loop_next (s' := tupS ((i + 1 : Nat) : Int) s1)]
    · exact loop3 hx hp m (i + 1) s1 (by omega) hr.inv (by omega)
    · simp only [tupS, l7_HazardSame_b3, h1, cond_true, f1, h2, h3, Option.bind_some, l7_num, ne_eq, not_true_eq_false, decide_false, cond_false, d1, d2, cut, l7_HazardSame_k4, ws]
      by_cases hf : f < 0
      · have hf2 : ¬ 0 ≤ f := by omega
        rw [g1 hf]
        simp only [hf, hf2, decide_true, decide_false, cond_true, cond_false, eqState hs, Option.bind_some, Bool.not_true]
      · have hf2 : 0 ≤ f := by omega
        obtain ⟨a1, a2, a3, a4⟩ := g2 hf2
        have e1 := eqWords (xs := s.Mem) (by have := hI.inv.mem; omega)
        have e2 := eqWords (xs := s.Out) (by omega)
        simp only [hf, hf2, decide_true, decide_false, cond_true, cond_false, a1, a2, a3, a4, ne_eq, not_true_eq_false, e1, e2, Option.bind_some, Bool.not_true]
theorem pure_HazardSame (x : T_Script) (hx : Wf_Script x) : l7_HazardSame x = some true := by
  obtain ⟨h, h1, hL⟩ := heavy hx
  simp only [l7_HazardSame, h1, Option.bind_some]
  cases h with
  | true => rfl
  | false =>
    have hL := hL rfl
    simp only [cond_false, may_b hx, Option.bind_some]
    cases hb : (pcodB x.C && ppB x.S) with
    | false => rfl
    | true =>
      simp only [Bool.and_eq_true] at hb
      have c1 := copyState (light_short hL (n := 4294967296) (by omega))
      have h8 := loop3 hx hb.1 40 0 x.S (by omega) (pp_inv hx.h2 hb.2) (by have := hL.out; omega)
      have h8' : loop (l7_HazardSame_b3 x) (0, x.S.Regs, x.S.Mem, x.S.In_, x.S.Taken, x.S.Out, x.S.PC, x.S.Stack, x.S.Stop, x.S.Fly, x.S.Jump, x.S.Delay) = some (.next ()) := h8
      have hv : r3_Valid 0 = true := by decide
      simp only [Bool.not_true, cond_false, cut, l7_HazardSame_k1, c1, Option.bind_some, h8', l7_HazardSame_k2, hv, cond_true, hwakes]
end Go.Proofs.YthbpicnbkdbbmaaGreat
