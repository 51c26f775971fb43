/- BenchForever: runs whose inputs are told by number. -/
import Derived.Test.YtnmllfjiiihiaaaGreatDoorBase
import Derived.KernelRfl
namespace Go.Proofs.YtnmllfjiiihiaaaGreatDoor
open Go Go.RowKit Fr
set_option linter.unusedVariables false
set_option maxRecDepth 20000
theorem traj_map {f : T_State → T_State} {b b' : T_State → Option T_State} (h : ∀ S, b (f S) = (b' S).map f) (S : T_State) : ∀ m, traj b (f S) m = (traj b' S m).map f
  | 0 => rfl
  | m + 1 => by
    rw [traj_s, traj_s, traj_map h S m]
    cases traj b' S m with
    | none => rfl
    | some u => exact h u
theorem stp_map {xs : List Int} {b b' : T_State → Option T_State} (h : ∀ S, b (fz xs S) = (b' S).map (fz xs)) (S : T_State) : stp live b (fz xs S) = (stp live b' S).map (fz xs) := by
  unfold stp
  rw [show live (fz xs S) = live S from rfl]
  cases live S with
  | true => exact h S
  | false => rfl
theorem agree_map {xs : List Int} {A B : Option T_State} {sa sb : Int} (H : Agree A B sa sb) : Agree (A.map (fz xs)) (B.map (fz xs)) sa sb := by
  obtain ⟨a, b, rfl, rfl, h1, h2, h3, h4, h5⟩ := H
  refine ⟨fz xs a, fz xs b, rfl, rfl, h1, h2, h3, h4, ?_⟩
  rcases h5 with h5 | ⟨q1, q2, m, o, t, r, l1, l2⟩
  · exact .inl h5
  · exact .inr ⟨q1, q2, m, o, congrArg (fun z => min z (xs.length : Int)) t, r, l1, l2⟩
theorem fz_st0 (data : List Int) (pc : Int) (xs : List Int) : st0 data pc xs = fz xs (st0 data pc []) := by
  unfold st0 fz
  rw [show min (0 : Int) (xs.length : Int) = 0 by omega]
noncomputable def rcyG (g : Int → Int) (c : List (A4 T_Ins)) (s : T_State) : Option T_State := (r5_lands s).bind fun D0 => (r5_find c D0).bind fun Y0 => bif decide (0 ≤ Y0) then none else G_r5_issue (doG g) c D0
theorem rcy_map {xs : List Int} (h : xs.length ≤ 100) (c : List (A4 T_Ins)) (S : T_State) : rcy c (fz xs S) = (rcyG (gOf xs) c S).map (fz xs) := by
  simp only [rcy, rcyG, rlands_map, bind_of_map, find_same, map_bind, map_cond, Option.map_none, G_r5_issue_eq, rissue_map h]
/-- Sums are told at once, whatever the second number. -/
noncomputable def actH (g : Int → Int) (S : T_State) (i : T_Ins) (a b : Int) : Option (T_State × Int × Int) := bif decide (i.Op = 1) then some (S, IntKind.u32.wrap (a + b), 0) else actG g S i a b
theorem actH_eq (g : Int → Int) : actG g = actH g := by
  funext S i a b
  by_cases e : i.Op = 1
  · have w : word_Of 1 a b = some (IntKind.u32.wrap (a + b), 0) := by
      unfold word_Of
      cases decide (b = 0) <;> rfl
    rw [actH, decide_eq_true e, cond_true, actG, decide_eq_false (by omega), cond_false, seq_Act, e, w]
    rfl
  · rw [actH, decide_eq_false e, cond_false]
noncomputable abbrev PA_0 (g : Int → Int) (m : Nat) : Option T_State := traj (stp live (G_seq_step (actH g) flx0.Code)) (sF0 []) m
noncomputable abbrev PB_0 (g : Int → Int) (m : Nat) : Option T_State := traj (stp live (G_hazard_Go (actH g) imx0.Code)) (sX0 []) m
noncomputable abbrev RA_0 (g : Int → Int) (m : Nat) : Option T_State := traj (stp live (G_r5_step (doG g) flx0.Code)) (sF0 []) m
noncomputable abbrev RB_0 (g : Int → Int) (m : Nat) : Option T_State := traj (stp live (rcyG g imx0.Code)) (sX0 []) m
theorem fg0 {xs : List Int} {sa sb : Int} {ma mb : Nat} (n : Nat) (h : xs.length ≤ 100) (H1 : Agree (PA_0 (gOf xs) ma) (PB_0 (gOf xs) mb) sa sb) (H2 : Agree (RA_0 (gOf xs) ma) (RB_0 (gOf xs) mb) sa sb)
    (hn : n ≤ 200 := by decide) (ea : ma ≤ n := by decide) (eb : mb ≤ 4 * n + 8 := by decide) (fa : ma = n ∨ sa ≠ 0 := by decide) (fb : mb = 4 * n + 8 ∨ sb ≠ 0 := by decide) (hs : sa = 0 := by decide) : Fine imx0 flx0 (n : Int) xs := by
  refine fine0 (n := n) (ma := ma) (mb := mb) h ?_ ?_ hn ea eb fa fb hs
  · unfold PA_0 PB_0 at H1
    rw [← actH_eq] at H1
    have q := agree_map (xs := xs) H1
    rw [← traj_map (stp_map (step_map h flx0.Code)), ← traj_map (stp_map (haz_map h imx0.Code)), ← fz_st0, ← fz_st0] at q
    exact q
  · have q := agree_map (xs := xs) H2
    rw [← traj_map (stp_map (rstep_map h flx0.Code)), ← traj_map (stp_map (rcy_map h imx0.Code)), ← fz_st0, ← fz_st0] at q
    exact q
noncomputable abbrev PA_1 (g : Int → Int) (m : Nat) : Option T_State := traj (stp live (G_seq_step (actH g) flx1.Code)) (sF1 []) m
noncomputable abbrev PB_1 (g : Int → Int) (m : Nat) : Option T_State := traj (stp live (G_hazard_Go (actH g) imx1.Code)) (sX1 []) m
noncomputable abbrev RA_1 (g : Int → Int) (m : Nat) : Option T_State := traj (stp live (G_r5_step (doG g) flx1.Code)) (sF1 []) m
noncomputable abbrev RB_1 (g : Int → Int) (m : Nat) : Option T_State := traj (stp live (rcyG g imx1.Code)) (sX1 []) m
theorem fg1 {xs : List Int} {sa sb : Int} {ma mb : Nat} (n : Nat) (h : xs.length ≤ 100) (H1 : Agree (PA_1 (gOf xs) ma) (PB_1 (gOf xs) mb) sa sb) (H2 : Agree (RA_1 (gOf xs) ma) (RB_1 (gOf xs) mb) sa sb)
    (hn : n ≤ 200 := by decide) (ea : ma ≤ n := by decide) (eb : mb ≤ 4 * n + 8 := by decide) (fa : ma = n ∨ sa ≠ 0 := by decide) (fb : mb = 4 * n + 8 ∨ sb ≠ 0 := by decide) (hs : sa = 0 := by decide) : Fine imx1 flx1 (n : Int) xs := by
  refine fine1 (n := n) (ma := ma) (mb := mb) h ?_ ?_ hn ea eb fa fb hs
  · unfold PA_1 PB_1 at H1
    rw [← actH_eq] at H1
    have q := agree_map (xs := xs) H1
    rw [← traj_map (stp_map (step_map h flx1.Code)), ← traj_map (stp_map (haz_map h imx1.Code)), ← fz_st0, ← fz_st0] at q
    exact q
  · have q := agree_map (xs := xs) H2
    rw [← traj_map (stp_map (rstep_map h flx1.Code)), ← traj_map (stp_map (rcy_map h imx1.Code)), ← fz_st0, ← fz_st0] at q
    exact q
noncomputable abbrev PA_2 (g : Int → Int) (m : Nat) : Option T_State := traj (stp live (G_seq_step (actH g) flx2.Code)) (sF2 []) m
noncomputable abbrev PB_2 (g : Int → Int) (m : Nat) : Option T_State := traj (stp live (G_hazard_Go (actH g) imx2.Code)) (sX2 []) m
noncomputable abbrev RA_2 (g : Int → Int) (m : Nat) : Option T_State := traj (stp live (G_r5_step (doG g) flx2.Code)) (sF2 []) m
noncomputable abbrev RB_2 (g : Int → Int) (m : Nat) : Option T_State := traj (stp live (rcyG g imx2.Code)) (sX2 []) m
theorem fg2 {xs : List Int} {sa sb : Int} {ma mb : Nat} (n : Nat) (h : xs.length ≤ 100) (H1 : Agree (PA_2 (gOf xs) ma) (PB_2 (gOf xs) mb) sa sb) (H2 : Agree (RA_2 (gOf xs) ma) (RB_2 (gOf xs) mb) sa sb)
    (hn : n ≤ 200 := by decide) (ea : ma ≤ n := by decide) (eb : mb ≤ 4 * n + 8 := by decide) (fa : ma = n ∨ sa ≠ 0 := by decide) (fb : mb = 4 * n + 8 ∨ sb ≠ 0 := by decide) (hs : sa = 0 := by decide) : Fine imx2 flx2 (n : Int) xs := by
  refine fine2 (n := n) (ma := ma) (mb := mb) h ?_ ?_ hn ea eb fa fb hs
  · unfold PA_2 PB_2 at H1
    rw [← actH_eq] at H1
    have q := agree_map (xs := xs) H1
    rw [← traj_map (stp_map (step_map h flx2.Code)), ← traj_map (stp_map (haz_map h imx2.Code)), ← fz_st0, ← fz_st0] at q
    exact q
  · have q := agree_map (xs := xs) H2
    rw [← traj_map (stp_map (rstep_map h flx2.Code)), ← traj_map (stp_map (rcy_map h imx2.Code)), ← fz_st0, ← fz_st0] at q
    exact q
end Go.Proofs.YtnmllfjiiihiaaaGreatDoor
namespace Go.Proofs.YtnmllfjiiihiaaaGreatDoor
open Go Go.RowKit Fr
set_option linter.unusedVariables false
set_option maxRecDepth 20000
theorem ev0 (g : Int → Int) : Agree (PA_0 g 0) (PB_0 g 8) 0 0 ∧
  Agree (RA_0 g 0) (RB_0 g 8) 0 0 ∧
  Agree (PA_0 g 1) (PB_0 g 12) 0 0 ∧
  Agree (RA_0 g 1) (RB_0 g 12) 0 0 ∧
  Agree (PA_0 g 2) (PB_0 g 16) 0 0 ∧
  Agree (RA_0 g 2) (RB_0 g 16) 0 0 ∧
  Agree (PA_0 g 3) (PB_0 g 20) 0 0 ∧
  Agree (RA_0 g 3) (RB_0 g 20) 0 0 ∧
  Agree (PA_0 g 5) (PB_0 g 28) 0 0 ∧
  Agree (RA_0 g 5) (RB_0 g 28) 0 0 ∧
  Agree (PA_0 g 7) (PB_0 g 36) 0 0 ∧
  Agree (RA_0 g 7) (RB_0 g 36) 0 0 ∧
  Agree (PA_0 g 10) (PB_0 g 48) 0 0 ∧
  Agree (RA_0 g 10) (RB_0 g 48) 0 0 ∧
  Agree (PA_0 g 14) (PB_0 g 64) 0 0 ∧
  Agree (RA_0 g 14) (RB_0 g 64) 0 0 ∧
  Agree (PA_0 g 19) (PB_0 g 84) 0 0 ∧
  Agree (RA_0 g 19) (RB_0 g 84) 0 0 ∧
  Agree (PA_0 g 26) (PB_0 g 112) 0 0 ∧
  Agree (RA_0 g 26) (RB_0 g 112) 0 0 ∧
  Agree (PA_0 g 35) (PB_0 g 148) 0 0 ∧
  Agree (RA_0 g 35) (RB_0 g 148) 0 0 ∧
  Agree (PA_0 g 47) (PB_0 g 196) 0 0 ∧
  Agree (RA_0 g 47) (RB_0 g 196) 0 0 ∧
  Agree (PA_0 g 63) (PB_0 g 260) 0 0 ∧
  Agree (RA_0 g 63) (RB_0 g 260) 0 0 ∧
  Agree (PA_0 g 85) (PB_0 g 348) 0 0 ∧
  Agree (RA_0 g 85) (RB_0 g 348) 0 0 ∧
  Agree (PA_0 g 114) (PB_0 g 464) 0 0 ∧
  Agree (RA_0 g 114) (RB_0 g 464) 0 0 ∧
  Agree (PA_0 g 153) (PB_0 g 620) 0 0 ∧
  Agree (RA_0 g 153) (RB_0 g 620) 0 0 :=
  ⟨agree0, agree0, agree0, agree0, agree0, agree0, agree0, agree0, agree0, agree0, agree0, agree0, agree0, agree0, agree0, agree0, agree0, agree0, agree0, agree0, agree0, agree0, agree0, agree0, agree0, agree0, agree0, agree0, agree0, agree0, agree0, agree0⟩
theorem all0 {xs : List Int} (h : xs.length ≤ 100) : l23_alike txt0 xs = some true := by
  obtain ⟨E0, E1, E2, E3, E4, E5, E6, E7, E8, E9, E10, E11, E12, E13, E14, E15, E16, E17, E18, E19, E20, E21, E22, E23, E24, E25, E26, E27, E28, E29, E30, E31⟩ := ev0 (gOf xs)
  exact alike0 ⟨fg0 0 h E0 E1, fg0 1 h E2 E3, fg0 2 h E4 E5, fg0 3 h E6 E7, fg0 5 h E8 E9, fg0 7 h E10 E11, fg0 10 h E12 E13, fg0 14 h E14 E15, fg0 19 h E16 E17, fg0 26 h E18 E19, fg0 35 h E20 E21, fg0 47 h E22 E23, fg0 63 h E24 E25, fg0 85 h E26 E27, fg0 114 h E28 E29, fg0 153 h E30 E31⟩
end Go.Proofs.YtnmllfjiiihiaaaGreatDoor
namespace Go.Proofs.YtnmllfjiiihiaaaGreatDoor
open Go Go.RowKit Fr
set_option linter.unusedVariables false
set_option maxRecDepth 20000
theorem ev1 (g : Int → Int) : Agree (PA_1 g 0) (PB_1 g 8) 0 0 ∧
  Agree (RA_1 g 0) (RB_1 g 8) 0 0 ∧
  Agree (PA_1 g 1) (PB_1 g 12) 0 0 ∧
  Agree (RA_1 g 1) (RB_1 g 12) 0 0 ∧
  Agree (PA_1 g 2) (PB_1 g 16) 0 0 ∧
  Agree (RA_1 g 2) (RB_1 g 16) 0 0 ∧
  Agree (PA_1 g 3) (PB_1 g 20) 0 0 ∧
  Agree (RA_1 g 3) (RB_1 g 20) 0 0 ∧
  Agree (PA_1 g 5) (PB_1 g 28) 0 0 ∧
  Agree (RA_1 g 5) (RB_1 g 28) 0 0 ∧
  Agree (PA_1 g 7) (PB_1 g 36) 0 0 ∧
  Agree (RA_1 g 7) (RB_1 g 36) 0 0 ∧
  Agree (PA_1 g 10) (PB_1 g 48) 0 0 ∧
  Agree (RA_1 g 10) (RB_1 g 48) 0 0 ∧
  Agree (PA_1 g 14) (PB_1 g 64) 0 0 ∧
  Agree (RA_1 g 14) (RB_1 g 64) 0 0 ∧
  Agree (PA_1 g 19) (PB_1 g 84) 0 0 ∧
  Agree (RA_1 g 19) (RB_1 g 84) 0 0 ∧
  Agree (PA_1 g 26) (PB_1 g 112) 0 0 ∧
  Agree (RA_1 g 26) (RB_1 g 112) 0 0 ∧
  Agree (PA_1 g 35) (PB_1 g 148) 0 0 ∧
  Agree (RA_1 g 35) (RB_1 g 148) 0 0 ∧
  Agree (PA_1 g 47) (PB_1 g 196) 0 0 ∧
  Agree (RA_1 g 47) (RB_1 g 196) 0 0 ∧
  Agree (PA_1 g 63) (PB_1 g 260) 0 0 ∧
  Agree (RA_1 g 63) (RB_1 g 260) 0 0 ∧
  Agree (PA_1 g 85) (PB_1 g 348) 0 0 ∧
  Agree (RA_1 g 85) (RB_1 g 348) 0 0 ∧
  Agree (PA_1 g 114) (PB_1 g 464) 0 0 ∧
  Agree (RA_1 g 114) (RB_1 g 464) 0 0 ∧
  Agree (PA_1 g 153) (PB_1 g 620) 0 0 ∧
  Agree (RA_1 g 153) (RB_1 g 620) 0 0 :=
  ⟨agree0, agree0, agree0, agree0, agree0, agree0, agree0, agree0, agree0, agree0, agree0, agree0, agree0, agree0, agree0, agree0, agree0, agree0, agree0, agree0, agree0, agree0, agree0, agree0, agree0, agree0, agree0, agree0, agree0, agree0, agree0, agree0⟩
theorem all1 {xs : List Int} (h : xs.length ≤ 100) : l23_alike txt1 xs = some true := by
  obtain ⟨E0, E1, E2, E3, E4, E5, E6, E7, E8, E9, E10, E11, E12, E13, E14, E15, E16, E17, E18, E19, E20, E21, E22, E23, E24, E25, E26, E27, E28, E29, E30, E31⟩ := ev1 (gOf xs)
  exact alike1 ⟨fg1 0 h E0 E1, fg1 1 h E2 E3, fg1 2 h E4 E5, fg1 3 h E6 E7, fg1 5 h E8 E9, fg1 7 h E10 E11, fg1 10 h E12 E13, fg1 14 h E14 E15, fg1 19 h E16 E17, fg1 26 h E18 E19, fg1 35 h E20 E21, fg1 47 h E22 E23, fg1 63 h E24 E25, fg1 85 h E26 E27, fg1 114 h E28 E29, fg1 153 h E30 E31⟩
end Go.Proofs.YtnmllfjiiihiaaaGreatDoor
namespace Go.Proofs.YtnmllfjiiihiaaaGreatDoor
open Go Go.RowKit Fr
set_option linter.unusedVariables false
set_option maxRecDepth 20000
theorem ev2 (g : Int → Int) : Agree (PA_2 g 0) (PB_2 g 8) 0 0 ∧
  Agree (RA_2 g 0) (RB_2 g 8) 0 0 ∧
  Agree (PA_2 g 1) (PB_2 g 12) 0 0 ∧
  Agree (RA_2 g 1) (RB_2 g 12) 0 0 ∧
  Agree (PA_2 g 2) (PB_2 g 16) 0 0 ∧
  Agree (RA_2 g 2) (RB_2 g 16) 0 0 ∧
  Agree (PA_2 g 3) (PB_2 g 20) 0 0 ∧
  Agree (RA_2 g 3) (RB_2 g 20) 0 0 ∧
  Agree (PA_2 g 5) (PB_2 g 28) 0 0 ∧
  Agree (RA_2 g 5) (RB_2 g 28) 0 0 ∧
  Agree (PA_2 g 7) (PB_2 g 36) 0 0 ∧
  Agree (RA_2 g 7) (RB_2 g 36) 0 0 ∧
  Agree (PA_2 g 10) (PB_2 g 48) 0 0 ∧
  Agree (RA_2 g 10) (RB_2 g 48) 0 0 ∧
  Agree (PA_2 g 14) (PB_2 g 64) 0 0 ∧
  Agree (RA_2 g 14) (RB_2 g 64) 0 0 ∧
  Agree (PA_2 g 19) (PB_2 g 84) 0 0 ∧
  Agree (RA_2 g 19) (RB_2 g 84) 0 0 ∧
  Agree (PA_2 g 26) (PB_2 g 112) 0 0 ∧
  Agree (RA_2 g 26) (RB_2 g 112) 0 0 ∧
  Agree (PA_2 g 35) (PB_2 g 148) 0 0 ∧
  Agree (RA_2 g 35) (RB_2 g 148) 0 0 ∧
  Agree (PA_2 g 47) (PB_2 g 196) 0 0 ∧
  Agree (RA_2 g 47) (RB_2 g 196) 0 0 ∧
  Agree (PA_2 g 63) (PB_2 g 260) 0 0 ∧
  Agree (RA_2 g 63) (RB_2 g 260) 0 0 ∧
  Agree (PA_2 g 85) (PB_2 g 348) 0 0 ∧
  Agree (RA_2 g 85) (RB_2 g 348) 0 0 ∧
  Agree (PA_2 g 114) (PB_2 g 464) 0 0 ∧
  Agree (RA_2 g 114) (RB_2 g 464) 0 0 ∧
  Agree (PA_2 g 153) (PB_2 g 620) 0 0 ∧
  Agree (RA_2 g 153) (RB_2 g 620) 0 0 :=
  ⟨agree0, agree0, agree0, agree0, agree0, agree0, agree0, agree0, agree0, agree0, agree0, agree0, agree0, agree0, agree0, agree0, agree0, agree0, agree0, agree0, agree0, agree0, agree0, agree0, agree0, agree0, agree0, agree0, agree0, agree0, agree0, agree0⟩
theorem all2 {xs : List Int} (h : xs.length ≤ 100) : l23_alike txt2 xs = some true := by
  obtain ⟨E0, E1, E2, E3, E4, E5, E6, E7, E8, E9, E10, E11, E12, E13, E14, E15, E16, E17, E18, E19, E20, E21, E22, E23, E24, E25, E26, E27, E28, E29, E30, E31⟩ := ev2 (gOf xs)
  exact alike2 ⟨fg2 0 h E0 E1, fg2 1 h E2 E3, fg2 2 h E4 E5, fg2 3 h E6 E7, fg2 5 h E8 E9, fg2 7 h E10 E11, fg2 10 h E12 E13, fg2 14 h E14 E15, fg2 19 h E16 E17, fg2 26 h E18 E19, fg2 35 h E20 E21, fg2 47 h E22 E23, fg2 63 h E24 E25, fg2 85 h E26 E27, fg2 114 h E28 E29, fg2 153 h E30 E31⟩
end Go.Proofs.YtnmllfjiiihiaaaGreatDoor
namespace Go.Proofs.YtnmllfjiiihiaaaGreatDoor
open Go Go.RowKit Fr
set_option linter.unusedVariables false
set_option maxRecDepth 20000
def sev : List (List Int) := [[], [3, 4, 0], [5, 1, 2, 0, 7, 7, 0], [1, 0, 0], [4294967295, 2147483648, 1], [250, 9, 9, 9], [65538, 2147450880, 5]]
theorem pure_BenchForever (x : T_Ask) (hx : Wf_Ask x) : l23_BenchForever x = some true := by
  have key : ∀ l : List (List Int), (∀ z ∈ l, z.length ≤ 100) → ∀ n : Nat, n + l.length ≤ 100 → ∀ p : List (List Int), p.length = n → loop (l23_BenchForever_b1 (p ++ l)) (n : Int) = some true := by
    intro l
    induction l with
    | nil =>
      intro _ n hn p hp
      refine loop_done ?_
      rw [l23_BenchForever_b1, List.append_nil, hp, wakes_ok]
      simp
    | cons z l ih =>
      intro hl n hn p hp
      have a : at' (p ++ z :: l) (n : Int) = some z := by
        rw [at'_nat (by simp only [List.length_append, List.length_cons]; omega)]
        subst hp
        simp
      have b : l23_BenchForever_b1 (p ++ z :: l) (n : Int) = some (.next ((n + 1 : Nat) : Int)) := by
        have c : decide ((n : Int) < ((p ++ z :: l).length : Int)) = true := decide_eq_true (by simp only [List.length_append, List.length_cons]; omega)
        rw [l23_BenchForever_b1, c, a]
        have r0 : l23_alike (ByteArray.mk #[109, 97, 105, 110, 58, 32, 105, 110, 32, 114, 49, 10, 97, 100, 100, 32, 114, 50, 44, 32, 114, 50, 44, 32, 114, 49, 10, 111, 117, 116, 32, 114, 50, 10, 106, 109, 112, 32, 109, 97, 105, 110]) z = some true := all0 (hl z List.mem_cons_self)
        have r1 : l23_alike (ByteArray.mk #[109, 97, 105, 110, 58, 32, 97, 100, 100, 105, 32, 114, 49, 44, 32, 114, 49, 44, 32, 49, 10, 109, 117, 108, 32, 114, 50, 44, 32, 114, 49, 44, 32, 114, 49, 10, 111, 117, 116, 32, 114, 50, 10, 97, 58, 32, 106, 109, 112, 32, 98, 10, 98, 58, 32, 98, 110, 122, 32, 114, 49, 44, 32, 109, 97, 105, 110, 10, 106, 109, 112, 32, 97]) z = some true := all1 (hl z List.mem_cons_self)
        have r2 : l23_alike (ByteArray.mk #[109, 97, 105, 110, 58, 32, 106, 109, 112, 32, 109, 97, 105, 110]) z = some true := all2 (hl z List.mem_cons_self)
        simp only [cond_true, Option.bind_some, r0, r1, r2, Bool.not_true, cond_false]
        rw [wrap_nat (by simp only [List.length_cons] at hn; omega)]
      rw [loop_next b, show p ++ z :: l = (p ++ [z]) ++ l by simp]
      exact ih (fun z hz => hl z (List.mem_cons_of_mem _ hz)) (n + 1) (by simp only [List.length_cons] at hn; omega) (p ++ [z]) (by simp [hp])
  have h7 : ∀ z ∈ sev, z.length ≤ 100 := by decide
  rw [l23_BenchForever]
  by_cases h : x.In_.length ≤ 100
  · have e : l23_ins x = some (sev ++ [x.In_]) := by
      rw [l23_ins, decide_eq_true (show (x.In_.length : Int) ≤ 100 by omega)]; rfl
    rw [e, Option.bind_some]
    exact key (sev ++ [x.In_]) (fun z hz => by
      rcases List.mem_append.1 hz with hz | hz
      · exact h7 z hz
      · rw [List.mem_singleton] at hz; subst hz; exact h) 0 (by simp [sev]) [] rfl
  · have e : l23_ins x = some sev := by
      rw [l23_ins, decide_eq_false (show ¬ (x.In_.length : Int) ≤ 100 by omega)]; rfl
    rw [e, Option.bind_some]
    exact key sev h7 0 (by decide) [] rfl
end Go.Proofs.YtnmllfjiiihiaaaGreatDoor
