/- Ops of pairs always tell something. -/
import Derived.Test.YtgakgpbmcbegbaaGreatDoorBase
import Derived.Test.YtgakgpbmcbegbaaGreatDoorFloat
import Derived.KernelRfl
namespace Go.Proofs.YtgakgpbmcbegbaaGreatDoor
open Go Fr
set_option linter.unusedVariables false
set_option linter.unusedSimpArgs false
set_option maxRecDepth 20000
theorem i16_eq (n : Int) : IntKind.i16.wrap n = if 32768 ≤ n % 65536 then n % 65536 - 65536 else n % 65536 := by
  simp only [IntKind.wrap, IntKind.bits, IntKind.signed]
  simp only [Int.reducePow, Nat.reduceSub, Bool.true_and, decide_eq_true_eq, ge_iff_le]
theorem i16_range (n : Int) : -32768 ≤ IntKind.i16.wrap n ∧ IntKind.i16.wrap n ≤ 32767 := by rw [i16_eq]; split <;> omega
theorem i64_i16 (n : Int) : IntKind.i64.wrap (IntKind.i16.wrap n) = IntKind.i16.wrap n := by
  have := i16_range n
  exact wrap_i64 (by omega) (by omega)
theorem parts_pair (a : Int) : pair_Parts a = some (IntKind.i16.wrap a, IntKind.i16.wrap (a.fdiv (2 ^ 16))) := by
  simp only [pair_Parts, shr', i64_i16]
  rfl
theorem make_u (a b : Int) : ∃ v, pair_Make a b = some v := by
  have h : ∀ n : Int, shl' .u32 n 16 = some (IntKind.u32.wrap (n * 2 ^ 16)) := fun n => rfl
  refine ⟨bits .or .u32 (IntKind.u32.wrap (IntKind.u16.wrap a)) (IntKind.u32.wrap (IntKind.u32.wrap (IntKind.u16.wrap b) * 2 ^ 16)), ?_⟩
  simp only [pair_Make, h, Option.bind_some]
theorem packed_of {x y : Nat} {n m : Int} (hx : Fl.FI x n) (hy : Fl.FI y m) (hn : n.natAbs < 2 ^ 53) (hm : m.natAbs < 2 ^ 53) : pair_packed (x, y) = pair_Make n m := by
  simp only [pair_packed, hx.toInt hn, hy.toInt hm, Option.bind_some]
  cases pair_Make n m <;> rfl
theorem small_mul {p q : Int} (hp : -32768 ≤ p ∧ p ≤ 32767) (hq : -32768 ≤ q ∧ q ≤ 32767) : (p * q).natAbs ≤ 1073741824 := by
  rw [Int.natAbs_mul]
  exact Nat.mul_le_mul (show p.natAbs ≤ 32768 by omega) (show q.natAbs ≤ 32768 by omega)
theorem pair_some {op a b : Int} (ho : 18 ≤ op ∧ op ≤ 21) : ∃ v, pair_Of op a b = some (v, 0) := by
  have i1 := i16_range a
  have i2 := i16_range (a.fdiv (2 ^ 16))
  have i3 := i16_range b
  have i4 := i16_range (b.fdiv (2 ^ 16))
  simp only [pair_Of, pair_number, parts_pair, Option.bind_some]
  generalize IntKind.i16.wrap a = p at *
  generalize IntKind.i16.wrap (a.fdiv (2 ^ 16)) = q at *
  generalize IntKind.i16.wrap b = r at *
  generalize IntKind.i16.wrap (b.fdiv (2 ^ 16)) = s at *
  have f1 := Fl.FI.of_int (n := p) (by omega)
  have f2 := Fl.FI.of_int (n := q) (by omega)
  have f3 := Fl.FI.of_int (n := r) (by omega)
  have f4 := Fl.FI.of_int (n := s) (by omega)
  generalize FloatKind.f64.nearest p = x1 at *
  generalize FloatKind.f64.nearest q = x2 at *
  generalize FloatKind.f64.nearest r = x3 at *
  generalize FloatKind.f64.nearest s = x4 at *
  rcases (show op = 18 ∨ op = 19 ∨ op = 20 ∨ op = 21 by omega) with rfl | rfl | rfl | rfl
  · obtain ⟨v1, g1, k1⟩ := f1.add f3 (by omega) (by omega) (by omega)
    obtain ⟨v2, g2, k2⟩ := f2.add f4 (by omega) (by omega) (by omega)
    obtain ⟨v, hm⟩ := make_u (p + r) (q + s)
    have hc : cSumBits .add .f64 x1 x2 x3 x4 = some (v1, v2) := by simp [cSumBits, floatBits, g1, g2]
    exact ⟨v, by simp [hc, packed_of k1 k2 (by omega) (by omega), hm]⟩
  · obtain ⟨v1, g1, k1⟩ := f1.sub f3 (by omega) (by omega) (by omega)
    obtain ⟨v2, g2, k2⟩ := f2.sub f4 (by omega) (by omega) (by omega)
    obtain ⟨v, hm⟩ := make_u (p - r) (q - s)
    have hc : cSumBits .sub .f64 x1 x2 x3 x4 = some (v1, v2) := by simp [cSumBits, floatBits, g1, g2]
    exact ⟨v, by simp [hc, packed_of k1 k2 (by omega) (by omega), hm]⟩
  · have n1 := small_mul i1 i3
    have n2 := small_mul i2 i4
    have n3 := small_mul i1 i4
    have n4 := small_mul i2 i3
    obtain ⟨v1, g1, k1⟩ := f1.mul f3 (by omega) (by omega) (by omega)
    obtain ⟨v2, g2, k2⟩ := f2.mul f4 (by omega) (by omega) (by omega)
    obtain ⟨v3, g3, k3⟩ := f1.mul f4 (by omega) (by omega) (by omega)
    obtain ⟨v4, g4, k4⟩ := f2.mul f3 (by omega) (by omega) (by omega)
    obtain ⟨v5, g5, k5⟩ := k1.sub k2 (by omega) (by omega) (by omega)
    obtain ⟨v6, g6, k6⟩ := k3.add k4 (by omega) (by omega) (by omega)
    obtain ⟨v, hm⟩ := make_u (p * r - q * s) (p * s + q * r)
    have hc : cMulBits x1 x2 x3 x4 = some (v5, v6) := by simp [cMulBits, floatBits, g1, g2, g3, g4, g5, g6]
    exact ⟨v, by simp [hc, packed_of k5 k6 (by omega) (by omega), hm]⟩
  · have k2 := f2.neg
    obtain ⟨v, hm⟩ := make_u p (-q)
    exact ⟨v, by simp [pair_turned, packed_of f1 k2 (by omega) (by omega), hm]⟩
end Go.Proofs.YtgakgpbmcbegbaaGreatDoor
namespace Go.Proofs.YtgakgpbmcbegbaaGreatDoor
open Go Go.RowKit Fr
set_option linter.unusedVariables false
set_option maxRecDepth 20000
theorem traj_map {f : T_State → T_State} {b b' : T_State → Option T_State} (h : ∀ S, b (f S) = (b' S).map f) (S : T_State) : ∀ m, traj b (f S) m = (traj b' S m).map f
  | 0 => rfl
  | m + 1 => by
    rw [traj_s, traj_s, traj_map h S m]
    cases traj b' S m with
    | none => rfl
    | some u => exact h u
theorem stp_map {xs : List Int} {b b' : T_State → Option T_State} (h : ∀ S, b (fz xs S) = (b' S).map (fz xs)) (S : T_State) : stp live b (fz xs S) = (stp live b' S).map (fz xs) := by
  unfold stp
  rw [show live (fz xs S) = live S from rfl]
  cases live S with
  | true => exact h S
  | false => rfl
theorem agree_map {xs : List Int} {A B : Option T_State} {sa sb : Int} (H : Agree A B sa sb) : Agree (A.map (fz xs)) (B.map (fz xs)) sa sb := by
  obtain ⟨a, b, rfl, rfl, h1, h2, h3, h4, h5⟩ := H
  refine ⟨fz xs a, fz xs b, rfl, rfl, h1, h2, h3, h4, ?_⟩
  rcases h5 with h5 | ⟨q1, q2, m, o, t, r, l1, l2⟩
  · exact .inl h5
  · exact .inr ⟨q1, q2, m, o, congrArg (fun z => min z (xs.length : Int)) t, r, l1, l2⟩
theorem fz_st0 (data : List Int) (pc : Int) (xs : List Int) : st0 data pc xs = fz xs (st0 data pc []) := by
  unfold st0 fz
  rw [show min (0 : Int) (xs.length : Int) = 0 by omega]
noncomputable def rcyG (g : Int → Int) (c : List (A4 T_Ins)) (s : T_State) : Option T_State := (r5_lands s).bind fun D0 => (r5_find c D0).bind fun Y0 => bif decide (0 ≤ Y0) then none else G_r5_issue (doG g) c D0
theorem rcy_map {xs : List Int} (h : xs.length ≤ 100) (c : List (A4 T_Ins)) (S : T_State) : rcy c (fz xs S) = (rcyG (gOf xs) c S).map (fz xs) := by
  simp only [rcy, rcyG, rlands_map, bind_of_map, find_same, map_bind, map_cond, Option.map_none, G_r5_issue_eq, rissue_map h]
/-- Ops of pairs are told at once. -/
noncomputable def actP (pv : Int → Int → Int → Int) (g : Int → Int) (S : T_State) (i : T_Ins) (a b : Int) : Option (T_State × Int × Int) := bif pair_Has i.Op then some (S, pv i.Op a b, 0) else actG g S i a b
noncomputable def pvF (op a b : Int) : Int := ((pair_Of op a b).getD (0, 0)).1
theorem actP_eq (g : Int → Int) : actG g = actP pvF g := by
  funext S i a b
  cases e : pair_Has i.Op with
  | true =>
    have q : 18 ≤ i.Op ∧ i.Op ≤ 21 := by
      rw [pair_Has] at e
      by_cases q1 : 18 ≤ i.Op
      · rw [decide_eq_true q1, cond_true] at e; exact ⟨q1, of_decide_eq_true e⟩
      · rw [decide_eq_false q1, cond_false] at e; cases e
    obtain ⟨v, hv⟩ := pair_some (a := a) (b := b) q
    rw [actP, e, cond_true, actG, decide_eq_false (by omega), cond_false, seq_Act, e, cond_true, pvF, hv]
    rfl
  | false => rw [actP, e, cond_false]
noncomputable def doP (pv : Int → Int → Int → Int) (g : Int → Int) (S : T_State) (i : T_Ins) (a b c : Int) : Option (T_State × T_deed) := bif r1_Paired i.Op then some (S, ⟨true, pv i.Op a b, false, 0, 0⟩) else doG g S i a b c
noncomputable def rvF (op a b : Int) : Int := (r1_Pair op a b).getD 0
theorem r1_some (op a b : Int) : ∃ v, r1_Pair op a b = some v := by
  have h1 : ∀ x : Int, ∃ y, r1_Parts x = some y := fun x => ⟨_, rfl⟩
  have h2 : ∀ x y : Int, ∃ z, r1_Make x y = some z := fun x y => ⟨_, rfl⟩
  obtain ⟨p, hp⟩ := h1 a
  obtain ⟨q, hq⟩ := h1 b
  have h3 : ∀ x y : Int, (r1_Make x y).bind (fun r => some r) = r1_Make x y := fun x y => by cases r1_Make x y <;> rfl
  simp only [r1_Pair, hp, hq, Option.bind_some, h3]
  cases decide (op = 18) <;> cases decide (op = 19) <;> cases decide (op = 20) <;> exact h2 _ _
theorem doP_eq (g : Int → Int) : doG g = doP rvF g := by
  funext S i a b c
  cases e : r1_Paired i.Op with
  | true =>
    have q : 18 ≤ i.Op ∧ i.Op ≤ 21 := by
      rw [r1_Paired, r0_Between] at e
      by_cases q1 : 18 ≤ i.Op
      · rw [decide_eq_true q1, cond_true] at e; exact ⟨q1, of_decide_eq_true e⟩
      · rw [decide_eq_false q1, cond_false] at e; cases e
    have w : r1_Has i.Op = false := by
      rw [r1_Has, r0_Between, decide_eq_true (show 1 ≤ i.Op by omega), cond_true, decide_eq_false (by omega)]
    obtain ⟨v, hv⟩ := r1_some i.Op a b
    rw [doP, e, cond_true, doG, decide_eq_false (by omega), cond_false, r5_do, w, e, rvF, hv]
    rfl
  | false => rw [doP, e, cond_false]
noncomputable def rcyP (pv : Int → Int → Int → Int) (g : Int → Int) (c : List (A4 T_Ins)) (s : T_State) : Option T_State := (r5_lands s).bind fun D0 => (r5_find c D0).bind fun Y0 => bif decide (0 ≤ Y0) then none else G_r5_issue (doP pv g) c D0
theorem rcyP_eq (g : Int → Int) : rcyG g = rcyP rvF g := by
  unfold rcyG rcyP
  rw [doP_eq]
noncomputable abbrev PA_0 (pv : Int → Int → Int → Int) (g : Int → Int) (m : Nat) : Option T_State := traj (stp live (G_seq_step (actP pv g) flx0.Code)) (sF0 []) m
noncomputable abbrev PB_0 (pv : Int → Int → Int → Int) (g : Int → Int) (m : Nat) : Option T_State := traj (stp live (G_hazard_Go (actP pv g) imx0.Code)) (sX0 []) m
noncomputable abbrev RA_0 (pv : Int → Int → Int → Int) (g : Int → Int) (m : Nat) : Option T_State := traj (stp live (G_r5_step (doP pv g) flx0.Code)) (sF0 []) m
noncomputable abbrev RB_0 (pv : Int → Int → Int → Int) (g : Int → Int) (m : Nat) : Option T_State := traj (stp live (rcyP pv g imx0.Code)) (sX0 []) m
theorem fg0 {xs : List Int} {sa sb : Int} {ma mb : Nat} (n : Nat) (h : xs.length ≤ 100) (H1 : Agree (PA_0 pvF (gOf xs) ma) (PB_0 pvF (gOf xs) mb) sa sb) (H2 : Agree (RA_0 rvF (gOf xs) ma) (RB_0 rvF (gOf xs) mb) sa sb)
    (hn : n ≤ 200 := by decide) (ea : ma ≤ n := by decide) (eb : mb ≤ 4 * n + 8 := by decide) (fa : ma = n ∨ sa ≠ 0 := by decide) (fb : mb = 4 * n + 8 ∨ sb ≠ 0 := by decide) : Fine imx0 flx0 (n : Int) xs := by
  refine fine0 (n := n) (ma := ma) (mb := mb) h ?_ ?_ hn ea eb fa fb
  · unfold PA_0 PB_0 at H1
    rw [← actP_eq] at H1
    have q := agree_map (xs := xs) H1
    rw [← traj_map (stp_map (step_map h flx0.Code)), ← traj_map (stp_map (haz_map h imx0.Code)), ← fz_st0, ← fz_st0] at q
    exact q
  · unfold RA_0 RB_0 at H2
    rw [← rcyP_eq, ← doP_eq] at H2
    have q := agree_map (xs := xs) H2
    rw [← traj_map (stp_map (rstep_map h flx0.Code)), ← traj_map (stp_map (rcy_map h imx0.Code)), ← fz_st0, ← fz_st0] at q
    exact q
end Go.Proofs.YtgakgpbmcbegbaaGreatDoor
namespace Go.Proofs.YtgakgpbmcbegbaaGreatDoor
open Go Go.RowKit Fr
set_option linter.unusedVariables false
set_option maxRecDepth 20000
theorem ev0 (pv : Int → Int → Int → Int) (rv : Int → Int → Int → Int) (g : Int → Int) : Agree (PA_0 pv g 0) (PB_0 pv g 8) 0 0 ∧
  Agree (RA_0 rv g 0) (RB_0 rv g 8) 0 0 ∧
  Agree (PA_0 pv g 1) (PB_0 pv g 12) 0 0 ∧
  Agree (RA_0 rv g 1) (RB_0 rv g 12) 0 0 ∧
  Agree (PA_0 pv g 2) (PB_0 pv g 16) 0 0 ∧
  Agree (RA_0 rv g 2) (RB_0 rv g 16) 0 0 ∧
  Agree (PA_0 pv g 3) (PB_0 pv g 20) 0 0 ∧
  Agree (RA_0 rv g 3) (RB_0 rv g 20) 0 0 ∧
  Agree (PA_0 pv g 5) (PB_0 pv g 28) 0 0 ∧
  Agree (RA_0 rv g 5) (RB_0 rv g 28) 0 0 ∧
  Agree (PA_0 pv g 7) (PB_0 pv g 36) 0 0 ∧
  Agree (RA_0 rv g 7) (RB_0 rv g 36) 0 0 ∧
  Agree (PA_0 pv g 10) (PB_0 pv g 48) 0 1 ∧
  Agree (RA_0 rv g 10) (RB_0 rv g 48) 0 1 ∧
  Agree (PA_0 pv g 14) (PB_0 pv g 48) 0 1 ∧
  Agree (RA_0 rv g 14) (RB_0 rv g 48) 0 1 ∧
  Agree (PA_0 pv g 19) (PB_0 pv g 48) 0 1 ∧
  Agree (RA_0 rv g 19) (RB_0 rv g 48) 0 1 ∧
  Agree (PA_0 pv g 26) (PB_0 pv g 48) 0 1 ∧
  Agree (RA_0 rv g 26) (RB_0 rv g 48) 0 1 ∧
  Agree (PA_0 pv g 35) (PB_0 pv g 48) 0 1 ∧
  Agree (RA_0 rv g 35) (RB_0 rv g 48) 0 1 ∧
  Agree (PA_0 pv g 44) (PB_0 pv g 48) 1 1 ∧
  Agree (RA_0 rv g 44) (RB_0 rv g 48) 1 1 ∧
  Agree (PA_0 pv g 44) (PB_0 pv g 48) 1 1 ∧
  Agree (RA_0 rv g 44) (RB_0 rv g 48) 1 1 ∧
  Agree (PA_0 pv g 44) (PB_0 pv g 48) 1 1 ∧
  Agree (RA_0 rv g 44) (RB_0 rv g 48) 1 1 ∧
  Agree (PA_0 pv g 44) (PB_0 pv g 48) 1 1 ∧
  Agree (RA_0 rv g 44) (RB_0 rv g 48) 1 1 ∧
  Agree (PA_0 pv g 44) (PB_0 pv g 48) 1 1 ∧
  Agree (RA_0 rv g 44) (RB_0 rv g 48) 1 1 :=
  ⟨agree0, agree0, agree0, agree0, agree0, agree0, agree0, agree0, agree0, agree0, agree0, agree0, agree0, agree0, agree0, agree0, agree0, agree0, agree0, agree0, agree0, agree0, agree1, agree1, agree1, agree1, agree1, agree1, agree1, agree1, agree1, agree1⟩
theorem all0 {xs : List Int} (h : xs.length ≤ 100) : l23_alike txt0 xs = some true := by
  obtain ⟨E0, E1, E2, E3, E4, E5, E6, E7, E8, E9, E10, E11, E12, E13, E14, E15, E16, E17, E18, E19, E20, E21, E22, E23, E24, E25, E26, E27, E28, E29, E30, E31⟩ := ev0 pvF rvF (gOf xs)
  exact alike0 ⟨fg0 0 h E0 E1, fg0 1 h E2 E3, fg0 2 h E4 E5, fg0 3 h E6 E7, fg0 5 h E8 E9, fg0 7 h E10 E11, fg0 10 h E12 E13, fg0 14 h E14 E15, fg0 19 h E16 E17, fg0 26 h E18 E19, fg0 35 h E20 E21, fg0 47 h E22 E23, fg0 63 h E24 E25, fg0 85 h E26 E27, fg0 114 h E28 E29, fg0 153 h E30 E31⟩
end Go.Proofs.YtgakgpbmcbegbaaGreatDoor
namespace Go.Proofs.YtgakgpbmcbegbaaGreatDoor
open Go Go.RowKit Fr
set_option linter.unusedVariables false
set_option maxRecDepth 20000
def sev : List (List Int) := [[], [3, 4, 0], [5, 1, 2, 0, 7, 7, 0], [1, 0, 0], [4294967295, 2147483648, 1], [250, 9, 9, 9], [65538, 2147450880, 5]]
theorem pure_BenchPairs (x : T_Ask) (hx : Wf_Ask x) : l23_BenchPairs x = some true := by
  have key : ∀ l : List (List Int), (∀ z ∈ l, z.length ≤ 100) → ∀ n : Nat, n + l.length ≤ 100 → ∀ p : List (List Int), p.length = n → loop (l23_BenchPairs_b1 (p ++ l)) (n : Int) = some true := by
    intro l
    induction l with
    | nil =>
      intro _ n hn p hp
      refine loop_done ?_
      rw [l23_BenchPairs_b1, List.append_nil, hp, wakes_ok]
      simp
    | cons z l ih =>
      intro hl n hn p hp
      have a : at' (p ++ z :: l) (n : Int) = some z := by
        rw [at'_nat (by simp only [List.length_append, List.length_cons]; omega)]
        subst hp
        simp
      have b : l23_BenchPairs_b1 (p ++ z :: l) (n : Int) = some (.next ((n + 1 : Nat) : Int)) := by
        have c : decide ((n : Int) < ((p ++ z :: l).length : Int)) = true := decide_eq_true (by simp only [List.length_append, List.length_cons]; omega)
        rw [l23_BenchPairs_b1, c, a]
        have r0 : l23_alike (ByteArray.mk #[109, 97, 105, 110, 58, 32, 108, 105, 32, 114, 49, 44, 32, 51, 10, 108, 105, 32, 114, 57, 44, 32, 54, 53, 53, 51, 54, 10, 108, 105, 32, 114, 50, 44, 32, 53, 10, 108, 111, 111, 112, 58, 32, 105, 110, 32, 114, 51, 10, 99, 97, 100, 100, 32, 114, 52, 44, 32, 114, 52, 44, 32, 114, 51, 10, 99, 109, 117, 108, 32, 114, 52, 44, 32, 114, 52, 44, 32, 114, 49, 10, 99, 111, 110, 106, 32, 114, 53, 44, 32, 114, 52, 10, 99, 115, 117, 98, 32, 114, 54, 44, 32, 114, 52, 44, 32, 114, 53, 10, 111, 117, 116, 32, 114, 54, 10, 97, 100, 100, 105, 32, 114, 50, 44, 32, 114, 50, 44, 32, 45, 49, 10, 98, 110, 122, 32, 114, 50, 44, 32, 108, 111, 111, 112, 10, 104, 97, 108, 116]) z = some true := all0 (hl z List.mem_cons_self)
        simp only [cond_true, Option.bind_some, r0, Bool.not_true, cond_false]
        rw [wrap_nat (by simp only [List.length_cons] at hn; omega)]
      rw [loop_next b, show p ++ z :: l = (p ++ [z]) ++ l by simp]
      exact ih (fun z hz => hl z (List.mem_cons_of_mem _ hz)) (n + 1) (by simp only [List.length_cons] at hn; omega) (p ++ [z]) (by simp [hp])
  have h7 : ∀ z ∈ sev, z.length ≤ 100 := by decide
  rw [l23_BenchPairs]
  by_cases h : x.In_.length ≤ 100
  · have e : l23_ins x = some (sev ++ [x.In_]) := by
      rw [l23_ins, decide_eq_true (show (x.In_.length : Int) ≤ 100 by omega)]; rfl
    rw [e, Option.bind_some]
    exact key (sev ++ [x.In_]) (fun z hz => by
      rcases List.mem_append.1 hz with hz | hz
      · exact h7 z hz
      · rw [List.mem_singleton] at hz; subst hz; exact h) 0 (by simp [sev]) [] rfl
  · have e : l23_ins x = some sev := by
      rw [l23_ins, decide_eq_false (show ¬ (x.In_.length : Int) ≤ 100 by omega)]; rfl
    rw [e, Option.bind_some]
    exact key sev h7 0 (by decide) [] rfl
end Go.Proofs.YtgakgpbmcbegbaaGreatDoor
