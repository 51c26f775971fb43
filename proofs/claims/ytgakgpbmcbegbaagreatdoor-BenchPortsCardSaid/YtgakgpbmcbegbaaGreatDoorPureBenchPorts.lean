/- BenchPorts: its deeds, told by tables. -/
import Derived.Test.YtgakgpbmcbegbaaGreatDoorBase
import Derived.KernelRfl
namespace Go.Proofs.YtgakgpbmcbegbaaGreatDoor
open Go Go.RowKit Fr
set_option linter.unusedVariables false
set_option linter.unusedSimpArgs false
set_option maxRecDepth 20000
theorem gOf_w {xs : List Int} (hw : ∀ w ∈ xs, 0 ≤ w ∧ w ≤ 4294967295) (t : Int) : 0 ≤ gOf xs t ∧ gOf xs t ≤ 4294967295 := by
  unfold gOf
  cases h : at' xs t with
  | none => exact ⟨by decide, by decide⟩
  | some v =>
    obtain ⟨hl, he⟩ := at'_lt h
    exact hw v (he ▸ List.getElem_mem hl)
theorem i32w {n : Int} (h0 : 0 ≤ n) (h1 : n ≤ 4294967295) : IntKind.i32.wrap n = if n < 2147483648 then n else n - 4294967296 := by
  simp only [IntKind.wrap, IntKind.bits, IntKind.signed]
  simp only [Int.reducePow, Nat.reduceSub, Bool.true_and, decide_eq_true_eq, ge_iff_le]
  split <;> split <;> omega
theorem i32nz {n : Int} (h0 : 0 ≤ n) (h1 : n ≤ 4294967295) (h : n ≠ 0) : IntKind.i32.wrap n ≠ 0 := by
  rw [i32w h0 h1]; split <;> omega
noncomputable def wvP (op x y : Int) : Int := ((word_Of op x y).getD (0, 0)).1
noncomputable def wvR (op x y : Int) : Int := ((r1_Of op x y).getD (0, true)).1
def incF (t : Int) : Int := 8 * t + 1
def tzJ (J : Nat) (c : Int) : Option Bool := bif decide (c % 8 = 1 ∧ 0 ≤ c) then bif decide (c / 8 < (J : Int)) then bif decide (c / 8 % 3 = 1) then none else some false else bif decide (c / 8 = (J : Int)) then some true else none else none
def dV (wv : Int → Int → Int → Int) (xs : List Int) (c : Int) : Int := bif decide (c % 8 = 1) then gOf xs (c / 8) else bif decide (c % 8 = 2) then wv 1 (gOf xs (c / 8)) (gOf xs (c / 8 + 1)) else bif decide (c % 8 = 3) then wv 14 (gOf xs (c / 8)) (gOf xs (c / 8 + 1)) else bif decide (c % 8 = 4) then wv 16 (gOf xs (c / 8 + 2)) (gOf xs (c / 8)) else 0
def M0 : List Int := cop (List.replicate 256 0) []
def mF (m : List Int) : List Int := bif decide (m = [0]) then M0 else []
theorem m_len (m : List Int) : (mF m).length ≤ 1000 := by
  have e : M0.length = 256 := by kernel_rfl
  unfold mF
  cases decide (m = [0])
  · exact Nat.zero_le _
  · rw [cond_true, e]; decide
def tldJ (J : Nat) (op imm a b : Int) (m : List Int) : Option (List Int × Int × Int) :=
  bif decide (op = 1 ∧ a % 8 = 1 ∧ b = a + 8) then some (m, a + 1, 0)
  else bif decide (op = 14 ∧ a % 8 = 1 ∧ b = a + 8) then some (m, a + 2, 0)
  else bif decide (op = 16 ∧ b % 8 = 1 ∧ a = b + 16) then (tzJ J b).bind fun z => bif z then some (m, 0, 3) else some (m, b + 3, 0)
  else none
/-- Up to J (each third one beside) no input is nought; J is. -/
def Case (xs : List Int) (J : Nat) : Prop := (∀ t, t < J → t % 3 ≠ 1 → gOf xs (t : Int) ≠ 0) ∧ gOf xs (J : Int) = 0
theorem d_in (wv : Int → Int → Int → Int) (xs : List Int) {a : Int} (h : a % 8 = 1) : dV wv xs a = gOf xs (a / 8) := by
  unfold dV
  rw [decide_eq_true h, cond_true]
theorem tz_ok {wv : Int → Int → Int → Int} {xs : List Int} {J : Nat} (hc : Case xs J) {a : Int} {z : Bool} (e : tzJ J a = some z) : a % 8 = 1 ∧ decide (gOf xs (a / 8) = 0) = z := by
  unfold tzJ at e
  by_cases h0 : a % 8 = 1 ∧ 0 ≤ a
  · rw [decide_eq_true h0, cond_true] at e
    refine ⟨h0.1, ?_⟩
    obtain ⟨n, hn⟩ := Int.eq_ofNat_of_zero_le (show 0 ≤ a / 8 by omega)
    rw [hn] at e ⊢
    by_cases h1 : (n : Int) < (J : Int)
    · rw [decide_eq_true h1, cond_true] at e
      by_cases h2 : (n : Int) % 3 = 1
      · rw [decide_eq_true h2] at e; cases e
      · rw [decide_eq_false h2] at e; cases e
        exact decide_eq_false (hc.1 n (by omega) (by omega))
    · rw [decide_eq_false h1, cond_false] at e
      by_cases h2 : (n : Int) = (J : Int)
      · rw [decide_eq_true h2] at e; cases e
        rw [h2]
        exact decide_eq_true hc.2
      · rw [decide_eq_false h2] at e; cases e
  · rw [decide_eq_false h0] at e; cases e
theorem told_F (wv : Int → Int → Int → Int) {xs : List Int} (h : xs.length ≤ 100) {J : Nat} (hc : Case xs J) : Told (dV wv xs) xs incF (tzJ J) where
  hl := h
  h0 := rfl
  hin t ht := by
    rw [d_in wv xs (by unfold incF; omega)]
    congr 1
    unfold incF; omega
  hz a z q := by
    obtain ⟨h1, h2⟩ := tz_ok (wv := wv) hc q
    rw [d_in wv xs h1]; exact h2
theorem d_sum (wv : Int → Int → Int → Int) (xs : List Int) {a : Int} (h : a % 8 = 1) : dV wv xs (a + 1) = wv 1 (gOf xs (a / 8)) (gOf xs (a / 8 + 1)) := by
  unfold dV
  rw [decide_eq_false (by omega), cond_false, decide_eq_true (show (a + 1) % 8 = 2 by omega), cond_true, show (a + 1) / 8 = a / 8 by omega]
theorem d_mul (wv : Int → Int → Int → Int) (xs : List Int) {a : Int} (h : a % 8 = 1) : dV wv xs (a + 2) = wv 14 (gOf xs (a / 8)) (gOf xs (a / 8 + 1)) := by
  unfold dV
  rw [decide_eq_false (by omega), cond_false, decide_eq_false (by omega), cond_false, decide_eq_true (show (a + 2) % 8 = 3 by omega), cond_true, show (a + 2) / 8 = a / 8 by omega]
theorem d_quo (wv : Int → Int → Int → Int) (xs : List Int) {b : Int} (h : b % 8 = 1) : dV wv xs (b + 3) = wv 16 (gOf xs (b / 8 + 2)) (gOf xs (b / 8)) := by
  unfold dV
  rw [decide_eq_false (by omega), cond_false, decide_eq_false (by omega), cond_false, decide_eq_false (by omega), cond_false, decide_eq_true (show (b + 3) % 8 = 4 by omega), cond_true, show (b + 3) / 8 = b / 8 by omega]
theorem d_next (wv : Int → Int → Int → Int) (xs : List Int) {a : Int} (h : a % 8 = 1) : dV wv xs (a + 8) = gOf xs (a / 8 + 1) := by
  rw [d_in wv xs (by omega), show (a + 8) / 8 = a / 8 + 1 by omega]
theorem d_next2 (wv : Int → Int → Int → Int) (xs : List Int) {a : Int} (h : a % 8 = 1) : dV wv xs (a + 16) = gOf xs (a / 8 + 2) := by
  rw [d_in wv xs (by omega), show (a + 16) / 8 = a / 8 + 2 by omega]
theorem w_sum (x y : Int) : word_Of 1 x y = some (wvP 1 x y, 0) := by
  have : ∃ v, word_Of 1 x y = some (v, 0) := by
    unfold word_Of
    cases decide (y = 0) <;> exact ⟨_, rfl⟩
  obtain ⟨v, hv⟩ := this
  rw [wvP, hv]; rfl
theorem w_mul (x y : Int) : word_Of 14 x y = some (wvP 14 x y, 0) := by
  have : ∃ v, word_Of 14 x y = some (v, 0) := by
    unfold word_Of
    cases decide (y = 0) <;> exact ⟨_, rfl⟩
  obtain ⟨v, hv⟩ := this
  rw [wvP, hv]; rfl
theorem w_quo {x y : Int} (h0 : 0 ≤ y) (h1 : y ≤ 4294967295) (h : y ≠ 0) : word_Of 16 x y = some (wvP 16 x y, 0) := by
  have n0 := i32nz h0 h1 h
  have : ∃ v, word_Of 16 x y = some (v, 0) := by
    refine ⟨IntKind.u32.wrap (IntKind.i32.wrap ((IntKind.i32.wrap x).tdiv (IntKind.i32.wrap y))), ?_⟩
    simp [word_Of, word_product, quo', h, n0, show word_Has 16 = true from rfl]
  obtain ⟨v, hv⟩ := this
  rw [wvP, hv]; rfl
theorem w_nought (x : Int) : word_Of 16 x 0 = some (0, 7) := rfl
theorem r_sum (x y : Int) : r1_Of 1 x y = some (wvR 1 x y, true) := rfl
theorem r_mul (x y : Int) : r1_Of 14 x y = some (wvR 14 x y, true) := rfl
theorem r_quo {x y : Int} (h0 : 0 ≤ y) (h1 : y ≤ 4294967295) (h : y ≠ 0) : r1_Of 16 x y = some (wvR 16 x y, true) := by
  have n0 := i32nz h0 h1 h
  have n1 : IntKind.i64.wrap (IntKind.i32.wrap y) = IntKind.i32.wrap y := by
    have := i32w h0 h1
    exact wrap_i64 (by rw [this]; split <;> omega) (by rw [this]; split <;> omega)
  have : ∃ v, r1_Of 16 x y = some (v, true) := by
    refine ⟨IntKind.u32.wrap (IntKind.i64.wrap ((IntKind.i64.wrap (IntKind.i32.wrap x)).tdiv (IntKind.i32.wrap y))), ?_⟩
    simp [r1_Of, quo', n0, n1]
  obtain ⟨v, hv⟩ := this
  rw [wvR, hv]; rfl
theorem r_nought (x : Int) : r1_Of 16 x 0 = some (0, false) := rfl
section
variable {xs : List Int} (hw : ∀ w ∈ xs, 0 ≤ w ∧ w ≤ 4294967295) {J : Nat} (hc : Case xs J)
include hw hc
theorem told_A : ToldA (dV wvP xs) mF xs (tldJ J) := by
  intro S i a b r h
  unfold tldJ at h
  have k : ∀ (op v e : Int), i.Op = op → pair_Has op = false → word_Has op = true → word_Of op (dV wvP xs a) (dV wvP xs b) = some (v, e) → seq_Act (fa (dV wvP xs) mF xs S) i (dV wvP xs a) (dV wvP xs b) = bif decide (e ≠ 0) then some (fa (dV wvP xs) mF xs S, 0, 3) else some (fa (dV wvP xs) mF xs S, v, 0) := fun op v e h1 h2 h3 h4 => by
    rw [seq_Act, h1, h2, h3, cond_false, cond_true, h4]; rfl
  by_cases e : i.Op = 1 ∧ a % 8 = 1 ∧ b = a + 8
  · rw [decide_eq_true e, cond_true] at h
    obtain ⟨e1, e2, rfl⟩ := e
    cases h
    rw [k 1 _ _ e1 rfl rfl (w_sum _ _), d_sum _ _ e2, d_next _ _ e2, d_in _ _ e2]; rfl
  · rw [decide_eq_false e, cond_false] at h
    by_cases e : i.Op = 14 ∧ a % 8 = 1 ∧ b = a + 8
    · rw [decide_eq_true e, cond_true] at h
      obtain ⟨e1, e2, rfl⟩ := e
      cases h
      rw [k 14 _ _ e1 rfl rfl (w_mul _ _), d_mul _ _ e2, d_next _ _ e2, d_in _ _ e2]; rfl
    · rw [decide_eq_false e, cond_false] at h
      by_cases e : i.Op = 16 ∧ b % 8 = 1 ∧ a = b + 16
      · rw [decide_eq_true e, cond_true] at h
        obtain ⟨e1, e2, rfl⟩ := e
        obtain ⟨z, hz, h⟩ := ob h
        obtain ⟨q1, q2⟩ := tz_ok (wv := wvP) hc hz
        obtain ⟨y0, y1⟩ := gOf_w hw (b / 8)
        cases z with
        | true =>
          cases h
          have g : dV wvP xs b = 0 := by rw [d_in _ _ e2]; exact of_decide_eq_true q2
          rw [k 16 _ _ e1 rfl rfl (by rw [g]; exact w_nought _)]; rfl
        | false =>
          cases h
          rw [k 16 _ _ e1 rfl rfl (w_quo (by rw [d_in _ _ e2]; exact y0) (by rw [d_in _ _ e2]; exact y1) (by rw [d_in _ _ e2]; exact of_decide_eq_false q2)), d_quo _ _ e2, d_next2 _ _ e2, d_in _ _ e2]; rfl
      · rw [decide_eq_false e, cond_false] at h; cases h
theorem told_D : ToldD (dV wvR xs) mF xs (tldJ J) := by
  intro S i a b c r h
  unfold tldJ at h
  have k : ∀ (op v : Int) (e : Bool), i.Op = op → r1_Has op = true → r1_Of op (dV wvR xs a) (dV wvR xs b) = some (v, e) → r5_do (fa (dV wvR xs) mF xs S) i (dV wvR xs a) (dV wvR xs b) c = bif !e then some (fa (dV wvR xs) mF xs S, ⟨false, 0, false, 0, 3⟩) else some (fa (dV wvR xs) mF xs S, ⟨true, v, false, 0, 0⟩) := fun op v e h1 h2 h3 => by
    rw [r5_do, h1, h2, cond_true, h3]; rfl
  by_cases e : i.Op = 1 ∧ a % 8 = 1 ∧ b = a + 8
  · rw [decide_eq_true e, cond_true] at h
    obtain ⟨e1, e2, rfl⟩ := e
    cases h
    rw [k 1 _ _ e1 rfl (r_sum _ _), d_sum _ _ e2, d_next _ _ e2, d_in _ _ e2, e1]; rfl
  · rw [decide_eq_false e, cond_false] at h
    by_cases e : i.Op = 14 ∧ a % 8 = 1 ∧ b = a + 8
    · rw [decide_eq_true e, cond_true] at h
      obtain ⟨e1, e2, rfl⟩ := e
      cases h
      rw [k 14 _ _ e1 rfl (r_mul _ _), d_mul _ _ e2, d_next _ _ e2, d_in _ _ e2, e1]; rfl
    · rw [decide_eq_false e, cond_false] at h
      by_cases e : i.Op = 16 ∧ b % 8 = 1 ∧ a = b + 16
      · rw [decide_eq_true e, cond_true] at h
        obtain ⟨e1, e2, rfl⟩ := e
        obtain ⟨z, hz, h⟩ := ob h
        obtain ⟨q1, q2⟩ := tz_ok (wv := wvR) hc hz
        obtain ⟨y0, y1⟩ := gOf_w hw (b / 8)
        cases z with
        | true =>
          cases h
          have g : dV wvR xs b = 0 := by rw [d_in _ _ e2]; exact of_decide_eq_true q2
          rw [k 16 _ _ e1 rfl (by rw [g]; exact r_nought _)]; rfl
        | false =>
          cases h
          rw [k 16 _ _ e1 rfl (r_quo (by rw [d_in _ _ e2]; exact y0) (by rw [d_in _ _ e2]; exact y1) (by rw [d_in _ _ e2]; exact of_decide_eq_false q2)), d_quo _ _ e2, d_next2 _ _ e2, d_in _ _ e2, e1]; rfl
      · rw [decide_eq_false e, cond_false] at h; cases h
end
theorem least (P : Nat → Prop) : ∀ n, (∃ j, j ≤ n ∧ P j) → ∃ j, j ≤ n ∧ P j ∧ ∀ t, t < j → ¬ P t
  | 0, ⟨j, h1, h2⟩ => ⟨j, h1, h2, fun t ht => by omega⟩
  | n + 1, h => by
    by_cases e : ∃ j, j ≤ n ∧ P j
    · obtain ⟨j, h1, h2, h3⟩ := least P n e
      exact ⟨j, by omega, h2, h3⟩
    · obtain ⟨j, h1, h2⟩ := h
      have hj : j = n + 1 := by
        by_cases q : j ≤ n
        · exact absurd ⟨j, q, h2⟩ e
        · omega
      subst hj
      exact ⟨n + 1, Nat.le_refl _, h2, fun t ht q => e ⟨t, by omega, q⟩⟩
theorem gOf_end {xs : List Int} {t : Nat} (h : xs.length ≤ t) : gOf xs (t : Int) = 0 := by
  unfold gOf
  rw [at', if_pos (by omega), List.getElem?_eq_none (by omega)]
  rfl
theorem case_of {xs : List Int} (h : xs.length ≤ 100) : ∃ J : Nat, J ≤ 102 ∧ J % 3 ≠ 1 ∧ Case xs J := by
  obtain ⟨J, h1, ⟨h2, h3⟩, h4⟩ := least (fun j => j % 3 ≠ 1 ∧ gOf xs (j : Int) = 0) 102 ⟨102, Nat.le_refl _, by decide, gOf_end (by omega)⟩
  exact ⟨J, h1, h2, fun t ht ht2 e => h4 t ht ⟨ht2, e⟩, h3⟩
def nums : List Nat := [0, 1, 2, 3, 5, 7, 10, 14, 19, 26, 35, 47, 63, 85, 114, 153]
noncomputable def ckJ (J : Nat) : Bool := nums.all fun n => chk0 incF (tzJ J) (tldJ J) n
end Go.Proofs.YtgakgpbmcbegbaaGreatDoor
namespace Go.Proofs.YtgakgpbmcbegbaaGreatDoor
open Go Go.RowKit Fr
set_option linter.unusedVariables false
set_option maxRecDepth 20000
theorem ck0 : ckJ 0 = true := by kernel_rfl
theorem ck6 : ckJ 6 = true := by kernel_rfl
theorem ck12 : ckJ 12 = true := by kernel_rfl
theorem ck18 : ckJ 18 = true := by kernel_rfl
theorem ck24 : ckJ 24 = true := by kernel_rfl
theorem ck30 : ckJ 30 = true := by kernel_rfl
theorem ck36 : ckJ 36 = true := by kernel_rfl
theorem ck42 : ckJ 42 = true := by kernel_rfl
theorem ck48 : ckJ 48 = true := by kernel_rfl
theorem ck54 : ckJ 54 = true := by kernel_rfl
theorem ck60 : ckJ 60 = true := by kernel_rfl
theorem ck66 : ckJ 66 = true := by kernel_rfl
theorem ck72 : ckJ 72 = true := by kernel_rfl
theorem ck78 : ckJ 78 = true := by kernel_rfl
theorem ck84 : ckJ 84 = true := by kernel_rfl
theorem ck90 : ckJ 90 = true := by kernel_rfl
theorem ck96 : ckJ 96 = true := by kernel_rfl
theorem ck102 : ckJ 102 = true := by kernel_rfl
end Go.Proofs.YtgakgpbmcbegbaaGreatDoor
namespace Go.Proofs.YtgakgpbmcbegbaaGreatDoor
open Go Go.RowKit Fr
set_option linter.unusedVariables false
set_option maxRecDepth 20000
theorem ck2 : ckJ 2 = true := by kernel_rfl
theorem ck8 : ckJ 8 = true := by kernel_rfl
theorem ck14 : ckJ 14 = true := by kernel_rfl
theorem ck20 : ckJ 20 = true := by kernel_rfl
theorem ck26 : ckJ 26 = true := by kernel_rfl
theorem ck32 : ckJ 32 = true := by kernel_rfl
theorem ck38 : ckJ 38 = true := by kernel_rfl
theorem ck44 : ckJ 44 = true := by kernel_rfl
theorem ck50 : ckJ 50 = true := by kernel_rfl
theorem ck56 : ckJ 56 = true := by kernel_rfl
theorem ck62 : ckJ 62 = true := by kernel_rfl
theorem ck68 : ckJ 68 = true := by kernel_rfl
theorem ck74 : ckJ 74 = true := by kernel_rfl
theorem ck80 : ckJ 80 = true := by kernel_rfl
theorem ck86 : ckJ 86 = true := by kernel_rfl
theorem ck92 : ckJ 92 = true := by kernel_rfl
theorem ck98 : ckJ 98 = true := by kernel_rfl
end Go.Proofs.YtgakgpbmcbegbaaGreatDoor
namespace Go.Proofs.YtgakgpbmcbegbaaGreatDoor
open Go Go.RowKit Fr
set_option linter.unusedVariables false
set_option maxRecDepth 20000
theorem ck3 : ckJ 3 = true := by kernel_rfl
theorem ck9 : ckJ 9 = true := by kernel_rfl
theorem ck15 : ckJ 15 = true := by kernel_rfl
theorem ck21 : ckJ 21 = true := by kernel_rfl
theorem ck27 : ckJ 27 = true := by kernel_rfl
theorem ck33 : ckJ 33 = true := by kernel_rfl
theorem ck39 : ckJ 39 = true := by kernel_rfl
theorem ck45 : ckJ 45 = true := by kernel_rfl
theorem ck51 : ckJ 51 = true := by kernel_rfl
theorem ck57 : ckJ 57 = true := by kernel_rfl
theorem ck63 : ckJ 63 = true := by kernel_rfl
theorem ck69 : ckJ 69 = true := by kernel_rfl
theorem ck75 : ckJ 75 = true := by kernel_rfl
theorem ck81 : ckJ 81 = true := by kernel_rfl
theorem ck87 : ckJ 87 = true := by kernel_rfl
theorem ck93 : ckJ 93 = true := by kernel_rfl
theorem ck99 : ckJ 99 = true := by kernel_rfl
end Go.Proofs.YtgakgpbmcbegbaaGreatDoor
namespace Go.Proofs.YtgakgpbmcbegbaaGreatDoor
open Go Go.RowKit Fr
set_option linter.unusedVariables false
set_option maxRecDepth 20000
theorem ck5 : ckJ 5 = true := by kernel_rfl
theorem ck11 : ckJ 11 = true := by kernel_rfl
theorem ck17 : ckJ 17 = true := by kernel_rfl
theorem ck23 : ckJ 23 = true := by kernel_rfl
theorem ck29 : ckJ 29 = true := by kernel_rfl
theorem ck35 : ckJ 35 = true := by kernel_rfl
theorem ck41 : ckJ 41 = true := by kernel_rfl
theorem ck47 : ckJ 47 = true := by kernel_rfl
theorem ck53 : ckJ 53 = true := by kernel_rfl
theorem ck59 : ckJ 59 = true := by kernel_rfl
theorem ck65 : ckJ 65 = true := by kernel_rfl
theorem ck71 : ckJ 71 = true := by kernel_rfl
theorem ck77 : ckJ 77 = true := by kernel_rfl
theorem ck83 : ckJ 83 = true := by kernel_rfl
theorem ck89 : ckJ 89 = true := by kernel_rfl
theorem ck95 : ckJ 95 = true := by kernel_rfl
theorem ck101 : ckJ 101 = true := by kernel_rfl
end Go.Proofs.YtgakgpbmcbegbaaGreatDoor
namespace Go.Proofs.YtgakgpbmcbegbaaGreatDoor
open Go Go.RowKit Fr
set_option linter.unusedVariables false
set_option maxRecDepth 20000
theorem all_ck {J : Nat} (h : J ≤ 102) (h1 : J % 3 ≠ 1) : ckJ J = true := by
  rcases (by omega : J = 0 ∨ J = 2 ∨ J = 3 ∨ J = 5 ∨ J = 6 ∨ J = 8 ∨ J = 9 ∨ J = 11 ∨ J = 12 ∨ J = 14 ∨ J = 15 ∨ J = 17 ∨ J = 18 ∨ J = 20 ∨ J = 21 ∨ J = 23 ∨ J = 24 ∨ J = 26 ∨ J = 27 ∨ J = 29 ∨ J = 30 ∨ J = 32 ∨ J = 33 ∨ J = 35 ∨ J = 36 ∨ J = 38 ∨ J = 39 ∨ J = 41 ∨ J = 42 ∨ J = 44 ∨ J = 45 ∨ J = 47 ∨ J = 48 ∨ J = 50 ∨ J = 51 ∨ J = 53 ∨ J = 54 ∨ J = 56 ∨ J = 57 ∨ J = 59 ∨ J = 60 ∨ J = 62 ∨ J = 63 ∨ J = 65 ∨ J = 66 ∨ J = 68 ∨ J = 69 ∨ J = 71 ∨ J = 72 ∨ J = 74 ∨ J = 75 ∨ J = 77 ∨ J = 78 ∨ J = 80 ∨ J = 81 ∨ J = 83 ∨ J = 84 ∨ J = 86 ∨ J = 87 ∨ J = 89 ∨ J = 90 ∨ J = 92 ∨ J = 93 ∨ J = 95 ∨ J = 96 ∨ J = 98 ∨ J = 99 ∨ J = 101 ∨ J = 102) with rfl | rfl | rfl | rfl | rfl | rfl | rfl | rfl | rfl | rfl | rfl | rfl | rfl | rfl | rfl | rfl | rfl | rfl | rfl | rfl | rfl | rfl | rfl | rfl | rfl | rfl | rfl | rfl | rfl | rfl | rfl | rfl | rfl | rfl | rfl | rfl | rfl | rfl | rfl | rfl | rfl | rfl | rfl | rfl | rfl | rfl | rfl | rfl | rfl | rfl | rfl | rfl | rfl | rfl | rfl | rfl | rfl | rfl | rfl | rfl | rfl | rfl | rfl | rfl | rfl | rfl | rfl | rfl | rfl
  · exact ck0
  · exact ck2
  · exact ck3
  · exact ck5
  · exact ck6
  · exact ck8
  · exact ck9
  · exact ck11
  · exact ck12
  · exact ck14
  · exact ck15
  · exact ck17
  · exact ck18
  · exact ck20
  · exact ck21
  · exact ck23
  · exact ck24
  · exact ck26
  · exact ck27
  · exact ck29
  · exact ck30
  · exact ck32
  · exact ck33
  · exact ck35
  · exact ck36
  · exact ck38
  · exact ck39
  · exact ck41
  · exact ck42
  · exact ck44
  · exact ck45
  · exact ck47
  · exact ck48
  · exact ck50
  · exact ck51
  · exact ck53
  · exact ck54
  · exact ck56
  · exact ck57
  · exact ck59
  · exact ck60
  · exact ck62
  · exact ck63
  · exact ck65
  · exact ck66
  · exact ck68
  · exact ck69
  · exact ck71
  · exact ck72
  · exact ck74
  · exact ck75
  · exact ck77
  · exact ck78
  · exact ck80
  · exact ck81
  · exact ck83
  · exact ck84
  · exact ck86
  · exact ck87
  · exact ck89
  · exact ck90
  · exact ck92
  · exact ck93
  · exact ck95
  · exact ck96
  · exact ck98
  · exact ck99
  · exact ck101
  · exact ck102
theorem all0 {xs : List Int} (h : xs.length ≤ 100) (hw : ∀ w ∈ xs, 0 ≤ w ∧ w ≤ 4294967295) : l23_alike txt0 xs = some true := by
  obtain ⟨J, h1, h2, hc⟩ := case_of h
  have q := List.all_eq_true.1 (all_ck h1 h2)
  have f : ∀ n ∈ nums, n ≤ 200 → Fine imx0 flx0 (n : Int) xs := fun n hn hn2 => fc0 (told_F wvP h hc) (told_F wvR h hc) (told_A hw hc) (told_D hw hc) m_len m_len hn2 rfl rfl rfl rfl (q n hn)
  exact alike0 ⟨f 0 (by decide) (by decide), f 1 (by decide) (by decide), f 2 (by decide) (by decide), f 3 (by decide) (by decide), f 5 (by decide) (by decide), f 7 (by decide) (by decide), f 10 (by decide) (by decide), f 14 (by decide) (by decide), f 19 (by decide) (by decide), f 26 (by decide) (by decide), f 35 (by decide) (by decide), f 47 (by decide) (by decide), f 63 (by decide) (by decide), f 85 (by decide) (by decide), f 114 (by decide) (by decide), f 153 (by decide) (by decide)⟩
end Go.Proofs.YtgakgpbmcbegbaaGreatDoor
namespace Go.Proofs.YtgakgpbmcbegbaaGreatDoor
open Go Go.RowKit Fr
set_option linter.unusedVariables false
set_option maxRecDepth 20000
def sev : List (List Int) := [[], [3, 4, 0], [5, 1, 2, 0, 7, 7, 0], [1, 0, 0], [4294967295, 2147483648, 1], [250, 9, 9, 9], [65538, 2147450880, 5]]
theorem pure_BenchPorts (x : T_Ask) (hx : Wf_Ask x) : l23_BenchPorts x = some true := by
  have key : ∀ l : List (List Int), (∀ z ∈ l, z.length ≤ 100 ∧ ∀ w ∈ z, 0 ≤ w ∧ w ≤ 4294967295) → ∀ n : Nat, n + l.length ≤ 100 → ∀ p : List (List Int), p.length = n → loop (l23_BenchPorts_b1 (p ++ l)) (n : Int) = some true := by
    intro l
    induction l with
    | nil =>
      intro _ n hn p hp
      refine loop_done ?_
      rw [l23_BenchPorts_b1, List.append_nil, hp, wakes_ok]
      simp
    | cons z l ih =>
      intro hl n hn p hp
      have a : at' (p ++ z :: l) (n : Int) = some z := by
        rw [at'_nat (by simp only [List.length_append, List.length_cons]; omega)]
        subst hp
        simp
      have b : l23_BenchPorts_b1 (p ++ z :: l) (n : Int) = some (.next ((n + 1 : Nat) : Int)) := by
        have c : decide ((n : Int) < ((p ++ z :: l).length : Int)) = true := decide_eq_true (by simp only [List.length_append, List.length_cons]; omega)
        rw [l23_BenchPorts_b1, c, a]
        have r0 : l23_alike (ByteArray.mk #[109, 97, 105, 110, 58, 32, 105, 110, 32, 114, 49, 10, 105, 110, 32, 114, 50, 10, 97, 100, 100, 32, 114, 51, 44, 32, 114, 49, 44, 32, 114, 50, 10, 111, 117, 116, 32, 114, 51, 10, 109, 117, 108, 32, 114, 52, 44, 32, 114, 49, 44, 32, 114, 50, 10, 105, 110, 32, 114, 53, 10, 111, 117, 116, 32, 114, 52, 10, 100, 105, 118, 32, 114, 54, 44, 32, 114, 53, 44, 32, 114, 49, 10, 111, 117, 116, 32, 114, 53, 10, 111, 117, 116, 32, 114, 54, 10, 98, 110, 122, 32, 114, 53, 44, 32, 109, 97, 105, 110, 10, 104, 97, 108, 116]) z = some true := all0 (hl z List.mem_cons_self).1 (hl z List.mem_cons_self).2
        simp only [cond_true, Option.bind_some, r0, Bool.not_true, cond_false]
        rw [wrap_nat (by simp only [List.length_cons] at hn; omega)]
      rw [loop_next b, show p ++ z :: l = (p ++ [z]) ++ l by simp]
      exact ih (fun z hz => hl z (List.mem_cons_of_mem _ hz)) (n + 1) (by simp only [List.length_cons] at hn; omega) (p ++ [z]) (by simp [hp])
  have h7 : ∀ z ∈ sev, z.length ≤ 100 ∧ ∀ w ∈ z, 0 ≤ w ∧ w ≤ 4294967295 := by decide
  rw [l23_BenchPorts]
  by_cases h : x.In_.length ≤ 100
  · have e : l23_ins x = some (sev ++ [x.In_]) := by
      rw [l23_ins, decide_eq_true (show (x.In_.length : Int) ≤ 100 by omega)]; rfl
    rw [e, Option.bind_some]
    exact key (sev ++ [x.In_]) (fun z hz => by
      rcases List.mem_append.1 hz with hz | hz
      · exact h7 z hz
      · rw [List.mem_singleton] at hz; subst hz; exact ⟨h, hx.h3⟩) 0 (by simp [sev]) [] rfl
  · have e : l23_ins x = some sev := by
      rw [l23_ins, decide_eq_false (show ¬ (x.In_.length : Int) ≤ 100 by omega)]; rfl
    rw [e, Option.bind_some]
    exact key sev h7 0 (by decide) [] rfl
end Go.Proofs.YtgakgpbmcbegbaaGreatDoor
