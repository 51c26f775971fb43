/- BenchJumps: its deeds, told by tables. -/
import Derived.Test.YtgakgpbmcbegbaaGreatDoorBase
import Derived.KernelRfl
namespace Go.Proofs.YtgakgpbmcbegbaaGreatDoor
open Go Go.RowKit Fr
set_option linter.unusedVariables false
set_option linter.unusedSimpArgs false
set_option maxRecDepth 20000
theorem gOf_w {xs : List Int} (hw : ∀ w ∈ xs, 0 ≤ w ∧ w ≤ 4294967295) (t : Int) : 0 ≤ gOf xs t ∧ gOf xs t ≤ 4294967295 := by
  unfold gOf
  cases h : at' xs t with
  | none => exact ⟨by decide, by decide⟩
  | some v =>
    obtain ⟨hl, he⟩ := at'_lt h
    exact hw v (he ▸ List.getElem_mem hl)
theorem u32_eq' (n : Int) : IntKind.u32.wrap n = n % 4294967296 := by
  simp only [IntKind.wrap, IntKind.bits, IntKind.signed]
  simp only [Int.reducePow, Bool.false_and, Bool.false_eq_true, if_false]
/-- The sum of what is counted down. -/
def sm (v : Int) : Nat → Int
  | 0 => 0
  | j + 1 => IntKind.u32.wrap (sm v j + IntKind.u32.wrap (v - ((j + 1 : Nat) : Int)))
def incF (t : Int) : Int := 8 * t + 1
def dF (xs : List Int) (c : Int) : Int := bif decide (c % 8 = 1) then gOf xs (c / 8) else bif decide (c % 8 = 2) then IntKind.u32.wrap (gOf xs 0 - c / 8) else bif decide (c % 8 = 3) then sm (gOf xs 0) (c / 8).toNat else 0
theorem d_1 (xs : List Int) {c : Int} (h : c % 8 = 1) : dF xs c = gOf xs (c / 8) := by
  unfold dF; rw [decide_eq_true h, cond_true]
theorem d_2 (xs : List Int) {c : Int} (h : c % 8 = 2) : dF xs c = IntKind.u32.wrap (gOf xs 0 - c / 8) := by
  unfold dF; rw [decide_eq_false (by omega), cond_false, decide_eq_true h, cond_true]
theorem d_3 (xs : List Int) {c : Int} (h : c % 8 = 3) : dF xs c = sm (gOf xs 0) (c / 8).toNat := by
  unfold dF; rw [decide_eq_false (by omega), cond_false, decide_eq_false (by omega), cond_false, decide_eq_true h, cond_true]
def M0 : List Int := cop (List.replicate 256 0) []
def mF (m : List Int) : List Int := bif decide (m = [0]) then M0 else []
theorem m_len (m : List Int) : (mF m).length ≤ 1000 := by
  have e : M0.length = 256 := by kernel_rfl
  unfold mF
  cases decide (m = [0])
  · exact Nat.zero_le _
  · rw [cond_true, e]; decide
def tldF (tz : Int → Option Bool) (op imm a b : Int) (m : List Int) : Option (List Int × Int × Int) :=
  bif decide (op = 22 ∧ imm = -1) then (bif decide (a = 1) then some (m, 10, 0) else bif decide (a % 8 = 2) then some (m, a + 8, 0) else none)
  else bif decide (op = 1 ∧ tz b = some false) then (bif decide (a = 0 ∧ b = 10) then some (m, 11, 0) else bif decide (a % 8 = 3 ∧ 0 ≤ a ∧ b = a + 7) then some (m, a + 8, 0) else none)
  else none
theorem w_sum (x : Int) {y : Int} (h : decide (y = 0) = false) : word_Of 1 x y = some (IntKind.u32.wrap (x + y), 0) := by
  unfold word_Of
  rw [h]; rfl
theorem r_sum (x y : Int) : r1_Of 1 x y = some (IntKind.u32.wrap (x + y), true) := rfl
section
variable {xs : List Int} (hw : ∀ w ∈ xs, 0 ≤ w ∧ w ≤ 4294967295)
include hw
theorem less {a r : Int} (h : (a = 1 ∧ r = 10) ∨ (a % 8 = 2 ∧ r = a + 8)) : IntKind.u32.wrap (dF xs a + IntKind.u32.wrap (-1)) = dF xs r := by
  obtain ⟨y0, y1⟩ := gOf_w hw 0
  rcases h with ⟨rfl, rfl⟩ | ⟨h, rfl⟩
  · rw [d_1 xs (by decide), d_2 xs (by decide), u32_eq', u32_eq', u32_eq', show (1 : Int) / 8 = 0 from rfl, show (10 : Int) / 8 = 1 from rfl]
    omega
  · rw [d_2 xs h, d_2 xs (by omega), u32_eq', u32_eq', u32_eq', u32_eq', show (a + 8) / 8 = a / 8 + 1 by omega]
    omega
omit hw in
theorem more {a b r : Int} (h : (a = 0 ∧ b = 10 ∧ r = 11) ∨ (a % 8 = 3 ∧ 0 ≤ a ∧ b = a + 7 ∧ r = a + 8)) : IntKind.u32.wrap (dF xs a + dF xs b) = dF xs r := by
  rcases h with ⟨rfl, rfl, rfl⟩ | ⟨h, h0, rfl, rfl⟩
  · rw [d_2 xs (c := 10) (by decide), d_3 xs (c := 11) (by decide)]; rfl
  · rw [d_3 xs h, d_2 xs (by omega), d_3 xs (by omega)]
    obtain ⟨n, hn⟩ := Int.eq_ofNat_of_zero_le (show 0 ≤ a / 8 by omega)
    rw [show (a + 8) / 8 = a / 8 + 1 by omega, show (a + 7) / 8 = a / 8 + 1 by omega, hn, show ((n : Int) + 1).toNat = n + 1 by omega, show ((n : Int)).toNat = n by omega, sm]
    rfl
theorem told_A {tz : Int → Option Bool} (hz : ∀ a z, tz a = some z → decide (dF xs a = 0) = z) : ToldA (dF xs) mF xs (tldF tz) := by
  intro S i a b r h
  unfold tldF at h
  by_cases e : i.Op = 22 ∧ i.Imm = -1
  · rw [decide_eq_true e, cond_true] at h
    obtain ⟨e1, e2⟩ := e
    have k : seq_Act (fa (dF xs) mF xs S) i (dF xs a) (dF xs b) = some (fa (dF xs) mF xs S, IntKind.u32.wrap (dF xs a + IntKind.u32.wrap (-1)), 0) := by
      rw [seq_Act, e1, e2]; rfl
    by_cases q : a = 1
    · rw [decide_eq_true q, cond_true] at h; cases h
      rw [k, less hw (.inl ⟨q, rfl⟩)]; rfl
    · rw [decide_eq_false q, cond_false] at h
      by_cases q : a % 8 = 2
      · rw [decide_eq_true q, cond_true] at h; cases h
        rw [k, less hw (.inr ⟨q, rfl⟩)]; rfl
      · rw [decide_eq_false q, cond_false] at h; cases h
  rw [decide_eq_false e, cond_false] at h
  clear e
  by_cases e : i.Op = 1 ∧ tz b = some false
  · rw [decide_eq_true e, cond_true] at h
    obtain ⟨e, eb⟩ := e
    have nb := hz b false eb
    have k : seq_Act (fa (dF xs) mF xs S) i (dF xs a) (dF xs b) = some (fa (dF xs) mF xs S, IntKind.u32.wrap (dF xs a + dF xs b), 0) := by
      rw [seq_Act, e, show pair_Has 1 = false from rfl, cond_false, show word_Has 1 = true from rfl, cond_true, w_sum _ nb]; rfl
    by_cases q : a = 0 ∧ b = 10
    · rw [decide_eq_true q, cond_true] at h; cases h
      rw [k, more (xs := xs) (.inl ⟨q.1, q.2, rfl⟩)]; rfl
    · rw [decide_eq_false q, cond_false] at h
      by_cases q : a % 8 = 3 ∧ 0 ≤ a ∧ b = a + 7
      · rw [decide_eq_true q, cond_true] at h; cases h
        rw [k, more (xs := xs) (.inr ⟨q.1, q.2.1, q.2.2, rfl⟩)]; rfl
      · rw [decide_eq_false q, cond_false] at h; cases h
  rw [decide_eq_false e, cond_false] at h; cases h
theorem told_D {tz : Int → Option Bool} (hz : ∀ a z, tz a = some z → decide (dF xs a = 0) = z) : ToldD (dF xs) mF xs (tldF tz) := by
  intro S i a b c r h
  unfold tldF at h
  by_cases e : i.Op = 22 ∧ i.Imm = -1
  · rw [decide_eq_true e, cond_true] at h
    obtain ⟨e1, e2⟩ := e
    have k : r5_do (fa (dF xs) mF xs S) i (dF xs a) (dF xs b) c = some (fa (dF xs) mF xs S, ⟨true, IntKind.u32.wrap (dF xs a + IntKind.u32.wrap (-1)), false, 0, 0⟩) := by
      rw [r5_do, e1, e2]; rfl
    by_cases q : a = 1
    · rw [decide_eq_true q, cond_true] at h; cases h
      rw [k, less hw (.inl ⟨q, rfl⟩), e1]; rfl
    · rw [decide_eq_false q, cond_false] at h
      by_cases q : a % 8 = 2
      · rw [decide_eq_true q, cond_true] at h; cases h
        rw [k, less hw (.inr ⟨q, rfl⟩), e1]; rfl
      · rw [decide_eq_false q, cond_false] at h; cases h
  rw [decide_eq_false e, cond_false] at h
  clear e
  by_cases e : i.Op = 1 ∧ tz b = some false
  · rw [decide_eq_true e, cond_true] at h
    obtain ⟨e, eb⟩ := e
    have nb := hz b false eb
    have k : r5_do (fa (dF xs) mF xs S) i (dF xs a) (dF xs b) c = some (fa (dF xs) mF xs S, ⟨true, IntKind.u32.wrap (dF xs a + dF xs b), false, 0, 0⟩) := by
      rw [r5_do, e, show r1_Has 1 = true from rfl, cond_true, r_sum]; rfl
    by_cases q : a = 0 ∧ b = 10
    · rw [decide_eq_true q, cond_true] at h; cases h
      rw [k, more (xs := xs) (.inl ⟨q.1, q.2, rfl⟩), e]; rfl
    · rw [decide_eq_false q, cond_false] at h
      by_cases q : a % 8 = 3 ∧ 0 ≤ a ∧ b = a + 7
      · rw [decide_eq_true q, cond_true] at h; cases h
        rw [k, more (xs := xs) (.inr ⟨q.1, q.2.1, q.2.2, rfl⟩), e]; rfl
      · rw [decide_eq_false q, cond_false] at h; cases h
  rw [decide_eq_false e, cond_false] at h; cases h
end
/-- Which codes are nought: by the text; `e`: is the last one told? -/
def tz0 (z : Bool) (c : Int) : Option Bool := bif decide (c = 0) then some true else bif decide (c = 1) then some z else none
def tz1 (k : Int) (L J : Nat) (e : Bool) (c : Int) : Option Bool := bif decide (c % 8 = k ∧ (L : Int) ≤ c / 8) then bif decide (c / 8 < (J : Int)) then some false else bif e && decide (c / 8 = (J : Int)) then some true else none else none
def tzN (c : Int) : Option Bool := none
theorem hin_F (xs : List Int) : ∀ t, 0 ≤ t → dF xs (incF t) = gOf xs t := fun t ht => by
  unfold incF
  rw [d_1 xs (by omega)]
  congr 1
  omega
theorem told_0 {xs : List Int} (h : xs.length ≤ 100) {z : Bool} (hz : decide (gOf xs 0 = 0) = z) : Told (dF xs) xs incF (tz0 z) where
  hl := h
  h0 := rfl
  hin := hin_F xs
  hz a y e := by
    unfold tz0 at e
    by_cases q : a = 0
    · subst q; cases e; rfl
    · rw [decide_eq_false q, cond_false] at e
      by_cases q : a = 1
      · subst q; cases e; exact hz
      · rw [decide_eq_false q] at e; cases e
theorem told_N {xs : List Int} (h : xs.length ≤ 100) : Told (dF xs) xs incF tzN := ⟨h, rfl, hin_F xs, fun a y e => by cases e⟩
theorem told_1 {xs : List Int} (h : xs.length ≤ 100) {k : Int} {L J : Nat} {e : Bool} (f : Nat → Int) (hk : ∀ n : Nat, dF xs (8 * (n : Int) + k) = f n) (k0 : 0 ≤ k ∧ k < 8) (h1 : ∀ n, L ≤ n → n < J → f n ≠ 0) (h2 : e = true → f J = 0) : Told (dF xs) xs incF (tz1 k L J e) where
  hl := h
  h0 := rfl
  hin := hin_F xs
  hz a y q := by
    unfold tz1 at q
    by_cases q1 : a % 8 = k ∧ (L : Int) ≤ a / 8
    · rw [decide_eq_true q1, cond_true] at q
      obtain ⟨n, hn⟩ := Int.eq_ofNat_of_zero_le (show 0 ≤ a / 8 by omega)
      have ha : a = 8 * (n : Int) + k := by omega
      rw [ha, hk]
      rw [hn] at q
      by_cases q2 : (n : Int) < (J : Int)
      · rw [decide_eq_true q2] at q; cases q
        exact decide_eq_false (h1 n (by omega) (by omega))
      · rw [decide_eq_false q2, cond_false] at q
        cases e with
        | false => cases q
        | true =>
          by_cases q3 : (n : Int) = (J : Int)
          · rw [decide_eq_true q3] at q; cases q
            rw [show n = J by omega]
            exact decide_eq_true (h2 rfl)
          · rw [decide_eq_false q3] at q; cases q
    · rw [decide_eq_false q1] at q; cases q
theorem least (P : Nat → Prop) : ∀ n, (∃ j, j ≤ n ∧ P j) → ∃ j, j ≤ n ∧ P j ∧ ∀ t, t < j → ¬ P t
  | 0, ⟨j, h1, h2⟩ => ⟨j, h1, h2, fun t ht => by omega⟩
  | n + 1, h => by
    by_cases e : ∃ j, j ≤ n ∧ P j
    · obtain ⟨j, h1, h2, h3⟩ := least P n e
      exact ⟨j, by omega, h2, h3⟩
    · obtain ⟨j, h1, h2⟩ := h
      have hj : j = n + 1 := by
        by_cases q : j ≤ n
        · exact absurd ⟨j, q, h2⟩ e
        · omega
      subst hj
      exact ⟨n + 1, Nat.le_refl _, h2, fun t ht q => e ⟨t, by omega, q⟩⟩
theorem gOf_end {xs : List Int} {t : Nat} (h : xs.length ≤ t) : gOf xs (t : Int) = 0 := by
  unfold gOf
  rw [at', if_pos (by omega), List.getElem?_eq_none (by omega)]
  rfl
def nums : List Nat := [0, 1, 2, 3, 5, 7, 10, 14, 19, 26, 35, 47, 63, 85, 114, 153]
noncomputable def ck0 (z : Bool) : Bool := nums.all fun n => chkG incF (tz0 z) (tldF (tz0 z)) imx0 flx0 n
noncomputable def ck1 (J : Nat) (e : Bool) : Bool := nums.all fun n => chkG incF (tz1 1 0 J e) (tldF (tz1 1 0 J e)) imx1 flx1 n
noncomputable def ck2 : Bool := nums.all fun n => chkG incF tzN (tldF tzN) imx2 flx2 n
noncomputable def ck3 (K : Nat) (e : Bool) : Bool := nums.all fun n => chkG incF (tz1 2 1 K e) (tldF (tz1 2 1 K e)) imx3 flx3 n
noncomputable def ck4 : Bool := nums.all fun n => chkG incF tzN (tldF tzN) imx4 flx4 n
noncomputable def ck5 : Bool := nums.all fun n => chkG incF tzN (tldF tzN) imx5 flx5 n
theorem mk0 {xs : List Int} {tz : Int → Option Bool} (hw : ∀ w ∈ xs, 0 ≤ w ∧ w ≤ 4294967295) (T : Told (dF xs) xs incF tz) (c : (nums.all fun n => chkG incF tz (tldF tz) imx0 flx0 n) = true) : l23_alike txt0 xs = some true := by
  have q := List.all_eq_true.1 c
  have f : ∀ n ∈ nums, n ≤ 200 → Fine imx0 flx0 (n : Int) xs := fun n hn hn2 => fcG T T (told_A hw T.hz) (told_D hw T.hz) m_len m_len prg0 hn2 rfl rfl (q n hn)
  exact alike0 ⟨f 0 (by decide) (by decide), f 1 (by decide) (by decide), f 2 (by decide) (by decide), f 3 (by decide) (by decide), f 5 (by decide) (by decide), f 7 (by decide) (by decide), f 10 (by decide) (by decide), f 14 (by decide) (by decide), f 19 (by decide) (by decide), f 26 (by decide) (by decide), f 35 (by decide) (by decide), f 47 (by decide) (by decide), f 63 (by decide) (by decide), f 85 (by decide) (by decide), f 114 (by decide) (by decide), f 153 (by decide) (by decide)⟩
theorem mk1 {xs : List Int} {tz : Int → Option Bool} (hw : ∀ w ∈ xs, 0 ≤ w ∧ w ≤ 4294967295) (T : Told (dF xs) xs incF tz) (c : (nums.all fun n => chkG incF tz (tldF tz) imx1 flx1 n) = true) : l23_alike txt1 xs = some true := by
  have q := List.all_eq_true.1 c
  have f : ∀ n ∈ nums, n ≤ 200 → Fine imx1 flx1 (n : Int) xs := fun n hn hn2 => fcG T T (told_A hw T.hz) (told_D hw T.hz) m_len m_len prg1 hn2 rfl rfl (q n hn)
  exact alike1 ⟨f 0 (by decide) (by decide), f 1 (by decide) (by decide), f 2 (by decide) (by decide), f 3 (by decide) (by decide), f 5 (by decide) (by decide), f 7 (by decide) (by decide), f 10 (by decide) (by decide), f 14 (by decide) (by decide), f 19 (by decide) (by decide), f 26 (by decide) (by decide), f 35 (by decide) (by decide), f 47 (by decide) (by decide), f 63 (by decide) (by decide), f 85 (by decide) (by decide), f 114 (by decide) (by decide), f 153 (by decide) (by decide)⟩
theorem mk2 {xs : List Int} {tz : Int → Option Bool} (hw : ∀ w ∈ xs, 0 ≤ w ∧ w ≤ 4294967295) (T : Told (dF xs) xs incF tz) (c : (nums.all fun n => chkG incF tz (tldF tz) imx2 flx2 n) = true) : l23_alike txt2 xs = some true := by
  have q := List.all_eq_true.1 c
  have f : ∀ n ∈ nums, n ≤ 200 → Fine imx2 flx2 (n : Int) xs := fun n hn hn2 => fcG T T (told_A hw T.hz) (told_D hw T.hz) m_len m_len prg2 hn2 rfl rfl (q n hn)
  exact alike2 ⟨f 0 (by decide) (by decide), f 1 (by decide) (by decide), f 2 (by decide) (by decide), f 3 (by decide) (by decide), f 5 (by decide) (by decide), f 7 (by decide) (by decide), f 10 (by decide) (by decide), f 14 (by decide) (by decide), f 19 (by decide) (by decide), f 26 (by decide) (by decide), f 35 (by decide) (by decide), f 47 (by decide) (by decide), f 63 (by decide) (by decide), f 85 (by decide) (by decide), f 114 (by decide) (by decide), f 153 (by decide) (by decide)⟩
theorem mk3 {xs : List Int} {tz : Int → Option Bool} (hw : ∀ w ∈ xs, 0 ≤ w ∧ w ≤ 4294967295) (T : Told (dF xs) xs incF tz) (c : (nums.all fun n => chkG incF tz (tldF tz) imx3 flx3 n) = true) : l23_alike txt3 xs = some true := by
  have q := List.all_eq_true.1 c
  have f : ∀ n ∈ nums, n ≤ 200 → Fine imx3 flx3 (n : Int) xs := fun n hn hn2 => fcG T T (told_A hw T.hz) (told_D hw T.hz) m_len m_len prg3 hn2 rfl rfl (q n hn)
  exact alike3 ⟨f 0 (by decide) (by decide), f 1 (by decide) (by decide), f 2 (by decide) (by decide), f 3 (by decide) (by decide), f 5 (by decide) (by decide), f 7 (by decide) (by decide), f 10 (by decide) (by decide), f 14 (by decide) (by decide), f 19 (by decide) (by decide), f 26 (by decide) (by decide), f 35 (by decide) (by decide), f 47 (by decide) (by decide), f 63 (by decide) (by decide), f 85 (by decide) (by decide), f 114 (by decide) (by decide), f 153 (by decide) (by decide)⟩
theorem mk4 {xs : List Int} {tz : Int → Option Bool} (hw : ∀ w ∈ xs, 0 ≤ w ∧ w ≤ 4294967295) (T : Told (dF xs) xs incF tz) (c : (nums.all fun n => chkG incF tz (tldF tz) imx4 flx4 n) = true) : l23_alike txt4 xs = some true := by
  have q := List.all_eq_true.1 c
  have f : ∀ n ∈ nums, n ≤ 200 → Fine imx4 flx4 (n : Int) xs := fun n hn hn2 => fcG T T (told_A hw T.hz) (told_D hw T.hz) m_len m_len prg4 hn2 rfl rfl (q n hn)
  exact alike4 ⟨f 0 (by decide) (by decide), f 1 (by decide) (by decide), f 2 (by decide) (by decide), f 3 (by decide) (by decide), f 5 (by decide) (by decide), f 7 (by decide) (by decide), f 10 (by decide) (by decide), f 14 (by decide) (by decide), f 19 (by decide) (by decide), f 26 (by decide) (by decide), f 35 (by decide) (by decide), f 47 (by decide) (by decide), f 63 (by decide) (by decide), f 85 (by decide) (by decide), f 114 (by decide) (by decide), f 153 (by decide) (by decide)⟩
theorem mk5 {xs : List Int} {tz : Int → Option Bool} (hw : ∀ w ∈ xs, 0 ≤ w ∧ w ≤ 4294967295) (T : Told (dF xs) xs incF tz) (c : (nums.all fun n => chkG incF tz (tldF tz) imx5 flx5 n) = true) : l23_alike txt5 xs = some true := by
  have q := List.all_eq_true.1 c
  have f : ∀ n ∈ nums, n ≤ 200 → Fine imx5 flx5 (n : Int) xs := fun n hn hn2 => fcG T T (told_A hw T.hz) (told_D hw T.hz) m_len m_len prg5 hn2 rfl rfl (q n hn)
  exact alike5 ⟨f 0 (by decide) (by decide), f 1 (by decide) (by decide), f 2 (by decide) (by decide), f 3 (by decide) (by decide), f 5 (by decide) (by decide), f 7 (by decide) (by decide), f 10 (by decide) (by decide), f 14 (by decide) (by decide), f 19 (by decide) (by decide), f 26 (by decide) (by decide), f 35 (by decide) (by decide), f 47 (by decide) (by decide), f 63 (by decide) (by decide), f 85 (by decide) (by decide), f 114 (by decide) (by decide), f 153 (by decide) (by decide)⟩

end Go.Proofs.YtgakgpbmcbegbaaGreatDoor
