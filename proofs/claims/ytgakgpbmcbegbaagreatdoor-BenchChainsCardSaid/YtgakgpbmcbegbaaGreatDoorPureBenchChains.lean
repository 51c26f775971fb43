/- BenchChains: its deeds, told by tables. -/
import Derived.Test.YtgakgpbmcbegbaaGreatDoorBase
import Derived.Test.YtgakgpbmcbegbaaGreatDoorFloat
import Derived.Test.YtgakgpbmcbegbaaGreatDoorMAgree
import Derived.KernelRfl
namespace Go.Proofs.YtgakgpbmcbegbaaGreatDoor
open Go Go.RowKit Fr
set_option linter.unusedVariables false
set_option linter.unusedSimpArgs false
set_option maxRecDepth 20000
def U (n : Int) : Prop := 0 ≤ n ∧ n ≤ 4294967295
theorem u_wrap (n : Int) : U (IntKind.u32.wrap n) := by rw [M.u32_eq]; unfold U; omega
theorem u_or (a b : Int) : U (bits .or .u32 a b) := u_wrap _
theorem i16_eq (n : Int) : IntKind.i16.wrap n = if 32768 ≤ n % 65536 then n % 65536 - 65536 else n % 65536 := by
  simp only [IntKind.wrap, IntKind.bits, IntKind.signed]
  simp only [Int.reducePow, Nat.reduceSub, Bool.true_and, decide_eq_true_eq, ge_iff_le]
theorem u16_eq (n : Int) : IntKind.u16.wrap n = n % 65536 := by
  simp only [IntKind.wrap, IntKind.bits, IntKind.signed]
  simp only [Int.reducePow, Bool.false_and, Bool.false_eq_true, if_false]
theorem and16 {x : Int} (hx : 0 ≤ x ∧ x < 4294967296) : bits .and .u32 x 65535 = x % 65536 := by
  obtain ⟨n, rfl⟩ := Int.eq_ofNat_of_zero_le hx.1
  have hn : n < 4294967296 := by omega
  have h2 : ((BitVec.ofInt 32 (n : Int)) &&& (BitVec.ofInt 32 65535)).toNat = n % 65536 := by
    rw [BitVec.toNat_and, BitVec.ofInt_natCast, BitVec.toNat_ofNat]
    have : (BitVec.ofInt 32 65535).toNat = 2 ^ 16 - 1 := by decide
    rw [this, Nat.and_two_pow_sub_one_eq_mod]
    omega
  show IntKind.u32.wrap (((BitVec.ofInt 32 (n : Int)) &&& (BitVec.ofInt 32 65535)).toNat : Int) = _
  rw [h2, M.u32_eq]
  omega
theorem i16_range (n : Int) : -32768 ≤ IntKind.i16.wrap n ∧ IntKind.i16.wrap n ≤ 32767 := by rw [i16_eq]; split <;> omega
theorem i64_i16 (n : Int) : IntKind.i64.wrap (IntKind.i16.wrap n) = IntKind.i16.wrap n := by
  have := i16_range n
  exact wrap_i64 (by omega) (by omega)
theorem parts_r1 {a : Int} (ha : U a) : r1_Parts a = some (IntKind.i16.wrap a, IntKind.i16.wrap (a.fdiv (2 ^ 16))) := by
  unfold U at ha
  have h : IntKind.i16.wrap (a % 65536) = IntKind.i16.wrap a := by rw [i16_eq, i16_eq]; split <;> split <;> omega
  simp only [r1_Parts, shr', and16 (x := a) (by omega), i64_i16, h]
  rfl
theorem parts_pair (a : Int) : pair_Parts a = some (IntKind.i16.wrap a, IntKind.i16.wrap (a.fdiv (2 ^ 16))) := by
  simp only [pair_Parts, shr', i64_i16]
  rfl
theorem make_same (a b : Int) : r1_Make a b = pair_Make a b := by
  have h : ∀ n : Int, bits .and .u32 (IntKind.u32.wrap n) 65535 = IntKind.u32.wrap (IntKind.u16.wrap n) := fun n => by
    rw [and16 (by rw [M.u32_eq]; omega), M.u32_eq, M.u32_eq, u16_eq]; omega
  have h2 : ∀ n : Int, IntKind.u32.wrap (IntKind.u16.wrap n) = IntKind.u16.wrap n := fun n => by rw [M.u32_eq, u16_eq]; omega
  simp only [r1_Make, pair_Make, h, h2]
theorem make_u (a b : Int) : ∃ v, U v ∧ pair_Make a b = some v := by
  have h : ∀ n : Int, shl' .u32 n 16 = some (IntKind.u32.wrap (n * 2 ^ 16)) := fun n => rfl
  refine ⟨bits .or .u32 (IntKind.u32.wrap (IntKind.u16.wrap a)) (IntKind.u32.wrap (IntKind.u32.wrap (IntKind.u16.wrap b) * 2 ^ 16)), u_or _ _, ?_⟩
  simp only [pair_Make, h, Option.bind_some]
theorem packed_of {x y : Nat} {n m : Int} (hx : Fl.FI x n) (hy : Fl.FI y m) (hn : n.natAbs < 2 ^ 53) (hm : m.natAbs < 2 ^ 53) : pair_packed (x, y) = pair_Make n m := by
  simp only [pair_packed, hx.toInt hn, hy.toInt hm, Option.bind_some]
  cases pair_Make n m <;> rfl
theorem small_mul {p q : Int} (hp : -32768 ≤ p ∧ p ≤ 32767) (hq : -32768 ≤ q ∧ q ≤ 32767) : (p * q).natAbs ≤ 1073741824 := by
  rw [Int.natAbs_mul]
  exact Nat.mul_le_mul (show p.natAbs ≤ 32768 by omega) (show q.natAbs ≤ 32768 by omega)
theorem pair20 {a b : Int} (ha : U a) (hb : U b) : ∃ v, U v ∧ pair_Of 20 a b = some (v, 0) ∧ r1_Pair 20 a b = some v := by
  have i1 := i16_range a
  have i2 := i16_range (a.fdiv (2 ^ 16))
  have i3 := i16_range b
  have i4 := i16_range (b.fdiv (2 ^ 16))
  simp only [pair_Of, r1_Pair, pair_number, parts_r1 ha, parts_r1 hb, parts_pair, Option.bind_some]
  generalize IntKind.i16.wrap a = p at *
  generalize IntKind.i16.wrap (a.fdiv (2 ^ 16)) = q at *
  generalize IntKind.i16.wrap b = r at *
  generalize IntKind.i16.wrap (b.fdiv (2 ^ 16)) = s at *
  have f1 := Fl.FI.of_int (n := p) (by omega)
  have f2 := Fl.FI.of_int (n := q) (by omega)
  have f3 := Fl.FI.of_int (n := r) (by omega)
  have f4 := Fl.FI.of_int (n := s) (by omega)
  generalize FloatKind.f64.nearest p = x1 at *
  generalize FloatKind.f64.nearest q = x2 at *
  generalize FloatKind.f64.nearest r = x3 at *
  generalize FloatKind.f64.nearest s = x4 at *
  have n1 := small_mul i1 i3
  have n2 := small_mul i2 i4
  have n3 := small_mul i1 i4
  have n4 := small_mul i2 i3
  obtain ⟨v1, g1, k1⟩ := f1.mul f3 (by omega) (by omega) (by omega)
  obtain ⟨v2, g2, k2⟩ := f2.mul f4 (by omega) (by omega) (by omega)
  obtain ⟨v3, g3, k3⟩ := f1.mul f4 (by omega) (by omega) (by omega)
  obtain ⟨v4, g4, k4⟩ := f2.mul f3 (by omega) (by omega) (by omega)
  obtain ⟨v5, g5, k5⟩ := k1.sub k2 (by omega) (by omega) (by omega)
  obtain ⟨v6, g6, k6⟩ := k3.add k4 (by omega) (by omega) (by omega)
  obtain ⟨v, hv, hm⟩ := make_u (p * r - q * s) (p * s + q * r)
  have hc : cMulBits x1 x2 x3 x4 = some (v5, v6) := by simp [cMulBits, floatBits, g1, g2, g3, g4, g5, g6]
  refine ⟨v, hv, ?_, ?_⟩
  · simp [hc, packed_of k5 k6 (by omega) (by omega), hm]
  · simp [make_same, wrap_i64 (n := p * r) (by omega) (by omega), wrap_i64 (n := q * s) (by omega) (by omega), wrap_i64 (n := p * s) (by omega) (by omega), wrap_i64 (n := q * r) (by omega) (by omega),
      wrap_i64 (n := p * r - q * s) (by omega) (by omega), wrap_i64 (n := p * s + q * r) (by omega) (by omega), hm]
theorem gOf_w {xs : List Int} (hw : ∀ w ∈ xs, 0 ≤ w ∧ w ≤ 4294967295) (t : Int) : 0 ≤ gOf xs t ∧ gOf xs t ≤ 4294967295 := by
  unfold gOf
  cases h : at' xs t with
  | none => exact ⟨by decide, by decide⟩
  | some v =>
    obtain ⟨hl, he⟩ := at'_lt h
    exact hw v (he ▸ List.getElem_mem hl)
theorem i32w {n : Int} (h0 : 0 ≤ n) (h1 : n ≤ 4294967295) : IntKind.i32.wrap n = if n < 2147483648 then n else n - 4294967296 := by
  simp only [IntKind.wrap, IntKind.bits, IntKind.signed]
  simp only [Int.reducePow, Nat.reduceSub, Bool.true_and, decide_eq_true_eq, ge_iff_le]
  split <;> split <;> omega
theorem i32nz {n : Int} (h0 : 0 ≤ n) (h1 : n ≤ 4294967295) (h : n ≠ 0) : IntKind.i32.wrap n ≠ 0 := by
  rw [i32w h0 h1]; split <;> omega
theorem w14 (a b : Int) : word_Of 14 a b = some (IntKind.u32.wrap (a * b), 0) := by
  unfold word_Of
  cases decide (b = 0) <;> rfl
theorem r14 {a b : Int} (hb : U b) : r1_Of 14 a b = some (IntKind.u32.wrap (a * b), true) := by
  have q := (M.of_agree (op := 14) (a := a) (b := b) (by omega) (by unfold U at hb; omega)).2 rfl
  have e : IntKind.u32.wrap (a * b) = IntKind.u32.wrap (IntKind.i64.wrap ((IntKind.i64.wrap (IntKind.i32.wrap a)) * (IntKind.i64.wrap (IntKind.i32.wrap b)))) := by
    simpa [M.wOf, M.wHas, M.wProduct, M.r1Of] using q
  rw [e]; rfl
theorem b16 {a b : Int} (hb : U b) (h : b ≠ 0) : ∃ v, U v ∧ word_Of 16 a b = some (v, 0) ∧ r1_Of 16 a b = some (v, true) := by
  have n0 := i32nz hb.1 hb.2 h
  have n1 : IntKind.i64.wrap (IntKind.i32.wrap b) = IntKind.i32.wrap b := by
    have := i32w hb.1 hb.2
    obtain ⟨hb1, hb2⟩ := hb
    exact wrap_i64 (by rw [this]; split <;> omega) (by rw [this]; split <;> omega)
  have n2 : ¬ IntKind.i64.wrap (IntKind.i32.wrap b) = 0 := by rw [n1]; exact n0
  have q := (M.of_agree (op := 16) (a := a) (b := b) (by omega) (by unfold U at hb; omega)).2 (by simp [M.r1Of, n2])
  refine ⟨IntKind.u32.wrap (IntKind.i32.wrap ((IntKind.i32.wrap a).tdiv (IntKind.i32.wrap b))), u_wrap _, ?_, ?_⟩
  · simp [word_Of, word_product, quo', h, n0, show word_Has 16 = true from rfl]
  · have e : IntKind.u32.wrap (IntKind.i32.wrap ((IntKind.i32.wrap a).tdiv (IntKind.i32.wrap b))) = IntKind.u32.wrap (IntKind.i64.wrap ((IntKind.i64.wrap (IntKind.i32.wrap a)).tdiv (IntKind.i64.wrap (IntKind.i32.wrap b)))) := by
      simpa [M.wOf, M.wHas, M.wProduct, M.r1Of, h, n2] using q
    rw [e]
    simp [r1_Of, quo', n2]
theorem w17 {b : Int} (hb : U b) (h : b ≠ 0) : word_Of 17 0 b = some (0, 0) := by
  have n0 := i32nz hb.1 hb.2 h
  simp [word_Of, word_product, rem', h, n0, show word_Has 17 = true from rfl, show IntKind.i32.wrap 0 = 0 from rfl, show IntKind.u32.wrap 0 = 0 from rfl]
theorem r17 {b : Int} (hb : U b) (h : b ≠ 0) : r1_Of 17 0 b = some (0, true) := by
  have n0 := i32nz hb.1 hb.2 h
  have n1 : IntKind.i64.wrap (IntKind.i32.wrap b) = IntKind.i32.wrap b := by
    have := i32w hb.1 hb.2
    obtain ⟨hb1, hb2⟩ := hb
    exact wrap_i64 (by rw [this]; split <;> omega) (by rw [this]; split <;> omega)
  simp [r1_Of, rem', n0, n1, show IntKind.i32.wrap 0 = 0 from rfl, show IntKind.u32.wrap 0 = 0 from rfl, show IntKind.i64.wrap 0 = 0 from rfl]
/-- What the chain comes to. -/
noncomputable def q3 (xs : List Int) : Int := ((word_Of 16 (gOf xs 0) (gOf xs 1)).getD (0, 0)).1
noncomputable def q4 (xs : List Int) : Int := IntKind.u32.wrap (q3 xs * q3 xs)
noncomputable def q5 (xs : List Int) : Int := ((pair_Of 20 (q4 xs) (q3 xs)).getD (0, 0)).1
def incF (t : Int) : Int := 8 * t + 1
def tzF (c : Int) : Option Bool := none
noncomputable def dF (xs : List Int) (c : Int) : Int := bif decide (c % 8 = 1) then gOf xs (c / 8) else bif decide (c = 2) then q3 xs else bif decide (c = 3) then q4 xs else bif decide (c = 4) then q5 xs else 0
theorem d_1 (xs : List Int) : dF xs 1 = gOf xs 0 := rfl
theorem d_9 (xs : List Int) : dF xs 9 = gOf xs 1 := rfl
theorem d_2 (xs : List Int) : dF xs 2 = q3 xs := rfl
theorem d_3 (xs : List Int) : dF xs 3 = q4 xs := rfl
theorem d_4 (xs : List Int) : dF xs 4 = q5 xs := rfl
theorem d_0 (xs : List Int) : dF xs 0 = 0 := rfl
def M0 : List Int := cop (List.replicate 256 0) []
def mF (m : List Int) : List Int := bif decide (m = [0]) then M0 else []
theorem m_len (m : List Int) : (mF m).length ≤ 1000 := by
  have e : M0.length = 256 := by kernel_rfl
  unfold mF
  cases decide (m = [0])
  · exact Nat.zero_le _
  · rw [cond_true, e]; decide
def tldF (z : Nat) (op imm a b : Int) (m : List Int) : Option (List Int × Int × Int) :=
  bif decide (op = 16 ∧ a = 1 ∧ b = 9) then (bif decide (z = 0) then some (m, 0, 3) else some (m, 2, 0))
  else bif decide (z = 0) then none
  else bif decide (op = 14 ∧ a = 2 ∧ b = 2) then some (m, 3, 0)
  else bif decide (op = 20 ∧ a = 3 ∧ b = 2) then some (m, 4, 0)
  else bif decide (op = 24 ∧ imm = 0 ∧ a = 4 ∧ m = [0]) then (bif decide (z = 1) then some (m, 0, 2) else some (m, 0, 0))
  else bif decide (z = 1) then none
  else bif decide (op = 25 ∧ imm = 1 ∧ a = 4 ∧ b = 0 ∧ m = [0]) then (bif decide (z = 2) then some (m, 0, 2) else some (m, 0, 0))
  else bif decide (z = 2) then none
  else bif decide (op = 17 ∧ a = 0 ∧ b = 1) then (bif decide (z = 3) then some (m, 0, 3) else some (m, 0, 0))
  else none
theorem told_F {xs : List Int} (h : xs.length ≤ 100) : Told (dF xs) xs incF tzF where
  hl := h
  h0 := rfl
  hin t ht := by
    unfold dF incF
    rw [decide_eq_true (by omega), cond_true]
    congr 1
    omega
  hz a z e := by cases e
/-- Which case it is. -/
def Case (xs : List Int) (z : Nat) : Prop := (z = 0 ∧ gOf xs 1 = 0) ∨ (z = 1 ∧ gOf xs 1 ≠ 0 ∧ 256 ≤ q5 xs) ∨ (z = 2 ∧ gOf xs 1 ≠ 0 ∧ q5 xs = 255) ∨ (z = 3 ∧ gOf xs 1 ≠ 0 ∧ q5 xs ≤ 254 ∧ gOf xs 0 = 0) ∨ (z = 4 ∧ gOf xs 1 ≠ 0 ∧ q5 xs ≤ 254 ∧ gOf xs 0 ≠ 0)
theorem M0_at {i : Int} (h0 : 0 ≤ i) (h1 : i ≤ 255) : at' M0 i = some 0 := by
  obtain ⟨n, rfl⟩ := Int.eq_ofNat_of_zero_le h0
  have e : M0 = List.replicate 256 0 := by kernel_rfl
  rw [e, at'_nat (by rw [List.length_replicate]; omega), List.getElem_replicate]
theorem M0_set {i : Int} (h0 : 0 ≤ i) (h1 : i ≤ 255) : set' M0 i 0 = some M0 := by
  have e : M0 = List.replicate 256 0 := by kernel_rfl
  rw [e, set', if_pos ⟨h0, by rw [List.length_replicate]; omega⟩]
  congr 1
  apply List.ext_getElem
  · simp
  · intro k h1 h2
    rw [List.getElem_set]
    split <;> simp only [List.getElem_replicate]
theorem u32w {n : Int} (h0 : 0 ≤ n) (h1 : n ≤ 4294967295) : IntKind.u32.wrap n = n := by rw [M.u32_eq]; omega
theorem chain {xs : List Int} (hw : ∀ w ∈ xs, 0 ≤ w ∧ w ≤ 4294967295) (h : gOf xs 1 ≠ 0) : word_Of 16 (gOf xs 0) (gOf xs 1) = some (q3 xs, 0) ∧ r1_Of 16 (gOf xs 0) (gOf xs 1) = some (q3 xs, true) ∧ U (q3 xs) ∧ pair_Of 20 (q4 xs) (q3 xs) = some (q5 xs, 0) ∧ r1_Pair 20 (q4 xs) (q3 xs) = some (q5 xs) ∧ U (q5 xs) := by
  obtain ⟨v, hv, e1, e2⟩ := b16 (a := gOf xs 0) (gOf_w hw 1) h
  have e3 : q3 xs = v := by rw [q3, e1]; rfl
  have u4 : U (q4 xs) := u_wrap _
  have u3 : U (q3 xs) := e3 ▸ hv
  obtain ⟨w, hw2, f1, f2⟩ := pair20 u4 u3
  have e5 : q5 xs = w := by rw [q5, f1]; rfl
  exact ⟨by rw [e1, e3], by rw [e2, e3], u3, by rw [f1, e5], by rw [f2, e5], e5 ▸ hw2⟩
section
variable {xs : List Int} (hw : ∀ w ∈ xs, 0 ≤ w ∧ w ≤ 4294967295) {z : Nat} (hc : Case xs z)
include hw hc
theorem told_A : ToldA (dF xs) mF xs (tldF z) := by
  intro S i a b r h
  have kw : ∀ (op v e : Int), i.Op = op → pair_Has op = false → word_Has op = true → word_Of op (dF xs a) (dF xs b) = some (v, e) → seq_Act (fa (dF xs) mF xs S) i (dF xs a) (dF xs b) = bif decide (e ≠ 0) then some (fa (dF xs) mF xs S, 0, 3) else some (fa (dF xs) mF xs S, v, 0) := fun op v e h1 h2 h3 h4 => by
    rw [seq_Act, h1, h2, h3, cond_false, cond_true, h4]; rfl
  have hn : z ≠ 0 → gOf xs 1 ≠ 0 := fun hz => by rcases hc with hc | hc | hc | hc | hc <;> omega
  unfold tldF at h
  by_cases e : i.Op = 16 ∧ a = 1 ∧ b = 9
  · rw [decide_eq_true e, cond_true] at h
    obtain ⟨e1, rfl, rfl⟩ := e
    by_cases q : z = 0
    · rw [decide_eq_true q, cond_true] at h; cases h
      have g : gOf xs 1 = 0 := by rcases hc with hc | hc | hc | hc | hc <;> omega
      rw [kw 16 0 7 e1 rfl rfl (by rw [d_9, g]; rfl)]; rfl
    · rw [decide_eq_false q, cond_false] at h; cases h
      obtain ⟨c1, _⟩ := chain hw (hn q)
      rw [kw 16 _ _ e1 rfl rfl (by rw [d_1, d_9]; exact c1)]; rfl
  rw [decide_eq_false e, cond_false] at h
  by_cases q0 : z = 0
  · rw [decide_eq_true q0] at h; cases h
  rw [decide_eq_false q0, cond_false] at h
  obtain ⟨c1, c2, c3, c4, c5, c6⟩ := chain hw (hn q0)
  clear e
  by_cases e : i.Op = 14 ∧ a = 2 ∧ b = 2
  · rw [decide_eq_true e, cond_true] at h
    obtain ⟨e1, rfl, rfl⟩ := e
    cases h
    rw [kw 14 _ _ e1 rfl rfl (w14 _ _)]; rfl
  rw [decide_eq_false e, cond_false] at h
  clear e
  by_cases e : i.Op = 20 ∧ a = 3 ∧ b = 2
  · rw [decide_eq_true e, cond_true] at h
    obtain ⟨e1, rfl, rfl⟩ := e
    cases h
    rw [seq_Act, e1, show pair_Has 20 = true from rfl, cond_true, d_3, d_2, c4]; rfl
  rw [decide_eq_false e, cond_false] at h
  clear e
  by_cases e : i.Op = 24 ∧ i.Imm = 0 ∧ a = 4 ∧ S.Mem = [0]
  · rw [decide_eq_true e, cond_true] at h
    obtain ⟨e1, e2, rfl, e5⟩ := e
    have wa : IntKind.u32.wrap (q5 xs + IntKind.u32.wrap 0) = q5 xs := by rw [show IntKind.u32.wrap 0 = 0 from rfl, Int.add_zero, u32w c6.1 c6.2]
    by_cases q : z = 1
    · rw [decide_eq_true q, cond_true] at h; cases h
      have g : 256 ≤ q5 xs := by rcases hc with hc | hc | hc | hc | hc <;> omega
      simp [seq_Act, seq_Act_k1, seq_Act_k2, seq_memory, seq_memory_k1,  e1, e2, e5, fa, memS, d_4, d_0, cut, wa, g, show pair_Has 24 = false from rfl, show word_Has 24 = false from rfl]
    · rw [decide_eq_false q, cond_false] at h; cases h
      have g : ¬ 256 ≤ q5 xs := by rcases hc with hc | hc | hc | hc | hc <;> omega
      have ha := M0_at (i := q5 xs) c6.1 (by omega)
      simp [seq_Act, seq_Act_k1, seq_Act_k2, seq_memory, seq_memory_k1,  e1, e2, e5, fa, memS, d_4, d_0, cut, wa, g, ha, show mF [0] = M0 from rfl, show pair_Has 24 = false from rfl, show word_Has 24 = false from rfl]
  rw [decide_eq_false e, cond_false] at h
  by_cases q1 : z = 1
  · rw [decide_eq_true q1] at h; cases h
  rw [decide_eq_false q1, cond_false] at h
  clear e
  by_cases e : i.Op = 25 ∧ i.Imm = 1 ∧ a = 4 ∧ b = 0 ∧ S.Mem = [0]
  · rw [decide_eq_true e, cond_true] at h
    obtain ⟨e1, e2, rfl, rfl, e5⟩ := e
    have g0 : q5 xs ≤ 255 := by rcases hc with hc | hc | hc | hc | hc <;> omega
    have wa : IntKind.u32.wrap (q5 xs + IntKind.u32.wrap 1) = q5 xs + 1 := by rw [show IntKind.u32.wrap 1 = 1 from rfl, u32w (by have := c6.1; omega) (by omega)]
    by_cases q : z = 2
    · rw [decide_eq_true q, cond_true] at h; cases h
      have g : 256 ≤ q5 xs + 1 := by rcases hc with hc | hc | hc | hc | hc <;> omega
      simp [seq_Act, seq_Act_k1, seq_Act_k2, seq_memory, seq_memory_k1,  e1, e2, e5, fa, memS, d_4, d_0, cut, wa, g, show pair_Has 25 = false from rfl, show word_Has 25 = false from rfl]
    · rw [decide_eq_false q, cond_false] at h; cases h
      have g : ¬ 256 ≤ q5 xs + 1 := by rcases hc with hc | hc | hc | hc | hc <;> omega
      have c60 := c6.1
      have ha := M0_at (i := q5 xs + 1) (by omega) (by omega)
      have hs := M0_set (i := q5 xs + 1) (by omega) (by omega)
      simp [seq_Act, seq_Act_k1, seq_Act_k2, seq_memory, seq_memory_k1,  e1, e2, e5, fa, memS, d_4, d_0, cut, wa, g, ha, hs, show mF [0] = M0 from rfl, show pair_Has 25 = false from rfl, show word_Has 25 = false from rfl]
  rw [decide_eq_false e, cond_false] at h
  by_cases q2 : z = 2
  · rw [decide_eq_true q2] at h; cases h
  rw [decide_eq_false q2, cond_false] at h
  clear e
  by_cases e : i.Op = 17 ∧ a = 0 ∧ b = 1
  · rw [decide_eq_true e, cond_true] at h
    obtain ⟨e1, rfl, rfl⟩ := e
    by_cases q : z = 3
    · rw [decide_eq_true q, cond_true] at h; cases h
      have g : gOf xs 0 = 0 := by rcases hc with hc | hc | hc | hc | hc <;> omega
      rw [kw 17 0 7 e1 rfl rfl (by rw [d_1, g]; rfl)]; rfl
    · rw [decide_eq_false q, cond_false] at h; cases h
      have g : gOf xs 0 ≠ 0 := by rcases hc with hc | hc | hc | hc | hc <;> omega
      rw [kw 17 _ _ e1 rfl rfl (by rw [d_0, d_1]; exact w17 (gOf_w hw 0) g)]; rfl
  rw [decide_eq_false e, cond_false] at h; cases h
theorem told_D : ToldD (dF xs) mF xs (tldF z) := by
  intro S i a b c r h
  have kw : ∀ (op v : Int) (e : Bool), i.Op = op → r1_Has op = true → r1_Of op (dF xs a) (dF xs b) = some (v, e) → r5_do (fa (dF xs) mF xs S) i (dF xs a) (dF xs b) c = bif !e then some (fa (dF xs) mF xs S, ⟨false, 0, false, 0, 3⟩) else some (fa (dF xs) mF xs S, ⟨true, v, false, 0, 0⟩) := fun op v e h1 h2 h3 => by
    rw [r5_do, h1, h2, cond_true, h3]; rfl
  have hn : z ≠ 0 → gOf xs 1 ≠ 0 := fun hz => by rcases hc with hc | hc | hc | hc | hc <;> omega
  unfold tldF at h
  by_cases e : i.Op = 16 ∧ a = 1 ∧ b = 9
  · rw [decide_eq_true e, cond_true] at h
    obtain ⟨e1, rfl, rfl⟩ := e
    by_cases q : z = 0
    · rw [decide_eq_true q, cond_true] at h; cases h
      have g : gOf xs 1 = 0 := by rcases hc with hc | hc | hc | hc | hc <;> omega
      rw [kw 16 0 false e1 rfl (by rw [d_9, g]; rfl)]; rfl
    · rw [decide_eq_false q, cond_false] at h; cases h
      obtain ⟨_, c2, _⟩ := chain hw (hn q)
      rw [kw 16 _ _ e1 rfl (by rw [d_1, d_9]; exact c2), e1]; rfl
  rw [decide_eq_false e, cond_false] at h
  by_cases q0 : z = 0
  · rw [decide_eq_true q0] at h; cases h
  rw [decide_eq_false q0, cond_false] at h
  obtain ⟨c1, c2, c3, c4, c5, c6⟩ := chain hw (hn q0)
  clear e
  by_cases e : i.Op = 14 ∧ a = 2 ∧ b = 2
  · rw [decide_eq_true e, cond_true] at h
    obtain ⟨e1, rfl, rfl⟩ := e
    cases h
    rw [kw 14 _ _ e1 rfl (r14 c3), e1]; rfl
  rw [decide_eq_false e, cond_false] at h
  clear e
  by_cases e : i.Op = 20 ∧ a = 3 ∧ b = 2
  · rw [decide_eq_true e, cond_true] at h
    obtain ⟨e1, rfl, rfl⟩ := e
    cases h
    rw [r5_do, e1, show r1_Has 20 = false from rfl, cond_false, show r1_Paired 20 = true from rfl, cond_true, d_3, d_2, c5]; rfl
  rw [decide_eq_false e, cond_false] at h
  clear e
  by_cases e : i.Op = 24 ∧ i.Imm = 0 ∧ a = 4 ∧ S.Mem = [0]
  · rw [decide_eq_true e, cond_true] at h
    obtain ⟨e1, e2, rfl, e5⟩ := e
    have wa : IntKind.u32.wrap (q5 xs + IntKind.u32.wrap 0) = q5 xs := by rw [show IntKind.u32.wrap 0 = 0 from rfl, Int.add_zero, u32w c6.1 c6.2]
    by_cases q : z = 1
    · rw [decide_eq_true q, cond_true] at h; cases h
      have g : 256 ≤ q5 xs := by rcases hc with hc | hc | hc | hc | hc <;> omega
      simp [r5_do, r5_do_k1,  e1, e2, e5, fa, memS, d_4, d_0, cut, wa, g, show r1_Has 24 = false from rfl, show r1_Paired 24 = false from rfl]
    · rw [decide_eq_false q, cond_false] at h; cases h
      have g : ¬ 256 ≤ q5 xs := by rcases hc with hc | hc | hc | hc | hc <;> omega
      have ha := M0_at (i := q5 xs) c6.1 (by omega)
      simp [r5_do, r5_do_k1,  e1, e2, e5, fa, memS, d_4, d_0, cut, wa, g, ha, show mF [0] = M0 from rfl, show r1_Has 24 = false from rfl, show r1_Paired 24 = false from rfl]
  rw [decide_eq_false e, cond_false] at h
  by_cases q1 : z = 1
  · rw [decide_eq_true q1] at h; cases h
  rw [decide_eq_false q1, cond_false] at h
  clear e
  by_cases e : i.Op = 25 ∧ i.Imm = 1 ∧ a = 4 ∧ b = 0 ∧ S.Mem = [0]
  · rw [decide_eq_true e, cond_true] at h
    obtain ⟨e1, e2, rfl, rfl, e5⟩ := e
    have g0 : q5 xs ≤ 255 := by rcases hc with hc | hc | hc | hc | hc <;> omega
    have wa : IntKind.u32.wrap (q5 xs + IntKind.u32.wrap 1) = q5 xs + 1 := by rw [show IntKind.u32.wrap 1 = 1 from rfl, u32w (by have := c6.1; omega) (by omega)]
    by_cases q : z = 2
    · rw [decide_eq_true q, cond_true] at h; cases h
      have g : 256 ≤ q5 xs + 1 := by rcases hc with hc | hc | hc | hc | hc <;> omega
      simp [r5_do, r5_do_k1,  e1, e2, e5, fa, memS, d_4, d_0, cut, wa, g, show r1_Has 25 = false from rfl, show r1_Paired 25 = false from rfl]
    · rw [decide_eq_false q, cond_false] at h; cases h
      have g : ¬ 256 ≤ q5 xs + 1 := by rcases hc with hc | hc | hc | hc | hc <;> omega
      have c60 := c6.1
      have hs := M0_set (i := q5 xs + 1) (by omega) (by omega)
      simp [r5_do, r5_do_k1,  e1, e2, e5, fa, memS, d_4, d_0, cut, wa, g, hs, show mF [0] = M0 from rfl, show r1_Has 25 = false from rfl, show r1_Paired 25 = false from rfl]
  rw [decide_eq_false e, cond_false] at h
  by_cases q2 : z = 2
  · rw [decide_eq_true q2] at h; cases h
  rw [decide_eq_false q2, cond_false] at h
  clear e
  by_cases e : i.Op = 17 ∧ a = 0 ∧ b = 1
  · rw [decide_eq_true e, cond_true] at h
    obtain ⟨e1, rfl, rfl⟩ := e
    by_cases q : z = 3
    · rw [decide_eq_true q, cond_true] at h; cases h
      have g : gOf xs 0 = 0 := by rcases hc with hc | hc | hc | hc | hc <;> omega
      rw [kw 17 0 false e1 rfl (by rw [d_1, g]; rfl)]; rfl
    · rw [decide_eq_false q, cond_false] at h; cases h
      have g : gOf xs 0 ≠ 0 := by rcases hc with hc | hc | hc | hc | hc <;> omega
      rw [kw 17 _ _ e1 rfl (by rw [d_0, d_1]; exact r17 (gOf_w hw 0) g), e1]; rfl
  rw [decide_eq_false e, cond_false] at h; cases h
end
theorem case_of {xs : List Int} (hw : ∀ w ∈ xs, 0 ≤ w ∧ w ≤ 4294967295) : ∃ z : Nat, z < 5 ∧ Case xs z := by
  by_cases h0 : gOf xs 1 = 0
  · exact ⟨0, by decide, .inl ⟨rfl, h0⟩⟩
  · by_cases h1 : 256 ≤ q5 xs
    · exact ⟨1, by decide, .inr (.inl ⟨rfl, h0, h1⟩)⟩
    · by_cases h2 : q5 xs = 255
      · exact ⟨2, by decide, .inr (.inr (.inl ⟨rfl, h0, h2⟩))⟩
      · by_cases h3 : gOf xs 0 = 0
        · exact ⟨3, by decide, .inr (.inr (.inr (.inl ⟨rfl, h0, by omega, h3⟩)))⟩
        · exact ⟨4, by decide, .inr (.inr (.inr (.inr ⟨rfl, h0, by omega, h3⟩)))⟩
def nums : List Nat := [0, 1, 2, 3, 5, 7, 10, 14, 19, 26, 35, 47, 63, 85, 114, 153]
theorem cks : (List.range 5).all (fun z => nums.all fun n => chk0 incF tzF (tldF z) n) = true := by kernel_rfl
theorem all0 {xs : List Int} (h : xs.length ≤ 100) (hw : ∀ w ∈ xs, 0 ≤ w ∧ w ≤ 4294967295) : l23_alike txt0 xs = some true := by
  obtain ⟨z, hz, hc⟩ := case_of hw
  have q := List.all_eq_true.1 (List.all_eq_true.1 cks z (List.mem_range.2 hz))
  have f : ∀ n ∈ nums, n ≤ 200 → Fine imx0 flx0 (n : Int) xs := fun n hn hn2 => fc0 (told_F h) (told_F h) (told_A hw hc) (told_D hw hc) m_len m_len hn2 rfl rfl rfl rfl (q n hn)
  exact alike0 ⟨f 0 (by decide) (by decide), f 1 (by decide) (by decide), f 2 (by decide) (by decide), f 3 (by decide) (by decide), f 5 (by decide) (by decide), f 7 (by decide) (by decide), f 10 (by decide) (by decide), f 14 (by decide) (by decide), f 19 (by decide) (by decide), f 26 (by decide) (by decide), f 35 (by decide) (by decide), f 47 (by decide) (by decide), f 63 (by decide) (by decide), f 85 (by decide) (by decide), f 114 (by decide) (by decide), f 153 (by decide) (by decide)⟩
end Go.Proofs.YtgakgpbmcbegbaaGreatDoor
namespace Go.Proofs.YtgakgpbmcbegbaaGreatDoor
open Go Go.RowKit Fr
set_option linter.unusedVariables false
set_option maxRecDepth 20000
def sev : List (List Int) := [[], [3, 4, 0], [5, 1, 2, 0, 7, 7, 0], [1, 0, 0], [4294967295, 2147483648, 1], [250, 9, 9, 9], [65538, 2147450880, 5]]
def ext4 : List (List Int) := [[9, 3], [1, 1], [0, 5], [4, 2, 1]]
theorem pure_BenchChains (x : T_Ask) (hx : Wf_Ask x) : l23_BenchChains x = some true := by
  have key : ∀ l : List (List Int), (∀ z ∈ l, z.length ≤ 100 ∧ ∀ w ∈ z, 0 ≤ w ∧ w ≤ 4294967295) → ∀ n : Nat, n + l.length ≤ 100 → ∀ p : List (List Int), p.length = n → loop (l23_BenchChains_b1 (p ++ l)) (n : Int) = some true := by
    intro l
    induction l with
    | nil =>
      intro _ n hn p hp
      refine loop_done ?_
      rw [l23_BenchChains_b1, List.append_nil, hp, wakes_ok]
      simp
    | cons z l ih =>
      intro hl n hn p hp
      have a : at' (p ++ z :: l) (n : Int) = some z := by
        rw [at'_nat (by simp only [List.length_append, List.length_cons]; omega)]
        subst hp
        simp
      have b : l23_BenchChains_b1 (p ++ z :: l) (n : Int) = some (.next ((n + 1 : Nat) : Int)) := by
        have c : decide ((n : Int) < ((p ++ z :: l).length : Int)) = true := decide_eq_true (by simp only [List.length_append, List.length_cons]; omega)
        rw [l23_BenchChains_b1, c, a]
        have r0 : l23_alike (ByteArray.mk #[109, 97, 105, 110, 58, 32, 105, 110, 32, 114, 49, 10, 105, 110, 32, 114, 50, 10, 100, 105, 118, 32, 114, 51, 44, 32, 114, 49, 44, 32, 114, 50, 10, 109, 117, 108, 32, 114, 52, 44, 32, 114, 51, 44, 32, 114, 51, 10, 111, 117, 116, 32, 114, 52, 10, 99, 109, 117, 108, 32, 114, 53, 44, 32, 114, 52, 44, 32, 114, 51, 10, 108, 100, 32, 114, 54, 44, 32, 114, 53, 44, 32, 48, 10, 115, 116, 32, 114, 54, 44, 32, 114, 53, 44, 32, 49, 10, 111, 117, 116, 32, 114, 54, 10, 114, 101, 109, 32, 114, 55, 44, 32, 114, 54, 44, 32, 114, 49, 10, 111, 117, 116, 32, 114, 55, 10, 104, 97, 108, 116]) z = some true := all0 (hl z List.mem_cons_self).1 (hl z List.mem_cons_self).2
        simp only [cond_true, Option.bind_some, r0, Bool.not_true, cond_false]
        rw [wrap_nat (by simp only [List.length_cons] at hn; omega)]
      rw [loop_next b, show p ++ z :: l = (p ++ [z]) ++ l by simp]
      exact ih (fun z hz => hl z (List.mem_cons_of_mem _ hz)) (n + 1) (by simp only [List.length_cons] at hn; omega) (p ++ [z]) (by simp [hp])
  have h7 : ∀ z ∈ sev, z.length ≤ 100 ∧ ∀ w ∈ z, 0 ≤ w ∧ w ≤ 4294967295 := by decide
  have h4 : ∀ z ∈ ext4, z.length ≤ 100 ∧ ∀ w ∈ z, 0 ≤ w ∧ w ≤ 4294967295 := by decide
  rw [l23_BenchChains]
  by_cases h : x.In_.length ≤ 100
  · have e : l23_ins x = some (sev ++ [x.In_]) := by
      rw [l23_ins, decide_eq_true (show (x.In_.length : Int) ≤ 100 by omega)]; rfl
    have q : app' (sev ++ [x.In_]) ext4 = some ((sev ++ [x.In_]) ++ ext4) := rfl
    rw [e, Option.bind_some]
    change (app' (sev ++ [x.In_]) ext4).bind _ = _
    rw [q, Option.bind_some]
    exact key ((sev ++ [x.In_]) ++ ext4) (fun z hz => by
      rcases List.mem_append.1 hz with hz | hz
      · rcases List.mem_append.1 hz with hz | hz
        · exact h7 z hz
        · rw [List.mem_singleton] at hz; subst hz; exact ⟨h, hx.h3⟩
      · exact h4 z hz) 0 (by simp [sev, ext4]) [] rfl
  · have e : l23_ins x = some sev := by
      rw [l23_ins, decide_eq_false (show ¬ (x.In_.length : Int) ≤ 100 by omega)]; rfl
    have q : app' sev ext4 = some (sev ++ ext4) := rfl
    rw [e, Option.bind_some]
    change (app' sev ext4).bind _ = _
    rw [q, Option.bind_some]
    exact key (sev ++ ext4) (fun z hz => by
      rcases List.mem_append.1 hz with hz | hz
      · exact h7 z hz
      · exact h4 z hz) 0 (by decide) [] rfl
end Go.Proofs.YtgakgpbmcbegbaaGreatDoor
