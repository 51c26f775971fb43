/- The pair table: both answers. -/
import Derived.Test.YtfnmihhcopkkbaaGreatStB
import Derived.Test.YtfnmihhcopkkbaaGreatFloat
namespace Go.Proofs.YtfnmihhcopkkbaaGreat
open Go Fr
set_option linter.unusedVariables false
set_option linter.unusedSimpArgs false
set_option maxRecDepth 20000
theorem i16_eq (n : Int) : IntKind.i16.wrap n = if 32768 ≤ n % 65536 then n % 65536 - 65536 else n % 65536 := by
  simp only [IntKind.wrap, IntKind.bits, IntKind.signed]
  simp only [Int.reducePow, Nat.reduceSub, Bool.true_and, decide_eq_true_eq, ge_iff_le]
theorem u16_eq (n : Int) : IntKind.u16.wrap n = n % 65536 := by
  simp only [IntKind.wrap, IntKind.bits, IntKind.signed]
  simp only [Int.reducePow, Bool.false_and, Bool.false_eq_true, if_false]
theorem and16 {x : Int} (hx : 0 ≤ x ∧ x < 4294967296) : bits .and .u32 x 65535 = x % 65536 := by
  obtain ⟨n, rfl⟩ := Int.eq_ofNat_of_zero_le hx.1
  have hn : n < 4294967296 := by omega
  have h2 : ((BitVec.ofInt 32 (n : Int)) &&& (BitVec.ofInt 32 65535)).toNat = n % 65536 := by
    rw [BitVec.toNat_and, BitVec.ofInt_natCast, BitVec.toNat_ofNat]
    have : (BitVec.ofInt 32 65535).toNat = 2 ^ 16 - 1 := by decide
    rw [this, Nat.and_two_pow_sub_one_eq_mod]
    omega
  show IntKind.u32.wrap (((BitVec.ofInt 32 (n : Int)) &&& (BitVec.ofInt 32 65535)).toNat : Int) = _
  rw [h2, M.u32_eq]
  omega
theorem i16_range (n : Int) : -32768 ≤ IntKind.i16.wrap n ∧ IntKind.i16.wrap n ≤ 32767 := by rw [i16_eq]; split <;> omega
theorem i64_i16 (n : Int) : IntKind.i64.wrap (IntKind.i16.wrap n) = IntKind.i16.wrap n := by
  have := i16_range n
  exact wrap_i64 (by omega) (by omega)
theorem parts_r1 {a : Int} (ha : U a) : r1_Parts a = some (IntKind.i16.wrap a, IntKind.i16.wrap (a.fdiv (2 ^ 16))) := by
  unfold U at ha
  have h : IntKind.i16.wrap (a % 65536) = IntKind.i16.wrap a := by rw [i16_eq, i16_eq]; split <;> split <;> omega
  simp only [r1_Parts, shr', and16 (x := a) (by omega), i64_i16, h]
  rfl
theorem parts_pair (a : Int) : pair_Parts a = some (IntKind.i16.wrap a, IntKind.i16.wrap (a.fdiv (2 ^ 16))) := by
  simp only [pair_Parts, shr', i64_i16]
  rfl
theorem make_same (a b : Int) : r1_Make a b = pair_Make a b := by
  have h : ∀ n : Int, bits .and .u32 (IntKind.u32.wrap n) 65535 = IntKind.u32.wrap (IntKind.u16.wrap n) := fun n => by
    rw [and16 (by rw [M.u32_eq]; omega), M.u32_eq, M.u32_eq, u16_eq]; omega
  have h2 : ∀ n : Int, IntKind.u32.wrap (IntKind.u16.wrap n) = IntKind.u16.wrap n := fun n => by rw [M.u32_eq, u16_eq]; omega
  simp only [r1_Make, pair_Make, h, h2]
theorem make_u (a b : Int) : ∃ v, U v ∧ pair_Make a b = some v := by
  have h : ∀ n : Int, shl' .u32 n 16 = some (IntKind.u32.wrap (n * 2 ^ 16)) := fun n => rfl
  refine ⟨bits .or .u32 (IntKind.u32.wrap (IntKind.u16.wrap a)) (IntKind.u32.wrap (IntKind.u32.wrap (IntKind.u16.wrap b) * 2 ^ 16)), u_or _ _, ?_⟩
  simp only [pair_Make, h, Option.bind_some]
theorem packed_of {x y : Nat} {n m : Int} (hx : Fl.FI x n) (hy : Fl.FI y m) (hn : n.natAbs < 2 ^ 53) (hm : m.natAbs < 2 ^ 53) : pair_packed (x, y) = pair_Make n m := by
  simp only [pair_packed, hx.toInt hn, hy.toInt hm, Option.bind_some]
  cases pair_Make n m <;> rfl
theorem small_mul {p q : Int} (hp : -32768 ≤ p ∧ p ≤ 32767) (hq : -32768 ≤ q ∧ q ≤ 32767) : (p * q).natAbs ≤ 1073741824 := by
  rw [Int.natAbs_mul]
  exact Nat.mul_le_mul (show p.natAbs ≤ 32768 by omega) (show q.natAbs ≤ 32768 by omega)
theorem pair_both {op a b : Int} (ho : 18 ≤ op ∧ op ≤ 21) (ha : U a) (hb : U b) : ∃ v, U v ∧ pair_Of op a b = some (v, 0) ∧ r1_Pair op a b = some v := by
  have i1 := i16_range a
  have i2 := i16_range (a.fdiv (2 ^ 16))
  have i3 := i16_range b
  have i4 := i16_range (b.fdiv (2 ^ 16))
  simp only [pair_Of, r1_Pair, pair_number, parts_r1 ha, parts_r1 hb, parts_pair, Option.bind_some]
  generalize IntKind.i16.wrap a = p at *
  generalize IntKind.i16.wrap (a.fdiv (2 ^ 16)) = q at *
  generalize IntKind.i16.wrap b = r at *
  generalize IntKind.i16.wrap (b.fdiv (2 ^ 16)) = s at *
  have f1 := Fl.FI.of_int (n := p) (by omega)
  have f2 := Fl.FI.of_int (n := q) (by omega)
  have f3 := Fl.FI.of_int (n := r) (by omega)
  have f4 := Fl.FI.of_int (n := s) (by omega)
  generalize FloatKind.f64.nearest p = x1 at *
  generalize FloatKind.f64.nearest q = x2 at *
  generalize FloatKind.f64.nearest r = x3 at *
  generalize FloatKind.f64.nearest s = x4 at *
  rcases (show op = 18 ∨ op = 19 ∨ op = 20 ∨ op = 21 by omega) with rfl | rfl | rfl | rfl
  · obtain ⟨v1, g1, k1⟩ := f1.add f3 (by omega) (by omega) (by omega)
    obtain ⟨v2, g2, k2⟩ := f2.add f4 (by omega) (by omega) (by omega)
    obtain ⟨v, hv, hm⟩ := make_u (p + r) (q + s)
    have hc : cSumBits .add .f64 x1 x2 x3 x4 = some (v1, v2) := by simp [cSumBits, floatBits, g1, g2]
    refine ⟨v, hv, ?_, ?_⟩
    · simp [hc, packed_of k1 k2 (by omega) (by omega), hm]
    · simp [make_same, wrap_i64 (n := p + r) (by omega) (by omega), wrap_i64 (n := q + s) (by omega) (by omega), hm]
  · obtain ⟨v1, g1, k1⟩ := f1.sub f3 (by omega) (by omega) (by omega)
    obtain ⟨v2, g2, k2⟩ := f2.sub f4 (by omega) (by omega) (by omega)
    obtain ⟨v, hv, hm⟩ := make_u (p - r) (q - s)
    have hc : cSumBits .sub .f64 x1 x2 x3 x4 = some (v1, v2) := by simp [cSumBits, floatBits, g1, g2]
    refine ⟨v, hv, ?_, ?_⟩
    · simp [hc, packed_of k1 k2 (by omega) (by omega), hm]
    · simp [make_same, wrap_i64 (n := p - r) (by omega) (by omega), wrap_i64 (n := q - s) (by omega) (by omega), hm]
  · have n1 := small_mul i1 i3
    have n2 := small_mul i2 i4
    have n3 := small_mul i1 i4
    have n4 := small_mul i2 i3
    obtain ⟨v1, g1, k1⟩ := f1.mul f3 (by omega) (by omega) (by omega)
    obtain ⟨v2, g2, k2⟩ := f2.mul f4 (by omega) (by omega) (by omega)
    obtain ⟨v3, g3, k3⟩ := f1.mul f4 (by omega) (by omega) (by omega)
    obtain ⟨v4, g4, k4⟩ := f2.mul f3 (by omega) (by omega) (by omega)
    obtain ⟨v5, g5, k5⟩ := k1.sub k2 (by omega) (by omega) (by omega)
    obtain ⟨v6, g6, k6⟩ := k3.add k4 (by omega) (by omega) (by omega)
    obtain ⟨v, hv, hm⟩ := make_u (p * r - q * s) (p * s + q * r)
    have hc : cMulBits x1 x2 x3 x4 = some (v5, v6) := by simp [cMulBits, floatBits, g1, g2, g3, g4, g5, g6]
    refine ⟨v, hv, ?_, ?_⟩
    · simp [hc, packed_of k5 k6 (by omega) (by omega), hm]
    · simp [make_same, wrap_i64 (n := p * r) (by omega) (by omega), wrap_i64 (n := q * s) (by omega) (by omega), wrap_i64 (n := p * s) (by omega) (by omega), wrap_i64 (n := q * r) (by omega) (by omega),
        wrap_i64 (n := p * r - q * s) (by omega) (by omega), wrap_i64 (n := p * s + q * r) (by omega) (by omega), hm]
  · have k2 := f2.neg
    obtain ⟨v, hv, hm⟩ := make_u p (-q)
    refine ⟨v, hv, ?_, ?_⟩
    · simp [pair_turned, packed_of f1 k2 (by omega) (by omega), hm]
    · simp [make_same, wrap_i64 (n := -q) (by omega) (by omega), hm]
end Go.Proofs.YtfnmihhcopkkbaaGreat
