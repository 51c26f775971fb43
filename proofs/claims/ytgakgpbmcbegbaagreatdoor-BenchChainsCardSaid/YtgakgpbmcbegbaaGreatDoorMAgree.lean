/- The two tables of word ops agree. -/
import Derived.Test.YtgakgpbmcbegbaaGreatDoorMWord
namespace Go.Proofs.YtgakgpbmcbegbaaGreatDoor.M
open Go Fr
theorem u32_eq (n : Int) : IntKind.u32.wrap n = n % 4294967296 := by
  simp only [IntKind.wrap, IntKind.bits, IntKind.signed]
  simp only [Int.reducePow, Bool.false_and, Bool.false_eq_true, if_false]
theorem i32_eq (n : Int) : IntKind.i32.wrap n = if 2147483648 ≤ n % 4294967296 then n % 4294967296 - 4294967296 else n % 4294967296 := by
  simp only [IntKind.wrap, IntKind.bits, IntKind.signed]
  simp only [Int.reducePow, Nat.reduceSub, Bool.true_and, decide_eq_true_eq, ge_iff_le]
theorem i64_eq (n : Int) : IntKind.i64.wrap n = if 9223372036854775808 ≤ n % 18446744073709551616 then n % 18446744073709551616 - 18446744073709551616 else n % 18446744073709551616 := by
  simp only [IntKind.wrap, IntKind.bits, IntKind.signed]
  simp only [Int.reducePow, Nat.reduceSub, Bool.true_and, decide_eq_true_eq, ge_iff_le]
theorem i32_range (n : Int) : -2147483648 ≤ IntKind.i32.wrap n ∧ IntKind.i32.wrap n ≤ 2147483647 := by
  rw [i32_eq]; split <;> omega
theorem i64_of_i32 (n : Int) : IntKind.i64.wrap (IntKind.i32.wrap n) = IntKind.i32.wrap n := by
  have := i32_range n
  exact wrap_i64 (by omega) (by omega)
theorem u32_i32 (n : Int) : IntKind.u32.wrap (IntKind.i32.wrap n) = IntKind.u32.wrap n := by
  rw [u32_eq, u32_eq, i32_eq]; split <;> omega
theorem u32_i64 (n : Int) : IntKind.u32.wrap (IntKind.i64.wrap n) = IntKind.u32.wrap n := by
  rw [u32_eq, u32_eq, i64_eq]; split <;> omega
theorem mul_u32 (a b : Int) : IntKind.u32.wrap (IntKind.i32.wrap a * IntKind.i32.wrap b) = IntKind.u32.wrap (a * b) := by
  rw [u32_eq, u32_eq, Int.mul_emod, Int.mul_emod a b]
  have h : ∀ n : Int, IntKind.i32.wrap n % 4294967296 = n % 4294967296 := fun n => by rw [i32_eq]; split <;> omega
  rw [h, h]
theorem and31_eq (b : Int) (hb : 0 ≤ b ∧ b < 4294967296) : bits .and .u32 b 31 = b.tmod 32 := by
  obtain ⟨n, rfl⟩ := Int.eq_ofNat_of_zero_le hb.1
  have hn : n < 4294967296 := by omega
  rw [Int.tmod_eq_emod_of_nonneg (by omega)]
  have h2 : ((BitVec.ofInt 32 (n : Int)) &&& (BitVec.ofInt 32 31)).toNat = n % 32 := by
    rw [BitVec.toNat_and, BitVec.ofInt_natCast, BitVec.toNat_ofNat]
    have : (BitVec.ofInt 32 31).toNat = 2 ^ 5 - 1 := by decide
    rw [this, Nat.and_two_pow_sub_one_eq_mod]
    omega
  show IntKind.u32.wrap (((BitVec.ofInt 32 (n : Int)) &&& (BitVec.ofInt 32 31)).toNat : Int) = _
  rw [h2, u32_eq]
  omega
theorem i32_zero_iff {b : Int} (hb : 0 ≤ b ∧ b < 4294967296) : IntKind.i32.wrap b = 0 ↔ b = 0 := ⟨i32_zero hb, fun h => by subst h; decide⟩
theorem of_agree {op a b : Int} (ho : 1 ≤ op ∧ op ≤ 17) (hb : 0 ≤ b ∧ b < 4294967296) :
    (r1Of op a b).2 = decide ((wOf op a b).2 = 0) ∧ ((r1Of op a b).2 = true → (wOf op a b).1 = (r1Of op a b).1) := by
  have hh : wHas op = true := by simp [wHas]; omega
  have h31 := and31_eq b hb
  have hz := i32_zero_iff hb
  rcases (show op = 1 ∨ op = 2 ∨ op = 3 ∨ op = 4 ∨ op = 5 ∨ op = 6 ∨ op = 7 ∨ op = 8 ∨ op = 9 ∨ op = 10 ∨ op = 11 ∨ op = 12 ∨ op = 13 ∨ op = 14 ∨ op = 15 ∨ op = 16 ∨ op = 17 by omega) with rfl | rfl | rfl | rfl | rfl | rfl | rfl | rfl | rfl | rfl | rfl | rfl | rfl | rfl | rfl | rfl | rfl
  all_goals simp only [r1Of, wOf, hh, wLogic, wCompared, wProduct, h31, i64_of_i32, mul_u32, u32_i64, u32_i32]
  all_goals first | (simp; done) | skip
  all_goals by_cases h0 : b = 0
  all_goals first
    | (simp [h0]; done)
    | (have h0' : ¬ IntKind.i32.wrap b = 0 := fun h => h0 (hz.1 h); simp [h0, h0']; done)
    | (subst h0; simp [show IntKind.i32.wrap 0 = 0 from by decide]; done)
end Go.Proofs.YtgakgpbmcbegbaaGreatDoor.M
