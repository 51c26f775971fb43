/- What the word functions tell, as plain functions. -/
import Derived.Test.YtfnmihhcopkkbaaGreatMore
namespace Go.Proofs.YtfnmihhcopkkbaaGreat.M
open Go Fr
def wHas (op : Int) : Bool := decide (1 ≤ op) && decide (op ≤ 17)
abbrev u32 (n : Int) : Int := IntKind.u32.wrap n
abbrev i32 (n : Int) : Int := IntKind.i32.wrap n
abbrev i64 (n : Int) : Int := IntKind.i64.wrap n
abbrev shl (k : IntKind) (a b : Int) : Int := k.wrap (a * 2 ^ min b.toNat k.bits)
abbrev shr (k : IntKind) (a b : Int) : Int := a.fdiv (2 ^ min b.toNat k.bits)
def wFlag (b : Bool) : Int := if b then 1 else 0
def wLogic (op a b : Int) : Int :=
  if op = 1 then u32 (a + b) else if op = 2 then u32 (a - b) else if op = 3 then bits .and .u32 a b else if op = 4 then bits .or .u32 a b else if op = 5 then bits .xor .u32 a b
  else if op = 6 then shl .u32 a (b.tmod 32) else if op = 7 then shr .u32 a (b.tmod 32) else u32 (shr .i32 (i32 a) (b.tmod 32))
def wCompared (op a b : Int) : Int :=
  if op = 9 then wFlag (decide (i32 a < i32 b)) else if op = 10 then wFlag (decide (a < b)) else if op = 11 then wFlag (decide (a = b))
  else if op = 12 then u32 (imin (i32 a) (i32 b)) else u32 (imax (i32 a) (i32 b))
def wProduct (op a b : Int) : Int :=
  if op = 14 then u32 (a * b) else if op = 15 then u32 (shr .i64 (i64 (i64 (i32 a) * i64 (i32 b))) 32) else if op = 16 then u32 (i32 ((i32 a).tdiv (i32 b))) else u32 ((i32 a).tmod (i32 b))
def wOf (op a b : Int) : Int × Int :=
  if wHas op = false then (0, 1) else if b = 0 ∧ (op = 16 ∨ op = 17) then (0, 7) else if op ≤ 8 then (wLogic op a b, 0) else if op ≤ 13 then (wCompared op a b, 0) else (wProduct op a b, 0)
theorem and31 (b : Int) (_ : 0 ≤ b) : 0 ≤ bits .and .u32 b 31 := by
  unfold bits
  simp only [go_sem]
def r1Of (op a b : Int) : Int × Bool :=
  if op = 1 then (u32 (a + b), true) else if op = 2 then (u32 (a - b), true) else if op = 3 then (bits .and .u32 a b, true) else if op = 4 then (bits .or .u32 a b, true) else if op = 5 then (bits .xor .u32 a b, true)
  else if op = 6 then (shl .u32 a (bits .and .u32 b 31), true) else if op = 7 then (shr .u32 a (bits .and .u32 b 31), true) else if op = 8 then (u32 (shr .i32 (i32 a) (bits .and .u32 b 31)), true)
  else if op = 9 then (wFlag (decide (i64 (i32 a) < i64 (i32 b))), true) else if op = 10 then (wFlag (decide (a < b)), true) else if op = 11 then (wFlag (decide (a = b)), true)
  else if op = 12 then (u32 (imin (i64 (i32 a)) (i64 (i32 b))), true) else if op = 13 then (u32 (imax (i64 (i32 a)) (i64 (i32 b))), true)
  else if op = 14 then (u32 (i64 (i64 (i32 a) * i64 (i32 b))), true) else if op = 15 then (u32 (shr .i64 (i64 (i64 (i32 a) * i64 (i32 b))) 32), true)
  else if i64 (i32 b) = 0 then (0, false) else if op = 16 then (u32 (i64 ((i64 (i32 a)).tdiv (i64 (i32 b)))), true) else (u32 ((i64 (i32 a)).tmod (i64 (i32 b))), true)
theorem i32_zero {b : Int} (hb : 0 ≤ b ∧ b < 4294967296) (h : IntKind.i32.wrap b = 0) : b = 0 := by
  simp only [IntKind.wrap, IntKind.bits, IntKind.signed] at h
  simp only [Int.reducePow, Nat.reduceSub, Bool.true_and, decide_eq_true_eq, ge_iff_le] at h
  split at h <;> omega
def sized (b : Int) : Bool := decide (1 ≤ b) && decide (b ≤ 32)
def within (n b : Int) : Bool := decide (shl .i64 (-1) (b - 1) ≤ n) && decide (n < shl .i64 1 (b - 1))
def low (n b : Int) : Int := bits .and .u32 (u32 n) (u32 (shl .u32 1 b - 1))
def cut (n b : Int) : Int × Int := if sized b = false then (0, 1) else if within n b = false then (0, 7) else (low n b, 0)
def signed (x b : Int) : Int := i64 (shr .i32 (i32 (shl .u32 x (32 - b))) (32 - b))
end Go.Proofs.YtfnmihhcopkkbaaGreat.M
namespace Go.Proofs.YtfnmihhcopkkbaaGreat.M
open Go Fr
theorem u32_eq (n : Int) : IntKind.u32.wrap n = n % 4294967296 := by
  simp only [IntKind.wrap, IntKind.bits, IntKind.signed]
  simp only [Int.reducePow, Bool.false_and, Bool.false_eq_true, if_false]
theorem i32_eq (n : Int) : IntKind.i32.wrap n = if 2147483648 ≤ n % 4294967296 then n % 4294967296 - 4294967296 else n % 4294967296 := by
  simp only [IntKind.wrap, IntKind.bits, IntKind.signed]
  simp only [Int.reducePow, Nat.reduceSub, Bool.true_and, decide_eq_true_eq, ge_iff_le]
theorem i64_eq (n : Int) : IntKind.i64.wrap n = if 9223372036854775808 ≤ n % 18446744073709551616 then n % 18446744073709551616 - 18446744073709551616 else n % 18446744073709551616 := by
  simp only [IntKind.wrap, IntKind.bits, IntKind.signed]
  simp only [Int.reducePow, Nat.reduceSub, Bool.true_and, decide_eq_true_eq, ge_iff_le]
theorem i32_range (n : Int) : -2147483648 ≤ IntKind.i32.wrap n ∧ IntKind.i32.wrap n ≤ 2147483647 := by
  rw [i32_eq]; split <;> omega
theorem i64_of_i32 (n : Int) : IntKind.i64.wrap (IntKind.i32.wrap n) = IntKind.i32.wrap n := by
  have := i32_range n
  exact wrap_i64 (by omega) (by omega)
theorem u32_i32 (n : Int) : IntKind.u32.wrap (IntKind.i32.wrap n) = IntKind.u32.wrap n := by
  rw [u32_eq, u32_eq, i32_eq]; split <;> omega
theorem u32_i64 (n : Int) : IntKind.u32.wrap (IntKind.i64.wrap n) = IntKind.u32.wrap n := by
  rw [u32_eq, u32_eq, i64_eq]; split <;> omega
theorem mul_u32 (a b : Int) : IntKind.u32.wrap (IntKind.i32.wrap a * IntKind.i32.wrap b) = IntKind.u32.wrap (a * b) := by
  rw [u32_eq, u32_eq, Int.mul_emod, Int.mul_emod a b]
  have h : ∀ n : Int, IntKind.i32.wrap n % 4294967296 = n % 4294967296 := fun n => by rw [i32_eq]; split <;> omega
  rw [h, h]
theorem and31_eq (b : Int) (hb : 0 ≤ b ∧ b < 4294967296) : bits .and .u32 b 31 = b.tmod 32 := by
  obtain ⟨n, rfl⟩ := Int.eq_ofNat_of_zero_le hb.1
  have hn : n < 4294967296 := by omega
  rw [Int.tmod_eq_emod_of_nonneg (by omega)]
  have h2 : ((BitVec.ofInt 32 (n : Int)) &&& (BitVec.ofInt 32 31)).toNat = n % 32 := by
    rw [BitVec.toNat_and, BitVec.ofInt_natCast, BitVec.toNat_ofNat]
    have : (BitVec.ofInt 32 31).toNat = 2 ^ 5 - 1 := by decide
    rw [this, Nat.and_two_pow_sub_one_eq_mod]
    omega
  show IntKind.u32.wrap (((BitVec.ofInt 32 (n : Int)) &&& (BitVec.ofInt 32 31)).toNat : Int) = _
  rw [h2, u32_eq]
  omega
theorem i32_zero_iff {b : Int} (hb : 0 ≤ b ∧ b < 4294967296) : IntKind.i32.wrap b = 0 ↔ b = 0 := ⟨i32_zero hb, fun h => by subst h; decide⟩
theorem of_agree {op a b : Int} (ho : 1 ≤ op ∧ op ≤ 17) (hb : 0 ≤ b ∧ b < 4294967296) :
    (r1Of op a b).2 = decide ((wOf op a b).2 = 0) ∧ ((r1Of op a b).2 = true → (wOf op a b).1 = (r1Of op a b).1) := by
  have hh : wHas op = true := by simp [wHas]; omega
  have h31 := and31_eq b hb
  have hz := i32_zero_iff hb
  rcases (show op = 1 ∨ op = 2 ∨ op = 3 ∨ op = 4 ∨ op = 5 ∨ op = 6 ∨ op = 7 ∨ op = 8 ∨ op = 9 ∨ op = 10 ∨ op = 11 ∨ op = 12 ∨ op = 13 ∨ op = 14 ∨ op = 15 ∨ op = 16 ∨ op = 17 by omega) with rfl | rfl | rfl | rfl | rfl | rfl | rfl | rfl | rfl | rfl | rfl | rfl | rfl | rfl | rfl | rfl | rfl
  all_goals simp only [r1Of, wOf, hh, wLogic, wCompared, wProduct, h31, i64_of_i32, mul_u32, u32_i64, u32_i32]
  all_goals first | (simp; done) | skip
  all_goals by_cases h0 : b = 0
  all_goals first
    | (simp [h0]; done)
    | (have h0' : ¬ IntKind.i32.wrap b = 0 := fun h => h0 (hz.1 h); simp [h0, h0']; done)
    | (subst h0; simp [show IntKind.i32.wrap 0 = 0 from by decide]; done)
end Go.Proofs.YtfnmihhcopkkbaaGreat.M
