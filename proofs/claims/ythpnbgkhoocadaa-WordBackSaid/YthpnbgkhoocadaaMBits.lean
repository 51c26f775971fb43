/- The two makers of fields agree: fits, cut, sign. -/
import Derived.Test.YthpnbgkhoocadaaMAgree
namespace Go.Proofs.Ythpnbgkhoocadaa.M
open Go Fr
theorem to32 {b : Int} (h : 1 ≤ b ∧ b ≤ 32) : ∃ k : Fin 32, b = (k.val : Int) + 1 := ⟨⟨(b - 1).toNat, by omega⟩, by simp; omega⟩
theorem sized_of {b : Int} (h : 1 ≤ b ∧ b ≤ 32) : sized b = true := by simp [sized, h.1, h.2]
theorem sized_not {b : Int} (h : between b 1 32 = false) : sized b = false := h
theorem lows_eq {b : Int} (h : 1 ≤ b ∧ b ≤ 32) : shl .i64 (-1) (b - 1) = i64 (0 - shl .i64 1 (b - 1)) := by
  obtain ⟨k, rfl⟩ := to32 h
  revert k
  decide
theorem fits_eq {n b : Int} (h : 1 ≤ b ∧ b ≤ 32) : fits n b = (r1Fits n b, 0) := by
  simp only [fits, sized_of h, if_true, within, r1Fits, lows_eq h]
theorem fits_not {n b : Int} (h : between b 1 32 = false) : fits n b = (false, 1) := by
  simp [fits, sized_not h]
theorem cut_not {n b : Int} (h : between b 1 32 = false) : cut n b = (0, 1) := by simp [cut, sized_not h]
theorem sign_not {n b : Int} (h : between b 1 32 = false) : sign n b = (0, 1) := by simp [sign, sized_not h]
theorem cut_no {n b : Int} (h : 1 ≤ b ∧ b ≤ 32) (h2 : r1Fits n b = false) : cut n b = (0, 7) := by
  have : within n b = false := by
    have := congrArg Prod.fst (fits_eq (n := n) h)
    simpa [fits, sized_of h, h2] using this
  simp [cut, sized_of h, this]
theorem cut_go {n b : Int} (h : 1 ≤ b ∧ b ≤ 32) (h2 : r1Fits n b = true) : cut n b = (low n b, 0) := by
  have : within n b = true := by
    have := congrArg Prod.fst (fits_eq (n := n) h)
    simpa [fits, sized_of h, h2] using this
  simp [cut, sized_of h, this]
theorem and32 {x : Int} (hx : 0 ≤ x ∧ x < 4294967296) (m : Nat) (hm : m ≤ 32) : bits .and .u32 x (2 ^ m - 1) = x % 2 ^ m := by
  obtain ⟨n, rfl⟩ := Int.eq_ofNat_of_zero_le hx.1
  have hn : n < 4294967296 := by omega
  have h2 : ((BitVec.ofInt 32 (n : Int)) &&& (BitVec.ofInt 32 (2 ^ m - 1))).toNat = n % 2 ^ m := by
    rw [BitVec.toNat_and, BitVec.ofInt_natCast, BitVec.toNat_ofNat]
    have q : ∀ m : Fin 33, (BitVec.ofInt 32 ((2 : Int) ^ m.val - 1)).toNat = 2 ^ m.val - 1 := by decide
    rw [q ⟨m, by omega⟩, Nat.and_two_pow_sub_one_eq_mod, Nat.mod_eq_of_lt (a := n) (by omega)]
  show IntKind.u32.wrap (((BitVec.ofInt 32 (n : Int)) &&& (BitVec.ofInt 32 (2 ^ m - 1))).toNat : Int) = _
  rw [h2, u32_eq]
  have h3 := Nat.mod_le n (2 ^ m)
  rw [Int.emod_eq_of_lt (by omega) (by omega), Int.natCast_emod]
  norm_cast
theorem u64_eq (n : Int) : IntKind.u64.wrap n = n % 18446744073709551616 := by
  simp only [IntKind.wrap, IntKind.bits, IntKind.signed]
  simp only [Int.reducePow, Bool.false_and, Bool.false_eq_true, if_false]
theorem and64 {x : Int} (hx : 0 ≤ x ∧ x < 18446744073709551616) (m : Nat) (hm : m ≤ 32) : bits .and .u64 x (2 ^ m - 1) = x % 2 ^ m := by
  obtain ⟨n, rfl⟩ := Int.eq_ofNat_of_zero_le hx.1
  have hn : n < 18446744073709551616 := by omega
  have h2 : ((BitVec.ofInt 64 (n : Int)) &&& (BitVec.ofInt 64 (2 ^ m - 1))).toNat = n % 2 ^ m := by
    rw [BitVec.toNat_and, BitVec.ofInt_natCast, BitVec.toNat_ofNat]
    have q : ∀ m : Fin 33, (BitVec.ofInt 64 ((2 : Int) ^ m.val - 1)).toNat = 2 ^ m.val - 1 := by decide
    rw [q ⟨m, by omega⟩, Nat.and_two_pow_sub_one_eq_mod, Nat.mod_eq_of_lt (a := n) (by omega)]
  show IntKind.u64.wrap (((BitVec.ofInt 64 (n : Int)) &&& (BitVec.ofInt 64 (2 ^ m - 1))).toNat : Int) = _
  rw [h2, u64_eq]
  have h3 := Nat.mod_le n (2 ^ m)
  rw [Int.emod_eq_of_lt (by omega) (by omega), Int.natCast_emod]
  norm_cast
theorem low_eq {n b : Int} (h : 1 ≤ b ∧ b ≤ 32) : low n b = u32 (bits .and .u64 (IntKind.u64.wrap n) (IntKind.u64.wrap (IntKind.u64.wrap (1 * 2 ^ min b.toNat IntKind.u64.bits) - 1))) := by
  have k1 : u32 (shl .u32 1 b - 1) = 2 ^ b.toNat - 1 := by
    obtain ⟨k, rfl⟩ := to32 h; revert k; decide
  have k2 : IntKind.u64.wrap (IntKind.u64.wrap (1 * 2 ^ min b.toNat IntKind.u64.bits) - 1) = 2 ^ b.toNat - 1 := by
    obtain ⟨k, rfl⟩ := to32 h; revert k; decide
  unfold low
  rw [k1, k2, and32 (by rw [show u32 n = IntKind.u32.wrap n from rfl, u32_eq]; omega) _ (by omega), and64 (by rw [u64_eq]; omega) _ (by omega), show u32 n = IntKind.u32.wrap n from rfl, u32_eq, u64_eq]
  show _ = IntKind.u32.wrap _
  rw [u32_eq]
  obtain ⟨k, rfl⟩ := to32 h
  rw [show ((k.val : Int) + 1).toNat = k.val + 1 by omega]
  have d1 : ((2 : Int) ^ (k.val + 1)) ∣ 4294967296 := ⟨2 ^ (31 - k.val), by rw [← Int.pow_add, show k.val + 1 + (31 - k.val) = 32 by omega]; rfl⟩
  have d2 : ((2 : Int) ^ (k.val + 1)) ∣ 18446744073709551616 := Int.dvd_trans d1 ⟨4294967296, by decide⟩
  rw [Int.emod_emod_of_dvd _ d1, Int.emod_emod_of_dvd _ d2]
  have p0 : (0 : Int) < 2 ^ (k.val + 1) := Int.pow_pos (by decide)
  have := Int.le_of_dvd (by decide) d1
  exact (Int.emod_eq_of_lt (Int.emod_nonneg _ (by omega)) (Int.lt_of_lt_of_le (Int.emod_lt_of_pos _ p0) this)).symm
theorem sign_no {x b : Int} (h : 1 ≤ b ∧ b ≤ 32) (h2 : ¬ (IntKind.u64.wrap x).fdiv (2 ^ min b.toNat IntKind.u64.bits) = 0) : sign x b = (0, 7) := by
  simp only [sign, sized_of h, Bool.true_eq_false, if_false]
  rw [if_pos h2]
theorem sign_go {x b : Int} (h : 1 ≤ b ∧ b ≤ 32) (h2 : (IntKind.u64.wrap x).fdiv (2 ^ min b.toNat IntKind.u64.bits) = 0) : sign x b = (signed x b, 0) := by
  simp only [sign, sized_of h, Bool.true_eq_false, if_false]
  rw [if_neg (fun e => e h2)]
set_option linter.unusedSimpArgs false in
set_option maxHeartbeats 8000000 in
theorem signed_eq {x b : Int} (hx : 0 ≤ x ∧ x < 4294967296) (h : 1 ≤ b ∧ b ≤ 32) (h2 : (IntKind.u64.wrap x).fdiv (2 ^ min b.toNat IntKind.u64.bits) = 0) : signed x b = r1Sign x b := by
  rw [u64_eq] at h2
  simp only [signed, r1Sign, shl, shr]
  rcases (show b = 1 ∨ b = 2 ∨ b = 3 ∨ b = 4 ∨ b = 5 ∨ b = 6 ∨ b = 7 ∨ b = 8 ∨ b = 9 ∨ b = 10 ∨ b = 11 ∨ b = 12 ∨ b = 13 ∨ b = 14 ∨ b = 15 ∨ b = 16 ∨ b = 17 ∨ b = 18 ∨ b = 19 ∨ b = 20 ∨ b = 21 ∨ b = 22 ∨ b = 23 ∨ b = 24 ∨ b = 25 ∨ b = 26 ∨ b = 27 ∨ b = 28 ∨ b = 29 ∨ b = 30 ∨ b = 31 ∨ b = 32 by omega) with rfl | rfl | rfl | rfl | rfl | rfl | rfl | rfl | rfl | rfl | rfl | rfl | rfl | rfl | rfl | rfl | rfl | rfl | rfl | rfl | rfl | rfl | rfl | rfl | rfl | rfl | rfl | rfl | rfl | rfl | rfl | rfl
  all_goals simp only [i64, i32, u32_eq, i32_eq, i64_eq, IntKind.bits, Int.reduceSub, Int.reduceToNat, Nat.min_def, Nat.reduceLeDiff, ite_true, ite_false, Int.reducePow, Int.reduceMul, Int.reduceMod, Int.reduceLE, Int.fdiv_eq_ediv_of_nonneg, if_false, if_true] at h2 ⊢
  all_goals simp only [show x % 18446744073709551616 = x by omega, if_neg (show ¬ 9223372036854775808 ≤ x by omega)] at h2 ⊢
  all_goals (repeat (first | omega | split))
end Go.Proofs.Ythpnbgkhoocadaa.M
