/- What goes out comes back: fields, sums, quotients, shifts. -/
import Derived.Test.YthpnbgkhoocadaaMBits
namespace Go.Proofs.Ythpnbgkhoocadaa.M
open Go Fr
theorem u32_in (n : Int) : 0 ≤ IntKind.u32.wrap n ∧ IntKind.u32.wrap n < 4294967296 := by rw [u32_eq]; omega
theorem of_1 (a c : Int) : wOf 1 a c = (u32 (a + c), 0) := by simp [wOf, wHas, wLogic]
theorem of_2 (a c : Int) : wOf 2 a c = (u32 (a - c), 0) := by simp [wOf, wHas, wLogic]
theorem of_6 (a c : Int) : wOf 6 a c = (shl .u32 a (c.tmod 32), 0) := by simp [wOf, wHas, wLogic]
theorem of_7 (a c : Int) : wOf 7 a c = (shr .u32 a (c.tmod 32), 0) := by simp [wOf, wHas, wLogic]
theorem of_16 (a c : Int) : wOf 16 a c = if c = 0 then (0, 7) else (u32 (i32 ((i32 a).tdiv (i32 c))), 0) := by simp [wOf, wHas, wProduct]
theorem of_17 (a c : Int) : wOf 17 a c = if c = 0 then (0, 7) else (u32 ((i32 a).tmod (i32 c)), 0) := by simp [wOf, wHas, wProduct]
theorem first1 (a c : Int) : 0 ≤ (wOf 1 a c).1 ∧ (wOf 1 a c).1 < 4294967296 := by rw [of_1]; exact u32_in _
theorem first6 (a c : Int) : 0 ≤ (wOf 6 a c).1 ∧ (wOf 6 a c).1 < 4294967296 := by rw [of_6]; exact u32_in _
theorem halts_alike (a c : Int) : (wOf 16 a c).2 = (wOf 17 a c).2 := by rw [of_16, of_17]; split <;> rfl
theorem sum_back {a c : Int} (ha : 0 ≤ a ∧ a < 4294967296) : (wOf 2 (wOf 1 a c).1 c).1 = a := by
  rw [of_1, of_2]
  show IntKind.u32.wrap (IntKind.u32.wrap (a + c) - c) = a
  rw [u32_eq, u32_eq]; omega
theorem emod_le {a m : Int} (h : 0 ≤ a) (hm : 0 < m) : a % m ≤ a := by
  have h1 := Int.emod_add_mul_ediv a m
  have h2 := Int.mul_nonneg (Int.le_of_lt hm) (Int.ediv_nonneg h (Int.le_of_lt hm))
  omega
theorem low_mod {n b : Int} (h : 1 ≤ b ∧ b ≤ 32) : low n b = (n % 4294967296) % 2 ^ b.toNat := by
  have k1 : u32 (shl .u32 1 b - 1) = 2 ^ b.toNat - 1 := by
    obtain ⟨k, rfl⟩ := to32 h; revert k; decide
  unfold low
  rw [k1, and32 (by rw [show u32 n = IntKind.u32.wrap n from rfl, u32_eq]; omega) _ (by omega), show u32 n = IntKind.u32.wrap n from rfl, u32_eq]
theorem sign_parts {x b : Int} (hx : 0 ≤ x ∧ x < 4294967296) (h : 1 ≤ b ∧ b ≤ 32) (hl : x < 2 ^ b.toNat) : (IntKind.u64.wrap x).fdiv (2 ^ min b.toNat IntKind.u64.bits) = 0 := by
  rw [u64_eq, show x % 18446744073709551616 = x by omega, show min b.toNat IntKind.u64.bits = b.toNat from Nat.min_eq_left (by simp only [IntKind.bits]; omega)]
  rw [Int.fdiv_eq_ediv_of_nonneg _ (by have : (0 : Int) < 2 ^ b.toNat := Int.pow_pos (by decide); omega)]
  exact Int.ediv_eq_zero_of_lt hx.1 hl
set_option linter.unusedSimpArgs false in
set_option maxHeartbeats 8000000 in
theorem back {n b : Int} (h : 1 ≤ b ∧ b ≤ 32) (h2 : (cut n b).2 = 0) : sign (cut n b).1 b = (n, 0) := by
  have hf : r1Fits n b = true := by
    cases hq : r1Fits n b with
    | true => rfl
    | false => rw [cut_no h hq] at h2; exact absurd h2 (by decide)
  rw [cut_go h hf]
  show sign (low n b) b = (n, 0)
  have hl := low_mod (n := n) h
  have p0 : (0 : Int) < 2 ^ b.toNat := Int.pow_pos (by decide)
  have hx : 0 ≤ low n b ∧ low n b < 2 ^ b.toNat := by rw [hl]; exact ⟨Int.emod_nonneg _ (by omega), Int.emod_lt_of_pos _ p0⟩
  have hx2 : 0 ≤ low n b ∧ low n b < 4294967296 := ⟨hx.1, by rw [hl]; have := Int.emod_lt_of_pos (n % 4294967296) p0; have h9 := Int.emod_nonneg n (show (4294967296 : Int) ≠ 0 by decide); have h8 : n % 4294967296 % 2 ^ b.toNat ≤ n % 4294967296 := emod_le h9 p0; omega⟩
  have h3 := sign_parts hx2 h hx.2
  rw [sign_go h h3, signed_eq hx2 h h3]
  refine Prod.ext ?_ rfl
  show r1Sign (low n b) b = n
  clear h2 h3 p0 hx hx2
  simp only [r1Fits, r1Sign, shl, Bool.and_eq_true, decide_eq_true_eq] at hf ⊢
  rw [hl]
  clear hl
  rcases (show b = 1 ∨ b = 2 ∨ b = 3 ∨ b = 4 ∨ b = 5 ∨ b = 6 ∨ b = 7 ∨ b = 8 ∨ b = 9 ∨ b = 10 ∨ b = 11 ∨ b = 12 ∨ b = 13 ∨ b = 14 ∨ b = 15 ∨ b = 16 ∨ b = 17 ∨ b = 18 ∨ b = 19 ∨ b = 20 ∨ b = 21 ∨ b = 22 ∨ b = 23 ∨ b = 24 ∨ b = 25 ∨ b = 26 ∨ b = 27 ∨ b = 28 ∨ b = 29 ∨ b = 30 ∨ b = 31 ∨ b = 32 by omega) with rfl | rfl | rfl | rfl | rfl | rfl | rfl | rfl | rfl | rfl | rfl | rfl | rfl | rfl | rfl | rfl | rfl | rfl | rfl | rfl | rfl | rfl | rfl | rfl | rfl | rfl | rfl | rfl | rfl | rfl | rfl | rfl
  all_goals simp only [i64, i64_eq, IntKind.bits, Int.reduceSub, Int.reduceNeg, Int.reduceToNat, Nat.min_def, Nat.reduceLeDiff, ite_true, ite_false, Int.reducePow, Int.reduceMul, Int.reduceMod, Int.reduceLE, if_false, if_true] at hf ⊢
  all_goals (repeat (first | omega | split))
theorem or_nought {a c : Int} : ((decide ((wOf 16 a c).2 = 0)) != !(decide (c = 0))) = false := by
  rw [of_16]
  by_cases h : c = 0 <;> simp [h]
theorem or_nought2 {a c : Int} : ((decide ((wOf 16 a c).2 = 0)) != decide (¬ c = 0)) = false := by
  rw [of_16]
  by_cases h : c = 0 <;> simp [h]
theorem rest_back {a c : Int} (ha : 0 ≤ a ∧ a < 4294967296) (hc : 0 ≤ c ∧ c < 4294967296) (h : (wOf 16 a c).2 = 0) : IntKind.u32.wrap (IntKind.u32.wrap ((wOf 16 a c).1 * c) + (wOf 17 a c).1) = a := by
  rw [of_16] at h ⊢
  rw [of_17]
  by_cases h0 : c = 0
  · simp [h0] at h
  · simp only [if_neg h0]
    have e := Int.mul_tdiv_add_tmod (i32 a) (i32 c)
    have hk : ∀ n : Int, IntKind.i32.wrap n % 4294967296 = n % 4294967296 := fun n => by rw [i32_eq]; split <;> omega
    simp only [u32, i32] at e ⊢
    rw [u32_eq, u32_eq, u32_eq, u32_eq]
    have e1 : (IntKind.i32.wrap ((IntKind.i32.wrap a).tdiv (IntKind.i32.wrap c)) % 4294967296 * c) % 4294967296 = (IntKind.i32.wrap c * (IntKind.i32.wrap a).tdiv (IntKind.i32.wrap c)) % 4294967296 := by
      rw [hk, Int.mul_emod, Int.emod_emod_of_dvd _ (Int.dvd_refl _), ← Int.mul_emod, Int.mul_comm, Int.mul_emod c, Int.mul_emod (IntKind.i32.wrap c), hk]
    rw [e1]
    have e2 := congrArg (· % (4294967296 : Int)) e
    simp only [hk] at e2
    rw [Int.add_emod] at e2
    generalize (IntKind.i32.wrap c * (IntKind.i32.wrap a).tdiv (IntKind.i32.wrap c)) = x at *
    generalize (IntKind.i32.wrap a).tmod (IntKind.i32.wrap c) = y at *
    omega
theorem shift_back {a c : Int} (hc : 0 ≤ c ∧ c < 4294967296) : (wOf 7 (wOf 6 a c).1 c).1 = shr .u32 (shl .u32 a (bits .and .u32 c 31)) (bits .and .u32 c 31) := by
  rw [of_6, of_7, and31_eq c hc]
theorem of_6s (a c : Int) : (wOf 6 a c).2 = 0 := by rw [of_6]
theorem of_7s (a c : Int) : (wOf 7 a c).2 = 0 := by rw [of_7]
end Go.Proofs.Ythpnbgkhoocadaa.M
