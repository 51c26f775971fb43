/- Whole numbers in floats: what is small enough is exact. -/
import Derived.Laws.ComplexArith
namespace Go.Proofs.YtgakgpbmcbegbaaGreatDoor.Fl
open Go Ieee
set_option maxRecDepth 20000
set_option linter.unusedVariables false
set_option linter.unusedSimpArgs false
set_option exponentiation.threshold 2000
def dat (neg : Bool) (N : Nat) : Datum := if N = 0 then .number neg 0 (-1074) else .number neg (N * 2 ^ (52 - N.log2)) ((N.log2 : Int) - 52)
theorem log2_mul (m k : Nat) (h : 0 < m) : (m * 2 ^ k).log2 = m.log2 + k := by
  have hp : 0 < 2 ^ k := Nat.two_pow_pos k
  have hne : m * 2 ^ k ≠ 0 := Nat.ne_of_gt (Nat.mul_pos h hp)
  rw [Nat.log2_eq_iff hne, Nat.pow_add]
  refine ⟨Nat.mul_le_mul_right _ (Nat.log2_self_le (by omega)), ?_⟩
  have : m < 2 ^ (m.log2 + 1) := Nat.lt_log2_self
  calc m * 2 ^ k < 2 ^ (m.log2 + 1) * 2 ^ k := Nat.mul_lt_mul_of_pos_right this hp
    _ = 2 ^ (m.log2 + k + 1) := by rw [← Nat.pow_add]; congr 1; omega
theorem top53 {N : Nat} (h0 : 0 < N) (h : N < 2 ^ 53) : N.log2 ≤ 52 ∧ 2 ^ 52 ≤ N * 2 ^ (52 - N.log2) ∧ N * 2 ^ (52 - N.log2) < 2 ^ 53 := by
  have h1 : N.log2 < 53 := (Nat.log2_lt (by omega)).2 h
  have h2 := Nat.log2_self_le (n := N) (by omega)
  have h3 : N < 2 ^ (N.log2 + 1) := Nat.lt_log2_self
  have hp : 0 < 2 ^ (52 - N.log2) := Nat.two_pow_pos _
  refine ⟨by omega, ?_, ?_⟩
  · calc 2 ^ 52 = 2 ^ N.log2 * 2 ^ (52 - N.log2) := by rw [← Nat.pow_add]; congr 1; omega
      _ ≤ _ := Nat.mul_le_mul_right _ h2
  · calc N * 2 ^ (52 - N.log2) < 2 ^ (N.log2 + 1) * 2 ^ (52 - N.log2) := Nat.mul_lt_mul_of_pos_right h3 hp
      _ = 2 ^ 53 := by rw [← Nat.pow_add]; congr 1; omega
theorem read_rung (neg : Bool) (e K : Nat) (he : e ≤ 52) (hK : 4503599627370496 ≤ K) (hK2 : K < 9007199254740992) :
    Ieee.double.read (Ieee.double.word neg ((e + 1022) * 4503599627370496 + K)) = .number neg K ((e : Int) - 52) := by
  have hb : Ieee.double.binade = 4503599627370496 := by decide
  have hs : Ieee.double.signWeight = 9223372036854775808 := by decide
  have hi : Ieee.double.infRung = 9218868437227405312 := by decide
  have hl : Ieee.double.leastPlace = -1074 := by decide
  generalize hR : (e + 1022) * 4503599627370496 + K = R
  have hR1 : R < 9218868437227405312 := by omega
  have hw : Ieee.double.word neg R % 9223372036854775808 = R ∧ (Ieee.double.word neg R / 9223372036854775808 % 2 == 1) = neg := by
    cases neg with
    | true =>
      have : Ieee.double.word true R = 9223372036854775808 + R := by simp [Format.word, hs]
      rw [this]
      refine ⟨by omega, ?_⟩
      have : (9223372036854775808 + R) / 9223372036854775808 % 2 = 1 := by omega
      rw [this]; rfl
    | false =>
      have : Ieee.double.word false R = R := by simp [Format.word]
      rw [this]
      refine ⟨by omega, ?_⟩
      have : R / 9223372036854775808 % 2 = 0 := by omega
      rw [this]; rfl
  simp only [Format.read, hs, hb, hi, hl, hw.1, hw.2]
  rw [if_neg (by omega), if_pos hR1]
  have e1 : 4503599627370496 + R % 4503599627370496 = K := by omega
  have e2 : (-1074 : Int) + ((R / 4503599627370496 - 1 : Nat) : Int) = (e : Int) - 52 := by omega
  rw [e1, e2]
theorem write_exact (neg : Bool) (mag : Nat) (place : Int) (N : Nat) (hN : N < 2 ^ 53) (h : mag * 2 ^ place.toNat = N * 2 ^ (-place).toNat) :
    Ieee.double.read (Ieee.double.nearest neg mag place) = dat neg N := by
  by_cases h0 : N = 0
  · subst h0
    have hm : mag = 0 := by
      rcases Nat.eq_zero_or_pos mag with hm | hm
      · exact hm
      · have := Nat.mul_pos hm (Nat.two_pow_pos place.toNat); omega
    subst hm
    have h1 : Ieee.double.nearest neg 0 place = Ieee.double.word neg 0 := by simp [Format.nearest]
    rw [h1]
    cases neg <;> decide
  · have hN0 : 0 < N := by omega
    have hm0 : 0 < mag := by
      rcases Nat.eq_zero_or_pos mag with hm | hm
      · subst hm
        have := Nat.mul_pos hN0 (Nat.two_pow_pos (-place).toNat); omega
      · exact hm
    obtain ⟨he, hK1, hK2⟩ := top53 hN0 hN
    have hlog := congrArg Nat.log2 h
    rw [log2_mul _ _ hm0, log2_mul _ _ hN0] at hlog
    have hb : Ieee.double.binade = 4503599627370496 := by decide
    have hi : Ieee.double.infRung = 9218868437227405312 := by decide
    have hl : Ieee.double.leastPlace = -1074 := by decide
    have hf : Ieee.double.fractionBits = 52 := rfl
    generalize hL : N.log2 = L at *
    generalize hK : N * 2 ^ (52 - L) = K at *
    have hlast : max (place + (mag.log2 : Int) - (52 : Nat)) (-1074) = (L : Int) - 52 := by omega
    have hcut : Toward.even.cut neg (mag <<< (place - ((L : Int) - 52)).toNat) (((L : Int) - 52) - place).toNat = K := by
      by_cases hp : (L : Int) - 52 ≤ place
      · have hd : (((L : Int) - 52) - place).toNat = 0 := by omega
        have ha : mag <<< (place - ((L : Int) - 52)).toNat = K := by
          rw [Nat.shiftLeft_eq]
          by_cases hp0 : 0 ≤ place
          · have e1 : (-place).toNat = 0 := by omega
            rw [e1, Nat.pow_zero, Nat.mul_one] at h
            rw [← hK, ← h, Nat.mul_assoc, ← Nat.pow_add]
            congr 2; omega
          · have e1 : place.toNat = 0 := by omega
            rw [e1, Nat.pow_zero, Nat.mul_one] at h
            rw [h, ← hK, Nat.mul_assoc, ← Nat.pow_add]
            congr 2; omega
        rw [ha, hd]
        simp [Toward.cut, Nat.mod_one]
      · have ha : (place - ((L : Int) - 52)).toNat = 0 := by omega
        have e1 : place.toNat = 0 := by omega
        rw [e1, Nat.pow_zero, Nat.mul_one] at h
        generalize hd : (((L : Int) - 52) - place).toNat = d
        have hm : mag = K * 2 ^ d := by
          rw [h, ← hK, Nat.mul_assoc, ← Nat.pow_add]
          congr 2; omega
        have hK0 : 0 < K := by omega
        rw [ha, Nat.shiftLeft_zero, hm]
        have hlg : (K * 2 ^ d).log2 = K.log2 + d := log2_mul _ _ hK0
        have hmin : min d ((K * 2 ^ d).log2 + 2) = d := by rw [hlg]; omega
        have hp : 0 < 2 ^ d := Nat.two_pow_pos d
        simp only [Toward.cut, hmin, Nat.one_shiftLeft, Nat.mul_div_cancel _ hp, Nat.mul_mod_left]
        have h3 : ¬ (2 ^ d = 2 * 0) := by omega
        simp [Nat.not_lt_zero]
    unfold dat
    rw [if_neg h0, hL, hK]
    have := read_rung neg L K he hK1 hK2
    rw [← this]
    have e1 : Ieee.double.nearest neg mag place = Ieee.double.word neg (min (((L : Int) - 52 - Ieee.double.leastPlace).toNat * Ieee.double.binade + K) Ieee.double.infRung) := by
      unfold Format.nearest
      rw [if_neg (by omega)]
      simp only [hf]
      rw [hl, hlast, hcut]
    have e2 : min (((L : Int) - 52 - Ieee.double.leastPlace).toNat * Ieee.double.binade + K) Ieee.double.infRung = (L + 1022) * 4503599627370496 + K := by
      rw [hl, hb, hi]
      have e3 : ((L : Int) - 52 - -1074).toNat = L + 1022 := by omega
      rw [e3]
      have e4 : (L + 1022) * 4503599627370496 + K ≤ 9218868437227405312 := by omega
      exact Nat.min_eq_left e4
    rw [e1, e2]
def FI (x : Nat) (n : Int) : Prop := x < 2 ^ 64 ∧ ∃ s, Ieee.double.read x = dat s n.natAbs ∧ (n < 0 → s = true) ∧ (0 < n → s = false)
theorem FI.of_nearest {neg : Bool} {mag : Nat} {place : Int} {n : Int} (hN : n.natAbs < 2 ^ 53) (h : mag * 2 ^ place.toNat = n.natAbs * 2 ^ (-place).toNat) (h1 : n < 0 → neg = true) (h2 : 0 < n → neg = false) :
    FI (Ieee.double.nearest neg mag place) n := by
  refine ⟨?_, neg, write_exact neg mag place _ hN h, h1, h2⟩
  exact Ieee.double.nearest_lt neg mag place
theorem FI.of_int {n : Int} (h : n.natAbs < 2 ^ 53) : FI (FloatKind.f64.nearest n) n := by
  refine FI.of_nearest (neg := decide (n < 0)) (mag := n.natAbs) (place := 0) h (by simp) (fun h => by simp [h]) (fun h => ?_)
  simp; omega
theorem dat_parts (s : Bool) (N : Nat) (hN : N < 2 ^ 53) : ∃ m i, dat s N = .number s m i ∧ i ≤ 0 ∧ ∀ base : Int, base ≤ i → m <<< (i - base).toNat = N * 2 ^ (-base).toNat := by
  unfold dat
  by_cases h : N = 0
  · subst h
    exact ⟨0, -1074, by simp, by omega, fun base _ => by simp⟩
  · rw [if_neg h]
    obtain ⟨he, _, _⟩ := top53 (by omega) hN
    refine ⟨_, _, rfl, by omega, fun base hb => ?_⟩
    rw [Nat.shiftLeft_eq, Nat.mul_assoc, ← Nat.pow_add]
    congr 2; omega
theorem signed_of {s : Bool} {n : Int} {m up k : Nat} (h : m <<< up = n.natAbs * 2 ^ k) (h1 : n < 0 → s = true) (h2 : 0 < n → s = false) : Ieee.signed s m up = n * 2 ^ k := by
  unfold Ieee.signed
  rw [h]
  cases s with
  | true =>
    have : n ≤ 0 := by
      rcases Int.lt_or_le 0 n with h | h
      · exact absurd (h2 h) (by decide)
      · exact h
    have hn : (n.natAbs : Int) = -n := by omega
    simp only [if_true, Int.natCast_mul, hn, Int.natCast_pow]
    simp [Int.neg_mul]
  | false =>
    have : 0 ≤ n := by
      rcases Int.lt_or_le n 0 with h | h
      · exact absurd (h1 h) (by decide)
      · exact h
    have hn : (n.natAbs : Int) = n := by omega
    simp only [Bool.false_eq_true, if_false, Int.natCast_mul, hn, Int.natCast_pow]
    simp
theorem sum_dat {x y : Nat} {s t : Bool} {n m : Int} (hx : Ieee.double.read x = dat s n.natAbs) (hy : Ieee.double.read y = dat t m.natAbs) (hn : n.natAbs < 2 ^ 53) (hm : m.natAbs < 2 ^ 53)
    (s1 : n < 0 → s = true) (s2 : 0 < n → s = false) (t1 : m < 0 → t = true) (t2 : 0 < m → t = false) (hs : (n + m).natAbs < 2 ^ 53) :
    ∃ d, (dat s n.natAbs).sum (dat t m.natAbs) = some d ∧ FI (Ieee.double.write d) (n + m) := by
  obtain ⟨a, i, e1, i0, h1⟩ := dat_parts s n.natAbs hn
  obtain ⟨c, j, e2, j0, h2⟩ := dat_parts t m.natAbs hm
  rw [e1, e2]
  refine ⟨_, rfl, ?_⟩
  simp only [Format.write]
  have q1 := signed_of (h1 (min i j) (by omega)) s1 s2
  have q2 := signed_of (h2 (min i j) (by omega)) t1 t2
  rw [q1, q2, ← Int.add_mul]
  generalize hk : (-(min i j)).toNat = k
  have hp : (0 : Int) < 2 ^ k := Int.pow_pos (by decide)
  refine FI.of_nearest hs ?_ (fun h => ?_) (fun h => ?_)
  · have : (min i j).toNat = 0 := by omega
    rw [this, hk, Nat.pow_zero, Nat.mul_one, Int.natAbs_mul, Int.natAbs_pow]
    rfl
  · have : (n + m) * 2 ^ k < 0 := Int.mul_neg_of_neg_of_pos h hp
    rw [if_neg (by omega)]
    simp [this]
  · have : 0 < (n + m) * 2 ^ k := Int.mul_pos h hp
    rw [if_neg (by omega)]
    simp; omega
theorem FI.add {x y : Nat} {n m : Int} (hx : FI x n) (hy : FI y m) (hn : n.natAbs < 2 ^ 53) (hm : m.natAbs < 2 ^ 53) (hs : (n + m).natAbs < 2 ^ 53) : ∃ r, FloatKind.f64.format.add x y = some r ∧ FI r (n + m) := by
  obtain ⟨_, s, h1, s1, s2⟩ := hx
  obtain ⟨_, t, h2, t1, t2⟩ := hy
  obtain ⟨d, hd, hf⟩ := sum_dat h1 h2 hn hm s1 s2 t1 t2 hs
  refine ⟨_, ?_, hf⟩
  show ((Ieee.double.read x).sum (Ieee.double.read y)).map Ieee.double.write = _
  rw [h1, h2, hd]; rfl
theorem opp_dat (s : Bool) (N : Nat) : (dat s N).opposite = dat (!s) N := by
  unfold dat; split <;> rfl
theorem FI.sub {x y : Nat} {n m : Int} (hx : FI x n) (hy : FI y m) (hn : n.natAbs < 2 ^ 53) (hm : m.natAbs < 2 ^ 53) (hs : (n - m).natAbs < 2 ^ 53) : ∃ r, FloatKind.f64.format.sub x y = some r ∧ FI r (n - m) := by
  obtain ⟨_, s, h1, s1, s2⟩ := hx
  obtain ⟨hl, t, h2, t1, t2⟩ := hy
  have hz : ∀ z : Nat, Ieee.double.read z = dat (!t) (-m).natAbs → ∃ d, (dat s n.natAbs).sum (dat (!t) (-m).natAbs) = some d ∧ FI (Ieee.double.write d) (n + -m) := fun z hz =>
    sum_dat h1 hz hn (by omega) s1 s2 (fun h => by rw [t2 (by omega)]; rfl) (fun h => by rw [t1 (by omega)]; rfl) (by omega)
  have e : (-m).natAbs = m.natAbs := by omega
  have q := write_exact (!t) m.natAbs 0 m.natAbs hm (by simp)
  rw [← e] at q
  obtain ⟨d, hd, hf⟩ := hz _ (by simpa [e] using q)
  refine ⟨_, ?_, by rw [Int.sub_eq_add_neg]; exact hf⟩
  show ((Ieee.double.read x).sum (Ieee.double.read y).opposite).map Ieee.double.write = _
  rw [h1, h2, opp_dat, ← e, hd]; rfl
theorem FI.mul {x y : Nat} {n m : Int} (hx : FI x n) (hy : FI y m) (hn : n.natAbs < 2 ^ 53) (hm : m.natAbs < 2 ^ 53) (hs : (n * m).natAbs < 2 ^ 53) : ∃ r, FloatKind.f64.format.mul x y = some r ∧ FI r (n * m) := by
  obtain ⟨_, s, h1, s1, s2⟩ := hx
  obtain ⟨_, t, h2, t1, t2⟩ := hy
  obtain ⟨a, i, e1, i0, q1⟩ := dat_parts s n.natAbs hn
  obtain ⟨c, j, e2, j0, q2⟩ := dat_parts t m.natAbs hm
  have w1 := q1 i (Int.le_refl _)
  have w2 := q2 j (Int.le_refl _)
  rw [Int.sub_self, Int.toNat_zero, Nat.shiftLeft_zero] at w1 w2
  refine ⟨Ieee.double.nearest (s ^^ t) (a * c) (i + j), ?_, FI.of_nearest hs ?_ (fun h => ?_) (fun h => ?_)⟩
  · show ((Ieee.double.read x).product (Ieee.double.read y)).map Ieee.double.write = _
    rw [h1, h2, e1, e2]; rfl
  · rw [show (i + j).toNat = 0 by omega, Nat.pow_zero, Nat.mul_one, w1, w2, Int.natAbs_mul, show (-(i + j)).toNat = (-i).toNat + (-j).toNat by omega, Nat.pow_add]
    simp only [Nat.mul_assoc, Nat.mul_left_comm, Nat.mul_comm]
  · rcases Int.lt_trichotomy n 0 with hn | hn | hn
    · rcases Int.lt_trichotomy m 0 with hm | hm | hm
      · have := Int.mul_pos_of_neg_of_neg hn hm; omega
      · subst hm; simp at h
      · rw [s1 hn, t2 hm]; rfl
    · subst hn; simp at h
    · rcases Int.lt_trichotomy m 0 with hm | hm | hm
      · rw [s2 hn, t1 hm]; rfl
      · subst hm; simp at h
      · have := Int.mul_pos hn hm; omega
  · rcases Int.lt_trichotomy n 0 with hn | hn | hn
    · rcases Int.lt_trichotomy m 0 with hm | hm | hm
      · rw [s1 hn, t1 hm]; rfl
      · subst hm; simp at h
      · have := Int.mul_neg_of_neg_of_pos hn hm; omega
    · subst hn; simp at h
    · rcases Int.lt_trichotomy m 0 with hm | hm | hm
      · have := Int.mul_neg_of_pos_of_neg hn hm; omega
      · subst hm; simp at h
      · rw [s2 hn, t2 hm]; rfl
theorem opp_word {x : Nat} (h : x < 2 ^ 64) : x ^^^ 2 ^ 63 < 2 ^ 64 := Nat.xor_lt_two_pow h (by decide)
theorem read_xor {x : Nat} (h : x < 2 ^ 64) : Ieee.double.read (x ^^^ 2 ^ 63) = (Ieee.double.read x).opposite := by
  have hs : Ieee.double.signWeight = 9223372036854775808 := by decide
  have m1 : (x ^^^ 2 ^ 63) % 2 ^ 63 = x % 2 ^ 63 := by rw [Nat.xor_mod_two_pow, Nat.mod_self, Nat.xor_zero]
  have d1 : (x ^^^ 2 ^ 63) / 2 ^ 63 = (x / 2 ^ 63) ^^^ 1 := by rw [Nat.xor_div_two_pow, Nat.div_self (by decide)]
  have q : (x ^^^ 2 ^ 63) % 9223372036854775808 = x % 9223372036854775808 ∧ ((x ^^^ 2 ^ 63) / 9223372036854775808 % 2 == 1) = !(x / 9223372036854775808 % 2 == 1) := by
    refine ⟨m1, ?_⟩
    rw [show (9223372036854775808 : Nat) = 2 ^ 63 from rfl, d1]
    have h2 : x / 2 ^ 63 < 2 := by omega
    rcases (show x / 2 ^ 63 = 0 ∨ x / 2 ^ 63 = 1 by omega) with h | h <;> rw [h] <;> rfl
  simp only [Format.read, hs]
  rw [q.1, q.2]
  split
  · rfl
  split
  · rfl
  split <;> rfl
theorem FI.neg {x : Nat} {n : Int} (h : FI x n) : FI (Op.negFloat .f64 x) (-n) := by
  obtain ⟨h1, s, h2, h3, h4⟩ := h
  refine ⟨opp_word h1, !s, ?_, fun h => by rw [h4 (by omega)]; rfl, fun h => by rw [h3 (by omega)]; rfl⟩
  show Ieee.double.read (x ^^^ 2 ^ 63) = _
  rw [read_xor h1, h2, opp_dat]
  congr 1; omega
theorem dat_toInt {s : Bool} {n : Int} (hn : n.natAbs < 2 ^ 53) (h1 : n < 0 → s = true) (h2 : 0 < n → s = false) : (dat s n.natAbs).toInt .zero = some n := by
  obtain ⟨m, i, e, i0, q⟩ := dat_parts s n.natAbs hn
  have w := q i (Int.le_refl _)
  rw [Int.sub_self, Int.toNat_zero, Nat.shiftLeft_zero] at w
  have hsg := signed_of (s := s) (n := n) (m := n.natAbs) (up := 0) (k := 0) (by simp) h1 h2
  have hc : Toward.zero.cut s (m <<< i.toNat) (-i).toNat = n.natAbs := by
    rw [show i.toNat = 0 by omega, Nat.shiftLeft_zero, w]
    generalize (-i).toNat = d
    generalize n.natAbs = N
    by_cases h0 : N = 0
    · subst h0; simp [Toward.cut]
    · have hmin : min d ((N * 2 ^ d).log2 + 2) = d := by rw [log2_mul _ _ (by omega)]; omega
      have hp : 0 < 2 ^ d := Nat.two_pow_pos d
      simp [Toward.cut, hmin, Nat.one_shiftLeft, Nat.mul_div_cancel _ hp]
  rw [e]
  simp only [Datum.toInt, Datum.integral, hc]
  rw [hsg]; simp
theorem FI.toInt {x : Nat} {n : Int} (h : FI x n) (hn : n.natAbs < 2 ^ 53) : floatToIntVal .f64 x .i64 = some n := by
  obtain ⟨_, s, h2, h3, h4⟩ := h
  have h1 : IntKind.i64.min = -9223372036854775808 := rfl
  have h5 : IntKind.i64.max = 9223372036854775807 := rfl
  have q : (FloatKind.f64.decode x).toInt .zero = some n := by
    show (Ieee.double.read x).toInt .zero = some n
    rw [h2]; exact dat_toInt hn h3 h4
  simp only [floatToIntVal, q, h1, h5]
  rw [if_pos ⟨by omega, by omega⟩]
end Go.Proofs.YtgakgpbmcbegbaaGreatDoor.Fl
