/- The functions of package word, and of its reference, walked. -/
import Derived.Test.YthpnbgkhoocadaaProg
import Derived.Test.YthpnbgkhoocadaaWWord
import Derived.KernelRfl
namespace Go.Proofs.Ythpnbgkhoocadaa
open Go.RowKit Fr
set_option linter.unusedVariables false
set_option linter.unusedSimpArgs false
set_option maxRecDepth 20000

set_option maxHeartbeats 1000000 in
theorem w_Of {g : Frag} {op a b : Int} (ha : 0 ≤ a ∧ a < 4294967296) (hb : 0 ≤ b ∧ b < 4294967296) : LCs Try.prog 15 #[.int .i64 op, .int .u32 a, .int .u32 b] g (.tuple #[.int .u32 (M.wOf op a b).1, .int .i64 (M.wOf op a b).2]) := by
  refine lc_body (k := 41) (av := [.int .i64 op, .int .u32 a, .int .u32 b]) Try.func15 rfl rfl (h := fun W hS => ?_)
  refine c_seq ?_
  refine c_region ?_
  refine o_assign (h := ?_)
  refine o_assign (h := ?_)
  refine n_thenN (h := ?_)
  refine c_seq ?_
  refine c_block ?_
  refine c_seq ?_
  refine c_region ?_
  refine o_move (h := ?_)
  refine o_callS hS Try.func13 rfl rfl (hc := w_Has) (h := ?_)
  clear hS; intro w hS
  refine o_not (h := ?_)
  refine o_assign (h := ?_)
  refine n_thenN (h := ?_)
  refine c_if (ht := fun c1 => ?_) (hf := fun c1 => ?_)
  · try simp only [decide_eq_true_eq, decide_eq_false_iff_not, Bool.not_eq_true', Bool.not_eq_false', Bool.and_eq_true, Bool.or_eq_true, Bool.and_eq_false_iff, Bool.or_eq_false_iff, Decidable.not_not, ne_eq] at c1
    refine c_seq ?_
    refine c_region ?_
    refine o_assign (h := ?_)
    refine o_assign (h := ?_)
    refine n_thenN (h := ?_)
    refine wp_ret (r_retS2 hS rfl (hR := ?_))
    first | rfl | (simp [M.wOf, *]; done) | (simp [M.wOf, M.wHas, *]; done)
  · try simp only [decide_eq_true_eq, decide_eq_false_iff_not, Bool.not_eq_true', Bool.not_eq_false', Bool.and_eq_true, Bool.or_eq_true, Bool.and_eq_false_iff, Bool.or_eq_false_iff, Decidable.not_not, ne_eq] at c1
    refine c_seq ?_
    refine c_region ?_
    refine o_move (h := ?_)
    refine o_bin (h := ?_)
    refine o_split (ht := fun c2 => ?_) (hf := fun c2 => ?_)
    · try simp only [decide_eq_true_eq, decide_eq_false_iff_not, Bool.not_eq_true', Bool.not_eq_false', Bool.and_eq_true, Bool.or_eq_true, Bool.and_eq_false_iff, Bool.or_eq_false_iff, Decidable.not_not, ne_eq] at c2
      refine o_guard (hj := rfl) (hd := rfl) (hb := rfl) (h := ?_)
      refine o_move (h := ?_)
      refine o_guard (hj := rfl) (hd := rfl) (hb := rfl) (h := ?_)
      refine o_bin (h := ?_)
      refine o_guard (hj := rfl) (hd := rfl) (hb := rfl) (h := ?_)
      refine o_split (ht := fun c3 => ?_) (hf := fun c3 => ?_)
      · try simp only [decide_eq_true_eq, decide_eq_false_iff_not, Bool.not_eq_true', Bool.not_eq_false', Bool.and_eq_true, Bool.or_eq_true, Bool.and_eq_false_iff, Bool.or_eq_false_iff, Decidable.not_not, ne_eq] at c3
        refine o_skip (hj := rfl) (hd := rfl) (hb := by decide) (h := ?_)
        refine o_skip (hj := rfl) (hd := rfl) (hb := by decide) (h := ?_)
        refine o_guard (hj := rfl) (hd := rfl) (hb := rfl) (h := ?_)
        refine o_pickT (h := ?_)
        refine o_pickT (h := ?_)
        refine o_assign (h := ?_)
        refine n_thenN (h := ?_)
        refine c_if_true (h := ?_)
        refine c_seq ?_
        refine c_region ?_
        refine o_assign (h := ?_)
        refine o_assign (h := ?_)
        refine n_thenN (h := ?_)
        refine wp_ret (r_retS2 hS rfl (hR := ?_))
        first | rfl | (simp [M.wOf, *]; done) | (simp [M.wOf, M.wHas, *]; done)
      · try simp only [decide_eq_true_eq, decide_eq_false_iff_not, Bool.not_eq_true', Bool.not_eq_false', Bool.and_eq_true, Bool.or_eq_true, Bool.and_eq_false_iff, Bool.or_eq_false_iff, Decidable.not_not, ne_eq] at c3
        refine o_guard (hj := rfl) (hd := rfl) (hb := rfl) (h := ?_)
        refine o_move (h := ?_)
        refine o_guard (hj := rfl) (hd := rfl) (hb := rfl) (h := ?_)
        refine o_bin (h := ?_)
        refine o_guard (hj := rfl) (hd := rfl) (hb := rfl) (h := ?_)
        refine o_pickF (h := ?_)
        refine o_pickT (h := ?_)
        refine o_assign (h := ?_)
        refine n_thenN (h := ?_)
        refine c_if (ht := fun c4 => ?_) (hf := fun c4 => ?_)
        · try simp only [decide_eq_true_eq, decide_eq_false_iff_not, Bool.not_eq_true', Bool.not_eq_false', Bool.and_eq_true, Bool.or_eq_true, Bool.and_eq_false_iff, Bool.or_eq_false_iff, Decidable.not_not, ne_eq] at c4
          refine c_seq ?_
          refine c_region ?_
          refine o_assign (h := ?_)
          refine o_assign (h := ?_)
          refine n_thenN (h := ?_)
          refine wp_ret (r_retS2 hS rfl (hR := ?_))
          first | rfl | (simp [M.wOf, *]; done) | (simp [M.wOf, M.wHas, *]; done)
        · try simp only [decide_eq_true_eq, decide_eq_false_iff_not, Bool.not_eq_true', Bool.not_eq_false', Bool.and_eq_true, Bool.or_eq_true, Bool.and_eq_false_iff, Bool.or_eq_false_iff, Decidable.not_not, ne_eq] at c4
          refine c_seq ?_
          refine c_region ?_
          refine o_move (h := ?_)
          refine o_bin (h := ?_)
          refine o_assign (h := ?_)
          refine n_thenN (h := ?_)
          refine c_if (ht := fun c5 => ?_) (hf := fun c5 => ?_)
          · try simp only [decide_eq_true_eq, decide_eq_false_iff_not, Bool.not_eq_true', Bool.not_eq_false', Bool.and_eq_true, Bool.or_eq_true, Bool.and_eq_false_iff, Bool.or_eq_false_iff, Decidable.not_not, ne_eq] at c5
            refine c_seq ?_
            refine c_region ?_
            refine o_move (h := ?_)
            refine o_move (h := ?_)
            refine o_move (h := ?_)
            refine o_callS hS Try.func26 rfl rfl (hc := (w_logic (by assumption) (by assumption))) (h := ?_)
            clear hS; intro w hS
            refine o_assign (h := ?_)
            refine o_assign (h := ?_)
            refine n_thenN (h := ?_)
            refine wp_ret (r_retS2 hS rfl (hR := ?_))
            first | rfl | (simp [M.wOf, *]; done) | (simp [M.wOf, M.wHas, *]; done)
          · try simp only [decide_eq_true_eq, decide_eq_false_iff_not, Bool.not_eq_true', Bool.not_eq_false', Bool.and_eq_true, Bool.or_eq_true, Bool.and_eq_false_iff, Bool.or_eq_false_iff, Decidable.not_not, ne_eq] at c5
            refine c_seq ?_
            refine c_region ?_
            refine o_move (h := ?_)
            refine o_bin (h := ?_)
            refine o_assign (h := ?_)
            refine n_thenN (h := ?_)
            refine c_if (ht := fun c6 => ?_) (hf := fun c6 => ?_)
            · try simp only [decide_eq_true_eq, decide_eq_false_iff_not, Bool.not_eq_true', Bool.not_eq_false', Bool.and_eq_true, Bool.or_eq_true, Bool.and_eq_false_iff, Bool.or_eq_false_iff, Decidable.not_not, ne_eq] at c6
              refine c_seq ?_
              refine c_region ?_
              refine o_move (h := ?_)
              refine o_move (h := ?_)
              refine o_move (h := ?_)
              refine o_callS hS Try.func27 rfl rfl (hc := w_compared) (h := ?_)
              clear hS; intro w hS
              refine o_assign (h := ?_)
              refine o_assign (h := ?_)
              refine n_thenN (h := ?_)
              refine wp_ret (r_retS2 hS rfl (hR := ?_))
              first | rfl | (simp [M.wOf, *]; done) | (simp [M.wOf, M.wHas, *]; done)
            · try simp only [decide_eq_true_eq, decide_eq_false_iff_not, Bool.not_eq_true', Bool.not_eq_false', Bool.and_eq_true, Bool.or_eq_true, Bool.and_eq_false_iff, Bool.or_eq_false_iff, Decidable.not_not, ne_eq] at c6
              refine wp_skip ?_
              try change Code.wp _ _ _ _ _
              try change Code.wp _ _ _ _ _
              refine c_seq ?_
              refine c_region ?_
              refine o_move (h := ?_)
              refine o_move (h := ?_)
              refine o_move (h := ?_)
              refine o_callS hS Try.func28 rfl rfl (hc := (w_product (op := op) (a := a) (b := b) (M.prod_ok hb (by intro h; omega)) (by have := M.has_true c1; omega))) (h := ?_)
              clear hS; intro w hS
              refine o_assign (h := ?_)
              refine o_assign (h := ?_)
              refine n_thenN (h := ?_)
              refine wp_ret (r_retS2 hS rfl (hR := ?_))
              first | rfl | (simp [M.wOf, *]; done) | (simp [M.wOf, M.wHas, *]; done)
    · try simp only [decide_eq_true_eq, decide_eq_false_iff_not, Bool.not_eq_true', Bool.not_eq_false', Bool.and_eq_true, Bool.or_eq_true, Bool.and_eq_false_iff, Bool.or_eq_false_iff, Decidable.not_not, ne_eq] at c2
      refine o_skip (hj := rfl) (hd := rfl) (hb := by decide) (h := ?_)
      refine o_skip (hj := rfl) (hd := rfl) (hb := by decide) (h := ?_)
      refine o_skip (hj := rfl) (hd := rfl) (hb := by decide) (h := ?_)
      refine o_skipU (hj := rfl) (hd := rfl) (h := ?_)
      refine o_skipU (hj := rfl) (hd := rfl) (h := ?_)
      refine o_skip (hj := rfl) (hd := rfl) (hb := by decide) (h := ?_)
      refine o_pickF (h := ?_)
      refine o_assign (h := ?_)
      refine n_thenN (h := ?_)
      refine c_if_false (h := ?_)
      refine c_seq ?_
      refine c_region ?_
      refine o_move (h := ?_)
      refine o_bin (h := ?_)
      refine o_assign (h := ?_)
      refine n_thenN (h := ?_)
      refine c_if (ht := fun c7 => ?_) (hf := fun c7 => ?_)
      · try simp only [decide_eq_true_eq, decide_eq_false_iff_not, Bool.not_eq_true', Bool.not_eq_false', Bool.and_eq_true, Bool.or_eq_true, Bool.and_eq_false_iff, Bool.or_eq_false_iff, Decidable.not_not, ne_eq] at c7
        refine c_seq ?_
        refine c_region ?_
        refine o_move (h := ?_)
        refine o_move (h := ?_)
        refine o_move (h := ?_)
        refine o_callS hS Try.func26 rfl rfl (hc := (w_logic (by assumption) (by assumption))) (h := ?_)
        clear hS; intro w hS
        refine o_assign (h := ?_)
        refine o_assign (h := ?_)
        refine n_thenN (h := ?_)
        refine wp_ret (r_retS2 hS rfl (hR := ?_))
        first | rfl | (simp [M.wOf, *]; done) | (simp [M.wOf, M.wHas, *]; done)
      · try simp only [decide_eq_true_eq, decide_eq_false_iff_not, Bool.not_eq_true', Bool.not_eq_false', Bool.and_eq_true, Bool.or_eq_true, Bool.and_eq_false_iff, Bool.or_eq_false_iff, Decidable.not_not, ne_eq] at c7
        refine c_seq ?_
        refine c_region ?_
        refine o_move (h := ?_)
        refine o_bin (h := ?_)
        refine o_assign (h := ?_)
        refine n_thenN (h := ?_)
        refine c_if (ht := fun c8 => ?_) (hf := fun c8 => ?_)
        · try simp only [decide_eq_true_eq, decide_eq_false_iff_not, Bool.not_eq_true', Bool.not_eq_false', Bool.and_eq_true, Bool.or_eq_true, Bool.and_eq_false_iff, Bool.or_eq_false_iff, Decidable.not_not, ne_eq] at c8
          refine c_seq ?_
          refine c_region ?_
          refine o_move (h := ?_)
          refine o_move (h := ?_)
          refine o_move (h := ?_)
          refine o_callS hS Try.func27 rfl rfl (hc := w_compared) (h := ?_)
          clear hS; intro w hS
          refine o_assign (h := ?_)
          refine o_assign (h := ?_)
          refine n_thenN (h := ?_)
          refine wp_ret (r_retS2 hS rfl (hR := ?_))
          first | rfl | (simp [M.wOf, *]; done) | (simp [M.wOf, M.wHas, *]; done)
        · try simp only [decide_eq_true_eq, decide_eq_false_iff_not, Bool.not_eq_true', Bool.not_eq_false', Bool.and_eq_true, Bool.or_eq_true, Bool.and_eq_false_iff, Bool.or_eq_false_iff, Decidable.not_not, ne_eq] at c8
          refine wp_skip ?_
          try change Code.wp _ _ _ _ _
          try change Code.wp _ _ _ _ _
          refine c_seq ?_
          refine c_region ?_
          refine o_move (h := ?_)
          refine o_move (h := ?_)
          refine o_move (h := ?_)
          refine o_callS hS Try.func28 rfl rfl (hc := (w_product (op := op) (a := a) (b := b) (M.prod_ok hb (by intro h; omega)) (by have := M.has_true c1; omega))) (h := ?_)
          clear hS; intro w hS
          refine o_assign (h := ?_)
          refine o_assign (h := ?_)
          refine n_thenN (h := ?_)
          refine wp_ret (r_retS2 hS rfl (hR := ?_))
          first | rfl | (simp [M.wOf, *]; done) | (simp [M.wOf, M.wHas, *]; done)

set_option maxHeartbeats 1000000 in
theorem w_sized {g : Frag} {n : Int} : LCs Try.prog 30 #[.int .i64 n] g (.bool (M.sized n)) := by
  refine lc_body (k := 9) (av := [.int .i64 n]) Try.func30 rfl rfl (h := fun W hS => ?_)
  refine c_seq ?_
  refine c_region ?_
  refine o_assign (h := ?_)
  refine n_thenN (h := ?_)
  refine c_seq ?_
  refine c_region ?_
  refine o_move (h := ?_)
  refine o_bin (h := ?_)
  refine o_split (ht := fun c1 => ?_) (hf := fun c1 => ?_)
  · try simp only [decide_eq_true_eq, decide_eq_false_iff_not, Bool.not_eq_true', Bool.not_eq_false', Bool.and_eq_true, Bool.or_eq_true, Bool.and_eq_false_iff, Bool.or_eq_false_iff, Decidable.not_not, ne_eq] at c1
    refine o_guard (hj := rfl) (hd := rfl) (hb := rfl) (h := ?_)
    refine o_move (h := ?_)
    refine o_guard (hj := rfl) (hd := rfl) (hb := rfl) (h := ?_)
    refine o_bin (h := ?_)
    refine o_pickT (h := ?_)
    refine o_assign (h := ?_)
    refine n_thenN (h := ?_)
    refine wp_ret (r_retS1 hS rfl (hR := ?_))
    all_goals (simp only [M.sized]; congr 1; simp; omega)
  · try simp only [decide_eq_true_eq, decide_eq_false_iff_not, Bool.not_eq_true', Bool.not_eq_false', Bool.and_eq_true, Bool.or_eq_true, Bool.and_eq_false_iff, Bool.or_eq_false_iff, Decidable.not_not, ne_eq] at c1
    refine o_skip (hj := rfl) (hd := rfl) (hb := by decide) (h := ?_)
    refine o_skip (hj := rfl) (hd := rfl) (hb := by decide) (h := ?_)
    refine o_pickF (h := ?_)
    refine o_assign (h := ?_)
    refine n_thenN (h := ?_)
    refine wp_ret (r_retS1 hS rfl (hR := ?_))
    all_goals (simp only [M.sized]; congr 1; simp; omega)

set_option maxHeartbeats 1000000 in
theorem w_Within {g : Frag} {n b : Int} (hb : 1 ≤ b ∧ b ≤ 32) : LCs Try.prog 31 #[.int .i64 n, .int .i64 b] g (.bool (M.within n b)) := by
  refine lc_body (k := 17) (av := [.int .i64 n, .int .i64 b]) Try.func31 rfl rfl (h := fun W hS => ?_)
  refine c_seq ?_
  refine c_region ?_
  refine o_assign (h := ?_)
  refine n_thenN (h := ?_)
  refine c_seq ?_
  refine c_region ?_
  refine o_move (h := ?_)
  refine o_move (h := ?_)
  refine o_sub (h0 := by omega) (h1 := by omega) (h := ?_)
  refine o_shl (h0 := by omega) (h := ?_)
  refine o_bin (h := ?_)
  refine o_split (ht := fun c1 => ?_) (hf := fun c1 => ?_)
  · try simp only [decide_eq_true_eq, decide_eq_false_iff_not, Bool.not_eq_true', Bool.not_eq_false', Bool.and_eq_true, Bool.or_eq_true, Bool.and_eq_false_iff, Bool.or_eq_false_iff, Decidable.not_not, ne_eq] at c1
    refine o_guard (hj := rfl) (hd := rfl) (hb := rfl) (h := ?_)
    refine o_move (h := ?_)
    refine o_guard (hj := rfl) (hd := rfl) (hb := rfl) (h := ?_)
    refine o_move (h := ?_)
    refine o_guard (hj := rfl) (hd := rfl) (hb := rfl) (h := ?_)
    refine o_sub (h0 := by omega) (h1 := by omega) (h := ?_)
    refine o_guard (hj := rfl) (hd := rfl) (hb := rfl) (h := ?_)
    refine o_shl (h0 := by omega) (h := ?_)
    refine o_guard (hj := rfl) (hd := rfl) (hb := rfl) (h := ?_)
    refine o_bin (h := ?_)
    refine o_pickT (h := ?_)
    refine o_assign (h := ?_)
    refine n_thenN (h := ?_)
    refine wp_ret (r_retS1 hS rfl (hR := ?_))
    all_goals (simp only [M.within, M.r1Fits, M.shl, M.i64]; first | rw [decide_eq_true c1, Bool.true_and] | rw [decide_eq_false c1, Bool.false_and])
  · try simp only [decide_eq_true_eq, decide_eq_false_iff_not, Bool.not_eq_true', Bool.not_eq_false', Bool.and_eq_true, Bool.or_eq_true, Bool.and_eq_false_iff, Bool.or_eq_false_iff, Decidable.not_not, ne_eq] at c1
    refine o_skip (hj := rfl) (hd := rfl) (hb := by decide) (h := ?_)
    refine o_skip (hj := rfl) (hd := rfl) (hb := by decide) (h := ?_)
    refine o_skip (hj := rfl) (hd := rfl) (hb := by decide) (h := ?_)
    refine o_skip (hj := rfl) (hd := rfl) (hb := by decide) (h := ?_)
    refine o_skip (hj := rfl) (hd := rfl) (hb := by decide) (h := ?_)
    refine o_pickF (h := ?_)
    refine o_assign (h := ?_)
    refine n_thenN (h := ?_)
    refine wp_ret (r_retS1 hS rfl (hR := ?_))
    all_goals (simp only [M.within, M.r1Fits, M.shl, M.i64]; first | rw [decide_eq_true c1, Bool.true_and] | rw [decide_eq_false c1, Bool.false_and])

set_option maxHeartbeats 1000000 in
theorem w_Low {g : Frag} {n b : Int} (hb : 1 ≤ b ∧ b ≤ 32) : LCs Try.prog 32 #[.int .i64 n, .int .i64 b] g (.int .u32 (M.low n b)) := by
  refine lc_body (k := 11) (av := [.int .i64 n, .int .i64 b]) Try.func32 rfl rfl (h := fun W hS => ?_)
  refine c_seq ?_
  refine c_region ?_
  refine o_assign (h := ?_)
  refine n_thenN (h := ?_)
  refine c_seq ?_
  refine c_region ?_
  refine o_move (h := ?_)
  refine o_conv (hs := Try.underlying3) (ht := Try.underlying28) (h := ?_)
  refine o_move (h := ?_)
  refine o_shl (h0 := by omega) (h := ?_)
  refine o_bin (h := ?_)
  refine o_bin (h := ?_)
  refine o_assign (h := ?_)
  refine n_thenN (h := ?_)
  refine wp_ret (r_retS1 hS rfl (hR := ?_))
  rfl

set_option maxHeartbeats 1000000 in
theorem w_Fits {g : Frag} {n b : Int} : LCs Try.prog 21 #[.int .i64 n, .int .i64 b] g (.tuple #[.bool (M.fits n b).1, .int .i64 (M.fits n b).2]) := by
  refine lc_body (k := 12) (av := [.int .i64 n, .int .i64 b]) Try.func21 rfl rfl (h := fun W hS => ?_)
  refine c_seq ?_
  refine c_region ?_
  refine o_assign (h := ?_)
  refine o_assign (h := ?_)
  refine n_thenN (h := ?_)
  refine c_seq ?_
  refine c_seq ?_
  refine c_region ?_
  refine o_move (h := ?_)
  refine o_callS hS Try.func30 rfl rfl (hc := w_sized) (h := ?_)
  clear hS; intro w hS
  refine o_not (h := ?_)
  refine n_thenN (h := ?_)
  refine c_if (ht := fun c1 => ?_) (hf := fun c1 => ?_)
  · try simp only [decide_eq_true_eq, decide_eq_false_iff_not, Bool.not_eq_true', Bool.not_eq_false', Bool.and_eq_true, Bool.or_eq_true, Bool.and_eq_false_iff, Bool.or_eq_false_iff, Decidable.not_not, ne_eq] at c1
    refine c_seq ?_
    refine c_region ?_
    refine o_assign (h := ?_)
    refine o_assign (h := ?_)
    refine n_thenN (h := ?_)
    refine wp_ret (r_retS2 hS rfl (hR := ?_))
    first | rfl | (simp [M.fits, *]; done) | (simp [M.fits, *]; rfl) | (simp [M.fits, *]; congr)
  · try simp only [decide_eq_true_eq, decide_eq_false_iff_not, Bool.not_eq_true', Bool.not_eq_false', Bool.and_eq_true, Bool.or_eq_true, Bool.and_eq_false_iff, Bool.or_eq_false_iff, Decidable.not_not, ne_eq] at c1
    refine wp_skip ?_
    try change Code.wp _ _ _ _ _
    refine c_seq ?_
    refine c_region ?_
    refine o_move (h := ?_)
    refine o_move (h := ?_)
    refine o_callS hS Try.func31 rfl rfl (hc := (w_Within (M.sized_true c1))) (h := ?_)
    clear hS; intro w hS
    refine o_assign (h := ?_)
    refine o_assign (h := ?_)
    refine n_thenN (h := ?_)
    refine wp_ret (r_retS2 hS rfl (hR := ?_))
    first | rfl | (simp [M.fits, *]; done) | (simp [M.fits, *]; rfl) | (simp [M.fits, *]; congr)

set_option maxHeartbeats 1000000 in
theorem w_Cut {g : Frag} {n b : Int} : LCs Try.prog 22 #[.int .i64 n, .int .i64 b] g (.tuple #[.int .u32 (M.cut n b).1, .int .i64 (M.cut n b).2]) := by
  refine lc_body (k := 18) (av := [.int .i64 n, .int .i64 b]) Try.func22 rfl rfl (h := fun W hS => ?_)
  refine c_seq ?_
  refine c_region ?_
  refine o_assign (h := ?_)
  refine o_assign (h := ?_)
  refine n_thenN (h := ?_)
  refine c_seq ?_
  refine c_block ?_
  refine c_seq ?_
  refine c_region ?_
  refine o_move (h := ?_)
  refine o_callS hS Try.func30 rfl rfl (hc := w_sized) (h := ?_)
  clear hS; intro w hS
  refine o_not (h := ?_)
  refine o_assign (h := ?_)
  refine n_thenN (h := ?_)
  refine c_if (ht := fun c1 => ?_) (hf := fun c1 => ?_)
  · try simp only [decide_eq_true_eq, decide_eq_false_iff_not, Bool.not_eq_true', Bool.not_eq_false', Bool.and_eq_true, Bool.or_eq_true, Bool.and_eq_false_iff, Bool.or_eq_false_iff, Decidable.not_not, ne_eq] at c1
    refine c_seq ?_
    refine c_region ?_
    refine o_assign (h := ?_)
    refine o_assign (h := ?_)
    refine n_thenN (h := ?_)
    refine wp_ret (r_retS2 hS rfl (hR := ?_))
    first | rfl | (simp [M.cut, *]; done) | (simp [M.cut, *]; rfl) | (simp [M.cut, *]; congr)
  · try simp only [decide_eq_true_eq, decide_eq_false_iff_not, Bool.not_eq_true', Bool.not_eq_false', Bool.and_eq_true, Bool.or_eq_true, Bool.and_eq_false_iff, Bool.or_eq_false_iff, Decidable.not_not, ne_eq] at c1
    refine c_seq ?_
    refine c_region ?_
    refine o_move (h := ?_)
    refine o_move (h := ?_)
    refine o_callS hS Try.func31 rfl rfl (hc := (w_Within (M.sized_true c1))) (h := ?_)
    clear hS; intro w hS
    refine o_not (h := ?_)
    refine o_assign (h := ?_)
    refine n_thenN (h := ?_)
    refine c_if (ht := fun c2 => ?_) (hf := fun c2 => ?_)
    · try simp only [decide_eq_true_eq, decide_eq_false_iff_not, Bool.not_eq_true', Bool.not_eq_false', Bool.and_eq_true, Bool.or_eq_true, Bool.and_eq_false_iff, Bool.or_eq_false_iff, Decidable.not_not, ne_eq] at c2
      refine c_seq ?_
      refine c_region ?_
      refine o_assign (h := ?_)
      refine o_assign (h := ?_)
      refine n_thenN (h := ?_)
      refine wp_ret (r_retS2 hS rfl (hR := ?_))
      first | rfl | (simp [M.cut, *]; done) | (simp [M.cut, *]; rfl) | (simp [M.cut, *]; congr)
    · try simp only [decide_eq_true_eq, decide_eq_false_iff_not, Bool.not_eq_true', Bool.not_eq_false', Bool.and_eq_true, Bool.or_eq_true, Bool.and_eq_false_iff, Bool.or_eq_false_iff, Decidable.not_not, ne_eq] at c2
      refine wp_skip ?_
      try change Code.wp _ _ _ _ _
      try change Code.wp _ _ _ _ _
      refine c_seq ?_
      refine c_region ?_
      refine o_move (h := ?_)
      refine o_move (h := ?_)
      refine o_callS hS Try.func32 rfl rfl (hc := (w_Low (M.sized_true c1))) (h := ?_)
      clear hS; intro w hS
      refine o_assign (h := ?_)
      refine o_assign (h := ?_)
      refine n_thenN (h := ?_)
      refine wp_ret (r_retS2 hS rfl (hR := ?_))
      first | rfl | (simp [M.cut, *]; done) | (simp [M.cut, *]; rfl) | (simp [M.cut, *]; congr)

set_option maxHeartbeats 1000000 in
theorem w_Signed {g : Frag} {x b : Int} (hb : 1 ≤ b ∧ b ≤ 32) : LCs Try.prog 33 #[.int .u32 x, .int .i64 b] g (.int .i64 (M.signed x b)) := by
  refine lc_body (k := 14) (av := [.int .u32 x, .int .i64 b]) Try.func33 rfl rfl (h := fun W hS => ?_)
  refine c_seq ?_
  refine c_region ?_
  refine o_assign (h := ?_)
  refine n_thenN (h := ?_)
  refine c_seq ?_
  refine c_region ?_
  refine o_move (h := ?_)
  refine o_move (h := ?_)
  refine o_sub (h0 := by omega) (h1 := by omega) (h := ?_)
  refine o_shl (h0 := by omega) (h := ?_)
  refine o_conv (hs := Try.underlying28) (ht := Try.underlying21) (h := ?_)
  refine o_move (h := ?_)
  refine o_sub (h0 := by omega) (h1 := by omega) (h := ?_)
  refine o_shr (h0 := by omega) (h := ?_)
  refine o_conv (hs := Try.underlying21) (ht := Try.underlying3) (h := ?_)
  refine o_assign (h := ?_)
  refine n_thenN (h := ?_)
  refine wp_ret (r_retS1 hS rfl (hR := ?_))
  rfl

set_option maxHeartbeats 1000000 in
theorem w_Sign {g : Frag} {x b : Int} : LCs Try.prog 24 #[.int .u32 x, .int .i64 b] g (.tuple #[.int .i64 (M.sign x b).1, .int .i64 (M.sign x b).2]) := by
  refine lc_body (k := 19) (av := [.int .u32 x, .int .i64 b]) Try.func24 rfl rfl (h := fun W hS => ?_)
  refine c_seq ?_
  refine c_region ?_
  refine o_assign (h := ?_)
  refine o_assign (h := ?_)
  refine n_thenN (h := ?_)
  refine c_seq ?_
  refine c_block ?_
  refine c_seq ?_
  refine c_region ?_
  refine o_move (h := ?_)
  refine o_callS hS Try.func30 rfl rfl (hc := w_sized) (h := ?_)
  clear hS; intro w hS
  refine o_not (h := ?_)
  refine o_assign (h := ?_)
  refine n_thenN (h := ?_)
  refine c_if (ht := fun c1 => ?_) (hf := fun c1 => ?_)
  · try simp only [decide_eq_true_eq, decide_eq_false_iff_not, Bool.not_eq_true', Bool.not_eq_false', Bool.and_eq_true, Bool.or_eq_true, Bool.and_eq_false_iff, Bool.or_eq_false_iff, Decidable.not_not, ne_eq] at c1
    refine c_seq ?_
    refine c_region ?_
    refine o_assign (h := ?_)
    refine o_assign (h := ?_)
    refine n_thenN (h := ?_)
    refine wp_ret (r_retS2 hS rfl (hR := ?_))
    first | rfl | (simp [M.sign, M.shr, *]; done) | (simp [M.sign, M.shr, *]; rfl) | (simp [M.sign, M.shr, *]; congr)
  · try simp only [decide_eq_true_eq, decide_eq_false_iff_not, Bool.not_eq_true', Bool.not_eq_false', Bool.and_eq_true, Bool.or_eq_true, Bool.and_eq_false_iff, Bool.or_eq_false_iff, Decidable.not_not, ne_eq] at c1
    refine c_seq ?_
    refine c_region ?_
    refine o_move (h := ?_)
    refine o_conv (hs := Try.underlying28) (ht := Try.underlying43) (h := ?_)
    refine o_move (h := ?_)
    refine o_shr (h0 := by have := M.sized_true c1; omega) (h := ?_)
    refine o_bin (h := ?_)
    refine o_assign (h := ?_)
    refine n_thenN (h := ?_)
    refine c_if (ht := fun c2 => ?_) (hf := fun c2 => ?_)
    · try simp only [decide_eq_true_eq, decide_eq_false_iff_not, Bool.not_eq_true', Bool.not_eq_false', Bool.and_eq_true, Bool.or_eq_true, Bool.and_eq_false_iff, Bool.or_eq_false_iff, Decidable.not_not, ne_eq] at c2
      refine c_seq ?_
      refine c_region ?_
      refine o_assign (h := ?_)
      refine o_assign (h := ?_)
      refine n_thenN (h := ?_)
      refine wp_ret (r_retS2 hS rfl (hR := ?_))
      first | rfl | (simp [M.sign, M.shr, *]; done) | (simp [M.sign, M.shr, *]; rfl) | (simp [M.sign, M.shr, *]; congr)
    · try simp only [decide_eq_true_eq, decide_eq_false_iff_not, Bool.not_eq_true', Bool.not_eq_false', Bool.and_eq_true, Bool.or_eq_true, Bool.and_eq_false_iff, Bool.or_eq_false_iff, Decidable.not_not, ne_eq] at c2
      refine wp_skip ?_
      try change Code.wp _ _ _ _ _
      try change Code.wp _ _ _ _ _
      refine c_seq ?_
      refine c_region ?_
      refine o_move (h := ?_)
      refine o_move (h := ?_)
      refine o_callS hS Try.func33 rfl rfl (hc := (w_Signed (M.sized_true c1))) (h := ?_)
      clear hS; intro w hS
      refine o_assign (h := ?_)
      refine o_assign (h := ?_)
      refine n_thenN (h := ?_)
      refine wp_ret (r_retS2 hS rfl (hR := ?_))
      first | rfl | (simp [M.sign, M.shr, *]; done) | (simp [M.sign, M.shr, *]; rfl) | (simp [M.sign, M.shr, *]; congr)

set_option maxHeartbeats 1000000 in
theorem r1_Fits {g : Frag} {n b : Int} (hb : 1 ≤ b ∧ b ≤ 32) : LCs Try.prog 23 #[.int .i64 n, .int .i64 b] g (.bool (M.r1Fits n b)) := by
  refine lc_body (k := 18) (av := [.int .i64 n, .int .i64 b]) Try.func23 rfl rfl (h := fun W hS => ?_)
  refine c_seq ?_
  refine c_region ?_
  refine o_assign (h := ?_)
  refine n_thenN (h := ?_)
  refine c_seq ?_
  refine c_region ?_
  refine o_move (h := ?_)
  refine o_sub (h0 := by omega) (h1 := by omega) (h := ?_)
  refine o_shl (h0 := by omega) (h := ?_)
  refine o_assign (h := ?_)
  refine n_thenN (h := ?_)
  refine c_seq ?_
  refine c_region ?_
  refine o_move (h := ?_)
  refine o_move (h := ?_)
  refine o_neg (h := ?_)
  refine o_bin (h := ?_)
  refine o_split (ht := fun c1 => ?_) (hf := fun c1 => ?_)
  · try simp only [decide_eq_true_eq, decide_eq_false_iff_not, Bool.not_eq_true', Bool.not_eq_false', Bool.and_eq_true, Bool.or_eq_true, Bool.and_eq_false_iff, Bool.or_eq_false_iff, Decidable.not_not, ne_eq] at c1
    refine o_guard (hj := rfl) (hd := rfl) (hb := rfl) (h := ?_)
    refine o_move (h := ?_)
    refine o_guard (hj := rfl) (hd := rfl) (hb := rfl) (h := ?_)
    refine o_move (h := ?_)
    refine o_guard (hj := rfl) (hd := rfl) (hb := rfl) (h := ?_)
    refine o_bin (h := ?_)
    refine o_pickT (h := ?_)
    refine o_assign (h := ?_)
    refine n_thenN (h := ?_)
    refine wp_ret (r_retS1 hS rfl (hR := ?_))
    all_goals (simp only [M.within, M.r1Fits, M.shl, M.i64]; first | rw [decide_eq_true c1, Bool.true_and] | rw [decide_eq_false c1, Bool.false_and])
  · try simp only [decide_eq_true_eq, decide_eq_false_iff_not, Bool.not_eq_true', Bool.not_eq_false', Bool.and_eq_true, Bool.or_eq_true, Bool.and_eq_false_iff, Bool.or_eq_false_iff, Decidable.not_not, ne_eq] at c1
    refine o_skip (hj := rfl) (hd := rfl) (hb := by decide) (h := ?_)
    refine o_skip (hj := rfl) (hd := rfl) (hb := by decide) (h := ?_)
    refine o_skip (hj := rfl) (hd := rfl) (hb := by decide) (h := ?_)
    refine o_pickF (h := ?_)
    refine o_assign (h := ?_)
    refine n_thenN (h := ?_)
    refine wp_ret (r_retS1 hS rfl (hR := ?_))
    all_goals (simp only [M.within, M.r1Fits, M.shl, M.i64]; first | rw [decide_eq_true c1, Bool.true_and] | rw [decide_eq_false c1, Bool.false_and])

set_option maxHeartbeats 1000000 in
theorem r1_Sign {g : Frag} {x b : Int} (hx : 0 ≤ x ∧ x < 4294967296) (hb : 1 ≤ b ∧ b ≤ 32) : LCs Try.prog 25 #[.int .u32 x, .int .i64 b] g (.int .i64 (M.r1Sign x b)) := by
  refine lc_body (k := 18) (av := [.int .u32 x, .int .i64 b]) Try.func25 rfl rfl (h := fun W hS => ?_)
  refine c_seq ?_
  refine c_region ?_
  refine o_assign (h := ?_)
  refine n_thenN (h := ?_)
  refine c_seq ?_
  refine c_region ?_
  refine o_move (h := ?_)
  refine o_conv (hs := Try.underlying28) (ht := Try.underlying3) (h := ?_)
  refine o_assign (h := ?_)
  refine n_thenN (h := ?_)
  refine c_seq ?_
  refine c_seq ?_
  refine c_region ?_
  refine o_move (h := ?_)
  refine o_move (h := ?_)
  refine o_sub (h0 := by omega) (h1 := by omega) (h := ?_)
  refine o_shl (h0 := by omega) (h := ?_)
  refine o_bin (h := ?_)
  refine n_thenN (h := ?_)
  refine c_if (ht := fun c1 => ?_) (hf := fun c1 => ?_)
  · try simp only [decide_eq_true_eq, decide_eq_false_iff_not, Bool.not_eq_true', Bool.not_eq_false', Bool.and_eq_true, Bool.or_eq_true, Bool.and_eq_false_iff, Bool.or_eq_false_iff, Decidable.not_not, ne_eq] at c1
    refine c_region ?_
    refine o_move (h := ?_)
    refine o_move (h := ?_)
    refine o_shl (h0 := by omega) (h := ?_)
    refine o_bin (h := ?_)
    refine o_assign (h := ?_)
    refine n_thenN (h := ?_)
    refine c_seq ?_
    refine c_region ?_
    refine o_move (h := ?_)
    refine o_assign (h := ?_)
    refine n_thenN (h := ?_)
    refine wp_ret (r_retS1 hS rfl (hR := ?_))
    all_goals (simp only [M.r1Sign, M.shl, M.i64]; first | rw [if_pos (by assumption)] | rw [if_neg (by assumption)])
  · try simp only [decide_eq_true_eq, decide_eq_false_iff_not, Bool.not_eq_true', Bool.not_eq_false', Bool.and_eq_true, Bool.or_eq_true, Bool.and_eq_false_iff, Bool.or_eq_false_iff, Decidable.not_not, ne_eq] at c1
    refine wp_skip ?_
    try change Code.wp _ _ _ _ _
    refine c_seq ?_
    refine c_region ?_
    refine o_move (h := ?_)
    refine o_assign (h := ?_)
    refine n_thenN (h := ?_)
    refine wp_ret (r_retS1 hS rfl (hR := ?_))
    all_goals (simp only [M.r1Sign, M.shl, M.i64]; first | rw [if_pos (by assumption)] | rw [if_neg (by assumption)])


end Go.Proofs.Ythpnbgkhoocadaa
