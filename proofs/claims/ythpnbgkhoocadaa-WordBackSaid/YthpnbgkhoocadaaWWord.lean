/- The functions of package word, walked. -/
import Derived.Test.YthpnbgkhoocadaaProg
import Derived.Test.YthpnbgkhoocadaaTyped
import Derived.Test.YthpnbgkhoocadaaMWord
import Derived.KernelRfl
namespace Go.Proofs.Ythpnbgkhoocadaa
open Go.RowKit Fr
set_option linter.unusedVariables false
set_option linter.unusedSimpArgs false
set_option maxRecDepth 20000

set_option maxHeartbeats 1000000 in
theorem w_Has {g : Frag} {n : Int} : LCs Try.prog 13 #[.int .i64 n] g (.bool (M.wHas n)) := by
  refine lc_body (k := 9) (av := [.int .i64 n]) Try.func13 rfl rfl (h := fun W hS => ?_)
  refine c_seq ?_
  refine c_region ?_
  refine o_assign (h := ?_)
  refine n_thenN (h := ?_)
  refine c_seq ?_
  refine c_region ?_
  refine o_move (h := ?_)
  refine o_bin (h := ?_)
  refine o_split (ht := fun c1 => ?_) (hf := fun c1 => ?_)
  · try simp only [decide_eq_true_eq, decide_eq_false_iff_not, Bool.not_eq_true', Bool.not_eq_false', Bool.and_eq_true, Bool.or_eq_true, Bool.and_eq_false_iff, Bool.or_eq_false_iff, Decidable.not_not, ne_eq] at c1
    refine o_guard (hj := rfl) (hd := rfl) (hb := rfl) (h := ?_)
    refine o_move (h := ?_)
    refine o_guard (hj := rfl) (hd := rfl) (hb := rfl) (h := ?_)
    refine o_bin (h := ?_)
    refine o_pickT (h := ?_)
    refine o_assign (h := ?_)
    refine n_thenN (h := ?_)
    refine wp_ret (r_retS1 hS rfl (hR := ?_))
    all_goals (simp only [M.wHas]; congr 1; simp; omega)
  · try simp only [decide_eq_true_eq, decide_eq_false_iff_not, Bool.not_eq_true', Bool.not_eq_false', Bool.and_eq_true, Bool.or_eq_true, Bool.and_eq_false_iff, Bool.or_eq_false_iff, Decidable.not_not, ne_eq] at c1
    refine o_skip (hj := rfl) (hd := rfl) (hb := by decide) (h := ?_)
    refine o_skip (hj := rfl) (hd := rfl) (hb := by decide) (h := ?_)
    refine o_pickF (h := ?_)
    refine o_assign (h := ?_)
    refine n_thenN (h := ?_)
    refine wp_ret (r_retS1 hS rfl (hR := ?_))
    all_goals (simp only [M.wHas]; congr 1; simp; omega)

set_option maxHeartbeats 1000000 in
theorem w_flag {g : Frag} {b : Bool} : LCs Try.prog 34 #[.bool b] g (.int .u32 (M.wFlag b)) := by
  refine lc_body (k := 4) (av := [.bool b]) Try.func34 rfl rfl (h := fun W hS => ?_)
  refine c_seq ?_
  refine c_region ?_
  refine o_assign (h := ?_)
  refine n_thenN (h := ?_)
  refine c_seq ?_
  refine c_seq ?_
  refine c_region ?_
  refine o_move (h := ?_)
  refine n_thenN (h := ?_)
  refine c_if (ht := fun c1 => ?_) (hf := fun c1 => ?_)
  · try simp only [decide_eq_true_eq, decide_eq_false_iff_not, Bool.not_eq_true', Bool.not_eq_false', Bool.and_eq_true, Bool.or_eq_true, Bool.and_eq_false_iff, Bool.or_eq_false_iff, Decidable.not_not, ne_eq] at c1
    refine c_seq ?_
    refine c_region ?_
    refine o_assign (h := ?_)
    refine n_thenN (h := ?_)
    refine wp_ret (r_retS1 hS rfl (hR := ?_))
    simp [M.wFlag, *]
  · try simp only [decide_eq_true_eq, decide_eq_false_iff_not, Bool.not_eq_true', Bool.not_eq_false', Bool.and_eq_true, Bool.or_eq_true, Bool.and_eq_false_iff, Bool.or_eq_false_iff, Decidable.not_not, ne_eq] at c1
    refine wp_skip ?_
    try change Code.wp _ _ _ _ _
    refine c_seq ?_
    refine c_region ?_
    refine o_assign (h := ?_)
    refine n_thenN (h := ?_)
    refine wp_ret (r_retS1 hS rfl (hR := ?_))
    simp [M.wFlag, *]

set_option maxHeartbeats 1000000 in
theorem w_logic {g : Frag} {op a b : Int} (ha : 0 ≤ a ∧ a < 4294967296) (hb : 0 ≤ b ∧ b < 4294967296) : LCs Try.prog 26 #[.int .i64 op, .int .u32 a, .int .u32 b] g (.int .u32 (M.wLogic op a b)) := by
  refine lc_body (k := 51) (av := [.int .i64 op, .int .u32 a, .int .u32 b]) Try.func26 rfl rfl (h := fun W hS => ?_)
  refine c_seq ?_
  refine c_region ?_
  refine o_assign (h := ?_)
  refine n_thenN (h := ?_)
  refine c_seq ?_
  refine c_seq ?_
  refine c_region ?_
  refine o_move (h := ?_)
  refine n_thenN (h := ?_)
  refine c_block ?_
  refine c_seq ?_
  refine c_region ?_
  refine o_bin (h := ?_)
  refine o_assign (h := ?_)
  refine n_thenN (h := ?_)
  refine c_if (ht := fun c1 => ?_) (hf := fun c1 => ?_)
  · try simp only [decide_eq_true_eq, decide_eq_false_iff_not, Bool.not_eq_true', Bool.not_eq_false', Bool.and_eq_true, Bool.or_eq_true, Bool.and_eq_false_iff, Bool.or_eq_false_iff, Decidable.not_not, ne_eq] at c1
    refine c_seq ?_
    refine c_region ?_
    refine o_move (h := ?_)
    refine o_move (h := ?_)
    refine o_bin (h := ?_)
    refine o_assign (h := ?_)
    refine n_thenN (h := ?_)
    refine wp_ret (r_retS1 hS rfl (hR := ?_))
    first | rfl | (simp [M.wLogic, M.u32, M.i32, M.shl, M.shr, *]; done) | (simp [M.wLogic, M.u32, M.i32, M.shl, M.shr, *]; rfl) | (simp [M.wLogic, M.u32, M.i32, M.shl, M.shr, *]; congr)
  · try simp only [decide_eq_true_eq, decide_eq_false_iff_not, Bool.not_eq_true', Bool.not_eq_false', Bool.and_eq_true, Bool.or_eq_true, Bool.and_eq_false_iff, Bool.or_eq_false_iff, Decidable.not_not, ne_eq] at c1
    refine c_seq ?_
    refine c_region ?_
    refine o_bin (h := ?_)
    refine o_assign (h := ?_)
    refine n_thenN (h := ?_)
    refine c_if (ht := fun c2 => ?_) (hf := fun c2 => ?_)
    · try simp only [decide_eq_true_eq, decide_eq_false_iff_not, Bool.not_eq_true', Bool.not_eq_false', Bool.and_eq_true, Bool.or_eq_true, Bool.and_eq_false_iff, Bool.or_eq_false_iff, Decidable.not_not, ne_eq] at c2
      refine c_seq ?_
      refine c_region ?_
      refine o_move (h := ?_)
      refine o_move (h := ?_)
      refine o_bin (h := ?_)
      refine o_assign (h := ?_)
      refine n_thenN (h := ?_)
      refine wp_ret (r_retS1 hS rfl (hR := ?_))
      first | rfl | (simp [M.wLogic, M.u32, M.i32, M.shl, M.shr, *]; done) | (simp [M.wLogic, M.u32, M.i32, M.shl, M.shr, *]; rfl) | (simp [M.wLogic, M.u32, M.i32, M.shl, M.shr, *]; congr)
    · try simp only [decide_eq_true_eq, decide_eq_false_iff_not, Bool.not_eq_true', Bool.not_eq_false', Bool.and_eq_true, Bool.or_eq_true, Bool.and_eq_false_iff, Bool.or_eq_false_iff, Decidable.not_not, ne_eq] at c2
      refine c_seq ?_
      refine c_region ?_
      refine o_bin (h := ?_)
      refine o_assign (h := ?_)
      refine n_thenN (h := ?_)
      refine c_if (ht := fun c3 => ?_) (hf := fun c3 => ?_)
      · try simp only [decide_eq_true_eq, decide_eq_false_iff_not, Bool.not_eq_true', Bool.not_eq_false', Bool.and_eq_true, Bool.or_eq_true, Bool.and_eq_false_iff, Bool.or_eq_false_iff, Decidable.not_not, ne_eq] at c3
        refine c_seq ?_
        refine c_region ?_
        refine o_move (h := ?_)
        refine o_move (h := ?_)
        refine o_bin (h := ?_)
        refine o_assign (h := ?_)
        refine n_thenN (h := ?_)
        refine wp_ret (r_retS1 hS rfl (hR := ?_))
        first | rfl | (simp [M.wLogic, M.u32, M.i32, M.shl, M.shr, *]; done) | (simp [M.wLogic, M.u32, M.i32, M.shl, M.shr, *]; rfl) | (simp [M.wLogic, M.u32, M.i32, M.shl, M.shr, *]; congr)
      · try simp only [decide_eq_true_eq, decide_eq_false_iff_not, Bool.not_eq_true', Bool.not_eq_false', Bool.and_eq_true, Bool.or_eq_true, Bool.and_eq_false_iff, Bool.or_eq_false_iff, Decidable.not_not, ne_eq] at c3
        refine c_seq ?_
        refine c_region ?_
        refine o_bin (h := ?_)
        refine o_assign (h := ?_)
        refine n_thenN (h := ?_)
        refine c_if (ht := fun c4 => ?_) (hf := fun c4 => ?_)
        · try simp only [decide_eq_true_eq, decide_eq_false_iff_not, Bool.not_eq_true', Bool.not_eq_false', Bool.and_eq_true, Bool.or_eq_true, Bool.and_eq_false_iff, Bool.or_eq_false_iff, Decidable.not_not, ne_eq] at c4
          refine c_seq ?_
          refine c_region ?_
          refine o_move (h := ?_)
          refine o_move (h := ?_)
          refine o_bin (h := ?_)
          refine o_assign (h := ?_)
          refine n_thenN (h := ?_)
          refine wp_ret (r_retS1 hS rfl (hR := ?_))
          first | rfl | (simp [M.wLogic, M.u32, M.i32, M.shl, M.shr, *]; done) | (simp [M.wLogic, M.u32, M.i32, M.shl, M.shr, *]; rfl) | (simp [M.wLogic, M.u32, M.i32, M.shl, M.shr, *]; congr)
        · try simp only [decide_eq_true_eq, decide_eq_false_iff_not, Bool.not_eq_true', Bool.not_eq_false', Bool.and_eq_true, Bool.or_eq_true, Bool.and_eq_false_iff, Bool.or_eq_false_iff, Decidable.not_not, ne_eq] at c4
          refine c_seq ?_
          refine c_region ?_
          refine o_bin (h := ?_)
          refine o_assign (h := ?_)
          refine n_thenN (h := ?_)
          refine c_if (ht := fun c5 => ?_) (hf := fun c5 => ?_)
          · try simp only [decide_eq_true_eq, decide_eq_false_iff_not, Bool.not_eq_true', Bool.not_eq_false', Bool.and_eq_true, Bool.or_eq_true, Bool.and_eq_false_iff, Bool.or_eq_false_iff, Decidable.not_not, ne_eq] at c5
            refine c_seq ?_
            refine c_region ?_
            refine o_move (h := ?_)
            refine o_move (h := ?_)
            refine o_bin (h := ?_)
            refine o_assign (h := ?_)
            refine n_thenN (h := ?_)
            refine wp_ret (r_retS1 hS rfl (hR := ?_))
            first | rfl | (simp [M.wLogic, M.u32, M.i32, M.shl, M.shr, *]; done) | (simp [M.wLogic, M.u32, M.i32, M.shl, M.shr, *]; rfl) | (simp [M.wLogic, M.u32, M.i32, M.shl, M.shr, *]; congr)
          · try simp only [decide_eq_true_eq, decide_eq_false_iff_not, Bool.not_eq_true', Bool.not_eq_false', Bool.and_eq_true, Bool.or_eq_true, Bool.and_eq_false_iff, Bool.or_eq_false_iff, Decidable.not_not, ne_eq] at c5
            refine c_seq ?_
            refine c_region ?_
            refine o_bin (h := ?_)
            refine o_assign (h := ?_)
            refine n_thenN (h := ?_)
            refine c_if (ht := fun c6 => ?_) (hf := fun c6 => ?_)
            · try simp only [decide_eq_true_eq, decide_eq_false_iff_not, Bool.not_eq_true', Bool.not_eq_false', Bool.and_eq_true, Bool.or_eq_true, Bool.and_eq_false_iff, Bool.or_eq_false_iff, Decidable.not_not, ne_eq] at c6
              refine c_seq ?_
              refine c_region ?_
              refine o_move (h := ?_)
              refine o_move (h := ?_)
              refine o_rem (h0 := by first | omega | exact Int.tmod_nonneg _ (by omega)) (h := ?_)
              refine o_shl (h0 := by first | omega | exact Int.tmod_nonneg _ (by omega)) (h := ?_)
              refine o_assign (h := ?_)
              refine n_thenN (h := ?_)
              refine wp_ret (r_retS1 hS rfl (hR := ?_))
              first | rfl | (simp [M.wLogic, M.u32, M.i32, M.shl, M.shr, *]; done) | (simp [M.wLogic, M.u32, M.i32, M.shl, M.shr, *]; rfl) | (simp [M.wLogic, M.u32, M.i32, M.shl, M.shr, *]; congr)
            · try simp only [decide_eq_true_eq, decide_eq_false_iff_not, Bool.not_eq_true', Bool.not_eq_false', Bool.and_eq_true, Bool.or_eq_true, Bool.and_eq_false_iff, Bool.or_eq_false_iff, Decidable.not_not, ne_eq] at c6
              refine c_seq ?_
              refine c_region ?_
              refine o_bin (h := ?_)
              refine o_assign (h := ?_)
              refine n_thenN (h := ?_)
              refine c_if (ht := fun c7 => ?_) (hf := fun c7 => ?_)
              · try simp only [decide_eq_true_eq, decide_eq_false_iff_not, Bool.not_eq_true', Bool.not_eq_false', Bool.and_eq_true, Bool.or_eq_true, Bool.and_eq_false_iff, Bool.or_eq_false_iff, Decidable.not_not, ne_eq] at c7
                refine c_seq ?_
                refine c_region ?_
                refine o_move (h := ?_)
                refine o_move (h := ?_)
                refine o_rem (h0 := by first | omega | exact Int.tmod_nonneg _ (by omega)) (h := ?_)
                refine o_shr (h0 := by first | omega | exact Int.tmod_nonneg _ (by omega)) (h := ?_)
                refine o_assign (h := ?_)
                refine n_thenN (h := ?_)
                refine wp_ret (r_retS1 hS rfl (hR := ?_))
                first | rfl | (simp [M.wLogic, M.u32, M.i32, M.shl, M.shr, *]; done) | (simp [M.wLogic, M.u32, M.i32, M.shl, M.shr, *]; rfl) | (simp [M.wLogic, M.u32, M.i32, M.shl, M.shr, *]; congr)
              · try simp only [decide_eq_true_eq, decide_eq_false_iff_not, Bool.not_eq_true', Bool.not_eq_false', Bool.and_eq_true, Bool.or_eq_true, Bool.and_eq_false_iff, Bool.or_eq_false_iff, Decidable.not_not, ne_eq] at c7
                refine wp_skip ?_
                try change Code.wp _ _ _ _ _
                try change Code.wp _ _ _ _ _
                refine c_seq ?_
                refine c_region ?_
                refine o_move (h := ?_)
                refine o_conv (hs := Try.underlying28) (ht := Try.underlying21) (h := ?_)
                refine o_move (h := ?_)
                refine o_rem (h0 := by first | omega | exact Int.tmod_nonneg _ (by omega)) (h := ?_)
                refine o_shr (h0 := by first | omega | exact Int.tmod_nonneg _ (by omega)) (h := ?_)
                refine o_conv (hs := Try.underlying21) (ht := Try.underlying28) (h := ?_)
                refine o_assign (h := ?_)
                refine n_thenN (h := ?_)
                refine wp_ret (r_retS1 hS rfl (hR := ?_))
                first | rfl | (simp [M.wLogic, M.u32, M.i32, M.shl, M.shr, *]; done) | (simp [M.wLogic, M.u32, M.i32, M.shl, M.shr, *]; rfl) | (simp [M.wLogic, M.u32, M.i32, M.shl, M.shr, *]; congr)

set_option maxHeartbeats 1000000 in
theorem w_compared {g : Frag} {op a b : Int} : LCs Try.prog 27 #[.int .i64 op, .int .u32 a, .int .u32 b] g (.int .u32 (M.wCompared op a b)) := by
  refine lc_body (k := 42) (av := [.int .i64 op, .int .u32 a, .int .u32 b]) Try.func27 rfl rfl (h := fun W hS => ?_)
  refine c_seq ?_
  refine c_region ?_
  refine o_assign (h := ?_)
  refine n_thenN (h := ?_)
  refine c_seq ?_
  refine c_region ?_
  refine o_move (h := ?_)
  refine o_conv (hs := Try.underlying28) (ht := Try.underlying21) (h := ?_)
  refine o_move (h := ?_)
  refine o_conv (hs := Try.underlying28) (ht := Try.underlying21) (h := ?_)
  refine o_assign (h := ?_)
  refine o_assign (h := ?_)
  refine n_thenN (h := ?_)
  refine c_seq ?_
  refine c_seq ?_
  refine c_region ?_
  refine o_move (h := ?_)
  refine n_thenN (h := ?_)
  refine c_block ?_
  refine c_seq ?_
  refine c_region ?_
  refine o_bin (h := ?_)
  refine o_assign (h := ?_)
  refine n_thenN (h := ?_)
  refine c_if (ht := fun c1 => ?_) (hf := fun c1 => ?_)
  · try simp only [decide_eq_true_eq, decide_eq_false_iff_not, Bool.not_eq_true', Bool.not_eq_false', Bool.and_eq_true, Bool.or_eq_true, Bool.and_eq_false_iff, Bool.or_eq_false_iff, Decidable.not_not, ne_eq] at c1
    refine c_seq ?_
    refine c_region ?_
    refine o_move (h := ?_)
    refine o_move (h := ?_)
    refine o_bin (h := ?_)
    refine o_callS hS Try.func34 rfl rfl (hc := w_flag) (h := ?_)
    clear hS; intro w hS
    refine o_assign (h := ?_)
    refine n_thenN (h := ?_)
    refine wp_ret (r_retS1 hS rfl (hR := ?_))
    first | rfl | (simp [M.wCompared, M.u32, M.i32, *]; done) | (simp [M.wCompared, M.u32, M.i32, *]; rfl) | (simp [M.wCompared, M.u32, M.i32, *]; congr)
  · try simp only [decide_eq_true_eq, decide_eq_false_iff_not, Bool.not_eq_true', Bool.not_eq_false', Bool.and_eq_true, Bool.or_eq_true, Bool.and_eq_false_iff, Bool.or_eq_false_iff, Decidable.not_not, ne_eq] at c1
    refine c_seq ?_
    refine c_region ?_
    refine o_bin (h := ?_)
    refine o_assign (h := ?_)
    refine n_thenN (h := ?_)
    refine c_if (ht := fun c2 => ?_) (hf := fun c2 => ?_)
    · try simp only [decide_eq_true_eq, decide_eq_false_iff_not, Bool.not_eq_true', Bool.not_eq_false', Bool.and_eq_true, Bool.or_eq_true, Bool.and_eq_false_iff, Bool.or_eq_false_iff, Decidable.not_not, ne_eq] at c2
      refine c_seq ?_
      refine c_region ?_
      refine o_move (h := ?_)
      refine o_move (h := ?_)
      refine o_bin (h := ?_)
      refine o_callS hS Try.func34 rfl rfl (hc := w_flag) (h := ?_)
      clear hS; intro w hS
      refine o_assign (h := ?_)
      refine n_thenN (h := ?_)
      refine wp_ret (r_retS1 hS rfl (hR := ?_))
      first | rfl | (simp [M.wCompared, M.u32, M.i32, *]; done) | (simp [M.wCompared, M.u32, M.i32, *]; rfl) | (simp [M.wCompared, M.u32, M.i32, *]; congr)
    · try simp only [decide_eq_true_eq, decide_eq_false_iff_not, Bool.not_eq_true', Bool.not_eq_false', Bool.and_eq_true, Bool.or_eq_true, Bool.and_eq_false_iff, Bool.or_eq_false_iff, Decidable.not_not, ne_eq] at c2
      refine c_seq ?_
      refine c_region ?_
      refine o_bin (h := ?_)
      refine o_assign (h := ?_)
      refine n_thenN (h := ?_)
      refine c_if (ht := fun c3 => ?_) (hf := fun c3 => ?_)
      · try simp only [decide_eq_true_eq, decide_eq_false_iff_not, Bool.not_eq_true', Bool.not_eq_false', Bool.and_eq_true, Bool.or_eq_true, Bool.and_eq_false_iff, Bool.or_eq_false_iff, Decidable.not_not, ne_eq] at c3
        refine c_seq ?_
        refine c_region ?_
        refine o_move (h := ?_)
        refine o_move (h := ?_)
        refine o_bin (h := ?_)
        refine o_callS hS Try.func34 rfl rfl (hc := w_flag) (h := ?_)
        clear hS; intro w hS
        refine o_assign (h := ?_)
        refine n_thenN (h := ?_)
        refine wp_ret (r_retS1 hS rfl (hR := ?_))
        first | rfl | (simp [M.wCompared, M.u32, M.i32, *]; done) | (simp [M.wCompared, M.u32, M.i32, *]; rfl) | (simp [M.wCompared, M.u32, M.i32, *]; congr)
      · try simp only [decide_eq_true_eq, decide_eq_false_iff_not, Bool.not_eq_true', Bool.not_eq_false', Bool.and_eq_true, Bool.or_eq_true, Bool.and_eq_false_iff, Bool.or_eq_false_iff, Decidable.not_not, ne_eq] at c3
        refine c_seq ?_
        refine c_region ?_
        refine o_bin (h := ?_)
        refine o_assign (h := ?_)
        refine n_thenN (h := ?_)
        refine c_if (ht := fun c4 => ?_) (hf := fun c4 => ?_)
        · try simp only [decide_eq_true_eq, decide_eq_false_iff_not, Bool.not_eq_true', Bool.not_eq_false', Bool.and_eq_true, Bool.or_eq_true, Bool.and_eq_false_iff, Bool.or_eq_false_iff, Decidable.not_not, ne_eq] at c4
          refine c_seq ?_
          refine c_region ?_
          refine o_move (h := ?_)
          refine o_move (h := ?_)
          refine o_min (h := ?_)
          refine o_conv (hs := Try.underlying21) (ht := Try.underlying28) (h := ?_)
          refine o_assign (h := ?_)
          refine n_thenN (h := ?_)
          refine wp_ret (r_retS1 hS rfl (hR := ?_))
          first | rfl | (simp [M.wCompared, M.u32, M.i32, *]; done) | (simp [M.wCompared, M.u32, M.i32, *]; rfl) | (simp [M.wCompared, M.u32, M.i32, *]; congr)
        · try simp only [decide_eq_true_eq, decide_eq_false_iff_not, Bool.not_eq_true', Bool.not_eq_false', Bool.and_eq_true, Bool.or_eq_true, Bool.and_eq_false_iff, Bool.or_eq_false_iff, Decidable.not_not, ne_eq] at c4
          refine wp_skip ?_
          try change Code.wp _ _ _ _ _
          try change Code.wp _ _ _ _ _
          refine c_seq ?_
          refine c_region ?_
          refine o_move (h := ?_)
          refine o_move (h := ?_)
          refine o_max (h := ?_)
          refine o_conv (hs := Try.underlying21) (ht := Try.underlying28) (h := ?_)
          refine o_assign (h := ?_)
          refine n_thenN (h := ?_)
          refine wp_ret (r_retS1 hS rfl (hR := ?_))
          first | rfl | (simp [M.wCompared, M.u32, M.i32, *]; done) | (simp [M.wCompared, M.u32, M.i32, *]; rfl) | (simp [M.wCompared, M.u32, M.i32, *]; congr)

set_option maxHeartbeats 1000000 in
theorem w_product {g : Frag} {op a b : Int} (h0 : op = 16 ∨ op = 17 → IntKind.i32.wrap b ≠ 0) (h1 : op = 14 ∨ op = 15 ∨ op = 16 ∨ op = 17) : LCs Try.prog 28 #[.int .i64 op, .int .u32 a, .int .u32 b] g (.int .u32 (M.wProduct op a b)) := by
  refine lc_body (k := 38) (av := [.int .i64 op, .int .u32 a, .int .u32 b]) Try.func28 rfl rfl (h := fun W hS => ?_)
  refine c_seq ?_
  refine c_region ?_
  refine o_assign (h := ?_)
  refine n_thenN (h := ?_)
  refine c_seq ?_
  refine c_region ?_
  refine o_move (h := ?_)
  refine o_conv (hs := Try.underlying28) (ht := Try.underlying21) (h := ?_)
  refine o_move (h := ?_)
  refine o_conv (hs := Try.underlying28) (ht := Try.underlying21) (h := ?_)
  refine o_assign (h := ?_)
  refine o_assign (h := ?_)
  refine n_thenN (h := ?_)
  refine c_seq ?_
  refine c_seq ?_
  refine c_region ?_
  refine o_move (h := ?_)
  refine n_thenN (h := ?_)
  refine c_block ?_
  refine c_seq ?_
  refine c_region ?_
  refine o_bin (h := ?_)
  refine o_assign (h := ?_)
  refine n_thenN (h := ?_)
  refine c_if (ht := fun c1 => ?_) (hf := fun c1 => ?_)
  · try simp only [decide_eq_true_eq, decide_eq_false_iff_not, Bool.not_eq_true', Bool.not_eq_false', Bool.and_eq_true, Bool.or_eq_true, Bool.and_eq_false_iff, Bool.or_eq_false_iff, Decidable.not_not, ne_eq] at c1
    refine c_seq ?_
    refine c_region ?_
    refine o_move (h := ?_)
    refine o_move (h := ?_)
    refine o_bin (h := ?_)
    refine o_assign (h := ?_)
    refine n_thenN (h := ?_)
    refine wp_ret (r_retS1 hS rfl (hR := ?_))
    first | rfl | (simp [M.wProduct, M.u32, M.i32, M.i64, M.shr, *]; done) | (simp [M.wProduct, M.u32, M.i32, M.i64, M.shr, *]; rfl) | (simp [M.wProduct, M.u32, M.i32, M.i64, M.shr, *]; congr)
  · try simp only [decide_eq_true_eq, decide_eq_false_iff_not, Bool.not_eq_true', Bool.not_eq_false', Bool.and_eq_true, Bool.or_eq_true, Bool.and_eq_false_iff, Bool.or_eq_false_iff, Decidable.not_not, ne_eq] at c1
    refine c_seq ?_
    refine c_region ?_
    refine o_bin (h := ?_)
    refine o_assign (h := ?_)
    refine n_thenN (h := ?_)
    refine c_if (ht := fun c2 => ?_) (hf := fun c2 => ?_)
    · try simp only [decide_eq_true_eq, decide_eq_false_iff_not, Bool.not_eq_true', Bool.not_eq_false', Bool.and_eq_true, Bool.or_eq_true, Bool.and_eq_false_iff, Bool.or_eq_false_iff, Decidable.not_not, ne_eq] at c2
      refine c_seq ?_
      refine c_region ?_
      refine o_move (h := ?_)
      refine o_conv (hs := Try.underlying21) (ht := Try.underlying2) (h := ?_)
      refine o_move (h := ?_)
      refine o_conv (hs := Try.underlying21) (ht := Try.underlying2) (h := ?_)
      refine o_bin (h := ?_)
      refine o_shr (h0 := by first | omega | exact h0 (by omega)) (h := ?_)
      refine o_conv (hs := Try.underlying2) (ht := Try.underlying28) (h := ?_)
      refine o_assign (h := ?_)
      refine n_thenN (h := ?_)
      refine wp_ret (r_retS1 hS rfl (hR := ?_))
      first | rfl | (simp [M.wProduct, M.u32, M.i32, M.i64, M.shr, *]; done) | (simp [M.wProduct, M.u32, M.i32, M.i64, M.shr, *]; rfl) | (simp [M.wProduct, M.u32, M.i32, M.i64, M.shr, *]; congr)
    · try simp only [decide_eq_true_eq, decide_eq_false_iff_not, Bool.not_eq_true', Bool.not_eq_false', Bool.and_eq_true, Bool.or_eq_true, Bool.and_eq_false_iff, Bool.or_eq_false_iff, Decidable.not_not, ne_eq] at c2
      refine c_seq ?_
      refine c_region ?_
      refine o_bin (h := ?_)
      refine o_assign (h := ?_)
      refine n_thenN (h := ?_)
      refine c_if (ht := fun c3 => ?_) (hf := fun c3 => ?_)
      · try simp only [decide_eq_true_eq, decide_eq_false_iff_not, Bool.not_eq_true', Bool.not_eq_false', Bool.and_eq_true, Bool.or_eq_true, Bool.and_eq_false_iff, Bool.or_eq_false_iff, Decidable.not_not, ne_eq] at c3
        refine c_seq ?_
        refine c_region ?_
        refine o_move (h := ?_)
        refine o_move (h := ?_)
        refine o_quo (h0 := by first | omega | exact h0 (by omega)) (h := ?_)
        refine o_conv (hs := Try.underlying21) (ht := Try.underlying28) (h := ?_)
        refine o_assign (h := ?_)
        refine n_thenN (h := ?_)
        refine wp_ret (r_retS1 hS rfl (hR := ?_))
        first | rfl | (simp [M.wProduct, M.u32, M.i32, M.i64, M.shr, *]; done) | (simp [M.wProduct, M.u32, M.i32, M.i64, M.shr, *]; rfl) | (simp [M.wProduct, M.u32, M.i32, M.i64, M.shr, *]; congr)
      · try simp only [decide_eq_true_eq, decide_eq_false_iff_not, Bool.not_eq_true', Bool.not_eq_false', Bool.and_eq_true, Bool.or_eq_true, Bool.and_eq_false_iff, Bool.or_eq_false_iff, Decidable.not_not, ne_eq] at c3
        refine wp_skip ?_
        try change Code.wp _ _ _ _ _
        try change Code.wp _ _ _ _ _
        refine c_seq ?_
        refine c_region ?_
        refine o_move (h := ?_)
        refine o_move (h := ?_)
        refine o_rem (h0 := by first | omega | exact h0 (by omega)) (h := ?_)
        refine o_conv (hs := Try.underlying21) (ht := Try.underlying28) (h := ?_)
        refine o_assign (h := ?_)
        refine n_thenN (h := ?_)
        refine wp_ret (r_retS1 hS rfl (hR := ?_))
        first | rfl | (simp [M.wProduct, M.u32, M.i32, M.i64, M.shr, *]; done) | (simp [M.wProduct, M.u32, M.i32, M.i64, M.shr, *]; rfl) | (simp [M.wProduct, M.u32, M.i32, M.i64, M.shr, *]; congr)

set_option maxHeartbeats 1000000 in
theorem z_Between {g : Frag} {n low high : Int} : LCs Try.prog 20 #[.int .i64 n, .int .i64 low, .int .i64 high] g (.bool (M.between n low high)) := by
  refine lc_body (k := 15) (av := [.int .i64 n, .int .i64 low, .int .i64 high]) Try.func20 rfl rfl (h := fun W hS => ?_)
  refine c_seq ?_
  refine c_region ?_
  refine o_assign (h := ?_)
  refine n_thenN (h := ?_)
  refine c_seq ?_
  refine c_region ?_
  refine o_move (h := ?_)
  refine o_move (h := ?_)
  refine o_bin (h := ?_)
  refine o_split (ht := fun c1 => ?_) (hf := fun c1 => ?_)
  · try simp only [decide_eq_true_eq, decide_eq_false_iff_not, Bool.not_eq_true', Bool.not_eq_false', Bool.and_eq_true, Bool.or_eq_true, Bool.and_eq_false_iff, Bool.or_eq_false_iff, Decidable.not_not, ne_eq] at c1
    refine o_guard (hj := rfl) (hd := rfl) (hb := rfl) (h := ?_)
    refine o_move (h := ?_)
    refine o_guard (hj := rfl) (hd := rfl) (hb := rfl) (h := ?_)
    refine o_move (h := ?_)
    refine o_guard (hj := rfl) (hd := rfl) (hb := rfl) (h := ?_)
    refine o_bin (h := ?_)
    refine o_pickT (h := ?_)
    refine o_assign (h := ?_)
    refine n_thenN (h := ?_)
    refine wp_ret (r_retS1 hS rfl (hR := ?_))
    all_goals (simp only [M.between]; congr 1; simp; omega)
  · try simp only [decide_eq_true_eq, decide_eq_false_iff_not, Bool.not_eq_true', Bool.not_eq_false', Bool.and_eq_true, Bool.or_eq_true, Bool.and_eq_false_iff, Bool.or_eq_false_iff, Decidable.not_not, ne_eq] at c1
    refine o_skip (hj := rfl) (hd := rfl) (hb := by decide) (h := ?_)
    refine o_skip (hj := rfl) (hd := rfl) (hb := by decide) (h := ?_)
    refine o_skip (hj := rfl) (hd := rfl) (hb := by decide) (h := ?_)
    refine o_pickF (h := ?_)
    refine o_assign (h := ?_)
    refine n_thenN (h := ?_)
    refine wp_ret (r_retS1 hS rfl (hR := ?_))
    all_goals (simp only [M.between]; congr 1; simp; omega)

set_option maxHeartbeats 1000000 in
theorem r1_Has {g : Frag} {n : Int} : LCs Try.prog 14 #[.int .i64 n] g (.bool (M.wHas n)) := by
  refine lc_body (k := 5) (av := [.int .i64 n]) Try.func14 rfl rfl (h := fun W hS => ?_)
  refine c_seq ?_
  refine c_region ?_
  refine o_assign (h := ?_)
  refine n_thenN (h := ?_)
  refine c_seq ?_
  refine c_region ?_
  refine o_move (h := ?_)
  refine o_callS hS Try.func20 rfl rfl (hc := z_Between) (h := ?_)
  clear hS; intro w hS
  refine o_assign (h := ?_)
  refine n_thenN (h := ?_)
  refine wp_ret (r_retS1 hS rfl (hR := ?_))
  rfl

set_option maxHeartbeats 1000000 in
theorem r1_flag {g : Frag} {b : Bool} : LCs Try.prog 29 #[.bool b] g (.int .u32 (M.wFlag b)) := by
  refine lc_body (k := 4) (av := [.bool b]) Try.func29 rfl rfl (h := fun W hS => ?_)
  refine c_seq ?_
  refine c_region ?_
  refine o_assign (h := ?_)
  refine n_thenN (h := ?_)
  refine c_seq ?_
  refine c_seq ?_
  refine c_region ?_
  refine o_move (h := ?_)
  refine n_thenN (h := ?_)
  refine c_if (ht := fun c1 => ?_) (hf := fun c1 => ?_)
  · try simp only [decide_eq_true_eq, decide_eq_false_iff_not, Bool.not_eq_true', Bool.not_eq_false', Bool.and_eq_true, Bool.or_eq_true, Bool.and_eq_false_iff, Bool.or_eq_false_iff, Decidable.not_not, ne_eq] at c1
    refine c_seq ?_
    refine c_region ?_
    refine o_assign (h := ?_)
    refine n_thenN (h := ?_)
    refine wp_ret (r_retS1 hS rfl (hR := ?_))
    simp [M.wFlag, *]
  · try simp only [decide_eq_true_eq, decide_eq_false_iff_not, Bool.not_eq_true', Bool.not_eq_false', Bool.and_eq_true, Bool.or_eq_true, Bool.and_eq_false_iff, Bool.or_eq_false_iff, Decidable.not_not, ne_eq] at c1
    refine wp_skip ?_
    try change Code.wp _ _ _ _ _
    refine c_seq ?_
    refine c_region ?_
    refine o_assign (h := ?_)
    refine n_thenN (h := ?_)
    refine wp_ret (r_retS1 hS rfl (hR := ?_))
    simp [M.wFlag, *]

set_option maxHeartbeats 1000000 in
theorem r1_Of {g : Frag} {op a b : Int} (ha : 0 ≤ a ∧ a < 4294967296) (hb : 0 ≤ b ∧ b < 4294967296) : LCs Try.prog 16 #[.int .i64 op, .int .u32 a, .int .u32 b] g (.tuple #[.int .u32 (M.r1Of op a b).1, .bool (M.r1Of op a b).2]) := by
  refine lc_body (k := 117) (av := [.int .i64 op, .int .u32 a, .int .u32 b]) Try.func16 rfl rfl (h := fun W hS => ?_)
  refine c_seq ?_
  refine c_region ?_
  refine o_assign (h := ?_)
  refine o_assign (h := ?_)
  refine n_thenN (h := ?_)
  refine c_seq ?_
  refine c_region ?_
  refine o_move (h := ?_)
  refine o_conv (hs := Try.underlying28) (ht := Try.underlying21) (h := ?_)
  refine o_conv (hs := Try.underlying21) (ht := Try.underlying2) (h := ?_)
  refine o_move (h := ?_)
  refine o_conv (hs := Try.underlying28) (ht := Try.underlying21) (h := ?_)
  refine o_conv (hs := Try.underlying21) (ht := Try.underlying2) (h := ?_)
  refine o_assign (h := ?_)
  refine o_assign (h := ?_)
  refine n_thenN (h := ?_)
  refine c_seq ?_
  refine c_seq ?_
  refine c_region ?_
  refine o_move (h := ?_)
  refine n_thenN (h := ?_)
  refine c_block ?_
  refine c_seq ?_
  refine c_region ?_
  refine o_bin (h := ?_)
  refine o_assign (h := ?_)
  refine n_thenN (h := ?_)
  refine c_if (ht := fun c1 => ?_) (hf := fun c1 => ?_)
  · try simp only [decide_eq_true_eq, decide_eq_false_iff_not, Bool.not_eq_true', Bool.not_eq_false', Bool.and_eq_true, Bool.or_eq_true, Bool.and_eq_false_iff, Bool.or_eq_false_iff, Decidable.not_not, ne_eq] at c1
    refine c_seq ?_
    refine c_region ?_
    refine o_move (h := ?_)
    refine o_move (h := ?_)
    refine o_bin (h := ?_)
    refine o_assign (h := ?_)
    refine o_assign (h := ?_)
    refine n_thenN (h := ?_)
    refine wp_ret (r_retS2 hS rfl (hR := ?_))
    first | rfl | (simp [M.r1Of, M.u32, M.i32, M.i64, M.shl, M.shr, *]; done) | (simp [M.r1Of, M.u32, M.i32, M.i64, M.shl, M.shr, *]; rfl) | (simp [M.r1Of, M.u32, M.i32, M.i64, M.shl, M.shr, *]; congr)
  · try simp only [decide_eq_true_eq, decide_eq_false_iff_not, Bool.not_eq_true', Bool.not_eq_false', Bool.and_eq_true, Bool.or_eq_true, Bool.and_eq_false_iff, Bool.or_eq_false_iff, Decidable.not_not, ne_eq] at c1
    refine c_seq ?_
    refine c_region ?_
    refine o_bin (h := ?_)
    refine o_assign (h := ?_)
    refine n_thenN (h := ?_)
    refine c_if (ht := fun c2 => ?_) (hf := fun c2 => ?_)
    · try simp only [decide_eq_true_eq, decide_eq_false_iff_not, Bool.not_eq_true', Bool.not_eq_false', Bool.and_eq_true, Bool.or_eq_true, Bool.and_eq_false_iff, Bool.or_eq_false_iff, Decidable.not_not, ne_eq] at c2
      refine c_seq ?_
      refine c_region ?_
      refine o_move (h := ?_)
      refine o_move (h := ?_)
      refine o_bin (h := ?_)
      refine o_assign (h := ?_)
      refine o_assign (h := ?_)
      refine n_thenN (h := ?_)
      refine wp_ret (r_retS2 hS rfl (hR := ?_))
      first | rfl | (simp [M.r1Of, M.u32, M.i32, M.i64, M.shl, M.shr, *]; done) | (simp [M.r1Of, M.u32, M.i32, M.i64, M.shl, M.shr, *]; rfl) | (simp [M.r1Of, M.u32, M.i32, M.i64, M.shl, M.shr, *]; congr)
    · try simp only [decide_eq_true_eq, decide_eq_false_iff_not, Bool.not_eq_true', Bool.not_eq_false', Bool.and_eq_true, Bool.or_eq_true, Bool.and_eq_false_iff, Bool.or_eq_false_iff, Decidable.not_not, ne_eq] at c2
      refine c_seq ?_
      refine c_region ?_
      refine o_bin (h := ?_)
      refine o_assign (h := ?_)
      refine n_thenN (h := ?_)
      refine c_if (ht := fun c3 => ?_) (hf := fun c3 => ?_)
      · try simp only [decide_eq_true_eq, decide_eq_false_iff_not, Bool.not_eq_true', Bool.not_eq_false', Bool.and_eq_true, Bool.or_eq_true, Bool.and_eq_false_iff, Bool.or_eq_false_iff, Decidable.not_not, ne_eq] at c3
        refine c_seq ?_
        refine c_region ?_
        refine o_move (h := ?_)
        refine o_move (h := ?_)
        refine o_bin (h := ?_)
        refine o_assign (h := ?_)
        refine o_assign (h := ?_)
        refine n_thenN (h := ?_)
        refine wp_ret (r_retS2 hS rfl (hR := ?_))
        first | rfl | (simp [M.r1Of, M.u32, M.i32, M.i64, M.shl, M.shr, *]; done) | (simp [M.r1Of, M.u32, M.i32, M.i64, M.shl, M.shr, *]; rfl) | (simp [M.r1Of, M.u32, M.i32, M.i64, M.shl, M.shr, *]; congr)
      · try simp only [decide_eq_true_eq, decide_eq_false_iff_not, Bool.not_eq_true', Bool.not_eq_false', Bool.and_eq_true, Bool.or_eq_true, Bool.and_eq_false_iff, Bool.or_eq_false_iff, Decidable.not_not, ne_eq] at c3
        refine c_seq ?_
        refine c_region ?_
        refine o_bin (h := ?_)
        refine o_assign (h := ?_)
        refine n_thenN (h := ?_)
        refine c_if (ht := fun c4 => ?_) (hf := fun c4 => ?_)
        · try simp only [decide_eq_true_eq, decide_eq_false_iff_not, Bool.not_eq_true', Bool.not_eq_false', Bool.and_eq_true, Bool.or_eq_true, Bool.and_eq_false_iff, Bool.or_eq_false_iff, Decidable.not_not, ne_eq] at c4
          refine c_seq ?_
          refine c_region ?_
          refine o_move (h := ?_)
          refine o_move (h := ?_)
          refine o_bin (h := ?_)
          refine o_assign (h := ?_)
          refine o_assign (h := ?_)
          refine n_thenN (h := ?_)
          refine wp_ret (r_retS2 hS rfl (hR := ?_))
          first | rfl | (simp [M.r1Of, M.u32, M.i32, M.i64, M.shl, M.shr, *]; done) | (simp [M.r1Of, M.u32, M.i32, M.i64, M.shl, M.shr, *]; rfl) | (simp [M.r1Of, M.u32, M.i32, M.i64, M.shl, M.shr, *]; congr)
        · try simp only [decide_eq_true_eq, decide_eq_false_iff_not, Bool.not_eq_true', Bool.not_eq_false', Bool.and_eq_true, Bool.or_eq_true, Bool.and_eq_false_iff, Bool.or_eq_false_iff, Decidable.not_not, ne_eq] at c4
          refine c_seq ?_
          refine c_region ?_
          refine o_bin (h := ?_)
          refine o_assign (h := ?_)
          refine n_thenN (h := ?_)
          refine c_if (ht := fun c5 => ?_) (hf := fun c5 => ?_)
          · try simp only [decide_eq_true_eq, decide_eq_false_iff_not, Bool.not_eq_true', Bool.not_eq_false', Bool.and_eq_true, Bool.or_eq_true, Bool.and_eq_false_iff, Bool.or_eq_false_iff, Decidable.not_not, ne_eq] at c5
            refine c_seq ?_
            refine c_region ?_
            refine o_move (h := ?_)
            refine o_move (h := ?_)
            refine o_bin (h := ?_)
            refine o_assign (h := ?_)
            refine o_assign (h := ?_)
            refine n_thenN (h := ?_)
            refine wp_ret (r_retS2 hS rfl (hR := ?_))
            first | rfl | (simp [M.r1Of, M.u32, M.i32, M.i64, M.shl, M.shr, *]; done) | (simp [M.r1Of, M.u32, M.i32, M.i64, M.shl, M.shr, *]; rfl) | (simp [M.r1Of, M.u32, M.i32, M.i64, M.shl, M.shr, *]; congr)
          · try simp only [decide_eq_true_eq, decide_eq_false_iff_not, Bool.not_eq_true', Bool.not_eq_false', Bool.and_eq_true, Bool.or_eq_true, Bool.and_eq_false_iff, Bool.or_eq_false_iff, Decidable.not_not, ne_eq] at c5
            refine c_seq ?_
            refine c_region ?_
            refine o_bin (h := ?_)
            refine o_assign (h := ?_)
            refine n_thenN (h := ?_)
            refine c_if (ht := fun c6 => ?_) (hf := fun c6 => ?_)
            · try simp only [decide_eq_true_eq, decide_eq_false_iff_not, Bool.not_eq_true', Bool.not_eq_false', Bool.and_eq_true, Bool.or_eq_true, Bool.and_eq_false_iff, Bool.or_eq_false_iff, Decidable.not_not, ne_eq] at c6
              refine c_seq ?_
              refine c_region ?_
              refine o_move (h := ?_)
              refine o_move (h := ?_)
              refine o_bin (h := ?_)
              refine o_shl (h0 := by first | omega | exact M.and31 _ (by omega)) (h := ?_)
              refine o_assign (h := ?_)
              refine o_assign (h := ?_)
              refine n_thenN (h := ?_)
              refine wp_ret (r_retS2 hS rfl (hR := ?_))
              first | rfl | (simp [M.r1Of, M.u32, M.i32, M.i64, M.shl, M.shr, *]; done) | (simp [M.r1Of, M.u32, M.i32, M.i64, M.shl, M.shr, *]; rfl) | (simp [M.r1Of, M.u32, M.i32, M.i64, M.shl, M.shr, *]; congr)
            · try simp only [decide_eq_true_eq, decide_eq_false_iff_not, Bool.not_eq_true', Bool.not_eq_false', Bool.and_eq_true, Bool.or_eq_true, Bool.and_eq_false_iff, Bool.or_eq_false_iff, Decidable.not_not, ne_eq] at c6
              refine c_seq ?_
              refine c_region ?_
              refine o_bin (h := ?_)
              refine o_assign (h := ?_)
              refine n_thenN (h := ?_)
              refine c_if (ht := fun c7 => ?_) (hf := fun c7 => ?_)
              · try simp only [decide_eq_true_eq, decide_eq_false_iff_not, Bool.not_eq_true', Bool.not_eq_false', Bool.and_eq_true, Bool.or_eq_true, Bool.and_eq_false_iff, Bool.or_eq_false_iff, Decidable.not_not, ne_eq] at c7
                refine c_seq ?_
                refine c_region ?_
                refine o_move (h := ?_)
                refine o_move (h := ?_)
                refine o_bin (h := ?_)
                refine o_shr (h0 := by first | omega | exact M.and31 _ (by omega)) (h := ?_)
                refine o_assign (h := ?_)
                refine o_assign (h := ?_)
                refine n_thenN (h := ?_)
                refine wp_ret (r_retS2 hS rfl (hR := ?_))
                first | rfl | (simp [M.r1Of, M.u32, M.i32, M.i64, M.shl, M.shr, *]; done) | (simp [M.r1Of, M.u32, M.i32, M.i64, M.shl, M.shr, *]; rfl) | (simp [M.r1Of, M.u32, M.i32, M.i64, M.shl, M.shr, *]; congr)
              · try simp only [decide_eq_true_eq, decide_eq_false_iff_not, Bool.not_eq_true', Bool.not_eq_false', Bool.and_eq_true, Bool.or_eq_true, Bool.and_eq_false_iff, Bool.or_eq_false_iff, Decidable.not_not, ne_eq] at c7
                refine c_seq ?_
                refine c_region ?_
                refine o_bin (h := ?_)
                refine o_assign (h := ?_)
                refine n_thenN (h := ?_)
                refine c_if (ht := fun c8 => ?_) (hf := fun c8 => ?_)
                · try simp only [decide_eq_true_eq, decide_eq_false_iff_not, Bool.not_eq_true', Bool.not_eq_false', Bool.and_eq_true, Bool.or_eq_true, Bool.and_eq_false_iff, Bool.or_eq_false_iff, Decidable.not_not, ne_eq] at c8
                  refine c_seq ?_
                  refine c_region ?_
                  refine o_move (h := ?_)
                  refine o_conv (hs := Try.underlying28) (ht := Try.underlying21) (h := ?_)
                  refine o_move (h := ?_)
                  refine o_bin (h := ?_)
                  refine o_shr (h0 := by first | omega | exact M.and31 _ (by omega)) (h := ?_)
                  refine o_conv (hs := Try.underlying21) (ht := Try.underlying28) (h := ?_)
                  refine o_assign (h := ?_)
                  refine o_assign (h := ?_)
                  refine n_thenN (h := ?_)
                  refine wp_ret (r_retS2 hS rfl (hR := ?_))
                  first | rfl | (simp [M.r1Of, M.u32, M.i32, M.i64, M.shl, M.shr, *]; done) | (simp [M.r1Of, M.u32, M.i32, M.i64, M.shl, M.shr, *]; rfl) | (simp [M.r1Of, M.u32, M.i32, M.i64, M.shl, M.shr, *]; congr)
                · try simp only [decide_eq_true_eq, decide_eq_false_iff_not, Bool.not_eq_true', Bool.not_eq_false', Bool.and_eq_true, Bool.or_eq_true, Bool.and_eq_false_iff, Bool.or_eq_false_iff, Decidable.not_not, ne_eq] at c8
                  refine c_seq ?_
                  refine c_region ?_
                  refine o_bin (h := ?_)
                  refine o_assign (h := ?_)
                  refine n_thenN (h := ?_)
                  refine c_if (ht := fun c9 => ?_) (hf := fun c9 => ?_)
                  · try simp only [decide_eq_true_eq, decide_eq_false_iff_not, Bool.not_eq_true', Bool.not_eq_false', Bool.and_eq_true, Bool.or_eq_true, Bool.and_eq_false_iff, Bool.or_eq_false_iff, Decidable.not_not, ne_eq] at c9
                    refine c_seq ?_
                    refine c_region ?_
                    refine o_move (h := ?_)
                    refine o_move (h := ?_)
                    refine o_bin (h := ?_)
                    refine o_callS hS Try.func29 rfl rfl (hc := r1_flag) (h := ?_)
                    clear hS; intro w hS
                    refine o_assign (h := ?_)
                    refine o_assign (h := ?_)
                    refine n_thenN (h := ?_)
                    refine wp_ret (r_retS2 hS rfl (hR := ?_))
                    first | rfl | (simp [M.r1Of, M.u32, M.i32, M.i64, M.shl, M.shr, *]; done) | (simp [M.r1Of, M.u32, M.i32, M.i64, M.shl, M.shr, *]; rfl) | (simp [M.r1Of, M.u32, M.i32, M.i64, M.shl, M.shr, *]; congr)
                  · try simp only [decide_eq_true_eq, decide_eq_false_iff_not, Bool.not_eq_true', Bool.not_eq_false', Bool.and_eq_true, Bool.or_eq_true, Bool.and_eq_false_iff, Bool.or_eq_false_iff, Decidable.not_not, ne_eq] at c9
                    refine c_seq ?_
                    refine c_region ?_
                    refine o_bin (h := ?_)
                    refine o_assign (h := ?_)
                    refine n_thenN (h := ?_)
                    refine c_if (ht := fun c10 => ?_) (hf := fun c10 => ?_)
                    · try simp only [decide_eq_true_eq, decide_eq_false_iff_not, Bool.not_eq_true', Bool.not_eq_false', Bool.and_eq_true, Bool.or_eq_true, Bool.and_eq_false_iff, Bool.or_eq_false_iff, Decidable.not_not, ne_eq] at c10
                      refine c_seq ?_
                      refine c_region ?_
                      refine o_move (h := ?_)
                      refine o_move (h := ?_)
                      refine o_bin (h := ?_)
                      refine o_callS hS Try.func29 rfl rfl (hc := r1_flag) (h := ?_)
                      clear hS; intro w hS
                      refine o_assign (h := ?_)
                      refine o_assign (h := ?_)
                      refine n_thenN (h := ?_)
                      refine wp_ret (r_retS2 hS rfl (hR := ?_))
                      first | rfl | (simp [M.r1Of, M.u32, M.i32, M.i64, M.shl, M.shr, *]; done) | (simp [M.r1Of, M.u32, M.i32, M.i64, M.shl, M.shr, *]; rfl) | (simp [M.r1Of, M.u32, M.i32, M.i64, M.shl, M.shr, *]; congr)
                    · try simp only [decide_eq_true_eq, decide_eq_false_iff_not, Bool.not_eq_true', Bool.not_eq_false', Bool.and_eq_true, Bool.or_eq_true, Bool.and_eq_false_iff, Bool.or_eq_false_iff, Decidable.not_not, ne_eq] at c10
                      refine c_seq ?_
                      refine c_region ?_
                      refine o_bin (h := ?_)
                      refine o_assign (h := ?_)
                      refine n_thenN (h := ?_)
                      refine c_if (ht := fun c11 => ?_) (hf := fun c11 => ?_)
                      · try simp only [decide_eq_true_eq, decide_eq_false_iff_not, Bool.not_eq_true', Bool.not_eq_false', Bool.and_eq_true, Bool.or_eq_true, Bool.and_eq_false_iff, Bool.or_eq_false_iff, Decidable.not_not, ne_eq] at c11
                        refine c_seq ?_
                        refine c_region ?_
                        refine o_move (h := ?_)
                        refine o_move (h := ?_)
                        refine o_bin (h := ?_)
                        refine o_callS hS Try.func29 rfl rfl (hc := r1_flag) (h := ?_)
                        clear hS; intro w hS
                        refine o_assign (h := ?_)
                        refine o_assign (h := ?_)
                        refine n_thenN (h := ?_)
                        refine wp_ret (r_retS2 hS rfl (hR := ?_))
                        first | rfl | (simp [M.r1Of, M.u32, M.i32, M.i64, M.shl, M.shr, *]; done) | (simp [M.r1Of, M.u32, M.i32, M.i64, M.shl, M.shr, *]; rfl) | (simp [M.r1Of, M.u32, M.i32, M.i64, M.shl, M.shr, *]; congr)
                      · try simp only [decide_eq_true_eq, decide_eq_false_iff_not, Bool.not_eq_true', Bool.not_eq_false', Bool.and_eq_true, Bool.or_eq_true, Bool.and_eq_false_iff, Bool.or_eq_false_iff, Decidable.not_not, ne_eq] at c11
                        refine c_seq ?_
                        refine c_region ?_
                        refine o_bin (h := ?_)
                        refine o_assign (h := ?_)
                        refine n_thenN (h := ?_)
                        refine c_if (ht := fun c12 => ?_) (hf := fun c12 => ?_)
                        · try simp only [decide_eq_true_eq, decide_eq_false_iff_not, Bool.not_eq_true', Bool.not_eq_false', Bool.and_eq_true, Bool.or_eq_true, Bool.and_eq_false_iff, Bool.or_eq_false_iff, Decidable.not_not, ne_eq] at c12
                          refine c_seq ?_
                          refine c_region ?_
                          refine o_move (h := ?_)
                          refine o_move (h := ?_)
                          refine o_min (h := ?_)
                          refine o_conv (hs := Try.underlying2) (ht := Try.underlying28) (h := ?_)
                          refine o_assign (h := ?_)
                          refine o_assign (h := ?_)
                          refine n_thenN (h := ?_)
                          refine wp_ret (r_retS2 hS rfl (hR := ?_))
                          first | rfl | (simp [M.r1Of, M.u32, M.i32, M.i64, M.shl, M.shr, *]; done) | (simp [M.r1Of, M.u32, M.i32, M.i64, M.shl, M.shr, *]; rfl) | (simp [M.r1Of, M.u32, M.i32, M.i64, M.shl, M.shr, *]; congr)
                        · try simp only [decide_eq_true_eq, decide_eq_false_iff_not, Bool.not_eq_true', Bool.not_eq_false', Bool.and_eq_true, Bool.or_eq_true, Bool.and_eq_false_iff, Bool.or_eq_false_iff, Decidable.not_not, ne_eq] at c12
                          refine c_seq ?_
                          refine c_region ?_
                          refine o_bin (h := ?_)
                          refine o_assign (h := ?_)
                          refine n_thenN (h := ?_)
                          refine c_if (ht := fun c13 => ?_) (hf := fun c13 => ?_)
                          · try simp only [decide_eq_true_eq, decide_eq_false_iff_not, Bool.not_eq_true', Bool.not_eq_false', Bool.and_eq_true, Bool.or_eq_true, Bool.and_eq_false_iff, Bool.or_eq_false_iff, Decidable.not_not, ne_eq] at c13
                            refine c_seq ?_
                            refine c_region ?_
                            refine o_move (h := ?_)
                            refine o_move (h := ?_)
                            refine o_max (h := ?_)
                            refine o_conv (hs := Try.underlying2) (ht := Try.underlying28) (h := ?_)
                            refine o_assign (h := ?_)
                            refine o_assign (h := ?_)
                            refine n_thenN (h := ?_)
                            refine wp_ret (r_retS2 hS rfl (hR := ?_))
                            first | rfl | (simp [M.r1Of, M.u32, M.i32, M.i64, M.shl, M.shr, *]; done) | (simp [M.r1Of, M.u32, M.i32, M.i64, M.shl, M.shr, *]; rfl) | (simp [M.r1Of, M.u32, M.i32, M.i64, M.shl, M.shr, *]; congr)
                          · try simp only [decide_eq_true_eq, decide_eq_false_iff_not, Bool.not_eq_true', Bool.not_eq_false', Bool.and_eq_true, Bool.or_eq_true, Bool.and_eq_false_iff, Bool.or_eq_false_iff, Decidable.not_not, ne_eq] at c13
                            refine c_seq ?_
                            refine c_region ?_
                            refine o_bin (h := ?_)
                            refine o_assign (h := ?_)
                            refine n_thenN (h := ?_)
                            refine c_if (ht := fun c14 => ?_) (hf := fun c14 => ?_)
                            · try simp only [decide_eq_true_eq, decide_eq_false_iff_not, Bool.not_eq_true', Bool.not_eq_false', Bool.and_eq_true, Bool.or_eq_true, Bool.and_eq_false_iff, Bool.or_eq_false_iff, Decidable.not_not, ne_eq] at c14
                              refine c_seq ?_
                              refine c_region ?_
                              refine o_move (h := ?_)
                              refine o_move (h := ?_)
                              refine o_bin (h := ?_)
                              refine o_conv (hs := Try.underlying2) (ht := Try.underlying28) (h := ?_)
                              refine o_assign (h := ?_)
                              refine o_assign (h := ?_)
                              refine n_thenN (h := ?_)
                              refine wp_ret (r_retS2 hS rfl (hR := ?_))
                              first | rfl | (simp [M.r1Of, M.u32, M.i32, M.i64, M.shl, M.shr, *]; done) | (simp [M.r1Of, M.u32, M.i32, M.i64, M.shl, M.shr, *]; rfl) | (simp [M.r1Of, M.u32, M.i32, M.i64, M.shl, M.shr, *]; congr)
                            · try simp only [decide_eq_true_eq, decide_eq_false_iff_not, Bool.not_eq_true', Bool.not_eq_false', Bool.and_eq_true, Bool.or_eq_true, Bool.and_eq_false_iff, Bool.or_eq_false_iff, Decidable.not_not, ne_eq] at c14
                              refine c_seq ?_
                              refine c_region ?_
                              refine o_bin (h := ?_)
                              refine o_assign (h := ?_)
                              refine n_thenN (h := ?_)
                              refine c_if (ht := fun c15 => ?_) (hf := fun c15 => ?_)
                              · try simp only [decide_eq_true_eq, decide_eq_false_iff_not, Bool.not_eq_true', Bool.not_eq_false', Bool.and_eq_true, Bool.or_eq_true, Bool.and_eq_false_iff, Bool.or_eq_false_iff, Decidable.not_not, ne_eq] at c15
                                refine c_seq ?_
                                refine c_region ?_
                                refine o_move (h := ?_)
                                refine o_move (h := ?_)
                                refine o_bin (h := ?_)
                                refine o_shr (h0 := by first | omega | exact M.and31 _ (by omega)) (h := ?_)
                                refine o_conv (hs := Try.underlying2) (ht := Try.underlying28) (h := ?_)
                                refine o_assign (h := ?_)
                                refine o_assign (h := ?_)
                                refine n_thenN (h := ?_)
                                refine wp_ret (r_retS2 hS rfl (hR := ?_))
                                first | rfl | (simp [M.r1Of, M.u32, M.i32, M.i64, M.shl, M.shr, *]; done) | (simp [M.r1Of, M.u32, M.i32, M.i64, M.shl, M.shr, *]; rfl) | (simp [M.r1Of, M.u32, M.i32, M.i64, M.shl, M.shr, *]; congr)
                              · try simp only [decide_eq_true_eq, decide_eq_false_iff_not, Bool.not_eq_true', Bool.not_eq_false', Bool.and_eq_true, Bool.or_eq_true, Bool.and_eq_false_iff, Bool.or_eq_false_iff, Decidable.not_not, ne_eq] at c15
                                refine wp_skip ?_
                                try change Code.wp _ _ _ _ _
                                try change Code.wp _ _ _ _ _
                                refine c_seq ?_
                                refine c_seq ?_
                                refine c_region ?_
                                refine o_move (h := ?_)
                                refine o_bin (h := ?_)
                                refine n_thenN (h := ?_)
                                refine c_if (ht := fun c16 => ?_) (hf := fun c16 => ?_)
                                · try simp only [decide_eq_true_eq, decide_eq_false_iff_not, Bool.not_eq_true', Bool.not_eq_false', Bool.and_eq_true, Bool.or_eq_true, Bool.and_eq_false_iff, Bool.or_eq_false_iff, Decidable.not_not, ne_eq] at c16
                                  refine c_seq ?_
                                  refine c_region ?_
                                  refine o_assign (h := ?_)
                                  refine o_assign (h := ?_)
                                  refine n_thenN (h := ?_)
                                  refine wp_ret (r_retS2 hS rfl (hR := ?_))
                                  first | rfl | (simp [M.r1Of, M.u32, M.i32, M.i64, M.shl, M.shr, *]; done) | (simp [M.r1Of, M.u32, M.i32, M.i64, M.shl, M.shr, *]; rfl) | (simp [M.r1Of, M.u32, M.i32, M.i64, M.shl, M.shr, *]; congr)
                                · try simp only [decide_eq_true_eq, decide_eq_false_iff_not, Bool.not_eq_true', Bool.not_eq_false', Bool.and_eq_true, Bool.or_eq_true, Bool.and_eq_false_iff, Bool.or_eq_false_iff, Decidable.not_not, ne_eq] at c16
                                  refine wp_skip ?_
                                  try change Code.wp _ _ _ _ _
                                  refine c_seq ?_
                                  refine c_seq ?_
                                  refine c_region ?_
                                  refine o_move (h := ?_)
                                  refine o_bin (h := ?_)
                                  refine n_thenN (h := ?_)
                                  refine c_if (ht := fun c17 => ?_) (hf := fun c17 => ?_)
                                  · try simp only [decide_eq_true_eq, decide_eq_false_iff_not, Bool.not_eq_true', Bool.not_eq_false', Bool.and_eq_true, Bool.or_eq_true, Bool.and_eq_false_iff, Bool.or_eq_false_iff, Decidable.not_not, ne_eq] at c17
                                    refine c_seq ?_
                                    refine c_region ?_
                                    refine o_move (h := ?_)
                                    refine o_move (h := ?_)
                                    refine o_quo (h0 := by first | omega | exact M.and31 _ (by omega)) (h := ?_)
                                    refine o_conv (hs := Try.underlying2) (ht := Try.underlying28) (h := ?_)
                                    refine o_assign (h := ?_)
                                    refine o_assign (h := ?_)
                                    refine n_thenN (h := ?_)
                                    refine wp_ret (r_retS2 hS rfl (hR := ?_))
                                    first | rfl | (simp [M.r1Of, M.u32, M.i32, M.i64, M.shl, M.shr, *]; done) | (simp [M.r1Of, M.u32, M.i32, M.i64, M.shl, M.shr, *]; rfl) | (simp [M.r1Of, M.u32, M.i32, M.i64, M.shl, M.shr, *]; congr)
                                  · try simp only [decide_eq_true_eq, decide_eq_false_iff_not, Bool.not_eq_true', Bool.not_eq_false', Bool.and_eq_true, Bool.or_eq_true, Bool.and_eq_false_iff, Bool.or_eq_false_iff, Decidable.not_not, ne_eq] at c17
                                    refine wp_skip ?_
                                    try change Code.wp _ _ _ _ _
                                    refine c_seq ?_
                                    refine c_region ?_
                                    refine o_move (h := ?_)
                                    refine o_move (h := ?_)
                                    refine o_rem (h0 := by first | omega | exact M.and31 _ (by omega)) (h := ?_)
                                    refine o_conv (hs := Try.underlying2) (ht := Try.underlying28) (h := ?_)
                                    refine o_assign (h := ?_)
                                    refine o_assign (h := ?_)
                                    refine n_thenN (h := ?_)
                                    refine wp_ret (r_retS2 hS rfl (hR := ?_))
                                    first | rfl | (simp [M.r1Of, M.u32, M.i32, M.i64, M.shl, M.shr, *]; done) | (simp [M.r1Of, M.u32, M.i32, M.i64, M.shl, M.shr, *]; rfl) | (simp [M.r1Of, M.u32, M.i32, M.i64, M.shl, M.shr, *]; congr)


end Go.Proofs.Ythpnbgkhoocadaa
