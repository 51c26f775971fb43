/- Functions, lifted. Printed by lift.py. -/
import Derived.Test.YthbpicnbkdbbmaaGreatProg
import Derived.Test.YthbpicnbkdbbmaaGreatP3
import Derived.KernelRfl
namespace Go.Proofs.YthbpicnbkdbbmaaGreat
open Go Go.RowKit Fr
set_option linter.unusedVariables false
set_option linter.unusedSimpArgs false
set_option maxRecDepth 20000
open Tryz
set_option maxHeartbeats 2000000
noncomputable def pair_Of (a0 : Int) (a1 : Int) (a2 : Int) : Option (Int × Int) :=
  (pair_number a1).bind fun r1 => (pair_number a2).bind fun r2 => bif decide (a0 = 18) then (cSumBits .add .f64 r1.1 r1.2 r2.1 r2.2).bind fun x4 => (pair_packed x4).bind fun r5 => some (r5, 0) else bif decide (a0 = 19) then (cSumBits .sub .f64 r1.1 r1.2 r2.1 r2.2).bind fun x7 => (pair_packed x7).bind fun r8 => some (r8, 0) else bif decide (a0 = 20) then (cMulBits r1.1 r1.2 r2.1 r2.2).bind fun x10 => (pair_packed x10).bind fun r11 => some (r11, 0) else bif decide (a0 = 21) then (pair_packed ((pair_turned r1).1, (pair_turned r1).2)).bind fun r13 => some (r13, 0) else some (0, 1)
theorem w_pair_Of_ {g : Frag} {a0 : Int} {a1 : Int} {a2 : Int} {r : (Int × Int)}  (hF : pair_Of a0 a1 a2 = some r) : LCs Tryz.prog 124 #[.int .i64 a0, .int .u32 a1, .int .u32 a2] g (.tuple #[.int .u32 r.1, .int .i64 r.2]) := by
 unfold pair_Of at hF
 refine lc_body (k := 38) (av := [.int .i64 a0, .int .u32 a1, .int .u32 a2]) func124 rfl rfl (h := fun W hS => ?_)
 refine c_seq <| c_region ?_
 iterate 2 (refine oy hS y_assign ?_)
 refine n_thenN <| c_seq <| c_region <| oy hS y_move ?_
 obtain ⟨r1, hr1, hF⟩ := ob hF
 refine o_callS hS func135 rfl rfl (hc := (w_pair_number (a0 := a1) (hF := hr1))) (h := ?_)
 clear hS; intro w hS
 refine oy hS y_move ?_
 obtain ⟨r2, hr2, hF⟩ := ob hF
 refine o_callS hS func135 rfl rfl (hc := (w_pair_number (a0 := a2) (hF := hr2))) (h := ?_)
 clear hS; intro w hS
 iterate 2 (refine oy hS y_assign ?_)
 refine n_thenN ?_
 iterate 2 (refine c_seq ?_)
 refine c_region <| oy hS y_move <| n_thenN <| c_block <| c_seq <| c_region <| oy hS y_bin <| oy hS y_assign ?_
 refine n_thenN ?_
 refine c_if (ht := fun c3 => ?_) (hf := fun c3 => ?_)
 · replace hF := bt c3 hF
   refine c_seq <| c_region ?_
   iterate 2 (refine oy hS y_move ?_)
   obtain ⟨x4, hx4, hF⟩ := ob hF
   refine oy hS (y_cadd hx4) ?_
   obtain ⟨r5, hr5, hF⟩ := ob hF
   refine o_callS hS func136 rfl rfl (hc := (w_pair_packed (a0 := x4) (hF := hr5))) (h := ?_)
   clear hS; intro w hS
   iterate 2 (refine oy hS y_assign ?_)
   refine n_thenN ?_
   obtain rfl := osi hF
   exact wp_ret (wr2 hS)
 replace hF := bf c3 hF
 refine c_seq <| c_region <| oy hS y_bin <| oy hS y_assign <| n_thenN ?_
 refine c_if (ht := fun c6 => ?_) (hf := fun c6 => ?_)
 · replace hF := bt c6 hF
   refine c_seq <| c_region ?_
   iterate 2 (refine oy hS y_move ?_)
   obtain ⟨x7, hx7, hF⟩ := ob hF
   refine oy hS (y_csub hx7) ?_
   obtain ⟨r8, hr8, hF⟩ := ob hF
   refine o_callS hS func136 rfl rfl (hc := (w_pair_packed (a0 := x7) (hF := hr8))) (h := ?_)
   clear hS; intro w hS
   iterate 2 (refine oy hS y_assign ?_)
   refine n_thenN ?_
   obtain rfl := osi hF
   exact wp_ret (wr2 hS)
 replace hF := bf c6 hF
 refine c_seq <| c_region <| oy hS y_bin <| oy hS y_assign <| n_thenN ?_
 refine c_if (ht := fun c9 => ?_) (hf := fun c9 => ?_)
 · replace hF := bt c9 hF
   refine c_seq <| c_region ?_
   iterate 2 (refine oy hS y_move ?_)
   obtain ⟨x10, hx10, hF⟩ := ob hF
   refine oy hS (y_cmul hx10) ?_
   obtain ⟨r11, hr11, hF⟩ := ob hF
   refine o_callS hS func136 rfl rfl (hc := (w_pair_packed (a0 := x10) (hF := hr11))) (h := ?_)
   clear hS; intro w hS
   iterate 2 (refine oy hS y_assign ?_)
   refine n_thenN ?_
   obtain rfl := osi hF
   exact wp_ret (wr2 hS)
 replace hF := bf c9 hF
 refine c_seq <| c_region <| oy hS y_bin <| oy hS y_assign <| n_thenN ?_
 refine c_if (ht := fun c12 => ?_) (hf := fun c12 => ?_)
 · replace hF := bt c12 hF
   refine c_seq <| c_region <| oy hS y_move ?_
   refine o_callS hS func137 rfl rfl (hc := (w_pair_turned (a0 := r1))) (h := ?_)
   clear hS; intro w hS
   obtain ⟨r13, hr13, hF⟩ := ob hF
   refine o_callS hS func136 rfl rfl (hc := (w_pair_packed (a0 := ((pair_turned r1).1, (pair_turned r1).2)) (hF := hr13))) (h := ?_)
   clear hS; intro w hS
   iterate 2 (refine oy hS y_assign ?_)
   refine n_thenN ?_
   obtain rfl := osi hF
   exact wp_ret (wr2 hS)
 replace hF := bf c12 hF
 refine wp_skip <| c_seq <| c_region ?_
 iterate 2 (refine oy hS y_assign ?_)
 refine n_thenN ?_
 obtain rfl := osi hF
 exact wp_ret (wr2 hS)
theorem w_pair_Of {g : Frag} {a0 : Int} {a1 : Int} {a2 : Int} {r : (Int × Int)}  (hF : pair_Of a0 a1 a2 = some r) : LCs Tryz.prog 124 #[.int .i64 a0, .int .u32 a1, .int .u32 a2] g (.tuple #[.int .u32 r.1, .int .i64 r.2]) := w_pair_Of_  hF

def word_Has (a0 : Int) : Bool :=
  bif decide (1 ≤ a0) then decide (a0 ≤ 17) else false
theorem w_word_Has_ {g : Frag} {a0 : Int} {r : Bool}  (hF : word_Has a0 = r) : LCs Tryz.prog 125 #[.int .i64 a0] g (.bool r) := by
 unfold word_Has at hF
 refine lc_body (k := 9) (av := [.int .i64 a0]) func125 rfl rfl (h := fun W hS => ?_)
 refine c_seq <| c_region <| oy hS y_assign <| n_thenN <| c_seq <| c_region <| oy hS y_move <| oy hS y_bin ?_
 refine o_split (ht := fun c1 => ?_) (hf := fun c1 => ?_)
 · replace hF := bt c1 hF
   refine o_gu rfl rfl rfl <| oy hS y_move <| o_gu rfl rfl rfl <| oy hS y_bin <| oy hS y_pickT <| oy hS y_assign <| n_thenN ?_
   subst hF
   exact wp_ret (wr1 hS)
 replace hF := bf c1 hF
 iterate 2 (refine o_sk rfl rfl ?_)
 refine oy hS y_pickF <| oy hS y_assign <| n_thenN ?_
 subst hF
 exact wp_ret (wr1 hS)
theorem w_word_Has {g : Frag} {a0 : Int}  : LCs Tryz.prog 125 #[.int .i64 a0] g (.bool (word_Has a0)) := w_word_Has_  rfl

noncomputable def word_logic (a0 : Int) (a1 : Int) (a2 : Int) : Option Int :=
  bif decide (a0 = 1) then some (IntKind.u32.wrap (a1 + a2)) else bif decide (a0 = 2) then some (IntKind.u32.wrap (a1 - a2)) else bif decide (a0 = 3) then some (bits .and .u32 a1 a2) else bif decide (a0 = 4) then some (bits .or .u32 a1 a2) else bif decide (a0 = 5) then some (bits .xor .u32 a1 a2) else bif decide (a0 = 6) then (rem' a2 32).bind fun x7 => (shl' .u32 a1 x7).bind fun x8 => some (x8) else bif decide (a0 = 7) then (rem' a2 32).bind fun x10 => (shr' .u32 a1 x10).bind fun x11 => some (x11) else (rem' a2 32).bind fun x12 => (shr' .i32 (IntKind.i32.wrap a1) x12).bind fun x13 => some (IntKind.u32.wrap x13)
theorem w_word_logic_ {g : Frag} {a0 : Int} {a1 : Int} {a2 : Int} {r : Int}  (hF : word_logic a0 a1 a2 = some r) : LCs Tryz.prog 138 #[.int .i64 a0, .int .u32 a1, .int .u32 a2] g (.int .u32 r) := by
 unfold word_logic at hF
 refine lc_body (k := 51) (av := [.int .i64 a0, .int .u32 a1, .int .u32 a2]) func138 rfl rfl (h := fun W hS => ?_)
 refine c_seq <| c_region <| oy hS y_assign <| n_thenN ?_
 iterate 2 (refine c_seq ?_)
 refine c_region <| oy hS y_move <| n_thenN <| c_block <| c_seq <| c_region <| oy hS y_bin <| oy hS y_assign ?_
 refine n_thenN ?_
 refine c_if (ht := fun c1 => ?_) (hf := fun c1 => ?_)
 · replace hF := bt c1 hF
   refine c_seq <| c_region ?_
   iterate 2 (refine oy hS y_move ?_)
   refine oy hS y_bin <| oy hS y_assign <| n_thenN ?_
   obtain rfl := osi hF
   exact wp_ret (wr1 hS)
 replace hF := bf c1 hF
 refine c_seq <| c_region <| oy hS y_bin <| oy hS y_assign <| n_thenN ?_
 refine c_if (ht := fun c2 => ?_) (hf := fun c2 => ?_)
 · replace hF := bt c2 hF
   refine c_seq <| c_region ?_
   iterate 2 (refine oy hS y_move ?_)
   refine oy hS y_bin <| oy hS y_assign <| n_thenN ?_
   obtain rfl := osi hF
   exact wp_ret (wr1 hS)
 replace hF := bf c2 hF
 refine c_seq <| c_region <| oy hS y_bin <| oy hS y_assign <| n_thenN ?_
 refine c_if (ht := fun c3 => ?_) (hf := fun c3 => ?_)
 · replace hF := bt c3 hF
   refine c_seq <| c_region ?_
   iterate 2 (refine oy hS y_move ?_)
   refine oy hS y_bin <| oy hS y_assign <| n_thenN ?_
   obtain rfl := osi hF
   exact wp_ret (wr1 hS)
 replace hF := bf c3 hF
 refine c_seq <| c_region <| oy hS y_bin <| oy hS y_assign <| n_thenN ?_
 refine c_if (ht := fun c4 => ?_) (hf := fun c4 => ?_)
 · replace hF := bt c4 hF
   refine c_seq <| c_region ?_
   iterate 2 (refine oy hS y_move ?_)
   refine oy hS y_bin <| oy hS y_assign <| n_thenN ?_
   obtain rfl := osi hF
   exact wp_ret (wr1 hS)
 replace hF := bf c4 hF
 refine c_seq <| c_region <| oy hS y_bin <| oy hS y_assign <| n_thenN ?_
 refine c_if (ht := fun c5 => ?_) (hf := fun c5 => ?_)
 · replace hF := bt c5 hF
   refine c_seq <| c_region ?_
   iterate 2 (refine oy hS y_move ?_)
   refine oy hS y_bin <| oy hS y_assign <| n_thenN ?_
   obtain rfl := osi hF
   exact wp_ret (wr1 hS)
 replace hF := bf c5 hF
 refine c_seq <| c_region <| oy hS y_bin <| oy hS y_assign <| n_thenN ?_
 refine c_if (ht := fun c6 => ?_) (hf := fun c6 => ?_)
 · replace hF := bt c6 hF
   refine c_seq <| c_region ?_
   iterate 2 (refine oy hS y_move ?_)
   obtain ⟨x7, hx7, hF⟩ := ob hF
   refine oy hS (y_rem hx7) ?_
   obtain ⟨x8, hx8, hF⟩ := ob hF
   refine oy hS (y_shl hx8) <| oy hS y_assign <| n_thenN ?_
   obtain rfl := osi hF
   exact wp_ret (wr1 hS)
 replace hF := bf c6 hF
 refine c_seq <| c_region <| oy hS y_bin <| oy hS y_assign <| n_thenN ?_
 refine c_if (ht := fun c9 => ?_) (hf := fun c9 => ?_)
 · replace hF := bt c9 hF
   refine c_seq <| c_region ?_
   iterate 2 (refine oy hS y_move ?_)
   obtain ⟨x10, hx10, hF⟩ := ob hF
   refine oy hS (y_rem hx10) ?_
   obtain ⟨x11, hx11, hF⟩ := ob hF
   refine oy hS (y_shr hx11) <| oy hS y_assign <| n_thenN ?_
   obtain rfl := osi hF
   exact wp_ret (wr1 hS)
 replace hF := bf c9 hF
 refine wp_skip <| c_seq <| c_region <| oy hS y_move <| oy hS (y_conv underlying40 underlying21) <| oy hS y_move ?_
 obtain ⟨x12, hx12, hF⟩ := ob hF
 refine oy hS (y_rem hx12) ?_
 obtain ⟨x13, hx13, hF⟩ := ob hF
 refine oy hS (y_shr hx13) <| oy hS (y_conv underlying21 underlying40) <| oy hS y_assign <| n_thenN ?_
 obtain rfl := osi hF
 exact wp_ret (wr1 hS)
theorem w_word_logic {g : Frag} {a0 : Int} {a1 : Int} {a2 : Int} {r : Int}  (hF : word_logic a0 a1 a2 = some r) : LCs Tryz.prog 138 #[.int .i64 a0, .int .u32 a1, .int .u32 a2] g (.int .u32 r) := w_word_logic_  hF

def word_flag (a0 : Bool) : Int :=
  bif a0 then 1 else 0
theorem w_word_flag_ {g : Frag} {a0 : Bool} {r : Int}  (hF : word_flag a0 = r) : LCs Tryz.prog 149 #[.bool a0] g (.int .u32 r) := by
 unfold word_flag at hF
 refine lc_body (k := 4) (av := [.bool a0]) func149 rfl rfl (h := fun W hS => ?_)
 refine c_seq <| c_region <| oy hS y_assign <| n_thenN ?_
 iterate 2 (refine c_seq ?_)
 refine c_region <| oy hS y_move <| n_thenN ?_
 refine c_if (ht := fun c1 => ?_) (hf := fun c1 => ?_)
 · replace hF := bt c1 hF
   refine c_seq <| c_region <| oy hS y_assign <| n_thenN ?_
   subst hF
   exact wp_ret (wr1 hS)
 replace hF := bf c1 hF
 refine wp_skip <| c_seq <| c_region <| oy hS y_assign <| n_thenN ?_
 subst hF
 exact wp_ret (wr1 hS)
theorem w_word_flag {g : Frag} {a0 : Bool}  : LCs Tryz.prog 149 #[.bool a0] g (.int .u32 (word_flag a0)) := w_word_flag_  rfl

def word_compared (a0 : Int) (a1 : Int) (a2 : Int) : Int :=
  bif decide (a0 = 9) then (word_flag (decide ((IntKind.i32.wrap a1) < (IntKind.i32.wrap a2)))) else bif decide (a0 = 10) then (word_flag (decide (a1 < a2))) else bif decide (a0 = 11) then (word_flag (decide (a1 = a2))) else bif decide (a0 = 12) then IntKind.u32.wrap (imin (IntKind.i32.wrap a1) (IntKind.i32.wrap a2)) else IntKind.u32.wrap (imax (IntKind.i32.wrap a1) (IntKind.i32.wrap a2))
theorem w_word_compared_ {g : Frag} {a0 : Int} {a1 : Int} {a2 : Int} {r : Int}  (hF : word_compared a0 a1 a2 = r) : LCs Tryz.prog 139 #[.int .i64 a0, .int .u32 a1, .int .u32 a2] g (.int .u32 r) := by
 unfold word_compared at hF
 refine lc_body (k := 42) (av := [.int .i64 a0, .int .u32 a1, .int .u32 a2]) func139 rfl rfl (h := fun W hS => ?_)
 refine c_seq <| c_region <| oy hS y_assign <| n_thenN <| c_seq <| c_region <| oy hS y_move <| oy hS (y_conv underlying40 underlying21) ?_
 refine oy hS y_move <| oy hS (y_conv underlying40 underlying21) ?_
 iterate 2 (refine oy hS y_assign ?_)
 refine n_thenN ?_
 iterate 2 (refine c_seq ?_)
 refine c_region <| oy hS y_move <| n_thenN <| c_block <| c_seq <| c_region <| oy hS y_bin <| oy hS y_assign ?_
 refine n_thenN ?_
 refine c_if (ht := fun c1 => ?_) (hf := fun c1 => ?_)
 · replace hF := bt c1 hF
   refine c_seq <| c_region ?_
   iterate 2 (refine oy hS y_move ?_)
   refine oy hS y_bin ?_
   refine o_callS hS func149 rfl rfl (hc := (w_word_flag (a0 := (decide ((IntKind.i32.wrap a1) < (IntKind.i32.wrap a2)))))) (h := ?_)
   clear hS; intro w hS
   refine oy hS y_assign <| n_thenN ?_
   subst hF
   exact wp_ret (wr1 hS)
 replace hF := bf c1 hF
 refine c_seq <| c_region <| oy hS y_bin <| oy hS y_assign <| n_thenN ?_
 refine c_if (ht := fun c2 => ?_) (hf := fun c2 => ?_)
 · replace hF := bt c2 hF
   refine c_seq <| c_region ?_
   iterate 2 (refine oy hS y_move ?_)
   refine oy hS y_bin ?_
   refine o_callS hS func149 rfl rfl (hc := (w_word_flag (a0 := (decide (a1 < a2))))) (h := ?_)
   clear hS; intro w hS
   refine oy hS y_assign <| n_thenN ?_
   subst hF
   exact wp_ret (wr1 hS)
 replace hF := bf c2 hF
 refine c_seq <| c_region <| oy hS y_bin <| oy hS y_assign <| n_thenN ?_
 refine c_if (ht := fun c3 => ?_) (hf := fun c3 => ?_)
 · replace hF := bt c3 hF
   refine c_seq <| c_region ?_
   iterate 2 (refine oy hS y_move ?_)
   refine oy hS y_bin ?_
   refine o_callS hS func149 rfl rfl (hc := (w_word_flag (a0 := (decide (a1 = a2))))) (h := ?_)
   clear hS; intro w hS
   refine oy hS y_assign <| n_thenN ?_
   subst hF
   exact wp_ret (wr1 hS)
 replace hF := bf c3 hF
 refine c_seq <| c_region <| oy hS y_bin <| oy hS y_assign <| n_thenN ?_
 refine c_if (ht := fun c4 => ?_) (hf := fun c4 => ?_)
 · replace hF := bt c4 hF
   refine c_seq <| c_region ?_
   iterate 2 (refine oy hS y_move ?_)
   refine oy hS y_min <| oy hS (y_conv underlying21 underlying40) <| oy hS y_assign <| n_thenN ?_
   subst hF
   exact wp_ret (wr1 hS)
 replace hF := bf c4 hF
 refine wp_skip <| c_seq <| c_region ?_
 iterate 2 (refine oy hS y_move ?_)
 refine oy hS y_max <| oy hS (y_conv underlying21 underlying40) <| oy hS y_assign <| n_thenN ?_
 subst hF
 exact wp_ret (wr1 hS)
theorem w_word_compared {g : Frag} {a0 : Int} {a1 : Int} {a2 : Int}  : LCs Tryz.prog 139 #[.int .i64 a0, .int .u32 a1, .int .u32 a2] g (.int .u32 (word_compared a0 a1 a2)) := w_word_compared_  rfl

noncomputable def word_product (a0 : Int) (a1 : Int) (a2 : Int) : Option Int :=
  bif decide (a0 = 14) then some (IntKind.u32.wrap (a1 * a2)) else bif decide (a0 = 15) then (shr' .i64 (IntKind.i64.wrap ((IntKind.i64.wrap (IntKind.i32.wrap a1)) * (IntKind.i64.wrap (IntKind.i32.wrap a2)))) 32).bind fun x3 => some (IntKind.u32.wrap x3) else bif decide (a0 = 16) then (quo' .i32 (IntKind.i32.wrap a1) (IntKind.i32.wrap a2)).bind fun x5 => some (IntKind.u32.wrap x5) else (rem' (IntKind.i32.wrap a1) (IntKind.i32.wrap a2)).bind fun x6 => some (IntKind.u32.wrap x6)
theorem w_word_product_ {g : Frag} {a0 : Int} {a1 : Int} {a2 : Int} {r : Int}  (hF : word_product a0 a1 a2 = some r) : LCs Tryz.prog 140 #[.int .i64 a0, .int .u32 a1, .int .u32 a2] g (.int .u32 r) := by
 unfold word_product at hF
 refine lc_body (k := 38) (av := [.int .i64 a0, .int .u32 a1, .int .u32 a2]) func140 rfl rfl (h := fun W hS => ?_)
 refine c_seq <| c_region <| oy hS y_assign <| n_thenN <| c_seq <| c_region <| oy hS y_move <| oy hS (y_conv underlying40 underlying21) ?_
 refine oy hS y_move <| oy hS (y_conv underlying40 underlying21) ?_
 iterate 2 (refine oy hS y_assign ?_)
 refine n_thenN ?_
 iterate 2 (refine c_seq ?_)
 refine c_region <| oy hS y_move <| n_thenN <| c_block <| c_seq <| c_region <| oy hS y_bin <| oy hS y_assign ?_
 refine n_thenN ?_
 refine c_if (ht := fun c1 => ?_) (hf := fun c1 => ?_)
 · replace hF := bt c1 hF
   refine c_seq <| c_region ?_
   iterate 2 (refine oy hS y_move ?_)
   refine oy hS y_bin <| oy hS y_assign <| n_thenN ?_
   obtain rfl := osi hF
   exact wp_ret (wr1 hS)
 replace hF := bf c1 hF
 refine c_seq <| c_region <| oy hS y_bin <| oy hS y_assign <| n_thenN ?_
 refine c_if (ht := fun c2 => ?_) (hf := fun c2 => ?_)
 · replace hF := bt c2 hF
   refine c_seq <| c_region <| oy hS y_move <| oy hS (y_conv underlying21 underlying2) <| oy hS y_move <| oy hS (y_conv underlying21 underlying2) <| oy hS y_bin ?_
   obtain ⟨x3, hx3, hF⟩ := ob hF
   refine oy hS (y_shr hx3) <| oy hS (y_conv underlying2 underlying40) <| oy hS y_assign <| n_thenN ?_
   obtain rfl := osi hF
   exact wp_ret (wr1 hS)
 replace hF := bf c2 hF
 refine c_seq <| c_region <| oy hS y_bin <| oy hS y_assign <| n_thenN ?_
 refine c_if (ht := fun c4 => ?_) (hf := fun c4 => ?_)
 · replace hF := bt c4 hF
   refine c_seq <| c_region ?_
   iterate 2 (refine oy hS y_move ?_)
   obtain ⟨x5, hx5, hF⟩ := ob hF
   refine oy hS (y_quo hx5) <| oy hS (y_conv underlying21 underlying40) <| oy hS y_assign <| n_thenN ?_
   obtain rfl := osi hF
   exact wp_ret (wr1 hS)
 replace hF := bf c4 hF
 refine wp_skip <| c_seq <| c_region ?_
 iterate 2 (refine oy hS y_move ?_)
 obtain ⟨x6, hx6, hF⟩ := ob hF
 refine oy hS (y_rem hx6) <| oy hS (y_conv underlying21 underlying40) <| oy hS y_assign <| n_thenN ?_
 obtain rfl := osi hF
 exact wp_ret (wr1 hS)
theorem w_word_product {g : Frag} {a0 : Int} {a1 : Int} {a2 : Int} {r : Int}  (hF : word_product a0 a1 a2 = some r) : LCs Tryz.prog 140 #[.int .i64 a0, .int .u32 a1, .int .u32 a2] g (.int .u32 r) := w_word_product_  hF

noncomputable def word_Of (a0 : Int) (a1 : Int) (a2 : Int) : Option (Int × Int) :=
  bif !(word_Has a0) then some (0, 1) else bif decide (a2 = 0) then bif decide (a0 = 16) then some (0, 7) else bif decide (a0 = 17) then some (0, 7) else bif decide (a0 ≤ 8) then (word_logic a0 a1 a2).bind fun r6 => some (r6, 0) else bif decide (a0 ≤ 13) then some ((word_compared a0 a1 a2), 0) else (word_product a0 a1 a2).bind fun r8 => some (r8, 0) else bif decide (a0 ≤ 8) then (word_logic a0 a1 a2).bind fun r10 => some (r10, 0) else bif decide (a0 ≤ 13) then some ((word_compared a0 a1 a2), 0) else (word_product a0 a1 a2).bind fun r12 => some (r12, 0)
theorem w_word_Of_ {g : Frag} {a0 : Int} {a1 : Int} {a2 : Int} {r : (Int × Int)}  (hF : word_Of a0 a1 a2 = some r) : LCs Tryz.prog 126 #[.int .i64 a0, .int .u32 a1, .int .u32 a2] g (.tuple #[.int .u32 r.1, .int .i64 r.2]) := by
 unfold word_Of at hF
 refine lc_body (k := 41) (av := [.int .i64 a0, .int .u32 a1, .int .u32 a2]) func126 rfl rfl (h := fun W hS => ?_)
 refine c_seq <| c_region ?_
 iterate 2 (refine oy hS y_assign ?_)
 refine n_thenN <| c_seq <| c_block <| c_seq <| c_region <| oy hS y_move ?_
 refine o_callS hS func125 rfl rfl (hc := (w_word_Has (a0 := a0))) (h := ?_)
 clear hS; intro w hS
 refine oy hS y_not <| oy hS y_assign <| n_thenN ?_
 refine c_if (ht := fun c1 => ?_) (hf := fun c1 => ?_)
 · replace hF := bt c1 hF
   refine c_seq <| c_region ?_
   iterate 2 (refine oy hS y_assign ?_)
   refine n_thenN ?_
   obtain rfl := osi hF
   exact wp_ret (wr2 hS)
 replace hF := bf c1 hF
 refine c_seq <| c_region <| oy hS y_move <| oy hS y_bin ?_
 refine o_split (ht := fun c2 => ?_) (hf := fun c2 => ?_)
 · replace hF := bt c2 hF
   refine o_gu rfl rfl rfl <| oy hS y_move <| o_gu rfl rfl rfl <| oy hS y_bin <| o_gu rfl rfl rfl ?_
   refine o_split (ht := fun c3 => ?_) (hf := fun c3 => ?_)
   · replace hF := bt c3 hF
     iterate 2 (refine o_sk rfl rfl ?_)
     refine o_gu rfl rfl rfl ?_
     iterate 2 (refine oy hS y_pickT ?_)
     refine oy hS y_assign <| n_thenN ?_
     refine c_if_true (h := ?_)
     refine c_seq <| c_region ?_
     iterate 2 (refine oy hS y_assign ?_)
     refine n_thenN ?_
     obtain rfl := osi hF
     exact wp_ret (wr2 hS)
   replace hF := bf c3 hF
   refine o_gu rfl rfl rfl <| oy hS y_move <| o_gu rfl rfl rfl <| oy hS y_bin <| o_gu rfl rfl rfl <| oy hS y_pickF <| oy hS y_pickT <| oy hS y_assign ?_
   refine n_thenN ?_
   refine c_if (ht := fun c4 => ?_) (hf := fun c4 => ?_)
   · replace hF := bt c4 hF
     refine c_seq <| c_region ?_
     iterate 2 (refine oy hS y_assign ?_)
     refine n_thenN ?_
     obtain rfl := osi hF
     exact wp_ret (wr2 hS)
   replace hF := bf c4 hF
   refine c_seq <| c_region <| oy hS y_move <| oy hS y_bin <| oy hS y_assign <| n_thenN ?_
   refine c_if (ht := fun c5 => ?_) (hf := fun c5 => ?_)
   · replace hF := bt c5 hF
     refine c_seq <| c_region ?_
     iterate 3 (refine oy hS y_move ?_)
     obtain ⟨r6, hr6, hF⟩ := ob hF
     refine o_callS hS func138 rfl rfl (hc := (w_word_logic (a0 := a0) (a1 := a1) (a2 := a2) (hF := hr6))) (h := ?_)
     clear hS; intro w hS
     iterate 2 (refine oy hS y_assign ?_)
     refine n_thenN ?_
     obtain rfl := osi hF
     exact wp_ret (wr2 hS)
   replace hF := bf c5 hF
   refine c_seq <| c_region <| oy hS y_move <| oy hS y_bin <| oy hS y_assign <| n_thenN ?_
   refine c_if (ht := fun c7 => ?_) (hf := fun c7 => ?_)
   · replace hF := bt c7 hF
     refine c_seq <| c_region ?_
     iterate 3 (refine oy hS y_move ?_)
     refine o_callS hS func139 rfl rfl (hc := (w_word_compared (a0 := a0) (a1 := a1) (a2 := a2))) (h := ?_)
     clear hS; intro w hS
     iterate 2 (refine oy hS y_assign ?_)
     refine n_thenN ?_
     obtain rfl := osi hF
     exact wp_ret (wr2 hS)
   replace hF := bf c7 hF
   refine wp_skip <| c_seq <| c_region ?_
   iterate 3 (refine oy hS y_move ?_)
   obtain ⟨r8, hr8, hF⟩ := ob hF
   refine o_callS hS func140 rfl rfl (hc := (w_word_product (a0 := a0) (a1 := a1) (a2 := a2) (hF := hr8))) (h := ?_)
   clear hS; intro w hS
   iterate 2 (refine oy hS y_assign ?_)
   refine n_thenN ?_
   obtain rfl := osi hF
   exact wp_ret (wr2 hS)
 replace hF := bf c2 hF
 iterate 3 (refine o_sk rfl rfl ?_)
 iterate 2 (refine o_sku rfl rfl ?_)
 refine o_sk rfl rfl ?_
 refine oy hS y_pickF <| oy hS y_assign <| n_thenN ?_
 refine c_if_false (h := ?_)
 refine c_seq <| c_region <| oy hS y_move <| oy hS y_bin <| oy hS y_assign <| n_thenN ?_
 refine c_if (ht := fun c9 => ?_) (hf := fun c9 => ?_)
 · replace hF := bt c9 hF
   refine c_seq <| c_region ?_
   iterate 3 (refine oy hS y_move ?_)
   obtain ⟨r10, hr10, hF⟩ := ob hF
   refine o_callS hS func138 rfl rfl (hc := (w_word_logic (a0 := a0) (a1 := a1) (a2 := a2) (hF := hr10))) (h := ?_)
   clear hS; intro w hS
   iterate 2 (refine oy hS y_assign ?_)
   refine n_thenN ?_
   obtain rfl := osi hF
   exact wp_ret (wr2 hS)
 replace hF := bf c9 hF
 refine c_seq <| c_region <| oy hS y_move <| oy hS y_bin <| oy hS y_assign <| n_thenN ?_
 refine c_if (ht := fun c11 => ?_) (hf := fun c11 => ?_)
 · replace hF := bt c11 hF
   refine c_seq <| c_region ?_
   iterate 3 (refine oy hS y_move ?_)
   refine o_callS hS func139 rfl rfl (hc := (w_word_compared (a0 := a0) (a1 := a1) (a2 := a2))) (h := ?_)
   clear hS; intro w hS
   iterate 2 (refine oy hS y_assign ?_)
   refine n_thenN ?_
   obtain rfl := osi hF
   exact wp_ret (wr2 hS)
 replace hF := bf c11 hF
 refine wp_skip <| c_seq <| c_region ?_
 iterate 3 (refine oy hS y_move ?_)
 obtain ⟨r12, hr12, hF⟩ := ob hF
 refine o_callS hS func140 rfl rfl (hc := (w_word_product (a0 := a0) (a1 := a1) (a2 := a2) (hF := hr12))) (h := ?_)
 clear hS; intro w hS
 iterate 2 (refine oy hS y_assign ?_)
 refine n_thenN ?_
 obtain rfl := osi hF
 exact wp_ret (wr2 hS)
theorem w_word_Of {g : Frag} {a0 : Int} {a1 : Int} {a2 : Int} {r : (Int × Int)}  (hF : word_Of a0 a1 a2 = some r) : LCs Tryz.prog 126 #[.int .i64 a0, .int .u32 a1, .int .u32 a2] g (.tuple #[.int .u32 r.1, .int .i64 r.2]) := w_word_Of_  hF

noncomputable def seq_memory (a0 : T_State) (a1 : T_Ins) (a2 : Int) (a3 : Int) : Option (T_State × Int × Int) :=
  bif decide (256 ≤ (IntKind.u32.wrap (a2 + (IntKind.u32.wrap a1.Imm)))) then some (a0, 0, 2) else bif decide (a1.Op = 25) then (set' a0.Mem (IntKind.u32.wrap (a2 + (IntKind.u32.wrap a1.Imm))) a3).bind fun zs11 => (at' zs11 (IntKind.u32.wrap (a2 + (IntKind.u32.wrap a1.Imm)))).bind fun x15 => some ((⟨a0.Regs, zs11, a0.In_, a0.Taken, a0.Out, a0.PC, a0.Stack, a0.Stop, a0.Fly, a0.Jump, a0.Delay⟩ : T_State), x15, 0) else (at' a0.Mem (IntKind.u32.wrap (a2 + (IntKind.u32.wrap a1.Imm)))).bind fun x24 => some (a0, x24, 0)
theorem w_seq_memory_ {g : Frag} {a0 : T_State} {b0_ : Nat} {LB0_ : Own} {a1 : T_Ins} {a2 : Int} {a3 : Int} {r : (T_State × Int × Int)} (h0 : Bx_State b0_ a0 LB0_) (hF : seq_memory a0 a1 a2 a3 = some r) : LC Tryz.prog 127 #[.pointer (some ⟨b0_, 0, none⟩), .agg (enc_Ins a1).toArray, .int .u32 a2, .int .u32 a3] g LB0_ (fun v L => ∃ (LB' : Own), v = .tuple #[.int .u32 r.2.1, .int .i64 r.2.2] ∧ L = (LB' ++ []) ∧ Bx_State b0_ r.1 LB') := by
 obtain ⟨vP0_0_1, vP0_1_5, vP0_2_9, vP0_4_13, vP0_6_17, vP0_8_21, LXP0_0_2, LXP0_1_6, LXP0_2_10, LXP0_4_14, LXP0_6_18, LXP0_8_22, hL0_, hP0_0_3, hP0_1_7, hP0_2_11, hP0_4_15, hP0_6_19, hP0_8_23⟩ := h0
 unfold seq_memory at hF
 refine lc_body (k := 37) (av := [.pointer (some ⟨b0_, 0, none⟩), .agg (enc_Ins a1).toArray, .int .u32 a2, .int .u32 a3]) func127 rfl rfl (h := fun W hS => ?_)
 have hS := hS.own_eq hL0_
 refine c_seq <| c_region ?_
 refine o_boxP (cl := (enc_Ins a1)) rfl hS ?_
 clear hS; intro b1 w hS
 iterate 2 (refine oy hS y_assign ?_)
 refine n_thenN <| c_seq <| c_region <| oy hS y_move <| oy hS (y_field fa_api_Ins_4) <| oy hS (y_load (fun w hS => hS.own (mH)) underlying3 rfl rfl) <| oy hS (y_conv underlying3 underlying40) <| oy hS y_bin ?_
 refine oy hS y_assign <| n_thenN <| c_seq <| c_block <| c_seq <| c_region <| oy hS y_move <| oy hS y_bin ?_
 refine oy hS y_assign <| n_thenN ?_
 refine c_if (ht := fun c2 => ?_) (hf := fun c2 => ?_)
 · replace hF := bt c2 hF
   refine c_seq <| c_region ?_
   iterate 2 (refine oy hS y_assign ?_)
   refine n_thenN ?_
   obtain rfl := osi hF
   refine wp_ret (r_ret (vs := [.int .u32 0, .int .i64 2]) (hS.re (.b (.thereb _ .hb) (.t (.thereb _ .h) (.t (.thereb _ .h) (.t (.thereb _ .h) (.t (.thereb _ .h) (.t (.thereb _ .h) (.t (.thereb _ .h) .n)))))))) (rsC res_tmp (rsC res_tmp rsN)) rfl ⟨_, rfl, (by first | rfl | simp only [aa, ac, al, an]), ⟨_, _, _, _, _, _, _, _, _, _, _, _, rfl, hP0_0_3, hP0_1_7, hP0_2_11, hP0_4_15, hP0_6_19, hP0_8_23⟩⟩)
 replace hF := bf c2 hF
 refine c_seq <| c_region <| oy hS (y_field fa_api_Ins_0) <| oy hS (y_load (fun w hS => hS.own (mH)) underlying3 rfl rfl) <| oy hS y_bin <| oy hS y_assign <| n_thenN ?_
 refine c_if (ht := fun c3 => ?_) (hf := fun c3 => ?_)
 · replace hF := bt c3 hF
   refine c_region <| oy hS y_move <| oy hS y_nilCheck <| oy hS (y_field fa_api_State_1) <| oy hS (y_load (fun w hS => hS.own (mC (mH))) underlying23 rfl rfl) ?_
   iterate 2 (refine oy hS y_move ?_)
   obtain ⟨zs11, hzs11, hF⟩ := ob hF
   obtain ⟨b4, c5, cl6, hv7, ha8, hb9, hl10⟩ := OwT.at_set hzs11 hP0_1_7 enc_len_uint32
   refine oy hS (y_index hv7 ha8 hb9 underlying23 el_uint32.size) ?_
   refine o_storeO (L' := fun X => ((b1, blk (enc_Ins a1) 31) :: ((b0_, blk (cl_State vP0_0_1 vP0_1_5 vP0_2_9 a0.Taken vP0_4_13 a0.PC vP0_6_17 a0.Stop vP0_8_21 a0.Jump a0.Delay) 27) :: (LXP0_0_2 ++ (X ++ (LXP0_2_10 ++ (LXP0_4_14 ++ (LXP0_6_18 ++ (LXP0_8_22 ++ []))))))))) hzs11 hS hP0_1_7 hl10 (fun X => .thereb _ (.thereb _ (.there _ (.here _)))) enc_len_uint32 rfl (by exact sz_uint32) rfl rfl ?_
   clear hS; intro LX12 w h13 hS
   refine n_anyN ?_
   refine c_seq <| c_region <| oy hS y_move <| oy hS y_nilCheck <| oy hS (y_field fa_api_State_1) <| oy hS (y_load (fun w hS => hS.own (mC (mH))) underlying23 rfl rfl) <| oy hS y_move ?_
   obtain ⟨x15, hx15, hF⟩ := ob hF
   obtain ⟨b16, c17, cl18, hv19, ha20, hb21, hl22, hc23⟩ := OwT.at hx15 h13 enc_len_uint32
   refine oy hS (y_index hv19 ha20 hb21 underlying23 el_uint32.size) <| oy hS (y_load (fun w hS => hS.own (mC (mC (mB (mA (mX hl22)))))) underlying40 rfl (hc23 0 _ rfl)) ?_
   iterate 2 (refine oy hS y_assign ?_)
   refine n_thenN ?_
   obtain rfl := osi hF
   refine wp_ret (r_ret (vs := [.int .u32 x15, .int .i64 0]) (hS.re (.b (.thereb _ .hb) (.t (.thereb _ .h) (.t (.thereb _ .h) (.t (.thereb _ .h) (.t (.thereb _ .h) (.t (.thereb _ .h) (.t (.thereb _ .h) .n)))))))) (rsC res_tmp (rsC res_tmp rsN)) rfl ⟨_, rfl, (by first | rfl | simp only [aa, ac, al, an]), ⟨_, _, _, _, _, _, _, _, _, _, _, _, rfl, hP0_0_3, h13, hP0_2_11, hP0_4_15, hP0_6_19, hP0_8_23⟩⟩)
 replace hF := bf c3 hF
 refine wp_skip <| c_seq <| c_region <| oy hS y_move <| oy hS y_nilCheck <| oy hS (y_field fa_api_State_1) <| oy hS (y_load (fun w hS => hS.own (mC (mH))) underlying23 rfl rfl) <| oy hS y_move ?_
 obtain ⟨x24, hx24, hF⟩ := ob hF
 obtain ⟨b25, c26, cl27, hv28, ha29, hb30, hl31, hc32⟩ := OwT.at hx24 hP0_1_7 enc_len_uint32
 refine oy hS (y_index hv28 ha29 hb30 underlying23 el_uint32.size) <| oy hS (y_load (fun w hS => hS.own (mC (mC (mB (mA (mX hl31)))))) underlying40 rfl (hc32 0 _ rfl)) ?_
 iterate 2 (refine oy hS y_assign ?_)
 refine n_thenN ?_
 obtain rfl := osi hF
 refine wp_ret (r_ret (vs := [.int .u32 x24, .int .i64 0]) (hS.re (.b (.thereb _ .hb) (.t (.thereb _ .h) (.t (.thereb _ .h) (.t (.thereb _ .h) (.t (.thereb _ .h) (.t (.thereb _ .h) (.t (.thereb _ .h) .n)))))))) (rsC res_tmp (rsC res_tmp rsN)) rfl ⟨_, rfl, (by first | rfl | simp only [aa, ac, al, an]), ⟨_, _, _, _, _, _, _, _, _, _, _, _, rfl, hP0_0_3, hP0_1_7, hP0_2_11, hP0_4_15, hP0_6_19, hP0_8_23⟩⟩)
theorem w_seq_memory {g : Frag} {a0 : T_State} {b0_ : Nat} {LB0_ : Own} {a1 : T_Ins} {a2 : Int} {a3 : Int} {r : (T_State × Int × Int)} (h0 : Bx_State b0_ a0 LB0_) (hF : seq_memory a0 a1 a2 a3 = some r) : LC Tryz.prog 127 #[.pointer (some ⟨b0_, 0, none⟩), .agg (enc_Ins a1).toArray, .int .u32 a2, .int .u32 a3] g LB0_ (fun v L => ∃ (LB' : Own), v = .tuple #[.int .u32 r.2.1, .int .i64 r.2.2] ∧ L = (LB' ++ []) ∧ Bx_State b0_ r.1 LB') := w_seq_memory_ h0 hF

noncomputable def seq_Act (a0 : T_State) (a1 : T_Ins) (a2 : Int) (a3 : Int) : Option (T_State × Int × Int) :=
  bif (pair_Has a1.Op) then (pair_Of a1.Op a2 a3).bind fun r3 => some (a0, r3.1, 0) else bif (word_Has a1.Op) then (word_Of a1.Op a2 a3).bind fun r5 => bif decide (r5.2 ≠ 0) then some (a0, 0, 3) else some (a0, r5.1, 0) else bif decide (a1.Op = 22) then some (a0, IntKind.u32.wrap (a2 + (IntKind.u32.wrap a1.Imm)), 0) else bif decide (a1.Op = 23) then some (a0, IntKind.u32.wrap a1.Imm, 0) else bif decide (a1.Op = 24) then (seq_memory a0 a1 a2 a3).bind fun r10 => some (r10.1, r10.2.1, r10.2.2) else bif decide (a1.Op = 25) then (seq_memory a0 a1 a2 a3).bind fun r41 => some (r41.1, r41.2.1, r41.2.2) else bif decide (a1.Op = 26) then bif decide (a0.Taken < (a0.In_.length : Int)) then (at' a0.In_ a0.Taken).bind fun x73 => some ((⟨a0.Regs, a0.Mem, a0.In_, IntKind.i64.wrap (a0.Taken + 1), a0.Out, a0.PC, a0.Stack, a0.Stop, a0.Fly, a0.Jump, a0.Delay⟩ : T_State), x73, 0) else bif decide (a1.Op = 27) then (app' a0.Out ([a2] : List Int)).bind fun zs90 => some ((⟨a0.Regs, a0.Mem, a0.In_, a0.Taken, zs90, a0.PC, a0.Stack, a0.Stop, a0.Fly, a0.Jump, a0.Delay⟩ : T_State), 0, 0) else bif decide (a1.Op = 33) then some (a0, 0, 1) else some (a0, 0, 0) else bif decide (a1.Op = 27) then (app' a0.Out ([a2] : List Int)).bind fun zs100 => some ((⟨a0.Regs, a0.Mem, a0.In_, a0.Taken, zs100, a0.PC, a0.Stack, a0.Stop, a0.Fly, a0.Jump, a0.Delay⟩ : T_State), 0, 0) else bif decide (a1.Op = 33) then some (a0, 0, 1) else some (a0, 0, 0)
theorem w_seq_Act_ {g : Frag} {a0 : T_State} {b0_ : Nat} {LB0_ : Own} {a1 : T_Ins} {a2 : Int} {a3 : Int} {r : (T_State × Int × Int)} (h0 : Bx_State b0_ a0 LB0_) (hF : seq_Act a0 a1 a2 a3 = some r) : LC Tryz.prog 98 #[.pointer (some ⟨b0_, 0, none⟩), .agg (enc_Ins a1).toArray, .int .u32 a2, .int .u32 a3] g LB0_ (fun v L => ∃ (LB' : Own), v = .tuple #[.int .u32 r.2.1, .int .i64 r.2.2] ∧ L = (LB' ++ []) ∧ Bx_State b0_ r.1 LB') := by
 obtain ⟨vP0_0_1, vP0_1_5, vP0_2_9, vP0_4_13, vP0_6_17, vP0_8_21, LXP0_0_2, LXP0_1_6, LXP0_2_10, LXP0_4_14, LXP0_6_18, LXP0_8_22, hL0_, hP0_0_3, hP0_1_7, hP0_2_11, hP0_4_15, hP0_6_19, hP0_8_23⟩ := h0
 unfold seq_Act at hF
 refine lc_body (k := 121) (av := [.pointer (some ⟨b0_, 0, none⟩), .agg (enc_Ins a1).toArray, .int .u32 a2, .int .u32 a3]) func98 rfl rfl (h := fun W hS => ?_)
 have hS := hS.own_eq hL0_
 refine c_seq <| c_region ?_
 refine o_boxP (cl := (enc_Ins a1)) rfl hS ?_
 clear hS; intro b1 w hS
 iterate 2 (refine oy hS y_assign ?_)
 refine n_thenN <| c_seq <| c_block <| c_seq <| c_region <| oy hS (y_field fa_api_Ins_0) <| oy hS (y_load (fun w hS => hS.own (mH)) underlying3 rfl rfl) ?_
 refine o_callS hS func123 rfl rfl (hc := (w_pair_Has (a0 := a1.Op))) (h := ?_)
 clear hS; intro w hS
 refine oy hS y_assign <| n_thenN ?_
 refine c_if (ht := fun c2 => ?_) (hf := fun c2 => ?_)
 · replace hF := bt c2 hF
   refine c_region <| oy hS (y_field fa_api_Ins_0) <| oy hS (y_load (fun w hS => hS.own (mH)) underlying3 rfl rfl) ?_
   iterate 2 (refine oy hS y_move ?_)
   obtain ⟨r3, hr3, hF⟩ := ob hF
   refine o_callS hS func124 rfl rfl (hc := (w_pair_Of (a0 := a1.Op) (a1 := a2) (a2 := a3) (hF := hr3))) (h := ?_)
   clear hS; intro w hS
   refine oy hS y_move ?_
   iterate 2 (refine oy hS (y_extract rfl) ?_)
   refine oy hS y_assign ?_
   refine n_anyN ?_
   refine c_seq <| c_region <| oy hS y_move ?_
   iterate 2 (refine oy hS y_assign ?_)
   refine n_thenN ?_
   obtain rfl := osi hF
   refine wp_ret (r_ret (vs := [.int .u32 r3.1, .int .i64 0]) (hS.re (.b (.thereb _ .hb) (.t (.thereb _ .h) (.t (.thereb _ .h) (.t (.thereb _ .h) (.t (.thereb _ .h) (.t (.thereb _ .h) (.t (.thereb _ .h) .n)))))))) (rsC res_tmp (rsC res_tmp rsN)) rfl ⟨_, rfl, (by first | rfl | simp only [aa, ac, al, an]), ⟨_, _, _, _, _, _, _, _, _, _, _, _, rfl, hP0_0_3, hP0_1_7, hP0_2_11, hP0_4_15, hP0_6_19, hP0_8_23⟩⟩)
 replace hF := bf c2 hF
 refine c_seq <| c_region <| oy hS (y_field fa_api_Ins_0) <| oy hS (y_load (fun w hS => hS.own (mH)) underlying3 rfl rfl) ?_
 refine o_callS hS func125 rfl rfl (hc := (w_word_Has (a0 := a1.Op))) (h := ?_)
 clear hS; intro w hS
 refine oy hS y_assign <| n_thenN ?_
 refine c_if (ht := fun c4 => ?_) (hf := fun c4 => ?_)
 · replace hF := bt c4 hF
   refine c_seq <| c_region <| oy hS y_assign <| n_thenN <| c_seq <| c_region <| oy hS (y_field fa_api_Ins_0) <| oy hS (y_load (fun w hS => hS.own (mH)) underlying3 rfl rfl) ?_
   iterate 2 (refine oy hS y_move ?_)
   obtain ⟨r5, hr5, hF⟩ := ob hF
   refine o_callS hS func126 rfl rfl (hc := (w_word_Of (a0 := a1.Op) (a1 := a2) (a2 := a3) (hF := hr5))) (h := ?_)
   clear hS; intro w hS
   refine oy hS y_move ?_
   iterate 2 (refine oy hS (y_extract rfl) ?_)
   iterate 2 (refine oy hS y_assign ?_)
   refine n_thenN <| c_seq <| c_region <| oy hS y_move <| oy hS y_bin <| n_thenN ?_
   refine c_if (ht := fun c6 => ?_) (hf := fun c6 => ?_)
   · replace hF := bt c6 hF
     refine c_seq <| c_region ?_
     iterate 2 (refine oy hS y_assign ?_)
     refine n_thenN ?_
     obtain rfl := osi hF
     refine wp_ret (r_ret (vs := [.int .u32 0, .int .i64 3]) (hS.re (.b (.thereb _ .hb) (.t (.thereb _ .h) (.t (.thereb _ .h) (.t (.thereb _ .h) (.t (.thereb _ .h) (.t (.thereb _ .h) (.t (.thereb _ .h) .n)))))))) (rsC res_tmp (rsC res_tmp rsN)) rfl ⟨_, rfl, (by first | rfl | simp only [aa, ac, al, an]), ⟨_, _, _, _, _, _, _, _, _, _, _, _, rfl, hP0_0_3, hP0_1_7, hP0_2_11, hP0_4_15, hP0_6_19, hP0_8_23⟩⟩)
   replace hF := bf c6 hF
   refine wp_skip <| c_seq <| c_region <| oy hS y_move ?_
   iterate 2 (refine oy hS y_assign ?_)
   refine n_thenN ?_
   obtain rfl := osi hF
   refine wp_ret (r_ret (vs := [.int .u32 r5.1, .int .i64 0]) (hS.re (.b (.thereb _ .hb) (.t (.thereb _ .h) (.t (.thereb _ .h) (.t (.thereb _ .h) (.t (.thereb _ .h) (.t (.thereb _ .h) (.t (.thereb _ .h) .n)))))))) (rsC res_tmp (rsC res_tmp rsN)) rfl ⟨_, rfl, (by first | rfl | simp only [aa, ac, al, an]), ⟨_, _, _, _, _, _, _, _, _, _, _, _, rfl, hP0_0_3, hP0_1_7, hP0_2_11, hP0_4_15, hP0_6_19, hP0_8_23⟩⟩)
 replace hF := bf c4 hF
 refine c_seq <| c_region <| oy hS (y_field fa_api_Ins_0) <| oy hS (y_load (fun w hS => hS.own (mH)) underlying3 rfl rfl) <| oy hS y_bin <| oy hS y_assign <| n_thenN ?_
 refine c_if (ht := fun c7 => ?_) (hf := fun c7 => ?_)
 · replace hF := bt c7 hF
   refine c_region <| oy hS y_move <| oy hS (y_field fa_api_Ins_4) <| oy hS (y_load (fun w hS => hS.own (mH)) underlying3 rfl rfl) <| oy hS (y_conv underlying3 underlying40) <| oy hS y_bin <| oy hS y_assign ?_
   refine n_anyN ?_
   refine c_seq <| c_region <| oy hS y_move ?_
   iterate 2 (refine oy hS y_assign ?_)
   refine n_thenN ?_
   obtain rfl := osi hF
   refine wp_ret (r_ret (vs := [.int .u32 (IntKind.u32.wrap (a2 + (IntKind.u32.wrap a1.Imm))), .int .i64 0]) (hS.re (.b (.thereb _ .hb) (.t (.thereb _ .h) (.t (.thereb _ .h) (.t (.thereb _ .h) (.t (.thereb _ .h) (.t (.thereb _ .h) (.t (.thereb _ .h) .n)))))))) (rsC res_tmp (rsC res_tmp rsN)) rfl ⟨_, rfl, (by first | rfl | simp only [aa, ac, al, an]), ⟨_, _, _, _, _, _, _, _, _, _, _, _, rfl, hP0_0_3, hP0_1_7, hP0_2_11, hP0_4_15, hP0_6_19, hP0_8_23⟩⟩)
 replace hF := bf c7 hF
 refine c_seq <| c_region <| oy hS (y_field fa_api_Ins_0) <| oy hS (y_load (fun w hS => hS.own (mH)) underlying3 rfl rfl) <| oy hS y_bin <| oy hS y_assign <| n_thenN ?_
 refine c_if (ht := fun c8 => ?_) (hf := fun c8 => ?_)
 · replace hF := bt c8 hF
   refine c_region <| oy hS (y_field fa_api_Ins_4) <| oy hS (y_load (fun w hS => hS.own (mH)) underlying3 rfl rfl) <| oy hS (y_conv underlying3 underlying40) <| oy hS y_assign ?_
   refine n_anyN ?_
   refine c_seq <| c_region <| oy hS y_move ?_
   iterate 2 (refine oy hS y_assign ?_)
   refine n_thenN ?_
   obtain rfl := osi hF
   refine wp_ret (r_ret (vs := [.int .u32 (IntKind.u32.wrap a1.Imm), .int .i64 0]) (hS.re (.b (.thereb _ .hb) (.t (.thereb _ .h) (.t (.thereb _ .h) (.t (.thereb _ .h) (.t (.thereb _ .h) (.t (.thereb _ .h) (.t (.thereb _ .h) .n)))))))) (rsC res_tmp (rsC res_tmp rsN)) rfl ⟨_, rfl, (by first | rfl | simp only [aa, ac, al, an]), ⟨_, _, _, _, _, _, _, _, _, _, _, _, rfl, hP0_0_3, hP0_1_7, hP0_2_11, hP0_4_15, hP0_6_19, hP0_8_23⟩⟩)
 replace hF := bf c8 hF
 refine c_seq <| c_region <| oy hS (y_field fa_api_Ins_0) <| oy hS (y_load (fun w hS => hS.own (mH)) underlying3 rfl rfl) <| oy hS y_bin ?_
 refine o_split (ht := fun c9 => ?_) (hf := fun c9 => ?_)
 · replace hF := bt c9 hF
   iterate 3 (refine o_sk rfl rfl ?_)
   refine oy hS y_pickT <| oy hS y_assign <| n_thenN ?_
   refine c_if_true (h := ?_)
   refine c_seq <| c_region <| oy hS y_move ?_
   refine oy hS (y_loadW (fun w hS => hS.own (mH)) underlying31 rfl (by exact sz_api_Ins)) ?_
   iterate 2 (refine oy hS y_move ?_)
   have hS := hS.re (.b (.thereb _ .hb) (.t (.thereb _ .h) (.t (.thereb _ .h) (.t (.thereb _ .h) (.t (.thereb _ .h) (.t (.thereb _ .h) (.t (.thereb _ .h) (.b .hb .n))))))))
   have hS2 := hS.spl (.cons _ (.app _ (.app _ (.app _ (.app _ (.app _ (.app _ (.nil _))))))))
   obtain ⟨r10, hr10, hF⟩ := ob hF
   refine o_call hS2 func127 rfl rfl (hc := (w_seq_memory (a0 := a0) (a1 := a1) (a2 := a2) (a3 := a3) (h0 := (⟨_, _, _, _, _, _, _, _, _, _, _, _, rfl, hP0_0_3, hP0_1_7, hP0_2_11, hP0_4_15, hP0_6_19, hP0_8_23⟩ : Bx_State b0_ a0 ((b0_, blk (cl_State vP0_0_1 vP0_1_5 vP0_2_9 a0.Taken vP0_4_13 a0.PC vP0_6_17 a0.Stop vP0_8_21 a0.Jump a0.Delay) 27) :: (LXP0_0_2 ++ (LXP0_1_6 ++ (LXP0_2_10 ++ (LXP0_4_14 ++ (LXP0_6_18 ++ (LXP0_8_22 ++ []))))))))) (hF := hr10))) (h := ?_)
   clear hS; intro v11 LY12 w hS hr13
   clear hS2
   obtain ⟨LB14, rfl, rfl, hb15⟩ := hr13
   obtain ⟨vB_0_16, vB_1_20, vB_2_24, vB_4_28, vB_6_32, vB_8_36, LXB_0_17, LXB_1_21, LXB_2_25, LXB_4_29, LXB_6_33, LXB_8_37, rfl, hB_0_18, hB_1_22, hB_2_26, hB_4_30, hB_6_34, hB_8_38⟩ := hb15
   simp only [aa, ac, al] at hS
   iterate 2 (refine oy hS (y_extract rfl) ?_)
   iterate 2 (refine oy hS y_assign ?_)
   refine n_thenN ?_
   obtain rfl := osi hF
   refine wp_ret (r_ret (vs := [.int .u32 r10.2.1, .int .i64 r10.2.2]) (hS.re (.b .hb (.t .h (.t .h (.t .h (.t .h (.t .h (.t .h .n)))))))) (rsC res_tmp (rsC res_tmp rsN)) rfl ⟨_, rfl, (by first | rfl | simp only [aa, ac, al, an]), ⟨_, _, _, _, _, _, _, _, _, _, _, _, rfl, hB_0_18, hB_1_22, hB_2_26, hB_4_30, hB_6_34, hB_8_38⟩⟩)
 replace hF := bf c9 hF
 refine o_gu rfl rfl rfl <| oy hS (y_field fa_api_Ins_0) <| o_gu rfl rfl rfl <| oy hS (y_load (fun w hS => hS.own (mH)) underlying3 rfl rfl) <| o_gu rfl rfl rfl <| oy hS y_bin <| oy hS y_pickF <| oy hS y_assign ?_
 refine n_thenN ?_
 refine c_if (ht := fun c40 => ?_) (hf := fun c40 => ?_)
 · replace hF := bt c40 hF
   refine c_seq <| c_region <| oy hS y_move ?_
   refine oy hS (y_loadW (fun w hS => hS.own (mH)) underlying31 rfl (by exact sz_api_Ins)) ?_
   iterate 2 (refine oy hS y_move ?_)
   have hS := hS.re (.b (.thereb _ .hb) (.t (.thereb _ .h) (.t (.thereb _ .h) (.t (.thereb _ .h) (.t (.thereb _ .h) (.t (.thereb _ .h) (.t (.thereb _ .h) (.b .hb .n))))))))
   have hS2 := hS.spl (.cons _ (.app _ (.app _ (.app _ (.app _ (.app _ (.app _ (.nil _))))))))
   obtain ⟨r41, hr41, hF⟩ := ob hF
   refine o_call hS2 func127 rfl rfl (hc := (w_seq_memory (a0 := a0) (a1 := a1) (a2 := a2) (a3 := a3) (h0 := (⟨_, _, _, _, _, _, _, _, _, _, _, _, rfl, hP0_0_3, hP0_1_7, hP0_2_11, hP0_4_15, hP0_6_19, hP0_8_23⟩ : Bx_State b0_ a0 ((b0_, blk (cl_State vP0_0_1 vP0_1_5 vP0_2_9 a0.Taken vP0_4_13 a0.PC vP0_6_17 a0.Stop vP0_8_21 a0.Jump a0.Delay) 27) :: (LXP0_0_2 ++ (LXP0_1_6 ++ (LXP0_2_10 ++ (LXP0_4_14 ++ (LXP0_6_18 ++ (LXP0_8_22 ++ []))))))))) (hF := hr41))) (h := ?_)
   clear hS; intro v42 LY43 w hS hr44
   clear hS2
   obtain ⟨LB45, rfl, rfl, hb46⟩ := hr44
   obtain ⟨vB_0_47, vB_1_51, vB_2_55, vB_4_59, vB_6_63, vB_8_67, LXB_0_48, LXB_1_52, LXB_2_56, LXB_4_60, LXB_6_64, LXB_8_68, rfl, hB_0_49, hB_1_53, hB_2_57, hB_4_61, hB_6_65, hB_8_69⟩ := hb46
   simp only [aa, ac, al] at hS
   iterate 2 (refine oy hS (y_extract rfl) ?_)
   iterate 2 (refine oy hS y_assign ?_)
   refine n_thenN ?_
   obtain rfl := osi hF
   refine wp_ret (r_ret (vs := [.int .u32 r41.2.1, .int .i64 r41.2.2]) (hS.re (.b .hb (.t .h (.t .h (.t .h (.t .h (.t .h (.t .h .n)))))))) (rsC res_tmp (rsC res_tmp rsN)) rfl ⟨_, rfl, (by first | rfl | simp only [aa, ac, al, an]), ⟨_, _, _, _, _, _, _, _, _, _, _, _, rfl, hB_0_49, hB_1_53, hB_2_57, hB_4_61, hB_6_65, hB_8_69⟩⟩)
 replace hF := bf c40 hF
 refine c_seq ?_
 refine c_quiet (by kernel_rfl) (by kernel_rfl) hS ?_
 refine qy (y_field fa_api_Ins_0) <| qy (y_load (fun w hS => hS.own (mH)) underlying3 rfl rfl) <| qy y_bin ?_
 refine q_split (ht := fun c71 => ?_) (hf := fun c71 => ?_)
 · replace hF := bt c71 hF
   refine q_gu rfl rfl rfl ?_
   refine qy y_move ?_
   refine q_gu rfl rfl rfl ?_
   refine qy y_nilCheck ?_
   refine q_gu rfl rfl rfl ?_
   refine qy (y_field fa_api_State_3) ?_
   refine q_gu rfl rfl rfl ?_
   refine qy (y_load (fun w hS => hS.own (mC (mH))) underlying3 rfl rfl) ?_
   refine q_gu rfl rfl rfl ?_
   refine qy y_move ?_
   refine q_gu rfl rfl rfl ?_
   refine qy y_nilCheck ?_
   refine q_gu rfl rfl rfl ?_
   refine qy (y_field fa_api_State_2) ?_
   refine q_gu rfl rfl rfl ?_
   refine qy (y_load (fun w hS => hS.own (mC (mH))) underlying23 rfl rfl) ?_
   refine q_gu rfl rfl rfl ?_
   refine qy (y_lenO hP0_2_11 underlying23) ?_
   refine q_gu rfl rfl rfl ?_
   refine qy y_bin <| qy y_pickT <| qy y_assign ?_
   refine q_nilN (h := ?_)
   clear hS; intro w hS
   refine c_if (ht := fun c72 => ?_) (hf := fun c72 => ?_)
   · replace hF := bt c72 hF
     refine c_seq ?_
     refine c_quiet (by kernel_rfl) (by kernel_rfl) hS ?_
     refine qy y_move <| qy y_nilCheck <| qy (y_field fa_api_State_2) <| qy (y_load (fun w hS => hS.own (mC (mH))) underlying23 rfl rfl) <| qy y_move <| qy y_nilCheck <| qy (y_field fa_api_State_3) <| qy (y_load (fun w hS => hS.own (mC (mH))) underlying3 rfl rfl) ?_
     obtain ⟨x73, hx73, hF⟩ := ob hF
     obtain ⟨b74, c75, cl76, hv77, ha78, hb79, hl80, hc81⟩ := OwT.at hx73 hP0_2_11 enc_len_uint32
     refine qy (y_index hv77 ha78 hb79 underlying23 el_uint32.size) <| qy (y_load (fun w hS => hS.own (mC (mC (mB (mB (mA (mX hl80))))))) underlying40 rfl (hc81 0 _ rfl)) <| qy y_assign ?_
     refine q_nilN (h := ?_)
     clear hS; intro w hS
     refine c_region <| oy hS y_move <| oy hS y_nilCheck <| oy hS (y_field fa_api_State_3) <| oy hS (y_load (fun w hS => hS.own (mC (mH))) underlying3 rfl rfl) <| oy hS y_bin <| oy hS y_nilCheck <| oy hS (y_field fa_api_State_3) ?_
     refine o_storeA1 (o := 3) (cl' := (cl_State vP0_0_1 vP0_1_5 vP0_2_9 (IntKind.i64.wrap (a0.Taken + 1)) vP0_4_13 a0.PC vP0_6_17 a0.Stop vP0_8_21 a0.Jump a0.Delay)) hS (by kernel_rfl) (by exact Nat.le_of_ble_eq_true rfl) (Upd.there _ (Upd.here _)) (by exact sz_int) rfl rfl ?_
     clear hS; intro w hS
     refine n_anyN ?_
     refine c_seq <| c_region <| oy hS y_move ?_
     iterate 2 (refine oy hS y_assign ?_)
     refine n_thenN ?_
     obtain rfl := osi hF
     refine wp_ret (r_ret (vs := [.int .u32 x73, .int .i64 0]) (hS.re (.b (.thereb _ .hb) (.t (.thereb _ .h) (.t (.thereb _ .h) (.t (.thereb _ .h) (.t (.thereb _ .h) (.t (.thereb _ .h) (.t (.thereb _ .h) .n)))))))) (rsC res_tmp (rsC res_tmp rsN)) rfl ⟨_, rfl, (by first | rfl | simp only [aa, ac, al, an]), ⟨_, _, _, _, _, _, _, _, _, _, _, _, rfl, hP0_0_3, hP0_1_7, hP0_2_11, hP0_4_15, hP0_6_19, hP0_8_23⟩⟩)
   replace hF := bf c72 hF
   refine c_seq <| c_region <| oy hS (y_field fa_api_Ins_0) <| oy hS (y_load (fun w hS => hS.own (mH)) underlying3 rfl rfl) <| oy hS y_bin <| oy hS y_assign <| n_thenN ?_
   refine c_if (ht := fun c82 => ?_) (hf := fun c82 => ?_)
   · replace hF := bt c82 hF
     refine c_region ?_
     iterate 2 (refine oy hS y_move ?_)
     refine oy hS y_nilCheck <| oy hS (y_field fa_api_State_4) <| oy hS (y_load (fun w hS => hS.own (mC (mH))) underlying23 rfl rfl) <| oy hS y_move ?_
     refine o_buildT val_uint32 ([a2] : List Int) hS el_uint32 (fun _ => rfl) enc_len_uint32 (by decide) rfl (by decide) (hp := rfl) (h := ?_)
     clear hS; intro b83 w hS h84
     have hS : St W g LB0_ ([(b83, blk (([a2] : List Int).flatMap enc_uint32) 40)] ++ ((b1, blk (enc_Ins a1) 31) :: ((b0_, blk (cl_State vP0_0_1 vP0_1_5 vP0_2_9 a0.Taken vP0_4_13 a0.PC vP0_6_17 a0.Stop vP0_8_21 a0.Jump a0.Delay) 27) :: (LXP0_0_2 ++ (LXP0_1_6 ++ (LXP0_2_10 ++ (LXP0_4_14 ++ (LXP0_6_18 ++ (LXP0_8_22 ++ []))))))))) w := hS
     obtain ⟨zs90, hzs90, hF⟩ := ob hF
     have hS := hS.re (.t .h (.t (.thereb _ (.thereb _ (.there _ (.there _ (.there _ .h))))) (.b .hb (.b .hb (.t .h (.t .h (.t .h (.t .h (.t .h .n)))))))))
     refine o_appPn (ys := ([a2] : List Int)) (LX := LXP0_4_14) hzs90 hS el_uint32 hP0_4_15 rfl enc_len_uint32 (enc_ones_uint32 _) (by decide) ?_
     clear hS; intro v86 LX87 w h88 hS
     refine oy hS y_nilCheck <| oy hS (y_field fa_api_State_4) ?_
     have hS := hS.re (.b (.there _ (.thereb _ .hb)) (.t .h (.b .hb (.t .h (.t .h (.t .h (.t .h (.t .h .n))))))))
     refine o_storeA1 (o := 4) (cl' := (cl_State vP0_0_1 vP0_1_5 vP0_2_9 a0.Taken v86 a0.PC vP0_6_17 a0.Stop vP0_8_21 a0.Jump a0.Delay)) hS (by kernel_rfl) (by exact Nat.le_of_ble_eq_true rfl) (Upd.here _) (by exact sz_S_uint32) (h88).one (h88).cell ?_
     clear hS; intro w hS
     refine n_anyN ?_
     refine c_seq <| c_region <| oy hS y_move ?_
     iterate 2 (refine oy hS y_assign ?_)
     refine n_thenN ?_
     obtain rfl := osi hF
     refine wp_ret (r_ret (vs := [.int .u32 0, .int .i64 0]) (hS.re (.b .hb (.t (.there _ (.thereb _ .h)) (.t (.there _ (.thereb _ .h)) (.t (.there _ (.thereb _ .h)) (.t .h (.t (.thereb _ .h) (.t (.thereb _ .h) .n)))))))) (rsC res_tmp (rsC res_tmp rsN)) rfl ⟨_, rfl, (by first | rfl | simp only [aa, ac, al, an]), ⟨_, _, _, _, _, _, _, _, _, _, _, _, rfl, hP0_0_3, hP0_1_7, hP0_2_11, h88, hP0_6_19, hP0_8_23⟩⟩)
   replace hF := bf c82 hF
   refine c_seq <| c_region <| oy hS (y_field fa_api_Ins_0) <| oy hS (y_load (fun w hS => hS.own (mH)) underlying3 rfl rfl) <| oy hS y_bin <| oy hS y_assign <| n_thenN ?_
   refine c_if (ht := fun c91 => ?_) (hf := fun c91 => ?_)
   · replace hF := bt c91 hF
     refine c_seq <| c_region ?_
     iterate 2 (refine oy hS y_assign ?_)
     refine n_thenN ?_
     obtain rfl := osi hF
     refine wp_ret (r_ret (vs := [.int .u32 0, .int .i64 1]) (hS.re (.b (.thereb _ .hb) (.t (.thereb _ .h) (.t (.thereb _ .h) (.t (.thereb _ .h) (.t (.thereb _ .h) (.t (.thereb _ .h) (.t (.thereb _ .h) .n)))))))) (rsC res_tmp (rsC res_tmp rsN)) rfl ⟨_, rfl, (by first | rfl | simp only [aa, ac, al, an]), ⟨_, _, _, _, _, _, _, _, _, _, _, _, rfl, hP0_0_3, hP0_1_7, hP0_2_11, hP0_4_15, hP0_6_19, hP0_8_23⟩⟩)
   replace hF := bf c91 hF
   refine wp_skip <| c_seq <| c_region <| oy hS y_move ?_
   iterate 2 (refine oy hS y_assign ?_)
   refine n_thenN ?_
   obtain rfl := osi hF
   refine wp_ret (r_ret (vs := [.int .u32 0, .int .i64 0]) (hS.re (.b (.thereb _ .hb) (.t (.thereb _ .h) (.t (.thereb _ .h) (.t (.thereb _ .h) (.t (.thereb _ .h) (.t (.thereb _ .h) (.t (.thereb _ .h) .n)))))))) (rsC res_tmp (rsC res_tmp rsN)) rfl ⟨_, rfl, (by first | rfl | simp only [aa, ac, al, an]), ⟨_, _, _, _, _, _, _, _, _, _, _, _, rfl, hP0_0_3, hP0_1_7, hP0_2_11, hP0_4_15, hP0_6_19, hP0_8_23⟩⟩)
 replace hF := bf c71 hF
 iterate 10 (refine q_sk rfl rfl ?_)
 refine qy y_pickF <| qy y_assign ?_
 refine q_nilN (h := ?_)
 clear hS; intro w hS
 refine c_if_false (h := ?_)
 refine c_seq <| c_region <| oy hS (y_field fa_api_Ins_0) <| oy hS (y_load (fun w hS => hS.own (mH)) underlying3 rfl rfl) <| oy hS y_bin <| oy hS y_assign <| n_thenN ?_
 refine c_if (ht := fun c92 => ?_) (hf := fun c92 => ?_)
 · replace hF := bt c92 hF
   refine c_region ?_
   iterate 2 (refine oy hS y_move ?_)
   refine oy hS y_nilCheck <| oy hS (y_field fa_api_State_4) <| oy hS (y_load (fun w hS => hS.own (mC (mH))) underlying23 rfl rfl) <| oy hS y_move ?_
   refine o_buildT val_uint32 ([a2] : List Int) hS el_uint32 (fun _ => rfl) enc_len_uint32 (by decide) rfl (by decide) (hp := rfl) (h := ?_)
   clear hS; intro b93 w hS h94
   have hS : St W g LB0_ ([(b93, blk (([a2] : List Int).flatMap enc_uint32) 40)] ++ ((b1, blk (enc_Ins a1) 31) :: ((b0_, blk (cl_State vP0_0_1 vP0_1_5 vP0_2_9 a0.Taken vP0_4_13 a0.PC vP0_6_17 a0.Stop vP0_8_21 a0.Jump a0.Delay) 27) :: (LXP0_0_2 ++ (LXP0_1_6 ++ (LXP0_2_10 ++ (LXP0_4_14 ++ (LXP0_6_18 ++ (LXP0_8_22 ++ []))))))))) w := hS
   obtain ⟨zs100, hzs100, hF⟩ := ob hF
   have hS := hS.re (.t .h (.t (.thereb _ (.thereb _ (.there _ (.there _ (.there _ .h))))) (.b .hb (.b .hb (.t .h (.t .h (.t .h (.t .h (.t .h .n)))))))))
   refine o_appPn (ys := ([a2] : List Int)) (LX := LXP0_4_14) hzs100 hS el_uint32 hP0_4_15 rfl enc_len_uint32 (enc_ones_uint32 _) (by decide) ?_
   clear hS; intro v96 LX97 w h98 hS
   refine oy hS y_nilCheck <| oy hS (y_field fa_api_State_4) ?_
   have hS := hS.re (.b (.there _ (.thereb _ .hb)) (.t .h (.b .hb (.t .h (.t .h (.t .h (.t .h (.t .h .n))))))))
   refine o_storeA1 (o := 4) (cl' := (cl_State vP0_0_1 vP0_1_5 vP0_2_9 a0.Taken v96 a0.PC vP0_6_17 a0.Stop vP0_8_21 a0.Jump a0.Delay)) hS (by kernel_rfl) (by exact Nat.le_of_ble_eq_true rfl) (Upd.here _) (by exact sz_S_uint32) (h98).one (h98).cell ?_
   clear hS; intro w hS
   refine n_anyN ?_
   refine c_seq <| c_region <| oy hS y_move ?_
   iterate 2 (refine oy hS y_assign ?_)
   refine n_thenN ?_
   obtain rfl := osi hF
   refine wp_ret (r_ret (vs := [.int .u32 0, .int .i64 0]) (hS.re (.b .hb (.t (.there _ (.thereb _ .h)) (.t (.there _ (.thereb _ .h)) (.t (.there _ (.thereb _ .h)) (.t .h (.t (.thereb _ .h) (.t (.thereb _ .h) .n)))))))) (rsC res_tmp (rsC res_tmp rsN)) rfl ⟨_, rfl, (by first | rfl | simp only [aa, ac, al, an]), ⟨_, _, _, _, _, _, _, _, _, _, _, _, rfl, hP0_0_3, hP0_1_7, hP0_2_11, h98, hP0_6_19, hP0_8_23⟩⟩)
 replace hF := bf c92 hF
 refine c_seq <| c_region <| oy hS (y_field fa_api_Ins_0) <| oy hS (y_load (fun w hS => hS.own (mH)) underlying3 rfl rfl) <| oy hS y_bin <| oy hS y_assign <| n_thenN ?_
 refine c_if (ht := fun c101 => ?_) (hf := fun c101 => ?_)
 · replace hF := bt c101 hF
   refine c_seq <| c_region ?_
   iterate 2 (refine oy hS y_assign ?_)
   refine n_thenN ?_
   obtain rfl := osi hF
   refine wp_ret (r_ret (vs := [.int .u32 0, .int .i64 1]) (hS.re (.b (.thereb _ .hb) (.t (.thereb _ .h) (.t (.thereb _ .h) (.t (.thereb _ .h) (.t (.thereb _ .h) (.t (.thereb _ .h) (.t (.thereb _ .h) .n)))))))) (rsC res_tmp (rsC res_tmp rsN)) rfl ⟨_, rfl, (by first | rfl | simp only [aa, ac, al, an]), ⟨_, _, _, _, _, _, _, _, _, _, _, _, rfl, hP0_0_3, hP0_1_7, hP0_2_11, hP0_4_15, hP0_6_19, hP0_8_23⟩⟩)
 replace hF := bf c101 hF
 refine wp_skip <| c_seq <| c_region <| oy hS y_move ?_
 iterate 2 (refine oy hS y_assign ?_)
 refine n_thenN ?_
 obtain rfl := osi hF
 refine wp_ret (r_ret (vs := [.int .u32 0, .int .i64 0]) (hS.re (.b (.thereb _ .hb) (.t (.thereb _ .h) (.t (.thereb _ .h) (.t (.thereb _ .h) (.t (.thereb _ .h) (.t (.thereb _ .h) (.t (.thereb _ .h) .n)))))))) (rsC res_tmp (rsC res_tmp rsN)) rfl ⟨_, rfl, (by first | rfl | simp only [aa, ac, al, an]), ⟨_, _, _, _, _, _, _, _, _, _, _, _, rfl, hP0_0_3, hP0_1_7, hP0_2_11, hP0_4_15, hP0_6_19, hP0_8_23⟩⟩)
theorem w_seq_Act {g : Frag} {a0 : T_State} {b0_ : Nat} {LB0_ : Own} {a1 : T_Ins} {a2 : Int} {a3 : Int} {r : (T_State × Int × Int)} (h0 : Bx_State b0_ a0 LB0_) (hF : seq_Act a0 a1 a2 a3 = some r) : LC Tryz.prog 98 #[.pointer (some ⟨b0_, 0, none⟩), .agg (enc_Ins a1).toArray, .int .u32 a2, .int .u32 a3] g LB0_ (fun v L => ∃ (LB' : Own), v = .tuple #[.int .u32 r.2.1, .int .i64 r.2.2] ∧ L = (LB' ++ []) ∧ Bx_State b0_ r.1 LB') := w_seq_Act_ h0 hF

noncomputable def seq_Turn_k1 (a0 : T_State) (a1 : T_Ins) (a3 : Int) : (Bool × (List Int) × (List Int) × (List Int) × (List Int) × (List T_Write)) → Option (T_State × Int × Bool × Int) := fun (x7, x8, x13, x18, x23, x28) => bif x7 then some ((⟨a0.Regs, x8, x13, a0.Taken, x18, a0.PC, x23, a0.Stop, x28, a0.Jump, a0.Delay⟩ : T_State), a1.Imm, true, 0) else bif decide (a1.Op = 31) then bif decide (16 ≤ (x23.length : Int)) then some ((⟨a0.Regs, x8, x13, a0.Taken, x18, a0.PC, x23, a0.Stop, x28, a0.Jump, a0.Delay⟩ : T_State), 0, false, 4) else (app' x23 ([a3] : List Int)).bind fun zs51 => some ((⟨a0.Regs, x8, x13, a0.Taken, x18, a0.PC, zs51, a0.Stop, x28, a0.Jump, a0.Delay⟩ : T_State), a1.Imm, true, 0) else bif decide (a1.Op = 32) then bif decide ((IntKind.i64.wrap ((x23.length : Int) - 1)) < 0) then some ((⟨a0.Regs, x8, x13, a0.Taken, x18, a0.PC, x23, a0.Stop, x28, a0.Jump, a0.Delay⟩ : T_State), 0, false, 4) else (at' x23 (IntKind.i64.wrap ((x23.length : Int) - 1))).bind fun x54 => (upto' x23 (IntKind.i64.wrap ((x23.length : Int) - 1))).bind fun zs63 => some ((⟨a0.Regs, x8, x13, a0.Taken, x18, a0.PC, zs63, a0.Stop, x28, a0.Jump, a0.Delay⟩ : T_State), x54, true, 0) else some ((⟨a0.Regs, x8, x13, a0.Taken, x18, a0.PC, x23, a0.Stop, x28, a0.Jump, a0.Delay⟩ : T_State), 0, false, 0)
noncomputable def seq_Turn (a0 : T_State) (a1 : T_Ins) (a2 : Int) (a3 : Int) : Option (T_State × Int × Bool × Int) :=
  cut (σ := (Bool × (List Int) × (List Int) × (List Int) × (List Int) × (List T_Write))) (bif decide (a1.Op = 28) then some (.next (decide (a1.Op = 28), a0.Mem, a0.In_, a0.Out, a0.Stack, a0.Fly)) else bif decide (a1.Op = 29) then bif decide (a2 = 0) then some (.next (decide (a2 = 0), a0.Mem, a0.In_, a0.Out, a0.Stack, a0.Fly)) else bif decide (a1.Op = 30) then some (.next (decide (a2 ≠ 0), a0.Mem, a0.In_, a0.Out, a0.Stack, a0.Fly)) else some (.next (false, a0.Mem, a0.In_, a0.Out, a0.Stack, a0.Fly)) else bif decide (a1.Op = 30) then some (.next (decide (a2 ≠ 0), a0.Mem, a0.In_, a0.Out, a0.Stack, a0.Fly)) else some (.next (false, a0.Mem, a0.In_, a0.Out, a0.Stack, a0.Fly))) (seq_Turn_k1 a0 a1 a3)
theorem w_seq_Turn_ {g : Frag} {a0 : T_State} {b0_ : Nat} {LB0_ : Own} {a1 : T_Ins} {a2 : Int} {a3 : Int} {r : (T_State × Int × Bool × Int)} (h0 : Bx_State b0_ a0 LB0_) (hF : seq_Turn a0 a1 a2 a3 = some r) : LC Tryz.prog 99 #[.pointer (some ⟨b0_, 0, none⟩), .agg (enc_Ins a1).toArray, .int .u32 a2, .int .i64 a3] g LB0_ (fun v L => ∃ (LB' : Own), v = .tuple #[.int .i64 r.2.1, .bool r.2.2.1, .int .i64 r.2.2.2] ∧ L = (LB' ++ []) ∧ Bx_State b0_ r.1 LB') := by
 obtain ⟨vP0_0_1, vP0_1_5, vP0_2_9, vP0_4_13, vP0_6_17, vP0_8_21, LXP0_0_2, LXP0_1_6, LXP0_2_10, LXP0_4_14, LXP0_6_18, LXP0_8_22, hL0_, hP0_0_3, hP0_1_7, hP0_2_11, hP0_4_15, hP0_6_19, hP0_8_23⟩ := h0
 unfold seq_Turn at hF
 refine lc_body (k := 83) (av := [.pointer (some ⟨b0_, 0, none⟩), .agg (enc_Ins a1).toArray, .int .u32 a2, .int .i64 a3]) func99 rfl rfl (h := fun W hS => ?_)
 have hS := hS.own_eq hL0_
 refine c_seq <| c_region ?_
 refine o_boxP (cl := (enc_Ins a1)) rfl hS ?_
 clear hS; intro b1 w hS
 iterate 3 (refine oy hS y_assign ?_)
 refine n_thenN <| c_seq <| c_block ?_
 obtain ⟨z33, hF, hK34⟩ := cut_step hF
 refine c_cutP (fun a w' => ∃ (x7 : Bool) (x8 : (List Int)) (x13 : (List Int)) (x18 : (List Int)) (x23 : (List Int)) (x28 : (List T_Write)) (v9 : Value) (v14 : Value) (v19 : Value) (v24 : Value) (v29 : Value) (LX11 : Own) (LX16 : Own) (LX21 : Own) (LX26 : Own) (LX31 : Own), seq_Turn_k1 a0 a1 a3 (x7, x8, x13, x18, x23, x28) = some r ∧ OwT 40 enc_uint32 1 x8 v9 LX11 ∧ OwT 40 enc_uint32 1 x13 v14 LX16 ∧ OwT 40 enc_uint32 1 x18 v19 LX21 ∧ OwT 3 enc_int 1 x23 v24 LX26 ∧ OwT 73 enc_Write 3 x28 v29 LX31 ∧ (∃ s : Nat → Value, a = Ac (((((Fm.dead 83 s).upd 0 (.pointer (some ⟨b0_, 0, none⟩))).upd 3 (.int .i64 a3)).upd 5 (.pointer (some ⟨b1, 0, none⟩))).upd 12 (.bool x7))) ∧ St W g LB0_ ((b0_, blk (cl_State vP0_0_1 v9 v14 a0.Taken v19 a0.PC v24 a0.Stop v29 a0.Jump a0.Delay) 27) :: ((b1, blk (enc_Ins a1) 31) :: (LXP0_0_2 ++ (LX11 ++ (LX16 ++ (LX21 ++ (LX26 ++ (LX31 ++ [])))))))) w') ?_ ?_
 · skip
   refine c_seq <| c_region <| oy hS (y_field fa_api_Ins_0) <| oy hS (y_load (fun w hS => hS.own (mH)) underlying3 rfl rfl) <| oy hS y_bin <| oy hS y_assign <| n_thenN ?_
   refine c_if (ht := fun c35 => ?_) (hf := fun c35 => ?_)
   · replace hF := bt c35 hF
     refine wp_skip ?_
     obtain rfl := osi hF
     change ∃ _, _
     exact ⟨decide (a1.Op = 28), a0.Mem, a0.In_, a0.Out, a0.Stack, a0.Fly, vP0_1_5, vP0_2_9, vP0_4_13, vP0_6_17, vP0_8_21, LXP0_1_6, LXP0_2_10, LXP0_4_14, LXP0_6_18, LXP0_8_22, hK34, hP0_1_7, hP0_2_11, hP0_4_15, hP0_6_19, hP0_8_23, mk_exF, (hS.re (.b (.thereb _ .hb) (.b .hb (.t .h (.t .h (.t .h (.t .h (.t .h (.t .h .n)))))))))⟩
   replace hF := bf c35 hF
   refine c_seq <| c_region <| oy hS (y_field fa_api_Ins_0) <| oy hS (y_load (fun w hS => hS.own (mH)) underlying3 rfl rfl) <| oy hS y_bin ?_
   refine o_split (ht := fun c36 => ?_) (hf := fun c36 => ?_)
   · replace hF := bt c36 hF
     refine o_gu rfl rfl rfl <| oy hS y_move <| o_gu rfl rfl rfl <| oy hS y_bin <| oy hS y_pickT <| oy hS y_assign <| n_thenN ?_
     refine c_if (ht := fun c37 => ?_) (hf := fun c37 => ?_)
     · replace hF := bt c37 hF
       refine wp_skip ?_
       obtain rfl := osi hF
       change ∃ _, _
       exact ⟨decide (a2 = 0), a0.Mem, a0.In_, a0.Out, a0.Stack, a0.Fly, vP0_1_5, vP0_2_9, vP0_4_13, vP0_6_17, vP0_8_21, LXP0_1_6, LXP0_2_10, LXP0_4_14, LXP0_6_18, LXP0_8_22, hK34, hP0_1_7, hP0_2_11, hP0_4_15, hP0_6_19, hP0_8_23, mk_exF, (hS.re (.b (.thereb _ .hb) (.b .hb (.t .h (.t .h (.t .h (.t .h (.t .h (.t .h .n)))))))))⟩
     replace hF := bf c37 hF
     refine c_region <| oy hS (y_field fa_api_Ins_0) <| oy hS (y_load (fun w hS => hS.own (mH)) underlying3 rfl rfl) <| oy hS y_bin ?_
     refine o_split (ht := fun c38 => ?_) (hf := fun c38 => ?_)
     · replace hF := bt c38 hF
       refine o_gu rfl rfl rfl <| oy hS y_move <| o_gu rfl rfl rfl <| oy hS y_bin <| oy hS y_pickT <| oy hS y_assign <| n_thenN ?_
       obtain rfl := osi hF
       change ∃ _, _
       exact ⟨decide (a2 ≠ 0), a0.Mem, a0.In_, a0.Out, a0.Stack, a0.Fly, vP0_1_5, vP0_2_9, vP0_4_13, vP0_6_17, vP0_8_21, LXP0_1_6, LXP0_2_10, LXP0_4_14, LXP0_6_18, LXP0_8_22, hK34, hP0_1_7, hP0_2_11, hP0_4_15, hP0_6_19, hP0_8_23, mk_exF, (hS.re (.b (.thereb _ .hb) (.b .hb (.t .h (.t .h (.t .h (.t .h (.t .h (.t .h .n)))))))))⟩
     replace hF := bf c38 hF
     iterate 2 (refine o_sk rfl rfl ?_)
     refine oy hS y_pickF <| oy hS y_assign <| n_thenN ?_
     obtain rfl := osi hF
     change ∃ _, _
     exact ⟨false, a0.Mem, a0.In_, a0.Out, a0.Stack, a0.Fly, vP0_1_5, vP0_2_9, vP0_4_13, vP0_6_17, vP0_8_21, LXP0_1_6, LXP0_2_10, LXP0_4_14, LXP0_6_18, LXP0_8_22, hK34, hP0_1_7, hP0_2_11, hP0_4_15, hP0_6_19, hP0_8_23, mk_exF, (hS.re (.b (.thereb _ .hb) (.b .hb (.t .h (.t .h (.t .h (.t .h (.t .h (.t .h .n)))))))))⟩
   replace hF := bf c36 hF
   iterate 2 (refine o_sk rfl rfl ?_)
   refine oy hS y_pickF <| oy hS y_assign <| n_thenN ?_
   refine c_if_false (h := ?_)
   refine c_region <| oy hS (y_field fa_api_Ins_0) <| oy hS (y_load (fun w hS => hS.own (mH)) underlying3 rfl rfl) <| oy hS y_bin ?_
   refine o_split (ht := fun c39 => ?_) (hf := fun c39 => ?_)
   · replace hF := bt c39 hF
     refine o_gu rfl rfl rfl <| oy hS y_move <| o_gu rfl rfl rfl <| oy hS y_bin <| oy hS y_pickT <| oy hS y_assign <| n_thenN ?_
     obtain rfl := osi hF
     change ∃ _, _
     exact ⟨decide (a2 ≠ 0), a0.Mem, a0.In_, a0.Out, a0.Stack, a0.Fly, vP0_1_5, vP0_2_9, vP0_4_13, vP0_6_17, vP0_8_21, LXP0_1_6, LXP0_2_10, LXP0_4_14, LXP0_6_18, LXP0_8_22, hK34, hP0_1_7, hP0_2_11, hP0_4_15, hP0_6_19, hP0_8_23, mk_exF, (hS.re (.b (.thereb _ .hb) (.b .hb (.t .h (.t .h (.t .h (.t .h (.t .h (.t .h .n)))))))))⟩
   replace hF := bf c39 hF
   iterate 2 (refine o_sk rfl rfl ?_)
   refine oy hS y_pickF <| oy hS y_assign <| n_thenN ?_
   obtain rfl := osi hF
   change ∃ _, _
   exact ⟨false, a0.Mem, a0.In_, a0.Out, a0.Stack, a0.Fly, vP0_1_5, vP0_2_9, vP0_4_13, vP0_6_17, vP0_8_21, LXP0_1_6, LXP0_2_10, LXP0_4_14, LXP0_6_18, LXP0_8_22, hK34, hP0_1_7, hP0_2_11, hP0_4_15, hP0_6_19, hP0_8_23, mk_exF, (hS.re (.b (.thereb _ .hb) (.b .hb (.t .h (.t .h (.t .h (.t .h (.t .h (.t .h .n)))))))))⟩
 rintro a w ⟨x7, x8, x13, x18, x23, x28, v9, v14, v19, v24, v29, LX11, LX16, LX21, LX26, LX31, hF, h10, h15, h20, h25, h30, ⟨s40, rfl⟩, hS⟩
 dsimp only [seq_Turn_k1] at hF
 refine c_if (ht := fun c41 => ?_) (hf := fun c41 => ?_)
 · replace hF := bt c41 hF
   refine c_seq <| c_region <| oy hS (y_field fa_api_Ins_4) <| oy hS (y_load (fun w hS => hS.own (mC (mH))) underlying3 rfl rfl) ?_
   iterate 3 (refine oy hS y_assign ?_)
   refine n_thenN ?_
   obtain rfl := osi hF
   refine wp_ret (r_ret (vs := [.int .i64 a1.Imm, .bool true, .int .i64 0]) (hS.re (.b .hb (.t (.thereb _ .h) (.t (.thereb _ .h) (.t (.thereb _ .h) (.t (.thereb _ .h) (.t (.thereb _ .h) (.t (.thereb _ .h) .n)))))))) (rsC res_tmp (rsC res_tmp (rsC res_tmp rsN))) rfl ⟨_, rfl, (by first | rfl | simp only [aa, ac, al, an]), ⟨_, _, _, _, _, _, _, _, _, _, _, _, rfl, hP0_0_3, h10, h15, h20, h25, h30⟩⟩)
 replace hF := bf c41 hF
 refine c_seq <| c_region <| oy hS (y_field fa_api_Ins_0) <| oy hS (y_load (fun w hS => hS.own (mC (mH))) underlying3 rfl rfl) <| oy hS y_bin <| oy hS y_assign <| n_thenN ?_
 refine c_if (ht := fun c42 => ?_) (hf := fun c42 => ?_)
 · replace hF := bt c42 hF
   iterate 2 (refine c_seq ?_)
   refine c_region <| oy hS y_move <| oy hS y_nilCheck <| oy hS (y_field fa_api_State_6) <| oy hS (y_load (fun w hS => hS.own (mH)) underlying24 rfl rfl) <| oy hS (y_lenO h25 underlying24) <| oy hS y_bin <| n_thenN ?_
   refine c_if (ht := fun c43 => ?_) (hf := fun c43 => ?_)
   · replace hF := bt c43 hF
     refine c_seq <| c_region ?_
     iterate 3 (refine oy hS y_assign ?_)
     refine n_thenN ?_
     obtain rfl := osi hF
     refine wp_ret (r_ret (vs := [.int .i64 0, .bool false, .int .i64 4]) (hS.re (.b .hb (.t (.thereb _ .h) (.t (.thereb _ .h) (.t (.thereb _ .h) (.t (.thereb _ .h) (.t (.thereb _ .h) (.t (.thereb _ .h) .n)))))))) (rsC res_tmp (rsC res_tmp (rsC res_tmp rsN))) rfl ⟨_, rfl, (by first | rfl | simp only [aa, ac, al, an]), ⟨_, _, _, _, _, _, _, _, _, _, _, _, rfl, hP0_0_3, h10, h15, h20, h25, h30⟩⟩)
   replace hF := bf c43 hF
   refine wp_skip <| c_seq <| c_region ?_
   iterate 2 (refine oy hS y_move ?_)
   refine oy hS y_nilCheck <| oy hS (y_field fa_api_State_6) <| oy hS (y_load (fun w hS => hS.own (mH)) underlying24 rfl rfl) <| oy hS y_move ?_
   refine o_buildT val_int ([a3] : List Int) hS el_int (fun _ => rfl) enc_len_int (by decide) rfl (by decide) (hp := rfl) (h := ?_)
   clear hS; intro b44 w hS h45
   have hS : St W g LB0_ ([(b44, blk (([a3] : List Int).flatMap enc_int) 3)] ++ ((b0_, blk (cl_State vP0_0_1 v9 v14 a0.Taken v19 a0.PC v24 a0.Stop v29 a0.Jump a0.Delay) 27) :: ((b1, blk (enc_Ins a1) 31) :: (LXP0_0_2 ++ (LX11 ++ (LX16 ++ (LX21 ++ (LX26 ++ (LX31 ++ []))))))))) w := hS
   obtain ⟨zs51, hzs51, hF⟩ := ob hF
   have hS := hS.re (.t .h (.t (.thereb _ (.thereb _ (.there _ (.there _ (.there _ (.there _ .h)))))) (.b .hb (.b .hb (.t .h (.t .h (.t .h (.t .h (.t .h .n)))))))))
   refine o_appPn (ys := ([a3] : List Int)) (LX := LX26) hzs51 hS el_int h25 rfl enc_len_int (enc_ones_int _) (by decide) ?_
   clear hS; intro v47 LX48 w h49 hS
   refine oy hS y_nilCheck <| oy hS (y_field fa_api_State_6) ?_
   have hS := hS.re (.b (.there _ .hb) (.t .h (.b .hb (.t .h (.t .h (.t .h (.t .h (.t .h .n))))))))
   refine o_storeA1 (o := 6) (cl' := (cl_State vP0_0_1 v9 v14 a0.Taken v19 a0.PC v47 a0.Stop v29 a0.Jump a0.Delay)) hS (by kernel_rfl) (by exact Nat.le_of_ble_eq_true rfl) (Upd.here _) (by exact sz_S_int) (h49).one (h49).cell ?_
   clear hS; intro w hS
   refine n_thenN <| c_seq <| c_region <| oy hS (y_field fa_api_Ins_4) <| oy hS (y_load (fun w hS => hS.own (mC (mB (mH)))) underlying3 rfl rfl) ?_
   iterate 3 (refine oy hS y_assign ?_)
   refine n_thenN ?_
   obtain rfl := osi hF
   refine wp_ret (r_ret (vs := [.int .i64 a1.Imm, .bool true, .int .i64 0]) (hS.re (.b .hb (.t (.there _ (.thereb _ .h)) (.t (.there _ (.thereb _ .h)) (.t (.there _ (.thereb _ .h)) (.t (.there _ (.thereb _ .h)) (.t .h (.t (.thereb _ .h) .n)))))))) (rsC res_tmp (rsC res_tmp (rsC res_tmp rsN))) rfl ⟨_, rfl, (by first | rfl | simp only [aa, ac, al, an]), ⟨_, _, _, _, _, _, _, _, _, _, _, _, rfl, hP0_0_3, h10, h15, h20, h49, h30⟩⟩)
 replace hF := bf c42 hF
 refine c_seq <| c_region <| oy hS (y_field fa_api_Ins_0) <| oy hS (y_load (fun w hS => hS.own (mC (mH))) underlying3 rfl rfl) <| oy hS y_bin <| oy hS y_assign <| n_thenN ?_
 refine c_if (ht := fun c52 => ?_) (hf := fun c52 => ?_)
 · replace hF := bt c52 hF
   refine c_seq <| c_region <| oy hS y_move <| oy hS y_nilCheck <| oy hS (y_field fa_api_State_6) <| oy hS (y_load (fun w hS => hS.own (mH)) underlying24 rfl rfl) <| oy hS (y_lenO h25 underlying24) <| oy hS y_bin ?_
   refine oy hS y_assign <| n_thenN ?_
   iterate 2 (refine c_seq ?_)
   refine c_region <| oy hS y_move <| oy hS y_bin <| n_thenN ?_
   refine c_if (ht := fun c53 => ?_) (hf := fun c53 => ?_)
   · replace hF := bt c53 hF
     refine c_seq <| c_region ?_
     iterate 3 (refine oy hS y_assign ?_)
     refine n_thenN ?_
     obtain rfl := osi hF
     refine wp_ret (r_ret (vs := [.int .i64 0, .bool false, .int .i64 4]) (hS.re (.b .hb (.t (.thereb _ .h) (.t (.thereb _ .h) (.t (.thereb _ .h) (.t (.thereb _ .h) (.t (.thereb _ .h) (.t (.thereb _ .h) .n)))))))) (rsC res_tmp (rsC res_tmp (rsC res_tmp rsN))) rfl ⟨_, rfl, (by first | rfl | simp only [aa, ac, al, an]), ⟨_, _, _, _, _, _, _, _, _, _, _, _, rfl, hP0_0_3, h10, h15, h20, h25, h30⟩⟩)
   replace hF := bf c53 hF
   refine wp_skip <| c_seq <| c_region <| oy hS y_move <| oy hS y_nilCheck <| oy hS (y_field fa_api_State_6) <| oy hS (y_load (fun w hS => hS.own (mH)) underlying24 rfl rfl) <| oy hS y_move ?_
   obtain ⟨x54, hx54, hF⟩ := ob hF
   obtain ⟨b55, c56, cl57, hv58, ha59, hb60, hl61, hc62⟩ := OwT.at hx54 h25 enc_len_int
   refine oy hS (y_index hv58 ha59 hb60 underlying24 el_int.size) <| oy hS (y_load (fun w hS => hS.own (mC (mC (mB (mB (mB (mB (mA (mX hl61))))))))) underlying3 rfl (hc62 0 _ rfl)) <| oy hS y_assign <| n_thenN <| c_seq <| c_region ?_
   iterate 2 (refine oy hS y_move ?_)
   refine oy hS y_nilCheck <| oy hS (y_field fa_api_State_6) <| oy hS (y_load (fun w hS => hS.own (mH)) underlying24 rfl rfl) <| oy hS y_move ?_
   obtain ⟨zs63, hzs63, hF⟩ := ob hF
   refine o_uptoP hzs63 h25 enc_len_int underlying24 el_int.size ?_
   intro v64 h65
   refine oy hS y_nilCheck <| oy hS (y_field fa_api_State_6) ?_
   refine o_storeA1 (o := 6) (cl' := (cl_State vP0_0_1 v9 v14 a0.Taken v19 a0.PC v64 a0.Stop v29 a0.Jump a0.Delay)) hS (by kernel_rfl) (by exact Nat.le_of_ble_eq_true rfl) (Upd.here _) (by exact sz_S_int) (h65).one (h65).cell ?_
   clear hS; intro w hS
   refine n_thenN <| c_seq <| c_region <| oy hS y_move ?_
   iterate 3 (refine oy hS y_assign ?_)
   refine n_thenN ?_
   obtain rfl := osi hF
   refine wp_ret (r_ret (vs := [.int .i64 x54, .bool true, .int .i64 0]) (hS.re (.b .hb (.t (.thereb _ .h) (.t (.thereb _ .h) (.t (.thereb _ .h) (.t (.thereb _ .h) (.t (.thereb _ .h) (.t (.thereb _ .h) .n)))))))) (rsC res_tmp (rsC res_tmp (rsC res_tmp rsN))) rfl ⟨_, rfl, (by first | rfl | simp only [aa, ac, al, an]), ⟨_, _, _, _, _, _, _, _, _, _, _, _, rfl, hP0_0_3, h10, h15, h20, h65, h30⟩⟩)
 replace hF := bf c52 hF
 refine wp_skip <| c_seq <| c_region ?_
 iterate 3 (refine oy hS y_assign ?_)
 refine n_thenN ?_
 obtain rfl := osi hF
 refine wp_ret (r_ret (vs := [.int .i64 0, .bool false, .int .i64 0]) (hS.re (.b .hb (.t (.thereb _ .h) (.t (.thereb _ .h) (.t (.thereb _ .h) (.t (.thereb _ .h) (.t (.thereb _ .h) (.t (.thereb _ .h) .n)))))))) (rsC res_tmp (rsC res_tmp (rsC res_tmp rsN))) rfl ⟨_, rfl, (by first | rfl | simp only [aa, ac, al, an]), ⟨_, _, _, _, _, _, _, _, _, _, _, _, rfl, hP0_0_3, h10, h15, h20, h25, h30⟩⟩)
theorem w_seq_Turn {g : Frag} {a0 : T_State} {b0_ : Nat} {LB0_ : Own} {a1 : T_Ins} {a2 : Int} {a3 : Int} {r : (T_State × Int × Bool × Int)} (h0 : Bx_State b0_ a0 LB0_) (hF : seq_Turn a0 a1 a2 a3 = some r) : LC Tryz.prog 99 #[.pointer (some ⟨b0_, 0, none⟩), .agg (enc_Ins a1).toArray, .int .u32 a2, .int .i64 a3] g LB0_ (fun v L => ∃ (LB' : Own), v = .tuple #[.int .i64 r.2.1, .bool r.2.2.1, .int .i64 r.2.2.2] ∧ L = (LB' ++ []) ∧ Bx_State b0_ r.1 LB') := w_seq_Turn_ h0 hF

def isa_Late (a0 : Int) : Int :=
  bif decide (a0 = 14) then 2 else bif decide (a0 = 15) then 2 else bif decide (a0 = 26) then 2 else bif decide (a0 = 20) then 3 else bif decide (a0 = 24) then 3 else bif decide (a0 = 16) then 4 else bif decide (a0 = 17) then 4 else 1
theorem w_isa_Late_ {g : Frag} {a0 : Int} {r : Int}  (hF : isa_Late a0 = r) : LCs Tryz.prog 100 #[.int .i64 a0] g (.int .i64 r) := by
 unfold isa_Late at hF
 refine lc_body (k := 14) (av := [.int .i64 a0]) func100 rfl rfl (h := fun W hS => ?_)
 refine c_seq <| c_region <| oy hS y_assign <| n_thenN ?_
 iterate 2 (refine c_seq ?_)
 refine c_region <| oy hS y_move <| n_thenN <| c_block ?_
 iterate 2 (refine c_seq ?_)
 refine c_region <| oy hS y_bin <| oy hS y_assign <| n_thenN ?_
 refine c_if (ht := fun c1 => ?_) (hf := fun c1 => ?_)
 · replace hF := bt c1 hF
   refine wp_skip ?_
   refine c_ifT c1 ?_
   refine c_seq <| c_region <| oy hS y_assign <| n_thenN ?_
   subst hF
   exact wp_ret (wr1 hS)
 replace hF := bf c1 hF
 refine c_seq <| c_region <| oy hS y_bin <| oy hS y_assign <| n_thenN ?_
 refine c_if (ht := fun c2 => ?_) (hf := fun c2 => ?_)
 · replace hF := bt c2 hF
   refine wp_skip ?_
   refine c_ifT c2 ?_
   refine c_seq <| c_region <| oy hS y_assign <| n_thenN ?_
   subst hF
   exact wp_ret (wr1 hS)
 replace hF := bf c2 hF
 refine c_region <| oy hS y_bin <| oy hS y_assign <| n_thenN ?_
 refine c_if (ht := fun c3 => ?_) (hf := fun c3 => ?_)
 · replace hF := bt c3 hF
   refine c_seq <| c_region <| oy hS y_assign <| n_thenN ?_
   subst hF
   exact wp_ret (wr1 hS)
 replace hF := bf c3 hF
 iterate 2 (refine c_seq ?_)
 refine c_region <| oy hS y_bin <| oy hS y_assign <| n_thenN ?_
 refine c_if (ht := fun c4 => ?_) (hf := fun c4 => ?_)
 · replace hF := bt c4 hF
   refine wp_skip ?_
   refine c_ifT c4 ?_
   refine c_seq <| c_region <| oy hS y_assign <| n_thenN ?_
   subst hF
   exact wp_ret (wr1 hS)
 replace hF := bf c4 hF
 refine c_region <| oy hS y_bin <| oy hS y_assign <| n_thenN ?_
 refine c_if (ht := fun c5 => ?_) (hf := fun c5 => ?_)
 · replace hF := bt c5 hF
   refine c_seq <| c_region <| oy hS y_assign <| n_thenN ?_
   subst hF
   exact wp_ret (wr1 hS)
 replace hF := bf c5 hF
 iterate 2 (refine c_seq ?_)
 refine c_region <| oy hS y_bin <| oy hS y_assign <| n_thenN ?_
 refine c_if (ht := fun c6 => ?_) (hf := fun c6 => ?_)
 · replace hF := bt c6 hF
   refine wp_skip ?_
   refine c_ifT c6 ?_
   refine c_seq <| c_region <| oy hS y_assign <| n_thenN ?_
   subst hF
   exact wp_ret (wr1 hS)
 replace hF := bf c6 hF
 refine c_region <| oy hS y_bin <| oy hS y_assign <| n_thenN ?_
 refine c_if (ht := fun c7 => ?_) (hf := fun c7 => ?_)
 · replace hF := bt c7 hF
   refine c_seq <| c_region <| oy hS y_assign <| n_thenN ?_
   subst hF
   exact wp_ret (wr1 hS)
 replace hF := bf c7 hF
 refine wp_skip <| c_seq <| c_region <| oy hS y_assign <| n_thenN ?_
 subst hF
 exact wp_ret (wr1 hS)
theorem w_isa_Late {g : Frag} {a0 : Int}  : LCs Tryz.prog 100 #[.int .i64 a0] g (.int .i64 (isa_Late a0)) := w_isa_Late_  rfl
end Go.Proofs.YthbpicnbkdbbmaaGreat
