/- Functions, lifted. Printed by lift.py. -/
import Derived.Test.YtjmmkbehdbpklaaProg
import Derived.Test.YtjmmkbehdbpklaaBld
import Derived.KernelRfl
namespace Go.Proofs.Ytjmmkbehdbpklaa
open Go Go.RowKit Fr
set_option linter.unusedVariables false
set_option linter.unusedSimpArgs false
set_option maxRecDepth 20000
open Try
set_option maxHeartbeats 2000000
def isa_Is (a0 : Int) : Bool :=
  bif decide (0 ≤ a0) then decide (a0 ≤ 33) else false
theorem w_isa_Is_ {g : Frag} {a0 : Int} {r : Bool}  (hF : isa_Is a0 = r) : LCs Try.prog 79 #[.int .i64 a0] g (.bool r) := by
 unfold isa_Is at hF
 refine lc_body (k := 9) (av := [.int .i64 a0]) func79 rfl rfl (h := fun W hS => ?_)
 refine c_seq <| c_region <| oy hS y_assign <| n_thenN <| c_seq <| c_region <| oy hS y_move <| oy hS y_bin ?_
 refine o_split (ht := fun c1 => ?_) (hf := fun c1 => ?_)
 · replace hF := bt c1 hF
   refine o_gu rfl rfl rfl <| oy hS y_move <| o_gu rfl rfl rfl <| oy hS y_bin <| oy hS y_pickT <| oy hS y_assign <| n_thenN ?_
   subst hF
   exact wp_ret (wr1 hS)
 replace hF := bf c1 hF
 iterate 2 (refine o_sk rfl rfl ?_)
 refine oy hS y_pickF <| oy hS y_assign <| n_thenN ?_
 subst hF
 exact wp_ret (wr1 hS)
theorem w_isa_Is {g : Frag} {a0 : Int}  : LCs Try.prog 79 #[.int .i64 a0] g (.bool (isa_Is a0)) := w_isa_Is_  rfl

def isa_Shape (a0 : Int) : Int :=
  bif decide (a0 = 21) then 2 else bif decide (a0 = 22) then 3 else bif decide (a0 = 24) then 3 else bif decide (a0 = 23) then 4 else bif decide (a0 = 25) then 5 else bif decide (a0 = 26) then 6 else bif decide (a0 = 27) then 7 else bif decide (a0 = 28) then 8 else bif decide (a0 = 31) then 8 else bif decide (a0 = 29) then 9 else bif decide (a0 = 30) then 9 else bif decide (a0 = 0) then 0 else bif decide (a0 = 32) then 0 else bif decide (a0 = 33) then 0 else 1
theorem w_isa_Shape_ {g : Frag} {a0 : Int} {r : Int}  (hF : isa_Shape a0 = r) : LCs Try.prog 80 #[.int .i64 a0] g (.int .i64 r) := by
 unfold isa_Shape at hF
 refine lc_body (k := 27) (av := [.int .i64 a0]) func80 rfl rfl (h := fun W hS => ?_)
 refine c_seq <| c_region <| oy hS y_assign <| n_thenN ?_
 iterate 2 (refine c_seq ?_)
 refine c_region <| oy hS y_move <| n_thenN <| c_block <| c_seq <| c_region <| oy hS y_bin <| oy hS y_assign ?_
 refine n_thenN ?_
 refine c_if (ht := fun c1 => ?_) (hf := fun c1 => ?_)
 · replace hF := bt c1 hF
   refine c_seq <| c_region <| oy hS y_assign <| n_thenN ?_
   subst hF
   exact wp_ret (wr1 hS)
 replace hF := bf c1 hF
 iterate 2 (refine c_seq ?_)
 refine c_region <| oy hS y_bin <| oy hS y_assign <| n_thenN ?_
 refine c_if (ht := fun c2 => ?_) (hf := fun c2 => ?_)
 · replace hF := bt c2 hF
   refine wp_skip ?_
   refine c_ifT c2 ?_
   refine c_seq <| c_region <| oy hS y_assign <| n_thenN ?_
   subst hF
   exact wp_ret (wr1 hS)
 replace hF := bf c2 hF
 refine c_region <| oy hS y_bin <| oy hS y_assign <| n_thenN ?_
 refine c_if (ht := fun c3 => ?_) (hf := fun c3 => ?_)
 · replace hF := bt c3 hF
   refine c_seq <| c_region <| oy hS y_assign <| n_thenN ?_
   subst hF
   exact wp_ret (wr1 hS)
 replace hF := bf c3 hF
 refine c_seq <| c_region <| oy hS y_bin <| oy hS y_assign <| n_thenN ?_
 refine c_if (ht := fun c4 => ?_) (hf := fun c4 => ?_)
 · replace hF := bt c4 hF
   refine c_seq <| c_region <| oy hS y_assign <| n_thenN ?_
   subst hF
   exact wp_ret (wr1 hS)
 replace hF := bf c4 hF
 refine c_seq <| c_region <| oy hS y_bin <| oy hS y_assign <| n_thenN ?_
 refine c_if (ht := fun c5 => ?_) (hf := fun c5 => ?_)
 · replace hF := bt c5 hF
   refine c_seq <| c_region <| oy hS y_assign <| n_thenN ?_
   subst hF
   exact wp_ret (wr1 hS)
 replace hF := bf c5 hF
 refine c_seq <| c_region <| oy hS y_bin <| oy hS y_assign <| n_thenN ?_
 refine c_if (ht := fun c6 => ?_) (hf := fun c6 => ?_)
 · replace hF := bt c6 hF
   refine c_seq <| c_region <| oy hS y_assign <| n_thenN ?_
   subst hF
   exact wp_ret (wr1 hS)
 replace hF := bf c6 hF
 refine c_seq <| c_region <| oy hS y_bin <| oy hS y_assign <| n_thenN ?_
 refine c_if (ht := fun c7 => ?_) (hf := fun c7 => ?_)
 · replace hF := bt c7 hF
   refine c_seq <| c_region <| oy hS y_assign <| n_thenN ?_
   subst hF
   exact wp_ret (wr1 hS)
 replace hF := bf c7 hF
 iterate 2 (refine c_seq ?_)
 refine c_region <| oy hS y_bin <| oy hS y_assign <| n_thenN ?_
 refine c_if (ht := fun c8 => ?_) (hf := fun c8 => ?_)
 · replace hF := bt c8 hF
   refine wp_skip ?_
   refine c_ifT c8 ?_
   refine c_seq <| c_region <| oy hS y_assign <| n_thenN ?_
   subst hF
   exact wp_ret (wr1 hS)
 replace hF := bf c8 hF
 refine c_region <| oy hS y_bin <| oy hS y_assign <| n_thenN ?_
 refine c_if (ht := fun c9 => ?_) (hf := fun c9 => ?_)
 · replace hF := bt c9 hF
   refine c_seq <| c_region <| oy hS y_assign <| n_thenN ?_
   subst hF
   exact wp_ret (wr1 hS)
 replace hF := bf c9 hF
 iterate 2 (refine c_seq ?_)
 refine c_region <| oy hS y_bin <| oy hS y_assign <| n_thenN ?_
 refine c_if (ht := fun c10 => ?_) (hf := fun c10 => ?_)
 · replace hF := bt c10 hF
   refine wp_skip ?_
   refine c_ifT c10 ?_
   refine c_seq <| c_region <| oy hS y_assign <| n_thenN ?_
   subst hF
   exact wp_ret (wr1 hS)
 replace hF := bf c10 hF
 refine c_region <| oy hS y_bin <| oy hS y_assign <| n_thenN ?_
 refine c_if (ht := fun c11 => ?_) (hf := fun c11 => ?_)
 · replace hF := bt c11 hF
   refine c_seq <| c_region <| oy hS y_assign <| n_thenN ?_
   subst hF
   exact wp_ret (wr1 hS)
 replace hF := bf c11 hF
 iterate 2 (refine c_seq ?_)
 refine c_region <| oy hS y_bin <| oy hS y_assign <| n_thenN ?_
 refine c_if (ht := fun c12 => ?_) (hf := fun c12 => ?_)
 · replace hF := bt c12 hF
   refine wp_skip ?_
   refine c_ifT c12 ?_
   refine c_seq <| c_region <| oy hS y_assign <| n_thenN ?_
   subst hF
   exact wp_ret (wr1 hS)
 replace hF := bf c12 hF
 refine c_seq <| c_region <| oy hS y_bin <| oy hS y_assign <| n_thenN ?_
 refine c_if (ht := fun c13 => ?_) (hf := fun c13 => ?_)
 · replace hF := bt c13 hF
   refine wp_skip ?_
   refine c_ifT c13 ?_
   refine c_seq <| c_region <| oy hS y_assign <| n_thenN ?_
   subst hF
   exact wp_ret (wr1 hS)
 replace hF := bf c13 hF
 refine c_region <| oy hS y_bin <| oy hS y_assign <| n_thenN ?_
 refine c_if (ht := fun c14 => ?_) (hf := fun c14 => ?_)
 · replace hF := bt c14 hF
   refine c_seq <| c_region <| oy hS y_assign <| n_thenN ?_
   subst hF
   exact wp_ret (wr1 hS)
 replace hF := bf c14 hF
 refine wp_skip <| c_seq <| c_region <| oy hS y_assign <| n_thenN ?_
 subst hF
 exact wp_ret (wr1 hS)
theorem w_isa_Shape {g : Frag} {a0 : Int}  : LCs Try.prog 80 #[.int .i64 a0] g (.int .i64 (isa_Shape a0)) := w_isa_Shape_  rfl

def isa_HasD (a0 : Int) : Bool :=
  bif decide (1 ≤ a0) then bif decide (a0 ≤ 4) then true else decide (a0 = 6) else decide (a0 = 6)
theorem w_isa_HasD_ {g : Frag} {a0 : Int} {r : Bool}  (hF : isa_HasD a0 = r) : LCs Try.prog 81 #[.int .i64 a0] g (.bool r) := by
 unfold isa_HasD at hF
 refine lc_body (k := 13) (av := [.int .i64 a0]) func81 rfl rfl (h := fun W hS => ?_)
 refine c_seq <| c_region <| oy hS y_assign <| n_thenN <| c_seq <| c_region <| oy hS y_move <| oy hS y_bin ?_
 refine o_split (ht := fun c1 => ?_) (hf := fun c1 => ?_)
 · replace hF := bt c1 hF
   refine o_gu rfl rfl rfl <| oy hS y_move <| o_gu rfl rfl rfl <| oy hS y_bin <| oy hS y_pickT ?_
   refine o_split (ht := fun c2 => ?_) (hf := fun c2 => ?_)
   · replace hF := bt c2 hF
     iterate 2 (refine o_sk rfl rfl ?_)
     refine oy hS y_pickT <| oy hS y_assign <| n_thenN ?_
     subst hF
     exact wp_ret (wr1 hS)
   replace hF := bf c2 hF
   refine o_gu rfl rfl rfl <| oy hS y_move <| o_gu rfl rfl rfl <| oy hS y_bin <| oy hS y_pickF <| oy hS y_assign <| n_thenN ?_
   subst hF
   exact wp_ret (wr1 hS)
 replace hF := bf c1 hF
 iterate 2 (refine o_sk rfl rfl ?_)
 refine oy hS y_pickF <| oy hS y_move <| o_gu rfl rfl rfl <| oy hS y_move <| o_gu rfl rfl rfl <| oy hS y_bin <| oy hS y_pickF <| oy hS y_assign ?_
 refine n_thenN ?_
 subst hF
 exact wp_ret (wr1 hS)
theorem w_isa_HasD {g : Frag} {a0 : Int}  : LCs Try.prog 81 #[.int .i64 a0] g (.bool (isa_HasD a0)) := w_isa_HasD_  rfl

def isa_reg (a0 : Bool) (a1 : Int) : Bool :=
  bif decide (a1 = 0) then true else bif a0 then bif decide (0 < a1) then decide (a1 < 16) else false else false
theorem w_isa_reg_ {g : Frag} {a0 : Bool} {a1 : Int} {r : Bool}  (hF : isa_reg a0 a1 = r) : LCs Try.prog 88 #[.bool a0, .int .i64 a1] g (.bool r) := by
 unfold isa_reg at hF
 refine lc_body (k := 18) (av := [.bool a0, .int .i64 a1]) func88 rfl rfl (h := fun W hS => ?_)
 refine c_seq <| c_region <| oy hS y_assign <| n_thenN <| c_seq <| c_region <| oy hS y_move <| oy hS y_bin ?_
 refine o_split (ht := fun c1 => ?_) (hf := fun c1 => ?_)
 · replace hF := bt c1 hF
   iterate 2 (refine o_sk rfl rfl ?_)
   iterate 2 (refine o_sku rfl rfl ?_)
   iterate 2 (refine o_sk rfl rfl ?_)
   iterate 2 (refine o_sku rfl rfl ?_)
   refine o_sk rfl rfl ?_
   refine oy hS y_pickT <| oy hS y_assign <| n_thenN ?_
   subst hF
   exact wp_ret (wr1 hS)
 replace hF := bf c1 hF
 refine o_gu rfl rfl rfl <| oy hS y_move <| o_gu rfl rfl rfl ?_
 refine o_split (ht := fun c2 => ?_) (hf := fun c2 => ?_)
 · replace hF := bt c2 hF
   refine o_gu rfl rfl rfl <| oy hS y_move <| o_gu rfl rfl rfl <| oy hS y_bin <| o_gu rfl rfl rfl <| oy hS y_pickT <| o_gu rfl rfl rfl ?_
   refine o_split (ht := fun c3 => ?_) (hf := fun c3 => ?_)
   · replace hF := bt c3 hF
     refine o_gu rfl rfl rfl <| oy hS y_move <| o_gu rfl rfl rfl <| oy hS y_bin <| o_gu rfl rfl rfl <| oy hS y_pickT <| oy hS y_pickF <| oy hS y_assign ?_
     refine n_thenN ?_
     subst hF
     exact wp_ret (wr1 hS)
   replace hF := bf c3 hF
   iterate 2 (refine o_sk rfl rfl ?_)
   refine o_gu rfl rfl rfl ?_
   iterate 2 (refine oy hS y_pickF ?_)
   refine oy hS y_assign <| n_thenN ?_
   subst hF
   exact wp_ret (wr1 hS)
 replace hF := bf c2 hF
 iterate 2 (refine o_sk rfl rfl ?_)
 refine o_gu rfl rfl rfl <| oy hS y_pickF <| o_gu rfl rfl rfl <| oy hS y_move ?_
 iterate 2 (refine o_sk rfl rfl ?_)
 refine o_gu rfl rfl rfl ?_
 iterate 2 (refine oy hS y_pickF ?_)
 refine oy hS y_assign <| n_thenN ?_
 subst hF
 exact wp_ret (wr1 hS)
theorem w_isa_reg {g : Frag} {a0 : Bool} {a1 : Int}  : LCs Try.prog 88 #[.bool a0, .int .i64 a1] g (.bool (isa_reg a0 a1)) := w_isa_reg_  rfl

def isa_HasA (a0 : Int) : Bool :=
  bif decide (a0 = 1) then true else bif decide (a0 = 2) then true else bif decide (a0 = 3) then true else bif decide (a0 = 5) then true else bif decide (a0 = 7) then true else bif decide (a0 = 9) then true else false
theorem w_isa_HasA_ {g : Frag} {a0 : Int} {r : Bool}  (hF : isa_HasA a0 = r) : LCs Try.prog 82 #[.int .i64 a0] g (.bool r) := by
 unfold isa_HasA at hF
 refine lc_body (k := 11) (av := [.int .i64 a0]) func82 rfl rfl (h := fun W hS => ?_)
 refine c_seq <| c_region <| oy hS y_assign <| n_thenN ?_
 iterate 2 (refine c_seq ?_)
 refine c_region <| oy hS y_move <| n_thenN <| c_block ?_
 iterate 2 (refine c_seq ?_)
 refine c_region <| oy hS y_bin <| oy hS y_assign <| n_thenN ?_
 refine c_if (ht := fun c1 => ?_) (hf := fun c1 => ?_)
 · replace hF := bt c1 hF
   refine wp_skip ?_
   refine c_ifT c1 ?_
   refine c_seq <| c_region <| oy hS y_assign <| n_thenN ?_
   subst hF
   exact wp_ret (wr1 hS)
 replace hF := bf c1 hF
 refine c_seq <| c_region <| oy hS y_bin <| oy hS y_assign <| n_thenN ?_
 refine c_if (ht := fun c2 => ?_) (hf := fun c2 => ?_)
 · replace hF := bt c2 hF
   refine wp_skip ?_
   refine c_ifT c2 ?_
   refine c_seq <| c_region <| oy hS y_assign <| n_thenN ?_
   subst hF
   exact wp_ret (wr1 hS)
 replace hF := bf c2 hF
 refine c_seq <| c_region <| oy hS y_bin <| oy hS y_assign <| n_thenN ?_
 refine c_if (ht := fun c3 => ?_) (hf := fun c3 => ?_)
 · replace hF := bt c3 hF
   refine wp_skip ?_
   refine c_ifT c3 ?_
   refine c_seq <| c_region <| oy hS y_assign <| n_thenN ?_
   subst hF
   exact wp_ret (wr1 hS)
 replace hF := bf c3 hF
 refine c_seq <| c_region <| oy hS y_bin <| oy hS y_assign <| n_thenN ?_
 refine c_if (ht := fun c4 => ?_) (hf := fun c4 => ?_)
 · replace hF := bt c4 hF
   refine wp_skip ?_
   refine c_ifT c4 ?_
   refine c_seq <| c_region <| oy hS y_assign <| n_thenN ?_
   subst hF
   exact wp_ret (wr1 hS)
 replace hF := bf c4 hF
 refine c_seq <| c_region <| oy hS y_bin <| oy hS y_assign <| n_thenN ?_
 refine c_if (ht := fun c5 => ?_) (hf := fun c5 => ?_)
 · replace hF := bt c5 hF
   refine wp_skip ?_
   refine c_ifT c5 ?_
   refine c_seq <| c_region <| oy hS y_assign <| n_thenN ?_
   subst hF
   exact wp_ret (wr1 hS)
 replace hF := bf c5 hF
 refine c_region <| oy hS y_bin <| oy hS y_assign <| n_thenN ?_
 refine c_if (ht := fun c6 => ?_) (hf := fun c6 => ?_)
 · replace hF := bt c6 hF
   refine c_seq <| c_region <| oy hS y_assign <| n_thenN ?_
   subst hF
   exact wp_ret (wr1 hS)
 replace hF := bf c6 hF
 refine wp_skip <| c_seq <| c_region <| oy hS y_assign <| n_thenN ?_
 subst hF
 exact wp_ret (wr1 hS)
theorem w_isa_HasA {g : Frag} {a0 : Int}  : LCs Try.prog 82 #[.int .i64 a0] g (.bool (isa_HasA a0)) := w_isa_HasA_  rfl

def isa_HasB (a0 : Int) : Bool :=
  bif decide (a0 = 1) then true else decide (a0 = 5)
theorem w_isa_HasB_ {g : Frag} {a0 : Int} {r : Bool}  (hF : isa_HasB a0 = r) : LCs Try.prog 89 #[.int .i64 a0] g (.bool r) := by
 unfold isa_HasB at hF
 refine lc_body (k := 9) (av := [.int .i64 a0]) func89 rfl rfl (h := fun W hS => ?_)
 refine c_seq <| c_region <| oy hS y_assign <| n_thenN <| c_seq <| c_region <| oy hS y_move <| oy hS y_bin ?_
 refine o_split (ht := fun c1 => ?_) (hf := fun c1 => ?_)
 · replace hF := bt c1 hF
   iterate 2 (refine o_sk rfl rfl ?_)
   refine oy hS y_pickT <| oy hS y_assign <| n_thenN ?_
   subst hF
   exact wp_ret (wr1 hS)
 replace hF := bf c1 hF
 refine o_gu rfl rfl rfl <| oy hS y_move <| o_gu rfl rfl rfl <| oy hS y_bin <| oy hS y_pickF <| oy hS y_assign <| n_thenN ?_
 subst hF
 exact wp_ret (wr1 hS)
theorem w_isa_HasB {g : Frag} {a0 : Int}  : LCs Try.prog 89 #[.int .i64 a0] g (.bool (isa_HasB a0)) := w_isa_HasB_  rfl

def isa_Target (a0 : Int) : Bool :=
  bif decide (a0 = 8) then true else decide (a0 = 9)
theorem w_isa_Target_ {g : Frag} {a0 : Int} {r : Bool}  (hF : isa_Target a0 = r) : LCs Try.prog 84 #[.int .i64 a0] g (.bool r) := by
 unfold isa_Target at hF
 refine lc_body (k := 9) (av := [.int .i64 a0]) func84 rfl rfl (h := fun W hS => ?_)
 refine c_seq <| c_region <| oy hS y_assign <| n_thenN <| c_seq <| c_region <| oy hS y_move <| oy hS y_bin ?_
 refine o_split (ht := fun c1 => ?_) (hf := fun c1 => ?_)
 · replace hF := bt c1 hF
   iterate 2 (refine o_sk rfl rfl ?_)
   refine oy hS y_pickT <| oy hS y_assign <| n_thenN ?_
   subst hF
   exact wp_ret (wr1 hS)
 replace hF := bf c1 hF
 refine o_gu rfl rfl rfl <| oy hS y_move <| o_gu rfl rfl rfl <| oy hS y_bin <| oy hS y_pickF <| oy hS y_assign <| n_thenN ?_
 subst hF
 exact wp_ret (wr1 hS)
theorem w_isa_Target {g : Frag} {a0 : Int}  : LCs Try.prog 84 #[.int .i64 a0] g (.bool (isa_Target a0)) := w_isa_Target_  rfl

def isa_letter (a0 : Int) : Bool :=
  bif decide (a0 = 95) then true else bif decide (97 ≤ a0) then decide (a0 ≤ 122) else false
theorem w_isa_letter_ {g : Frag} {a0 : Int} {r : Bool}  (hF : isa_letter a0 = r) : LCs Try.prog 96 #[.int .u8 a0] g (.bool r) := by
 unfold isa_letter at hF
 refine lc_body (k := 13) (av := [.int .u8 a0]) func96 rfl rfl (h := fun W hS => ?_)
 refine c_seq <| c_region <| oy hS y_assign <| n_thenN <| c_seq <| c_region <| oy hS y_move <| oy hS y_bin ?_
 refine o_split (ht := fun c1 => ?_) (hf := fun c1 => ?_)
 · replace hF := bt c1 hF
   iterate 3 (refine o_sk rfl rfl ?_)
   iterate 2 (refine o_sku rfl rfl ?_)
   refine o_sk rfl rfl ?_
   refine oy hS y_pickT <| oy hS y_assign <| n_thenN ?_
   subst hF
   exact wp_ret (wr1 hS)
 replace hF := bf c1 hF
 refine o_gu rfl rfl rfl <| oy hS y_move <| o_gu rfl rfl rfl <| oy hS y_bin <| o_gu rfl rfl rfl ?_
 refine o_split (ht := fun c2 => ?_) (hf := fun c2 => ?_)
 · replace hF := bt c2 hF
   refine o_gu rfl rfl rfl <| oy hS y_move <| o_gu rfl rfl rfl <| oy hS y_bin <| o_gu rfl rfl rfl <| oy hS y_pickT <| oy hS y_pickF <| oy hS y_assign ?_
   refine n_thenN ?_
   subst hF
   exact wp_ret (wr1 hS)
 replace hF := bf c2 hF
 iterate 2 (refine o_sk rfl rfl ?_)
 refine o_gu rfl rfl rfl ?_
 iterate 2 (refine oy hS y_pickF ?_)
 refine oy hS y_assign <| n_thenN ?_
 subst hF
 exact wp_ret (wr1 hS)
theorem w_isa_letter {g : Frag} {a0 : Int}  : LCs Try.prog 96 #[.int .u8 a0] g (.bool (isa_letter a0)) := w_isa_letter_  rfl

noncomputable def isa_Name2_b2 (a0 : ByteArray) : Int → Option (Step Int Bool) := fun x17 => bif decide (x17 < (a0.size : Int)) then (byte' a0 x17).bind fun x28 => bif !(isa_letter x28) then bif decide (x28 < 48) then some (.done (false)) else bif decide (57 < x28) then some (.done (false)) else some (.next (IntKind.i64.wrap (x17 + 1))) else some (.next (IntKind.i64.wrap (x17 + 1))) else some (.done (true))
noncomputable def isa_Name2_k1 (a0 : ByteArray) : Unit → Option Bool := fun _ => loop (σ := Int) (isa_Name2_b2 a0) 0
noncomputable def isa_Name2 (a0 : ByteArray) : Option Bool :=
  cut (σ := Unit) (bif decide (a0 = (ByteArray.mk #[])) then some (.done (false)) else bif decide (12 < (a0.size : Int)) then some (.done (false)) else (byte' a0 0).bind fun x9 => bif !(isa_letter x9) then some (.done (false)) else some (.next ())) (isa_Name2_k1 a0)
theorem w_isa_Name2_ {g : Frag} {a0 : ByteArray} {r : Bool}  (hF : isa_Name2 a0 = some r) : LCs Try.prog 94 #[.string a0] g (.bool r) := by
 unfold isa_Name2 at hF
 refine lc_body (k := 38) (av := [.string a0]) func94 rfl rfl (h := fun W hS => ?_)
 refine c_seq <| c_region <| oy hS y_assign <| n_thenN ?_
 obtain ⟨z5, hF, hK6⟩ := cut_step hF
 refine c_cutP (fun a w' => isa_Name2_k1 a0 () = some r ∧ (∃ s : Nat → Value, a = Ac ((Fm.dead 38 s).upd 0 (.string a0))) ∧ St W g [] [] w') ?_ ?_
 · skip
   refine c_seq <| c_region <| oy hS y_move <| oy hS y_seql ?_
   refine o_split (ht := fun c7 => ?_) (hf := fun c7 => ?_)
   · replace hF := bt c7 hF
     iterate 3 (refine o_sk rfl rfl ?_)
     refine oy hS y_pickT <| oy hS y_move ?_
     iterate 4 (refine o_sk rfl rfl ?_)
     refine oy hS y_pickT <| n_thenN ?_
     refine c_if_true (h := ?_)
     refine c_seq <| c_region <| oy hS y_assign <| n_thenN ?_
     obtain rfl := osi hF
     obtain rfl : _ = r := hK6
     exact wp_ret (wr1 hS)
   replace hF := bf c7 hF
   refine o_gu rfl rfl rfl <| oy hS y_move <| o_gu rfl rfl rfl <| oy hS (y_lens underlying9) <| o_gu rfl rfl rfl <| oy hS y_bin <| oy hS y_pickF ?_
   refine o_split (ht := fun c8 => ?_) (hf := fun c8 => ?_)
   · replace hF := bt c8 hF
     iterate 4 (refine o_sk rfl rfl ?_)
     refine oy hS y_pickT <| n_thenN ?_
     refine c_if_true (h := ?_)
     refine c_seq <| c_region <| oy hS y_assign <| n_thenN ?_
     obtain rfl := osi hF
     obtain rfl : _ = r := hK6
     exact wp_ret (wr1 hS)
   replace hF := bf c8 hF
   refine o_gu rfl rfl rfl <| oy hS y_move <| o_gu rfl rfl rfl ?_
   obtain ⟨x9, hx9, hF⟩ := ob hF
   refine oy hS (y_byte hx9 underlying9) <| o_gu rfl rfl rfl ?_
   refine o_callS hS func96 rfl rfl (hc := (w_isa_letter (a0 := x9))) (h := ?_)
   clear hS; intro w hS
   refine o_gu rfl rfl rfl <| oy hS y_not <| oy hS y_pickF <| n_thenN ?_
   refine c_if (ht := fun c10 => ?_) (hf := fun c10 => ?_)
   · replace hF := bt c10 hF
     refine c_seq <| c_region <| oy hS y_assign <| n_thenN ?_
     obtain rfl := osi hF
     obtain rfl : _ = r := hK6
     exact wp_ret (wr1 hS)
   replace hF := bf c10 hF
   refine wp_skip ?_
   obtain rfl := osi hF
   change _ ∧ _
   exact ⟨hK6, mk_exF, (hS.re (.n))⟩
 rintro a w ⟨hF, ⟨s11, rfl⟩, hS⟩
 dsimp only [isa_Name2_k1] at hF
 iterate 2 (refine c_seq ?_)
 refine c_region <| oy hS y_move <| oy hS (y_lens underlying9) <| oy hS y_move <| n_thenN <| c_block ?_
 refine c_loopP hF (fun (q : Int) a w' => (∃ s : Nat → Value, a = Ac ((((Fm.dead 38 s).upd 0 (.string a0)).upd 19 (.int .i64 (a0.size : Int))).upd 20 (.int .i64 q))) ∧ St W g [] [] w') ⟨mk_exF, (hS.re (.n))⟩ ?_
 clear hS hF
 intro n25 q a w hI hq
 revert hq hI; revert q; intro x17 hI hq
 obtain ⟨⟨s26, rfl⟩, hS⟩ := hq
 obtain ⟨z23, hF, B0⟩ := iter_step hI
 clear hI
 dsimp only [isa_Name2_b2] at hF
 refine c_seq <| c_region <| oy hS y_bin <| n_thenN <| c_seq ?_
 refine c_if (ht := fun c27 => ?_) (hf := fun c27 => ?_)
 · replace hF := bt c27 hF
   refine wp_skip <| c_seq <| c_block <| c_seq <| c_region <| oy hS y_move <| oy hS y_assign <| n_thenN ?_
   refine c_seq <| c_region ?_
   iterate 2 (refine oy hS y_move ?_)
   obtain ⟨x28, D0, hF⟩ := ob hF
   refine oy hS (y_byte D0 underlying9) <| oy hS y_assign <| n_thenN <| c_seq <| c_region <| oy hS y_move ?_
   refine o_callS hS func96 rfl rfl (hc := (w_isa_letter (a0 := x28))) (h := ?_)
   clear hS; intro w hS
   refine oy hS y_not ?_
   refine o_split (ht := fun c29 => ?_) (hf := fun c29 => ?_)
   · replace hF := bt c29 hF
     refine o_gu rfl rfl rfl <| oy hS y_move <| o_gu rfl rfl rfl <| oy hS y_bin <| o_gu rfl rfl rfl ?_
     refine o_split (ht := fun c30 => ?_) (hf := fun c30 => ?_)
     · replace hF := bt c30 hF
       iterate 2 (refine o_sk rfl rfl ?_)
       refine o_gu rfl rfl rfl ?_
       iterate 2 (refine oy hS y_pickT ?_)
       refine n_thenN ?_
       refine c_if_true (h := ?_)
       refine c_seq <| c_region <| oy hS y_assign <| n_thenN ?_
       obtain rfl := osi hF
       obtain rfl : _ = r := B0
       exact wp_ret (wr1 hS)
     replace hF := bf c30 hF
     refine o_gu rfl rfl rfl <| oy hS y_move <| o_gu rfl rfl rfl <| oy hS y_bin <| o_gu rfl rfl rfl <| oy hS y_pickF <| oy hS y_pickT <| n_thenN ?_
     refine c_if (ht := fun c31 => ?_) (hf := fun c31 => ?_)
     · replace hF := bt c31 hF
       refine c_seq <| c_region <| oy hS y_assign <| n_thenN ?_
       obtain rfl := osi hF
       obtain rfl : _ = r := B0
       exact wp_ret (wr1 hS)
     replace hF := bf c31 hF
     refine wp_skip <| c_region <| oy hS y_bin <| oy hS y_move <| n_thenN ?_
     obtain rfl := osi hF
     exact ⟨_, B0, mk_exF, (hS.re (.n))⟩
   replace hF := bf c29 hF
   iterate 3 (refine o_sk rfl rfl ?_)
   iterate 2 (refine o_sku rfl rfl ?_)
   refine o_sk rfl rfl ?_
   refine oy hS y_pickF <| n_thenN ?_
   refine c_if_false (h := ?_)
   refine wp_skip <| c_region <| oy hS y_bin <| oy hS y_move <| n_thenN ?_
   obtain rfl := osi hF
   exact ⟨_, B0, mk_exF, (hS.re (.n))⟩
 replace hF := bf c27 hF
 refine wp_exit ?_
 refine c_seq <| c_region <| oy hS y_assign <| n_thenN ?_
 obtain rfl := osi hF
 obtain rfl : _ = r := B0
 exact wp_ret (wr1 hS)
theorem w_isa_Name2 {g : Frag} {a0 : ByteArray} {r : Bool}  (hF : isa_Name2 a0 = some r) : LCs Try.prog 94 #[.string a0] g (.bool r) := w_isa_Name2_  hF

def isa_Bits (a0 : Int) : Int :=
  bif decide (a0 = 3) then 14 else bif decide (a0 = 5) then 14 else bif decide (a0 = 9) then 14 else bif decide (a0 = 4) then 18 else bif decide (a0 = 8) then 18 else 0
theorem w_isa_Bits_ {g : Frag} {a0 : Int} {r : Int}  (hF : isa_Bits a0 = r) : LCs Try.prog 83 #[.int .i64 a0] g (.int .i64 r) := by
 unfold isa_Bits at hF
 refine lc_body (k := 11) (av := [.int .i64 a0]) func83 rfl rfl (h := fun W hS => ?_)
 refine c_seq <| c_region <| oy hS y_assign <| n_thenN ?_
 iterate 2 (refine c_seq ?_)
 refine c_region <| oy hS y_move <| n_thenN <| c_block ?_
 iterate 2 (refine c_seq ?_)
 refine c_region <| oy hS y_bin <| oy hS y_assign <| n_thenN ?_
 refine c_if (ht := fun c1 => ?_) (hf := fun c1 => ?_)
 · replace hF := bt c1 hF
   refine wp_skip ?_
   refine c_ifT c1 ?_
   refine c_seq <| c_region <| oy hS y_assign <| n_thenN ?_
   subst hF
   exact wp_ret (wr1 hS)
 replace hF := bf c1 hF
 refine c_seq <| c_region <| oy hS y_bin <| oy hS y_assign <| n_thenN ?_
 refine c_if (ht := fun c2 => ?_) (hf := fun c2 => ?_)
 · replace hF := bt c2 hF
   refine wp_skip ?_
   refine c_ifT c2 ?_
   refine c_seq <| c_region <| oy hS y_assign <| n_thenN ?_
   subst hF
   exact wp_ret (wr1 hS)
 replace hF := bf c2 hF
 refine c_region <| oy hS y_bin <| oy hS y_assign <| n_thenN ?_
 refine c_if (ht := fun c3 => ?_) (hf := fun c3 => ?_)
 · replace hF := bt c3 hF
   refine c_seq <| c_region <| oy hS y_assign <| n_thenN ?_
   subst hF
   exact wp_ret (wr1 hS)
 replace hF := bf c3 hF
 iterate 2 (refine c_seq ?_)
 refine c_region <| oy hS y_bin <| oy hS y_assign <| n_thenN ?_
 refine c_if (ht := fun c4 => ?_) (hf := fun c4 => ?_)
 · replace hF := bt c4 hF
   refine wp_skip ?_
   refine c_ifT c4 ?_
   refine c_seq <| c_region <| oy hS y_assign <| n_thenN ?_
   subst hF
   exact wp_ret (wr1 hS)
 replace hF := bf c4 hF
 refine c_region <| oy hS y_bin <| oy hS y_assign <| n_thenN ?_
 refine c_if (ht := fun c5 => ?_) (hf := fun c5 => ?_)
 · replace hF := bt c5 hF
   refine c_seq <| c_region <| oy hS y_assign <| n_thenN ?_
   subst hF
   exact wp_ret (wr1 hS)
 replace hF := bf c5 hF
 refine wp_skip <| c_seq <| c_region <| oy hS y_assign <| n_thenN ?_
 subst hF
 exact wp_ret (wr1 hS)
theorem w_isa_Bits {g : Frag} {a0 : Int}  : LCs Try.prog 83 #[.int .i64 a0] g (.int .i64 (isa_Bits a0)) := w_isa_Bits_  rfl

noncomputable def word_Within (a0 : Int) (a1 : Int) : Option Bool :=
  (shl' .i64 (-1) (IntKind.i64.wrap (a1 - 1))).bind fun x1 => bif decide (x1 ≤ a0) then (shl' .i64 1 (IntKind.i64.wrap (a1 - 1))).bind fun x3 => some (decide (a0 < x3)) else some (false)
theorem w_word_Within_ {g : Frag} {a0 : Int} {a1 : Int} {r : Bool}  (hF : word_Within a0 a1 = some r) : LCs Try.prog 95 #[.int .i64 a0, .int .i64 a1] g (.bool r) := by
 unfold word_Within at hF
 refine lc_body (k := 17) (av := [.int .i64 a0, .int .i64 a1]) func95 rfl rfl (h := fun W hS => ?_)
 refine c_seq <| c_region <| oy hS y_assign <| n_thenN <| c_seq <| c_region ?_
 iterate 2 (refine oy hS y_move ?_)
 refine oy hS y_bin ?_
 obtain ⟨x1, hx1, hF⟩ := ob hF
 refine oy hS (y_shl hx1) <| oy hS y_bin ?_
 refine o_split (ht := fun c2 => ?_) (hf := fun c2 => ?_)
 · replace hF := bt c2 hF
   refine o_gu rfl rfl rfl <| oy hS y_move <| o_gu rfl rfl rfl <| oy hS y_move <| o_gu rfl rfl rfl <| oy hS y_bin <| o_gu rfl rfl rfl ?_
   obtain ⟨x3, hx3, hF⟩ := ob hF
   refine oy hS (y_shl hx3) <| o_gu rfl rfl rfl <| oy hS y_bin <| oy hS y_pickT <| oy hS y_assign <| n_thenN ?_
   obtain rfl := osi hF
   exact wp_ret (wr1 hS)
 replace hF := bf c2 hF
 iterate 5 (refine o_sk rfl rfl ?_)
 refine oy hS y_pickF <| oy hS y_assign <| n_thenN ?_
 obtain rfl := osi hF
 exact wp_ret (wr1 hS)
theorem w_word_Within {g : Frag} {a0 : Int} {a1 : Int} {r : Bool}  (hF : word_Within a0 a1 = some r) : LCs Try.prog 95 #[.int .i64 a0, .int .i64 a1] g (.bool r) := w_word_Within_  hF

noncomputable def isa_imm (a0 : T_Ins) (a1 : Int) : Option Bool :=
  bif (isa_Target a1) then bif !(decide (a0.Sym = (ByteArray.mk #[]))) then bif decide (a0.Imm = 0) then (isa_Name2 a0.Sym).bind fun r5 => some (r5) else some (false) else bif decide (0 ≤ a0.Imm) then some (decide (a0.Imm < 1024)) else some (false) else bif decide (a1 = 4) then bif !(decide (a0.Sym = (ByteArray.mk #[]))) then (isa_Name2 a0.Sym).bind fun r9 => bif !r9 then some (false) else bif decide (a1 ≠ 4) then some (false) else bif decide ((isa_Bits a1) = 0) then some (decide (a0.Imm = 0)) else (word_Within a0.Imm (isa_Bits a1)).bind fun r13 => some (r13) else bif decide (a1 ≠ 4) then bif decide ((isa_Bits a1) = 0) then some (decide (a0.Imm = 0)) else (word_Within a0.Imm (isa_Bits a1)).bind fun r16 => some (r16) else bif decide ((isa_Bits a1) = 0) then some (decide (a0.Imm = 0)) else (word_Within a0.Imm (isa_Bits a1)).bind fun r18 => some (r18) else bif decide (a1 ≠ 4) then bif !(decide (a0.Sym = (ByteArray.mk #[]))) then some (false) else bif decide ((isa_Bits a1) = 0) then some (decide (a0.Imm = 0)) else (word_Within a0.Imm (isa_Bits a1)).bind fun r22 => some (r22) else bif decide ((isa_Bits a1) = 0) then some (decide (a0.Imm = 0)) else (word_Within a0.Imm (isa_Bits a1)).bind fun r24 => some (r24)
theorem w_isa_imm_ {g : Frag} {a0 : T_Ins} {a1 : Int} {r : Bool}  (hF : isa_imm a0 a1 = some r) : LCs Try.prog 90 #[.agg (enc_Ins a0).toArray, .int .i64 a1] g (.bool r) := by
 unfold isa_imm at hF
 refine lc_body (k := 65) (av := [.agg (enc_Ins a0).toArray, .int .i64 a1]) func90 rfl rfl (h := fun W hS => ?_)
 refine c_seq <| c_region ?_
 refine o_boxP (cl := (enc_Ins a0)) rfl hS ?_
 clear hS; intro b1 w hS
 refine oy hS y_assign <| n_thenN <| c_seq <| c_block <| c_seq <| c_region <| oy hS y_move ?_
 refine o_callS hS func84 rfl rfl (hc := (w_isa_Target (a0 := a1))) (h := ?_)
 clear hS; intro w hS
 refine o_split (ht := fun c2 => ?_) (hf := fun c2 => ?_)
 · replace hF := bt c2 hF
   refine o_gu rfl rfl rfl <| oy hS (y_field fa_api_Ins_5) <| o_gu rfl rfl rfl <| oy hS (y_load oH underlying9 rfl rfl) <| o_gu rfl rfl rfl <| oy hS y_sneq <| oy hS y_pickT <| oy hS y_assign ?_
   refine n_thenN ?_
   refine c_if (ht := fun c3 => ?_) (hf := fun c3 => ?_)
   · replace hF := bt c3 hF
     refine c_seq <| c_region <| oy hS (y_field fa_api_Ins_4) <| oy hS (y_load oH underlying3 rfl rfl) <| oy hS y_bin ?_
     refine o_split (ht := fun c4 => ?_) (hf := fun c4 => ?_)
     · replace hF := bt c4 hF
       refine o_gu rfl rfl rfl <| oy hS (y_field fa_api_Ins_5) <| o_gu rfl rfl rfl <| oy hS (y_load oH underlying9 rfl rfl) <| o_gu rfl rfl rfl ?_
       obtain ⟨r5, hr5, hF⟩ := ob hF
       refine o_callS hS func94 rfl rfl (hc := (w_isa_Name2 (a0 := a0.Sym) (hF := hr5))) (h := ?_)
       clear hS; intro w hS
       refine oy hS y_pickT <| oy hS y_assign <| n_thenN ?_
       obtain rfl := osi hF
       exact wp_ret (wr1 hS)
     replace hF := bf c4 hF
     iterate 3 (refine o_sk rfl rfl ?_)
     refine oy hS y_pickF <| oy hS y_assign <| n_thenN ?_
     obtain rfl := osi hF
     exact wp_ret (wr1 hS)
   replace hF := bf c3 hF
   refine c_seq <| c_region <| oy hS y_move ?_
   refine o_callS hS func84 rfl rfl (hc := (w_isa_Target (a0 := a1))) (h := ?_)
   clear hS; intro w hS
   refine oy hS y_assign <| n_thenN ?_
   refine c_ifT c2 ?_
   refine c_seq <| c_region <| oy hS (y_field fa_api_Ins_4) <| oy hS (y_load oH underlying3 rfl rfl) <| oy hS y_bin ?_
   refine o_split (ht := fun c6 => ?_) (hf := fun c6 => ?_)
   · replace hF := bt c6 hF
     refine o_gu rfl rfl rfl <| oy hS (y_field fa_api_Ins_4) <| o_gu rfl rfl rfl <| oy hS (y_load oH underlying3 rfl rfl) <| o_gu rfl rfl rfl <| oy hS y_bin <| oy hS y_pickT <| oy hS y_assign ?_
     refine n_thenN ?_
     obtain rfl := osi hF
     exact wp_ret (wr1 hS)
   replace hF := bf c6 hF
   iterate 3 (refine o_sk rfl rfl ?_)
   refine oy hS y_pickF <| oy hS y_assign <| n_thenN ?_
   obtain rfl := osi hF
   exact wp_ret (wr1 hS)
 replace hF := bf c2 hF
 iterate 3 (refine o_sk rfl rfl ?_)
 refine oy hS y_pickF <| oy hS y_assign <| n_thenN ?_
 refine c_if_false (h := ?_)
 refine c_seq <| c_region <| oy hS y_move ?_
 refine o_callS hS func84 rfl rfl (hc := (w_isa_Target (a0 := a1))) (h := ?_)
 clear hS; intro w hS
 refine oy hS y_assign <| n_thenN ?_
 refine c_ifF c2 ?_
 iterate 2 (refine c_seq ?_)
 refine c_region <| oy hS y_move <| oy hS y_bin ?_
 refine o_split (ht := fun c7 => ?_) (hf := fun c7 => ?_)
 · replace hF := bt c7 hF
   refine o_gu rfl rfl rfl <| oy hS (y_field fa_api_Ins_5) <| o_gu rfl rfl rfl <| oy hS (y_load oH underlying9 rfl rfl) <| o_gu rfl rfl rfl <| oy hS y_sneq <| oy hS y_pickT ?_
   refine o_split (ht := fun c8 => ?_) (hf := fun c8 => ?_)
   · replace hF := bt c8 hF
     refine o_gu rfl rfl rfl <| oy hS (y_field fa_api_Ins_5) <| o_gu rfl rfl rfl <| oy hS (y_load oH underlying9 rfl rfl) <| o_gu rfl rfl rfl ?_
     obtain ⟨r9, hr9, hF⟩ := ob hF
     refine o_callS hS func94 rfl rfl (hc := (w_isa_Name2 (a0 := a0.Sym) (hF := hr9))) (h := ?_)
     clear hS; intro w hS
     refine o_gu rfl rfl rfl <| oy hS y_not <| oy hS y_pickT <| oy hS y_assign <| n_thenN ?_
     refine c_if (ht := fun c10 => ?_) (hf := fun c10 => ?_)
     · replace hF := bt c10 hF
       refine wp_skip ?_
       refine c_ifT c10 ?_
       refine c_seq <| c_region <| oy hS y_assign <| n_thenN ?_
       obtain rfl := osi hF
       exact wp_ret (wr1 hS)
     replace hF := bf c10 hF
     refine c_region <| oy hS y_move <| oy hS y_bin ?_
     refine o_split (ht := fun c11 => ?_) (hf := fun c11 => ?_)
     · replace hF := bt c11 hF
       refine o_gu rfl rfl rfl <| oy hS (y_field fa_api_Ins_5) <| o_gu rfl rfl rfl <| oy hS (y_load oH underlying9 rfl rfl) <| o_gu rfl rfl rfl <| oy hS y_sneq <| oy hS y_pickT <| oy hS y_assign ?_
       refine n_thenN ?_
       refine c_ifT c8 ?_
       refine c_seq <| c_region <| oy hS y_assign <| n_thenN ?_
       obtain rfl := osi hF
       exact wp_ret (wr1 hS)
     replace hF := bf c11 hF
     iterate 3 (refine o_sk rfl rfl ?_)
     refine oy hS y_pickF <| oy hS y_assign <| n_thenN ?_
     refine c_if_false (h := ?_)
     refine c_seq <| c_region <| oy hS y_move ?_
     refine o_callS hS func83 rfl rfl (hc := (w_isa_Bits (a0 := a1))) (h := ?_)
     clear hS; intro w hS
     refine oy hS y_bin <| oy hS y_assign <| n_thenN ?_
     refine c_if (ht := fun c12 => ?_) (hf := fun c12 => ?_)
     · replace hF := bt c12 hF
       refine c_seq <| c_region <| oy hS (y_field fa_api_Ins_4) <| oy hS (y_load oH underlying3 rfl rfl) <| oy hS y_bin <| oy hS y_assign <| n_thenN ?_
       obtain rfl := osi hF
       exact wp_ret (wr1 hS)
     replace hF := bf c12 hF
     refine wp_skip <| c_seq ?_
     refine c_quiet (by kernel_rfl) (by kernel_rfl) hS ?_
     refine qy (y_field fa_api_Ins_4) <| qy (y_load (fun w hS => hS.own (mH)) underlying3 rfl rfl) <| qy y_move ?_
     refine q_callS func83 rfl rfl (hc := (w_isa_Bits (a0 := a1))) (h := ?_)
     obtain ⟨r13, B0, hF⟩ := ob hF
     refine q_callS func95 rfl rfl (hc := (w_word_Within (a0 := a0.Imm) (a1 := (isa_Bits a1)) (hF := B0))) (h := ?_)
     refine qy y_assign ?_
     refine q_nilN (h := ?_)
     clear hS; intro w hS
     obtain rfl := osi hF
     exact wp_ret (wr1 hS)
   replace hF := bf c8 hF
   iterate 4 (refine o_sk rfl rfl ?_)
   refine oy hS y_pickF <| oy hS y_assign <| n_thenN ?_
   refine c_if_false (h := ?_)
   refine c_region <| oy hS y_move <| oy hS y_bin ?_
   refine o_split (ht := fun c14 => ?_) (hf := fun c14 => ?_)
   · replace hF := bt c14 hF
     refine o_gu rfl rfl rfl <| oy hS (y_field fa_api_Ins_5) <| o_gu rfl rfl rfl <| oy hS (y_load oH underlying9 rfl rfl) <| o_gu rfl rfl rfl <| oy hS y_sneq <| oy hS y_pickT <| oy hS y_assign ?_
     refine n_thenN ?_
     refine c_ifF c8 ?_
     refine c_seq <| c_region <| oy hS y_move ?_
     refine o_callS hS func83 rfl rfl (hc := (w_isa_Bits (a0 := a1))) (h := ?_)
     clear hS; intro w hS
     refine oy hS y_bin <| oy hS y_assign <| n_thenN ?_
     refine c_if (ht := fun c15 => ?_) (hf := fun c15 => ?_)
     · replace hF := bt c15 hF
       refine c_seq <| c_region <| oy hS (y_field fa_api_Ins_4) <| oy hS (y_load oH underlying3 rfl rfl) <| oy hS y_bin <| oy hS y_assign <| n_thenN ?_
       obtain rfl := osi hF
       exact wp_ret (wr1 hS)
     replace hF := bf c15 hF
     refine wp_skip <| c_seq ?_
     refine c_quiet (by kernel_rfl) (by kernel_rfl) hS ?_
     refine qy (y_field fa_api_Ins_4) <| qy (y_load (fun w hS => hS.own (mH)) underlying3 rfl rfl) <| qy y_move ?_
     refine q_callS func83 rfl rfl (hc := (w_isa_Bits (a0 := a1))) (h := ?_)
     obtain ⟨r16, D0, hF⟩ := ob hF
     refine q_callS func95 rfl rfl (hc := (w_word_Within (a0 := a0.Imm) (a1 := (isa_Bits a1)) (hF := D0))) (h := ?_)
     refine qy y_assign ?_
     refine q_nilN (h := ?_)
     clear hS; intro w hS
     obtain rfl := osi hF
     exact wp_ret (wr1 hS)
   replace hF := bf c14 hF
   iterate 3 (refine o_sk rfl rfl ?_)
   refine oy hS y_pickF <| oy hS y_assign <| n_thenN ?_
   refine c_if_false (h := ?_)
   refine c_seq <| c_region <| oy hS y_move ?_
   refine o_callS hS func83 rfl rfl (hc := (w_isa_Bits (a0 := a1))) (h := ?_)
   clear hS; intro w hS
   refine oy hS y_bin <| oy hS y_assign <| n_thenN ?_
   refine c_if (ht := fun c17 => ?_) (hf := fun c17 => ?_)
   · replace hF := bt c17 hF
     refine c_seq <| c_region <| oy hS (y_field fa_api_Ins_4) <| oy hS (y_load oH underlying3 rfl rfl) <| oy hS y_bin <| oy hS y_assign <| n_thenN ?_
     obtain rfl := osi hF
     exact wp_ret (wr1 hS)
   replace hF := bf c17 hF
   refine wp_skip <| c_seq ?_
   refine c_quiet (by kernel_rfl) (by kernel_rfl) hS ?_
   refine qy (y_field fa_api_Ins_4) <| qy (y_load (fun w hS => hS.own (mH)) underlying3 rfl rfl) <| qy y_move ?_
   refine q_callS func83 rfl rfl (hc := (w_isa_Bits (a0 := a1))) (h := ?_)
   obtain ⟨r18, E0, hF⟩ := ob hF
   refine q_callS func95 rfl rfl (hc := (w_word_Within (a0 := a0.Imm) (a1 := (isa_Bits a1)) (hF := E0))) (h := ?_)
   refine qy y_assign ?_
   refine q_nilN (h := ?_)
   clear hS; intro w hS
   obtain rfl := osi hF
   exact wp_ret (wr1 hS)
 replace hF := bf c7 hF
 iterate 3 (refine o_sk rfl rfl ?_)
 refine oy hS y_pickF <| oy hS y_move ?_
 iterate 4 (refine o_sk rfl rfl ?_)
 refine oy hS y_pickF <| oy hS y_assign <| n_thenN ?_
 refine c_if_false (h := ?_)
 refine c_region <| oy hS y_move <| oy hS y_bin ?_
 refine o_split (ht := fun c19 => ?_) (hf := fun c19 => ?_)
 · replace hF := bt c19 hF
   refine o_gu rfl rfl rfl <| oy hS (y_field fa_api_Ins_5) <| o_gu rfl rfl rfl <| oy hS (y_load oH underlying9 rfl rfl) <| o_gu rfl rfl rfl <| oy hS y_sneq <| oy hS y_pickT <| oy hS y_assign ?_
   refine n_thenN ?_
   refine c_if (ht := fun c20 => ?_) (hf := fun c20 => ?_)
   · replace hF := bt c20 hF
     refine c_seq <| c_region <| oy hS y_assign <| n_thenN ?_
     obtain rfl := osi hF
     exact wp_ret (wr1 hS)
   replace hF := bf c20 hF
   refine c_seq <| c_region <| oy hS y_move ?_
   refine o_callS hS func83 rfl rfl (hc := (w_isa_Bits (a0 := a1))) (h := ?_)
   clear hS; intro w hS
   refine oy hS y_bin <| oy hS y_assign <| n_thenN ?_
   refine c_if (ht := fun c21 => ?_) (hf := fun c21 => ?_)
   · replace hF := bt c21 hF
     refine c_seq <| c_region <| oy hS (y_field fa_api_Ins_4) <| oy hS (y_load oH underlying3 rfl rfl) <| oy hS y_bin <| oy hS y_assign <| n_thenN ?_
     obtain rfl := osi hF
     exact wp_ret (wr1 hS)
   replace hF := bf c21 hF
   refine wp_skip <| c_seq ?_
   refine c_quiet (by kernel_rfl) (by kernel_rfl) hS ?_
   refine qy (y_field fa_api_Ins_4) <| qy (y_load (fun w hS => hS.own (mH)) underlying3 rfl rfl) <| qy y_move ?_
   refine q_callS func83 rfl rfl (hc := (w_isa_Bits (a0 := a1))) (h := ?_)
   obtain ⟨r22, G0, hF⟩ := ob hF
   refine q_callS func95 rfl rfl (hc := (w_word_Within (a0 := a0.Imm) (a1 := (isa_Bits a1)) (hF := G0))) (h := ?_)
   refine qy y_assign ?_
   refine q_nilN (h := ?_)
   clear hS; intro w hS
   obtain rfl := osi hF
   exact wp_ret (wr1 hS)
 replace hF := bf c19 hF
 iterate 3 (refine o_sk rfl rfl ?_)
 refine oy hS y_pickF <| oy hS y_assign <| n_thenN ?_
 refine c_if_false (h := ?_)
 refine c_seq <| c_region <| oy hS y_move ?_
 refine o_callS hS func83 rfl rfl (hc := (w_isa_Bits (a0 := a1))) (h := ?_)
 clear hS; intro w hS
 refine oy hS y_bin <| oy hS y_assign <| n_thenN ?_
 refine c_if (ht := fun c23 => ?_) (hf := fun c23 => ?_)
 · replace hF := bt c23 hF
   refine c_seq <| c_region <| oy hS (y_field fa_api_Ins_4) <| oy hS (y_load oH underlying3 rfl rfl) <| oy hS y_bin <| oy hS y_assign <| n_thenN ?_
   obtain rfl := osi hF
   exact wp_ret (wr1 hS)
 replace hF := bf c23 hF
 refine wp_skip <| c_seq ?_
 refine c_quiet (by kernel_rfl) (by kernel_rfl) hS ?_
 refine qy (y_field fa_api_Ins_4) <| qy (y_load (fun w hS => hS.own (mH)) underlying3 rfl rfl) <| qy y_move ?_
 refine q_callS func83 rfl rfl (hc := (w_isa_Bits (a0 := a1))) (h := ?_)
 obtain ⟨r24, I0, hF⟩ := ob hF
 refine q_callS func95 rfl rfl (hc := (w_word_Within (a0 := a0.Imm) (a1 := (isa_Bits a1)) (hF := I0))) (h := ?_)
 refine qy y_assign ?_
 refine q_nilN (h := ?_)
 clear hS; intro w hS
 obtain rfl := osi hF
 exact wp_ret (wr1 hS)
theorem w_isa_imm {g : Frag} {a0 : T_Ins} {a1 : Int} {r : Bool}  (hF : isa_imm a0 a1 = some r) : LCs Try.prog 90 #[.agg (enc_Ins a0).toArray, .int .i64 a1] g (.bool r) := w_isa_imm_  hF

noncomputable def isa_IsIns (a0 : T_Ins) : Option Bool :=
  bif !(isa_Is a0.Op) then some (false) else bif (isa_reg (isa_HasD (isa_Shape a0.Op)) a0.D) then bif (isa_reg (isa_HasA (isa_Shape a0.Op)) a0.A) then bif (isa_reg (isa_HasB (isa_Shape a0.Op)) a0.B) then (isa_imm a0 (isa_Shape a0.Op)).bind fun r6 => some (r6) else some (false) else some (false) else some (false)
theorem w_isa_IsIns_ {g : Frag} {a0 : T_Ins} {r : Bool}  (hF : isa_IsIns a0 = some r) : LCs Try.prog 65 #[.agg (enc_Ins a0).toArray] g (.bool r) := by
 unfold isa_IsIns at hF
 refine lc_body (k := 35) (av := [.agg (enc_Ins a0).toArray]) func65 rfl rfl (h := fun W hS => ?_)
 refine c_seq <| c_region ?_
 refine o_boxP (cl := (enc_Ins a0)) rfl hS ?_
 clear hS; intro b1 w hS
 refine oy hS y_assign <| n_thenN ?_
 iterate 2 (refine c_seq ?_)
 refine c_region <| oy hS (y_field fa_api_Ins_0) <| oy hS (y_load oH underlying3 rfl rfl) ?_
 refine o_callS hS func79 rfl rfl (hc := (w_isa_Is (a0 := a0.Op))) (h := ?_)
 clear hS; intro w hS
 refine oy hS y_not <| n_thenN ?_
 refine c_if (ht := fun c2 => ?_) (hf := fun c2 => ?_)
 · replace hF := bt c2 hF
   refine c_seq <| c_region <| oy hS y_assign <| n_thenN ?_
   obtain rfl := osi hF
   exact wp_ret (wr1 hS)
 replace hF := bf c2 hF
 refine wp_skip <| c_seq <| c_region <| oy hS (y_field fa_api_Ins_0) <| oy hS (y_load oH underlying3 rfl rfl) ?_
 refine o_callS hS func80 rfl rfl (hc := (w_isa_Shape (a0 := a0.Op))) (h := ?_)
 clear hS; intro w hS
 refine oy hS y_assign <| n_thenN <| c_seq ?_
 refine c_quiet (by kernel_rfl) (by kernel_rfl) hS ?_
 refine qy y_move ?_
 refine q_callS func81 rfl rfl (hc := (w_isa_HasD (a0 := (isa_Shape a0.Op)))) (h := ?_)
 refine qy (y_field fa_api_Ins_1) <| qy (y_load (fun w hS => hS.own (mH)) underlying3 rfl rfl) ?_
 refine q_callS func88 rfl rfl (hc := (w_isa_reg (a0 := (isa_HasD (isa_Shape a0.Op))) (a1 := a0.D))) (h := ?_)
 refine q_split (ht := fun c3 => ?_) (hf := fun c3 => ?_)
 · replace hF := bt c3 hF
   refine q_gu rfl rfl rfl ?_
   refine qy y_move ?_
   refine q_gu rfl rfl rfl ?_
   refine q_callS func82 rfl rfl (hc := (w_isa_HasA (a0 := (isa_Shape a0.Op)))) (h := ?_)
   refine q_gu rfl rfl rfl ?_
   refine qy (y_field fa_api_Ins_2) ?_
   refine q_gu rfl rfl rfl ?_
   refine qy (y_load (fun w hS => hS.own (mH)) underlying3 rfl rfl) ?_
   refine q_gu rfl rfl rfl ?_
   refine q_callS func88 rfl rfl (hc := (w_isa_reg (a0 := (isa_HasA (isa_Shape a0.Op))) (a1 := a0.A))) (h := ?_)
   refine qy y_pickT ?_
   refine q_split (ht := fun c4 => ?_) (hf := fun c4 => ?_)
   · replace hF := bt c4 hF
     refine q_gu rfl rfl rfl ?_
     refine qy y_move ?_
     refine q_gu rfl rfl rfl ?_
     refine q_callS func89 rfl rfl (hc := (w_isa_HasB (a0 := (isa_Shape a0.Op)))) (h := ?_)
     refine q_gu rfl rfl rfl ?_
     refine qy (y_field fa_api_Ins_3) ?_
     refine q_gu rfl rfl rfl ?_
     refine qy (y_load (fun w hS => hS.own (mH)) underlying3 rfl rfl) ?_
     refine q_gu rfl rfl rfl ?_
     refine q_callS func88 rfl rfl (hc := (w_isa_reg (a0 := (isa_HasB (isa_Shape a0.Op))) (a1 := a0.B))) (h := ?_)
     refine qy y_pickT ?_
     refine q_split (ht := fun c5 => ?_) (hf := fun c5 => ?_)
     · replace hF := bt c5 hF
       refine q_gu rfl rfl rfl ?_
       refine qy (y_loadW (fun w hS => hS.own (mH)) underlying78 rfl (by exact sz_api_Ins)) ?_
       refine q_gu rfl rfl rfl ?_
       refine qy y_move ?_
       refine q_gu rfl rfl rfl ?_
       obtain ⟨r6, hr6, hF⟩ := ob hF
       refine q_callS func90 rfl rfl (hc := (w_isa_imm (a0 := a0) (a1 := (isa_Shape a0.Op)) (hF := hr6))) (h := ?_)
       refine qy y_pickT <| qy y_assign ?_
       refine q_nilN (h := ?_)
       clear hS; intro w hS
       obtain rfl := osi hF
       exact wp_ret (wr1 hS)
     replace hF := bf c5 hF
     iterate 3 (refine q_sk rfl rfl ?_)
     refine qy y_pickF <| qy y_assign ?_
     refine q_nilN (h := ?_)
     clear hS; intro w hS
     obtain rfl := osi hF
     exact wp_ret (wr1 hS)
   replace hF := bf c4 hF
   iterate 5 (refine q_sk rfl rfl ?_)
   refine qy y_pickF <| qy y_move ?_
   iterate 3 (refine q_sk rfl rfl ?_)
   refine qy y_pickF <| qy y_assign ?_
   refine q_nilN (h := ?_)
   clear hS; intro w hS
   obtain rfl := osi hF
   exact wp_ret (wr1 hS)
 replace hF := bf c3 hF
 iterate 5 (refine q_sk rfl rfl ?_)
 refine qy y_pickF <| qy y_move ?_
 iterate 5 (refine q_sk rfl rfl ?_)
 refine qy y_pickF <| qy y_move ?_
 iterate 3 (refine q_sk rfl rfl ?_)
 refine qy y_pickF <| qy y_assign ?_
 refine q_nilN (h := ?_)
 clear hS; intro w hS
 obtain rfl := osi hF
 exact wp_ret (wr1 hS)
theorem w_isa_IsIns {g : Frag} {a0 : T_Ins} {r : Bool}  (hF : isa_IsIns a0 = some r) : LCs Try.prog 65 #[.agg (enc_Ins a0).toArray] g (.bool r) := w_isa_IsIns_  hF

def isa_Ends (a0 : Int) : Bool :=
  bif decide (28 ≤ a0) then decide (a0 ≤ 33) else false
theorem w_isa_Ends_ {g : Frag} {a0 : Int} {r : Bool}  (hF : isa_Ends a0 = r) : LCs Try.prog 87 #[.int .i64 a0] g (.bool r) := by
 unfold isa_Ends at hF
 refine lc_body (k := 9) (av := [.int .i64 a0]) func87 rfl rfl (h := fun W hS => ?_)
 refine c_seq <| c_region <| oy hS y_assign <| n_thenN <| c_seq <| c_region <| oy hS y_move <| oy hS y_bin ?_
 refine o_split (ht := fun c1 => ?_) (hf := fun c1 => ?_)
 · replace hF := bt c1 hF
   refine o_gu rfl rfl rfl <| oy hS y_move <| o_gu rfl rfl rfl <| oy hS y_bin <| oy hS y_pickT <| oy hS y_assign <| n_thenN ?_
   subst hF
   exact wp_ret (wr1 hS)
 replace hF := bf c1 hF
 iterate 2 (refine o_sk rfl rfl ?_)
 refine oy hS y_pickF <| oy hS y_assign <| n_thenN ?_
 subst hF
 exact wp_ret (wr1 hS)
theorem w_isa_Ends {g : Frag} {a0 : Int}  : LCs Try.prog 87 #[.int .i64 a0] g (.bool (isa_Ends a0)) := w_isa_Ends_  rfl

def isa_May (a0 : Int) (a1 : Int) : Bool :=
  bif !(isa_Is a0) then false else bif decide (a1 < 0) then false else bif decide (3 < a1) then false else bif decide (a0 = 0) then true else bif decide (a0 = 14) then decide (a1 = 3) else bif decide (a0 = 15) then decide (a1 = 3) else bif decide (a0 = 16) then decide (a1 = 3) else bif decide (a0 = 17) then decide (a1 = 3) else bif decide (a0 = 20) then decide (a1 = 3) else bif decide (a0 = 18) then decide (a1 = 1) else bif decide (a0 = 19) then decide (a1 = 1) else bif decide (a0 = 21) then decide (a1 = 1) else bif decide (a0 = 24) then decide (a1 = 2) else bif decide (a0 = 25) then decide (a1 = 2) else bif decide (a0 = 26) then decide (a1 = 2) else bif decide (a0 = 27) then decide (a1 = 2) else bif decide (a1 = 0) then true else bif decide (a1 = 1) then !(isa_Ends a0) else false
theorem w_isa_May_ {g : Frag} {a0 : Int} {a1 : Int} {r : Bool}  (hF : isa_May a0 a1 = r) : LCs Try.prog 62 #[.int .i64 a0, .int .i64 a1] g (.bool r) := by
 unfold isa_May at hF
 refine lc_body (k := 51) (av := [.int .i64 a0, .int .i64 a1]) func62 rfl rfl (h := fun W hS => ?_)
 refine c_seq <| c_region <| oy hS y_assign <| n_thenN ?_
 iterate 2 (refine c_seq ?_)
 refine c_region <| oy hS y_move ?_
 refine o_callS hS func79 rfl rfl (hc := (w_isa_Is (a0 := a0))) (h := ?_)
 clear hS; intro w hS
 refine oy hS y_not ?_
 refine o_split (ht := fun c1 => ?_) (hf := fun c1 => ?_)
 · replace hF := bt c1 hF
   iterate 2 (refine o_sk rfl rfl ?_)
   refine oy hS y_pickT <| oy hS y_move ?_
   iterate 2 (refine o_sk rfl rfl ?_)
   refine oy hS y_pickT <| n_thenN ?_
   refine c_if_true (h := ?_)
   refine c_seq <| c_region <| oy hS y_assign <| n_thenN ?_
   subst hF
   exact wp_ret (wr1 hS)
 replace hF := bf c1 hF
 refine o_gu rfl rfl rfl <| oy hS y_move <| o_gu rfl rfl rfl <| oy hS y_bin <| oy hS y_pickF ?_
 refine o_split (ht := fun c2 => ?_) (hf := fun c2 => ?_)
 · replace hF := bt c2 hF
   iterate 2 (refine o_sk rfl rfl ?_)
   refine oy hS y_pickT <| n_thenN ?_
   refine c_if_true (h := ?_)
   refine c_seq <| c_region <| oy hS y_assign <| n_thenN ?_
   subst hF
   exact wp_ret (wr1 hS)
 replace hF := bf c2 hF
 refine o_gu rfl rfl rfl <| oy hS y_move <| o_gu rfl rfl rfl <| oy hS y_bin <| oy hS y_pickF <| n_thenN ?_
 refine c_if (ht := fun c3 => ?_) (hf := fun c3 => ?_)
 · replace hF := bt c3 hF
   refine c_seq <| c_region <| oy hS y_assign <| n_thenN ?_
   subst hF
   exact wp_ret (wr1 hS)
 replace hF := bf c3 hF
 refine wp_skip ?_
 iterate 2 (refine c_seq ?_)
 refine c_region <| oy hS y_move <| n_thenN <| c_block <| c_seq <| c_region <| oy hS y_bin <| oy hS y_assign ?_
 refine n_thenN ?_
 refine c_if (ht := fun c4 => ?_) (hf := fun c4 => ?_)
 · replace hF := bt c4 hF
   refine c_seq <| c_region <| oy hS y_assign <| n_thenN ?_
   subst hF
   exact wp_ret (wr1 hS)
 replace hF := bf c4 hF
 iterate 2 (refine c_seq ?_)
 refine c_region <| oy hS y_bin <| oy hS y_assign <| n_thenN ?_
 refine c_if (ht := fun c5 => ?_) (hf := fun c5 => ?_)
 · replace hF := bt c5 hF
   refine wp_skip ?_
   refine c_ifT c5 ?_
   refine c_seq <| c_region <| oy hS y_move <| oy hS y_bin <| oy hS y_assign <| n_thenN ?_
   subst hF
   exact wp_ret (wr1 hS)
 replace hF := bf c5 hF
 refine c_seq <| c_region <| oy hS y_bin <| oy hS y_assign <| n_thenN ?_
 refine c_if (ht := fun c6 => ?_) (hf := fun c6 => ?_)
 · replace hF := bt c6 hF
   refine wp_skip ?_
   refine c_ifT c6 ?_
   refine c_seq <| c_region <| oy hS y_move <| oy hS y_bin <| oy hS y_assign <| n_thenN ?_
   subst hF
   exact wp_ret (wr1 hS)
 replace hF := bf c6 hF
 refine c_seq <| c_region <| oy hS y_bin <| oy hS y_assign <| n_thenN ?_
 refine c_if (ht := fun c7 => ?_) (hf := fun c7 => ?_)
 · replace hF := bt c7 hF
   refine wp_skip ?_
   refine c_ifT c7 ?_
   refine c_seq <| c_region <| oy hS y_move <| oy hS y_bin <| oy hS y_assign <| n_thenN ?_
   subst hF
   exact wp_ret (wr1 hS)
 replace hF := bf c7 hF
 refine c_seq <| c_region <| oy hS y_bin <| oy hS y_assign <| n_thenN ?_
 refine c_if (ht := fun c8 => ?_) (hf := fun c8 => ?_)
 · replace hF := bt c8 hF
   refine wp_skip ?_
   refine c_ifT c8 ?_
   refine c_seq <| c_region <| oy hS y_move <| oy hS y_bin <| oy hS y_assign <| n_thenN ?_
   subst hF
   exact wp_ret (wr1 hS)
 replace hF := bf c8 hF
 refine c_region <| oy hS y_bin <| oy hS y_assign <| n_thenN ?_
 refine c_if (ht := fun c9 => ?_) (hf := fun c9 => ?_)
 · replace hF := bt c9 hF
   refine c_seq <| c_region <| oy hS y_move <| oy hS y_bin <| oy hS y_assign <| n_thenN ?_
   subst hF
   exact wp_ret (wr1 hS)
 replace hF := bf c9 hF
 iterate 2 (refine c_seq ?_)
 refine c_region <| oy hS y_bin <| oy hS y_assign <| n_thenN ?_
 refine c_if (ht := fun c10 => ?_) (hf := fun c10 => ?_)
 · replace hF := bt c10 hF
   refine wp_skip ?_
   refine c_ifT c10 ?_
   refine c_seq <| c_region <| oy hS y_move <| oy hS y_bin <| oy hS y_assign <| n_thenN ?_
   subst hF
   exact wp_ret (wr1 hS)
 replace hF := bf c10 hF
 refine c_seq <| c_region <| oy hS y_bin <| oy hS y_assign <| n_thenN ?_
 refine c_if (ht := fun c11 => ?_) (hf := fun c11 => ?_)
 · replace hF := bt c11 hF
   refine wp_skip ?_
   refine c_ifT c11 ?_
   refine c_seq <| c_region <| oy hS y_move <| oy hS y_bin <| oy hS y_assign <| n_thenN ?_
   subst hF
   exact wp_ret (wr1 hS)
 replace hF := bf c11 hF
 refine c_region <| oy hS y_bin <| oy hS y_assign <| n_thenN ?_
 refine c_if (ht := fun c12 => ?_) (hf := fun c12 => ?_)
 · replace hF := bt c12 hF
   refine c_seq <| c_region <| oy hS y_move <| oy hS y_bin <| oy hS y_assign <| n_thenN ?_
   subst hF
   exact wp_ret (wr1 hS)
 replace hF := bf c12 hF
 iterate 2 (refine c_seq ?_)
 refine c_region <| oy hS y_bin <| oy hS y_assign <| n_thenN ?_
 refine c_if (ht := fun c13 => ?_) (hf := fun c13 => ?_)
 · replace hF := bt c13 hF
   refine wp_skip ?_
   refine c_ifT c13 ?_
   refine c_seq <| c_region <| oy hS y_move <| oy hS y_bin <| oy hS y_assign <| n_thenN ?_
   subst hF
   exact wp_ret (wr1 hS)
 replace hF := bf c13 hF
 refine c_seq <| c_region <| oy hS y_bin <| oy hS y_assign <| n_thenN ?_
 refine c_if (ht := fun c14 => ?_) (hf := fun c14 => ?_)
 · replace hF := bt c14 hF
   refine wp_skip ?_
   refine c_ifT c14 ?_
   refine c_seq <| c_region <| oy hS y_move <| oy hS y_bin <| oy hS y_assign <| n_thenN ?_
   subst hF
   exact wp_ret (wr1 hS)
 replace hF := bf c14 hF
 refine c_seq <| c_region <| oy hS y_bin <| oy hS y_assign <| n_thenN ?_
 refine c_if (ht := fun c15 => ?_) (hf := fun c15 => ?_)
 · replace hF := bt c15 hF
   refine wp_skip ?_
   refine c_ifT c15 ?_
   refine c_seq <| c_region <| oy hS y_move <| oy hS y_bin <| oy hS y_assign <| n_thenN ?_
   subst hF
   exact wp_ret (wr1 hS)
 replace hF := bf c15 hF
 refine c_region <| oy hS y_bin <| oy hS y_assign <| n_thenN ?_
 refine c_if (ht := fun c16 => ?_) (hf := fun c16 => ?_)
 · replace hF := bt c16 hF
   refine c_seq <| c_region <| oy hS y_move <| oy hS y_bin <| oy hS y_assign <| n_thenN ?_
   subst hF
   exact wp_ret (wr1 hS)
 replace hF := bf c16 hF
 refine wp_skip <| c_seq <| c_region <| oy hS y_move <| oy hS y_bin ?_
 refine o_split (ht := fun c17 => ?_) (hf := fun c17 => ?_)
 · replace hF := bt c17 hF
   iterate 3 (refine o_sk rfl rfl ?_)
   iterate 3 (refine o_sku rfl rfl ?_)
   refine o_sk rfl rfl ?_
   refine oy hS y_pickT <| oy hS y_assign <| n_thenN ?_
   subst hF
   exact wp_ret (wr1 hS)
 replace hF := bf c17 hF
 refine o_gu rfl rfl rfl <| oy hS y_move <| o_gu rfl rfl rfl <| oy hS y_bin <| o_gu rfl rfl rfl ?_
 refine o_split (ht := fun c18 => ?_) (hf := fun c18 => ?_)
 · replace hF := bt c18 hF
   refine o_gu rfl rfl rfl <| oy hS y_move <| o_gu rfl rfl rfl ?_
   refine o_callS hS func87 rfl rfl (hc := (w_isa_Ends (a0 := a0))) (h := ?_)
   clear hS; intro w hS
   refine o_gu rfl rfl rfl <| oy hS y_not <| o_gu rfl rfl rfl <| oy hS y_pickT <| oy hS y_pickF <| oy hS y_assign <| n_thenN ?_
   subst hF
   exact wp_ret (wr1 hS)
 replace hF := bf c18 hF
 iterate 3 (refine o_sk rfl rfl ?_)
 refine o_gu rfl rfl rfl ?_
 iterate 2 (refine oy hS y_pickF ?_)
 refine oy hS y_assign <| n_thenN ?_
 subst hF
 exact wp_ret (wr1 hS)
theorem w_isa_May {g : Frag} {a0 : Int} {a1 : Int}  : LCs Try.prog 62 #[.int .i64 a0, .int .i64 a1] g (.bool (isa_May a0 a1)) := w_isa_May_  rfl

noncomputable def bits_IsBundle_b1 (a0 : (A4 T_Ins)) : Int → Option (Step Int Bool) := fun x7 => bif decide (x7 < 4) then (at' [a0.x0, a0.x1, a0.x2, a0.x3] x7).bind fun x19 => (isa_IsIns x19).bind fun r21 => bif !r21 then some (.done (false)) else bif !(isa_May x19.Op x7) then some (.done (false)) else some (.next (IntKind.i64.wrap (x7 + 1))) else some (.done (true))
noncomputable def bits_IsBundle (a0 : (A4 T_Ins)) : Option Bool :=
  loop (σ := Int) (bits_IsBundle_b1 a0) 0
theorem w_bits_IsBundle_ {g : Frag} {a0 : (A4 T_Ins)} {r : Bool}  (hF : bits_IsBundle a0 = some r) : LCs Try.prog 51 #[.agg (enc_Bundle a0).toArray] g (.bool r) := by
 unfold bits_IsBundle at hF
 refine lc_body (k := 21) (av := [.agg (enc_Bundle a0).toArray]) func51 rfl rfl (h := fun W hS => ?_)
 refine c_seq <| c_region ?_
 refine o_boxP (cl := (enc_Bundle a0)) rfl hS ?_
 clear hS; intro b1 w hS
 refine oy hS y_assign <| n_thenN ?_
 iterate 2 (refine c_seq ?_)
 refine c_region ?_
 refine oy hS (y_loadW oH underlying80 rfl (by exact sz_api_Bundle)) ?_
 refine oy hS y_move <| n_thenN <| c_block ?_
 refine c_loopP hF (fun (q : Int) a w' => (∃ s : Nat → Value, a = Ac (((Fm.dead 21 s).upd 5 (.agg (enc_Bundle a0).toArray)).upd 6 (.int .i64 q))) ∧ St W g [] [] w') ⟨mk_exF, (hS.re (.n))⟩ ?_
 clear hS hF
 intro n16 q a w hI hq
 revert hq hI; revert q; intro x7 hI hq
 obtain ⟨⟨s17, rfl⟩, hS⟩ := hq
 obtain ⟨z14, hF, B0⟩ := iter_step hI
 clear hI
 dsimp only [bits_IsBundle_b1] at hF
 refine c_seq <| c_region <| oy hS y_bin <| n_thenN <| c_seq ?_
 refine c_if (ht := fun c18 => ?_) (hf := fun c18 => ?_)
 · replace hF := bt c18 hF
   refine wp_skip <| c_seq <| c_block <| c_seq <| c_region <| oy hS y_move ?_
   obtain ⟨x19, D0, hF⟩ := ob hF
   refine oy hS (y_ixA (enc := enc_Ins) D0 enc_len_Ins underlying80 rfl underlying78 rfl (by exact sz_api_Ins)) ?_
   refine o_allocP (cl := (enc_Ins ⟨0, 0, 0, 0, 0, ByteArray.empty⟩)) zr_api_Ins rfl hS ?_
   clear hS; intro b20 w hS
   refine oy hS y_assign ?_
   refine o_storeW (vs := (enc_Ins x19)) hS (by exact rfl) (Upd.here _) (by exact sz_api_Ins) (enc_one_Ins _) ?_
   clear hS; intro w hS
   refine n_thenN <| c_seq <| c_region ?_
   refine oy hS (y_loadW oH underlying78 rfl (by exact sz_api_Ins)) ?_
   obtain ⟨r21, E0, hF⟩ := ob hF
   refine o_callS hS func65 rfl rfl (hc := (w_isa_IsIns (a0 := x19) (hF := E0))) (h := ?_)
   clear hS; intro w hS
   refine oy hS y_not ?_
   refine o_split (ht := fun c22 => ?_) (hf := fun c22 => ?_)
   · replace hF := bt c22 hF
     iterate 5 (refine o_sk rfl rfl ?_)
     refine oy hS y_pickT <| n_thenN ?_
     refine c_if_true (h := ?_)
     refine c_seq <| c_region <| oy hS y_assign <| n_thenN ?_
     obtain rfl := osi hF
     obtain rfl : _ = r := B0
     exact wp_ret (wr1 hS)
   replace hF := bf c22 hF
   refine o_gu rfl rfl rfl <| oy hS (y_field fa_api_Ins_0) <| o_gu rfl rfl rfl <| oy hS (y_load oH underlying3 rfl rfl) <| o_gu rfl rfl rfl <| oy hS y_move <| o_gu rfl rfl rfl ?_
   refine o_callS hS func62 rfl rfl (hc := (w_isa_May (a0 := x19.Op) (a1 := x7))) (h := ?_)
   clear hS; intro w hS
   refine o_gu rfl rfl rfl <| oy hS y_not <| oy hS y_pickF <| n_thenN ?_
   refine c_if (ht := fun c23 => ?_) (hf := fun c23 => ?_)
   · replace hF := bt c23 hF
     refine c_seq <| c_region <| oy hS y_assign <| n_thenN ?_
     obtain rfl := osi hF
     obtain rfl : _ = r := B0
     exact wp_ret (wr1 hS)
   replace hF := bf c23 hF
   refine wp_skip <| c_region <| oy hS y_bin <| oy hS y_move <| n_thenN ?_
   obtain rfl := osi hF
   exact ⟨_, B0, mk_exF, (hS.re (.n))⟩
 replace hF := bf c18 hF
 refine wp_exit ?_
 refine c_seq <| c_region <| oy hS y_assign <| n_thenN ?_
 obtain rfl := osi hF
 obtain rfl : _ = r := B0
 exact wp_ret (wr1 hS)
theorem w_bits_IsBundle {g : Frag} {a0 : (A4 T_Ins)} {r : Bool}  (hF : bits_IsBundle a0 = some r) : LCs Try.prog 51 #[.agg (enc_Bundle a0).toArray] g (.bool r) := w_bits_IsBundle_  hF

noncomputable def bits_Bare_b1 (a0 : (A4 T_Ins)) : Int → Option (Step Int Bool) := fun x5 => bif decide (x5 < 4) then (at' [a0.x0, a0.x1, a0.x2, a0.x3] x5).bind fun x15 => bif !(decide (x15.Sym = (ByteArray.mk #[]))) then some (.done (false)) else some (.next (IntKind.i64.wrap (x5 + 1))) else some (.done (true))
noncomputable def bits_Bare (a0 : (A4 T_Ins)) : Option Bool :=
  loop (σ := Int) (bits_Bare_b1 a0) 0
theorem w_bits_Bare_ {g : Frag} {a0 : (A4 T_Ins)} {r : Bool}  (hF : bits_Bare a0 = some r) : LCs Try.prog 52 #[.agg (enc_Bundle a0).toArray] g (.bool r) := by
 unfold bits_Bare at hF
 refine lc_body (k := 13) (av := [.agg (enc_Bundle a0).toArray]) func52 rfl rfl (h := fun W hS => ?_)
 refine c_seq <| c_region ?_
 refine o_boxP (cl := (enc_Bundle a0)) rfl hS ?_
 clear hS; intro b1 w hS
 refine oy hS y_assign <| n_thenN ?_
 iterate 2 (refine c_seq ?_)
 refine c_region ?_
 refine oy hS (y_loadW oH underlying80 rfl (by exact sz_api_Bundle)) ?_
 refine oy hS y_move <| n_thenN <| c_block ?_
 refine c_loopP hF (fun (q : Int) a w' => (∃ s : Nat → Value, a = Ac (((Fm.dead 13 s).upd 5 (.agg (enc_Bundle a0).toArray)).upd 6 (.int .i64 q))) ∧ St W g [] [] w') ⟨mk_exF, (hS.re (.n))⟩ ?_
 clear hS hF
 intro n12 q a w hI hq
 revert hq hI; revert q; intro x5 hI hq
 obtain ⟨⟨s13, rfl⟩, hS⟩ := hq
 obtain ⟨z10, hF, B0⟩ := iter_step hI
 clear hI
 dsimp only [bits_Bare_b1] at hF
 refine c_seq <| c_region <| oy hS y_bin <| n_thenN <| c_seq ?_
 refine c_if (ht := fun c14 => ?_) (hf := fun c14 => ?_)
 · replace hF := bt c14 hF
   refine wp_skip <| c_seq <| c_block <| c_seq <| c_region ?_
   obtain ⟨x15, D0, hF⟩ := ob hF
   refine oy hS (y_ixA (enc := enc_Ins) D0 enc_len_Ins underlying80 rfl underlying78 rfl (by exact sz_api_Ins)) ?_
   refine o_allocP (cl := (enc_Ins ⟨0, 0, 0, 0, 0, ByteArray.empty⟩)) zr_api_Ins rfl hS ?_
   clear hS; intro b16 w hS
   refine o_storeW (vs := (enc_Ins x15)) hS (by exact rfl) (Upd.here _) (by exact sz_api_Ins) (enc_one_Ins _) ?_
   clear hS; intro w hS
   refine n_thenN <| c_seq <| c_region <| oy hS (y_field fa_api_Ins_5) <| oy hS (y_load oH underlying9 rfl rfl) <| oy hS y_sneq <| n_thenN ?_
   refine c_if (ht := fun c17 => ?_) (hf := fun c17 => ?_)
   · replace hF := bt c17 hF
     refine c_seq <| c_region <| oy hS y_assign <| n_thenN ?_
     obtain rfl := osi hF
     obtain rfl : _ = r := B0
     exact wp_ret (wr1 hS)
   replace hF := bf c17 hF
   refine wp_skip <| c_region <| oy hS y_bin <| oy hS y_move <| n_thenN ?_
   obtain rfl := osi hF
   exact ⟨_, B0, mk_exF, (hS.re (.n))⟩
 replace hF := bf c14 hF
 refine wp_exit ?_
 refine c_seq <| c_region <| oy hS y_assign <| n_thenN ?_
 obtain rfl := osi hF
 obtain rfl : _ = r := B0
 exact wp_ret (wr1 hS)
theorem w_bits_Bare {g : Frag} {a0 : (A4 T_Ins)} {r : Bool}  (hF : bits_Bare a0 = some r) : LCs Try.prog 52 #[.agg (enc_Bundle a0).toArray] g (.bool r) := w_bits_Bare_  hF

noncomputable def pipe_Code_1 (a0 : (A4 T_Ins)) : Option Bool :=
  (bits_IsBundle a0).bind fun r2 => bif !r2 then some (true) else (bits_Bare a0).bind fun r4 => some (!r4)
theorem w_pipe_Code_1_ {g : Frag} {a0 : (A4 T_Ins)} {r : Bool}  (hF : pipe_Code_1 a0 = some r) : LCs Try.prog 50 #[.agg (enc_Bundle a0).toArray] g (.bool r) := by
 unfold pipe_Code_1 at hF
 refine lc_body (k := 11) (av := [.agg (enc_Bundle a0).toArray]) func50 rfl rfl (h := fun W hS => ?_)
 refine c_seq <| c_region ?_
 refine o_boxP (cl := (enc_Bundle a0)) rfl hS ?_
 clear hS; intro b1 w hS
 refine oy hS y_assign <| n_thenN <| c_seq <| c_region ?_
 refine oy hS (y_loadW oH underlying80 rfl (by exact sz_api_Bundle)) ?_
 obtain ⟨r2, hr2, hF⟩ := ob hF
 refine o_callS hS func51 rfl rfl (hc := (w_bits_IsBundle (a0 := a0) (hF := hr2))) (h := ?_)
 clear hS; intro w hS
 refine oy hS y_not ?_
 refine o_split (ht := fun c3 => ?_) (hf := fun c3 => ?_)
 · replace hF := bt c3 hF
   iterate 3 (refine o_sk rfl rfl ?_)
   refine oy hS y_pickT <| oy hS y_assign <| n_thenN ?_
   obtain rfl := osi hF
   exact wp_ret (wr1 hS)
 replace hF := bf c3 hF
 refine o_gu rfl rfl rfl ?_
 refine oy hS (y_loadW oH underlying80 rfl (by exact sz_api_Bundle)) ?_
 refine o_gu rfl rfl rfl ?_
 obtain ⟨r4, hr4, hF⟩ := ob hF
 refine o_callS hS func52 rfl rfl (hc := (w_bits_Bare (a0 := a0) (hF := hr4))) (h := ?_)
 clear hS; intro w hS
 refine o_gu rfl rfl rfl <| oy hS y_not <| oy hS y_pickF <| oy hS y_assign <| n_thenN ?_
 obtain rfl := osi hF
 exact wp_ret (wr1 hS)
theorem w_pipe_Code_1 {g : Frag} {a0 : (A4 T_Ins)} {r : Bool}  (hF : pipe_Code_1 a0 = some r) : LCs Try.prog 50 #[.agg (enc_Bundle a0).toArray] g (.bool r) := w_pipe_Code_1_  hF

noncomputable def slices_IndexFunc_api_Bundle_api_Bundle_pipe_Code_1_b1 (a0 : (List (A4 T_Ins))) : Int → Option (Step Int Int) := fun x16 => bif decide (x16 < (a0.length : Int)) then (at' a0 x16).bind fun x37 => (pipe_Code_1 x37).bind fun r49 => bif r49 then some (.done (x16)) else some (.next (IntKind.i64.wrap (x16 + 1))) else some (.done ((-1)))
noncomputable def slices_IndexFunc_api_Bundle_api_Bundle_pipe_Code_1 (a0 : (List (A4 T_Ins))) : Option Int :=
  loop (σ := Int) (slices_IndexFunc_api_Bundle_api_Bundle_pipe_Code_1_b1 a0) 0
theorem w_slices_IndexFunc_api_Bundle_api_Bundle_pipe_Code_1_ {g : Frag} {a0 : (List (A4 T_Ins))} {v0_ : Value} {r : Int} (h0 : SlT g enc_Bundle 24 a0 v0_) (hF : slices_IndexFunc_api_Bundle_api_Bundle_pipe_Code_1 a0 = some r) : LCs Try.prog 66 #[v0_, .func (.func 50) #[] #[]] g (.int .i64 r) := by
 unfold slices_IndexFunc_api_Bundle_api_Bundle_pipe_Code_1 at hF
 refine lc_body (k := 19) (av := [v0_, .func (.func 50) #[] #[]]) func66 rfl rfl (h := fun W hS => ?_)
 refine c_seq <| c_region <| oy hS y_assign <| n_thenN ?_
 iterate 2 (refine c_seq ?_)
 refine c_region <| oy hS y_move <| oy hS (y_len h0 underlying34) <| oy hS y_move <| n_thenN <| c_block ?_
 refine c_loopP hF (fun (q : Int) a w' => (∃ s : Nat → Value, a = Ac (((((Fm.dead 19 s).upd 0 v0_).upd 1 (.func (.func 50) #[] #[])).upd 7 (.int .i64 (a0.length : Int))).upd 8 (.int .i64 q))) ∧ St W g [] [] w') ⟨mk_exF, (hS.re (.n))⟩ ?_
 clear hS hF
 intro n34 q a w hI hq
 revert hq hI; revert q; intro x16 hI hq
 obtain ⟨⟨s35, rfl⟩, hS⟩ := hq
 obtain ⟨z32, hF, B0⟩ := iter_step hI
 clear hI
 dsimp only [slices_IndexFunc_api_Bundle_api_Bundle_pipe_Code_1_b1] at hF
 refine c_seq <| c_region <| oy hS y_bin <| n_thenN <| c_seq ?_
 refine c_if (ht := fun c36 => ?_) (hf := fun c36 => ?_)
 · replace hF := bt c36 hF
   refine wp_skip <| c_seq <| c_block <| c_seq <| c_region <| oy hS y_move <| oy hS y_assign <| n_thenN ?_
   refine c_seq <| c_region ?_
   iterate 3 (refine oy hS y_move ?_)
   obtain ⟨x37, D0, hF⟩ := ob hF
   obtain ⟨b38, o39, c40, N0, e42, R0, E0, G0, I0, J0, K0⟩ := SlT.at D0 h0 enc_len_Bundle
   refine oy hS (y_index E0 G0 I0 underlying34 el_api_Bundle.size) ?_
   refine oy hS (y_loadN (vs := (enc_Bundle x37)) (fun w hS => hS.block J0) underlying80 rfl (by exact sz_api_Bundle) (fun j u hj => K0 j u hj)) ?_
   obtain ⟨r49, M0, hF⟩ := ob hF
   refine o_callVS2 hS func50 rfl rfl (hc := (w_pipe_Code_1 (a0 := x37) (hF := M0))) (h := ?_)
   clear hS; intro w hS
   refine n_thenN ?_
   refine c_if (ht := fun c50 => ?_) (hf := fun c50 => ?_)
   · replace hF := bt c50 hF
     refine c_seq <| c_region <| oy hS y_move <| oy hS y_assign <| n_thenN ?_
     obtain rfl := osi hF
     obtain rfl : _ = r := B0
     exact wp_ret (wr1 hS)
   replace hF := bf c50 hF
   refine wp_skip <| c_region <| oy hS y_bin <| oy hS y_move <| n_thenN ?_
   obtain rfl := osi hF
   exact ⟨_, B0, mk_exF, (hS.re (.n))⟩
 replace hF := bf c36 hF
 refine wp_exit ?_
 refine c_seq <| c_region <| oy hS y_assign <| n_thenN ?_
 obtain rfl := osi hF
 obtain rfl : _ = r := B0
 exact wp_ret (wr1 hS)
theorem w_slices_IndexFunc_api_Bundle_api_Bundle_pipe_Code_1 {g : Frag} {a0 : (List (A4 T_Ins))} {v0_ : Value} {r : Int} (h0 : SlT g enc_Bundle 24 a0 v0_) (hF : slices_IndexFunc_api_Bundle_api_Bundle_pipe_Code_1 a0 = some r) : LCs Try.prog 66 #[v0_, .func (.func 50) #[] #[]] g (.int .i64 r) := w_slices_IndexFunc_api_Bundle_api_Bundle_pipe_Code_1_ h0 hF

noncomputable def slices_ContainsFunc_api_Bundle_api_Bundle_pipe_Code_1 (a0 : (List (A4 T_Ins))) : Option Bool :=
  (slices_IndexFunc_api_Bundle_api_Bundle_pipe_Code_1 a0).bind fun r1 => some (decide (0 ≤ r1))
theorem w_slices_ContainsFunc_api_Bundle_api_Bundle_pipe_Code_1_ {g : Frag} {a0 : (List (A4 T_Ins))} {v0_ : Value} {r : Bool} (h0 : SlT g enc_Bundle 24 a0 v0_) (hF : slices_ContainsFunc_api_Bundle_api_Bundle_pipe_Code_1 a0 = some r) : LCs Try.prog 53 #[v0_, .func (.func 50) #[] #[]] g (.bool r) := by
 unfold slices_ContainsFunc_api_Bundle_api_Bundle_pipe_Code_1 at hF
 refine lc_body (k := 9) (av := [v0_, .func (.func 50) #[] #[]]) func53 rfl rfl (h := fun W hS => ?_)
 refine c_seq <| c_region <| oy hS y_assign <| n_thenN <| c_seq <| c_region ?_
 iterate 2 (refine oy hS y_move ?_)
 obtain ⟨r1, hr1, hF⟩ := ob hF
 refine o_callS hS func66 rfl rfl (hc := (w_slices_IndexFunc_api_Bundle_api_Bundle_pipe_Code_1 (a0 := a0) (h0 := h0.plus) (hF := hr1))) (h := ?_)
 clear hS; intro w hS
 refine oy hS y_bin <| oy hS y_assign <| n_thenN ?_
 obtain rfl := osi hF
 exact wp_ret (wr1 hS)
theorem w_slices_ContainsFunc_api_Bundle_api_Bundle_pipe_Code_1 {g : Frag} {a0 : (List (A4 T_Ins))} {v0_ : Value} {r : Bool} (h0 : SlT g enc_Bundle 24 a0 v0_) (hF : slices_ContainsFunc_api_Bundle_api_Bundle_pipe_Code_1 a0 = some r) : LCs Try.prog 53 #[v0_, .func (.func 50) #[] #[]] g (.bool r) := w_slices_ContainsFunc_api_Bundle_api_Bundle_pipe_Code_1_ h0 hF

noncomputable def pipe_Code (a0 : (List (A4 T_Ins))) : Option Bool :=
  bif decide ((a0.length : Int) ≤ 1024) then (slices_ContainsFunc_api_Bundle_api_Bundle_pipe_Code_1 a0).bind fun r2 => some (!r2) else some (false)
theorem w_pipe_Code_ {g : Frag} {a0 : (List (A4 T_Ins))} {v0_ : Value} {r : Bool} (h0 : SlT g enc_Bundle 24 a0 v0_) (hF : pipe_Code a0 = some r) : LCs Try.prog 35 #[v0_] g (.bool r) := by
 unfold pipe_Code at hF
 refine lc_body (k := 13) (av := [v0_]) func35 rfl rfl (h := fun W hS => ?_)
 refine c_seq <| c_region <| oy hS y_assign <| n_thenN <| c_seq <| c_region <| oy hS y_assign <| n_thenN ?_
 refine c_seq <| c_region <| oy hS y_move <| oy hS (y_len h0 underlying34) <| oy hS y_bin ?_
 refine o_split (ht := fun c1 => ?_) (hf := fun c1 => ?_)
 · replace hF := bt c1 hF
   refine o_gu rfl rfl rfl <| oy hS y_move <| o_gu rfl rfl rfl <| oy hS y_move <| o_gu rfl rfl rfl ?_
   obtain ⟨r2, hr2, hF⟩ := ob hF
   refine o_callS hS func53 rfl rfl (hc := (w_slices_ContainsFunc_api_Bundle_api_Bundle_pipe_Code_1 (a0 := a0) (h0 := h0.plus) (hF := hr2))) (h := ?_)
   clear hS; intro w hS
   refine o_gu rfl rfl rfl <| oy hS y_not <| oy hS y_pickT <| oy hS y_assign <| n_thenN ?_
   obtain rfl := osi hF
   exact wp_ret (wr1 hS)
 replace hF := bf c1 hF
 iterate 4 (refine o_sk rfl rfl ?_)
 refine oy hS y_pickF <| oy hS y_assign <| n_thenN ?_
 obtain rfl := osi hF
 exact wp_ret (wr1 hS)
theorem w_pipe_Code {g : Frag} {a0 : (List (A4 T_Ins))} {v0_ : Value} {r : Bool} (h0 : SlT g enc_Bundle 24 a0 v0_) (hF : pipe_Code a0 = some r) : LCs Try.prog 35 #[v0_] g (.bool r) := w_pipe_Code_ h0 hF

noncomputable def link_May (a0 : T_Image) : Option Bool :=
  (pipe_Code a0.Code).bind fun r2 => bif r2 then bif decide ((a0.Data.length : Int) ≤ 256) then bif decide (0 ≤ a0.Entry) then some (decide (a0.Entry ≤ (a0.Code.length : Int))) else some (false) else some (false) else some (false)
theorem w_link_May_ {g : Frag} {a0 : T_Image} {v0_ : Value} {r : Bool} (h0 : Rd_Image g a0 v0_) (hF : link_May a0 = some r) : LCs Try.prog 15 #[v0_] g (.bool r) := by
 obtain ⟨B0, D0, rfl, E0, G0⟩ := h0
 unfold link_May at hF
 refine lc_body (k := 25) (av := [.agg (cl_Image B0 D0 a0.Entry).toArray]) func15 rfl rfl (h := fun W hS => ?_)
 refine c_seq <| c_region ?_
 refine o_boxP (cl := (cl_Image B0 D0 a0.Entry)) rfl hS ?_
 clear hS; intro b1 w hS
 refine oy hS y_assign <| n_thenN <| c_seq <| c_region <| oy hS (y_field fa_api_Image_0) <| oy hS (y_load oH underlying34 rfl rfl) ?_
 obtain ⟨r2, hr2, hF⟩ := ob hF
 refine o_callS hS func35 rfl rfl (hc := (w_pipe_Code (a0 := a0.Code) (h0 := E0.plus) (hF := hr2))) (h := ?_)
 clear hS; intro w hS
 refine o_split (ht := fun c3 => ?_) (hf := fun c3 => ?_)
 · replace hF := bt c3 hF
   refine o_gu rfl rfl rfl <| oy hS (y_field fa_api_Image_1) <| o_gu rfl rfl rfl <| oy hS (y_load oH underlying31 rfl rfl) <| o_gu rfl rfl rfl <| oy hS (y_len G0 underlying31) <| o_gu rfl rfl rfl <| oy hS y_bin ?_
   refine oy hS y_pickT ?_
   refine o_split (ht := fun c4 => ?_) (hf := fun c4 => ?_)
   · replace hF := bt c4 hF
     refine o_gu rfl rfl rfl <| oy hS (y_field fa_api_Image_2) <| o_gu rfl rfl rfl <| oy hS (y_load oH underlying3 rfl rfl) <| o_gu rfl rfl rfl <| oy hS y_bin <| oy hS y_pickT ?_
     refine o_split (ht := fun c5 => ?_) (hf := fun c5 => ?_)
     · replace hF := bt c5 hF
       refine o_gu rfl rfl rfl <| oy hS (y_field fa_api_Image_2) <| o_gu rfl rfl rfl <| oy hS (y_load oH underlying3 rfl rfl) <| o_gu rfl rfl rfl <| oy hS (y_field fa_api_Image_0) <| o_gu rfl rfl rfl <| oy hS (y_load oH underlying34 rfl rfl) ?_
       refine o_gu rfl rfl rfl <| oy hS (y_len E0 underlying34) <| o_gu rfl rfl rfl <| oy hS y_bin <| oy hS y_pickT <| oy hS y_assign <| n_thenN ?_
       obtain rfl := osi hF
       exact wp_ret (wr1 hS)
     replace hF := bf c5 hF
     iterate 6 (refine o_sk rfl rfl ?_)
     refine oy hS y_pickF <| oy hS y_assign <| n_thenN ?_
     obtain rfl := osi hF
     exact wp_ret (wr1 hS)
   replace hF := bf c4 hF
   iterate 3 (refine o_sk rfl rfl ?_)
   refine oy hS y_pickF <| oy hS y_move ?_
   iterate 6 (refine o_sk rfl rfl ?_)
   refine oy hS y_pickF <| oy hS y_assign <| n_thenN ?_
   obtain rfl := osi hF
   exact wp_ret (wr1 hS)
 replace hF := bf c3 hF
 iterate 4 (refine o_sk rfl rfl ?_)
 refine oy hS y_pickF <| oy hS y_move ?_
 iterate 3 (refine o_sk rfl rfl ?_)
 refine oy hS y_pickF <| oy hS y_move ?_
 iterate 6 (refine o_sk rfl rfl ?_)
 refine oy hS y_pickF <| oy hS y_assign <| n_thenN ?_
 obtain rfl := osi hF
 exact wp_ret (wr1 hS)
theorem w_link_May {g : Frag} {a0 : T_Image} {v0_ : Value} {r : Bool} (h0 : Rd_Image g a0 v0_) (hF : link_May a0 = some r) : LCs Try.prog 15 #[v0_] g (.bool r) := w_link_May_ h0 hF
end Go.Proofs.Ytjmmkbehdbpklaa
