/- Functions, lifted. Printed by lift.py. -/
import Derived.Test.YtadajdcbeegabaaProg
import Derived.Test.YtadajdcbeegabaaP0
import Derived.KernelRfl
namespace Go.Proofs.Ytadajdcbeegabaa
open Go Go.RowKit Fr
set_option linter.unusedVariables false
set_option linter.unusedSimpArgs false
set_option maxRecDepth 20000
def isa_Shape (a0 : Int) : Int :=
  bif decide (a0 = 21) then 2 else bif decide (a0 = 22) then bif decide (a0 = 22) then 3 else bif decide (a0 = 23) then 4 else bif decide (a0 = 25) then 5 else bif decide (a0 = 26) then 6 else bif decide (a0 = 27) then 7 else bif decide (a0 = 28) then bif decide (a0 = 28) then 8 else bif decide (a0 = 29) then bif decide (a0 = 29) then 9 else bif decide (a0 = 0) then bif decide (a0 = 0) then 0 else 1 else bif decide (a0 = 32) then bif decide (a0 = 32) then 0 else 1 else bif decide (a0 = 33) then 0 else 1 else bif decide (a0 = 30) then 9 else bif decide (a0 = 0) then bif decide (a0 = 0) then 0 else 1 else bif decide (a0 = 32) then bif decide (a0 = 32) then 0 else 1 else bif decide (a0 = 33) then 0 else 1 else bif decide (a0 = 31) then 8 else bif decide (a0 = 29) then bif decide (a0 = 29) then 9 else bif decide (a0 = 0) then bif decide (a0 = 0) then 0 else 1 else bif decide (a0 = 32) then bif decide (a0 = 32) then 0 else 1 else bif decide (a0 = 33) then 0 else 1 else bif decide (a0 = 30) then 9 else bif decide (a0 = 0) then bif decide (a0 = 0) then 0 else 1 else bif decide (a0 = 32) then bif decide (a0 = 32) then 0 else 1 else bif decide (a0 = 33) then 0 else 1 else bif decide (a0 = 24) then 3 else bif decide (a0 = 23) then 4 else bif decide (a0 = 25) then 5 else bif decide (a0 = 26) then 6 else bif decide (a0 = 27) then 7 else bif decide (a0 = 28) then bif decide (a0 = 28) then 8 else bif decide (a0 = 29) then bif decide (a0 = 29) then 9 else bif decide (a0 = 0) then bif decide (a0 = 0) then 0 else 1 else bif decide (a0 = 32) then bif decide (a0 = 32) then 0 else 1 else bif decide (a0 = 33) then 0 else 1 else bif decide (a0 = 30) then 9 else bif decide (a0 = 0) then bif decide (a0 = 0) then 0 else 1 else bif decide (a0 = 32) then bif decide (a0 = 32) then 0 else 1 else bif decide (a0 = 33) then 0 else 1 else bif decide (a0 = 31) then 8 else bif decide (a0 = 29) then bif decide (a0 = 29) then 9 else bif decide (a0 = 0) then bif decide (a0 = 0) then 0 else 1 else bif decide (a0 = 32) then bif decide (a0 = 32) then 0 else 1 else bif decide (a0 = 33) then 0 else 1 else bif decide (a0 = 30) then 9 else bif decide (a0 = 0) then bif decide (a0 = 0) then 0 else 1 else bif decide (a0 = 32) then bif decide (a0 = 32) then 0 else 1 else bif decide (a0 = 33) then 0 else 1
set_option maxHeartbeats 2000000 in
theorem w_isa_Shape_ {g : Frag} {a0 : Int} {r : Int}  (hF : isa_Shape a0 = r) : LCs Try.prog 63 #[.int .i64 a0] g (.int .i64 r) := by
 unfold isa_Shape at hF
 refine lc_body (k := 27) (av := [.int .i64 a0]) Try.func63 rfl rfl (h := fun W hS => ?_)
 refine c_seq ?_
 refine c_region ?_
 refine oy hS y_assign ?_
 refine n_thenN ?_
 iterate 2 (refine c_seq ?_)
 refine c_region ?_
 refine oy hS y_move ?_
 refine n_thenN ?_
 refine c_block ?_
 refine c_seq ?_
 refine c_region ?_
 refine oy hS y_bin ?_
 refine oy hS y_assign ?_
 refine n_thenN ?_
 refine c_if (ht := fun c1 => ?_) (hf := fun c1 => ?_)
 · replace hF := bt c1 hF
   refine c_seq ?_
   refine c_region ?_
   refine oy hS y_assign ?_
   refine n_thenN ?_
   subst hF
   exact wp_ret (wr1 hS)
 replace hF := bf c1 hF
 iterate 2 (refine c_seq ?_)
 refine c_region ?_
 refine oy hS y_bin ?_
 refine oy hS y_assign ?_
 refine n_thenN ?_
 refine c_if (ht := fun c2 => ?_) (hf := fun c2 => ?_)
 · replace hF := bt c2 hF
   refine wp_skip ?_
   refine c_if (ht := fun c3 => ?_) (hf := fun c3 => ?_)
   · replace hF := bt c3 hF
     refine c_seq ?_
     refine c_region ?_
     refine oy hS y_assign ?_
     refine n_thenN ?_
     subst hF
     exact wp_ret (wr1 hS)
   replace hF := bf c3 hF
   refine c_seq ?_
   refine c_region ?_
   refine oy hS y_bin ?_
   refine oy hS y_assign ?_
   refine n_thenN ?_
   refine c_if (ht := fun c4 => ?_) (hf := fun c4 => ?_)
   · replace hF := bt c4 hF
     refine c_seq ?_
     refine c_region ?_
     refine oy hS y_assign ?_
     refine n_thenN ?_
     subst hF
     exact wp_ret (wr1 hS)
   replace hF := bf c4 hF
   refine c_seq ?_
   refine c_region ?_
   refine oy hS y_bin ?_
   refine oy hS y_assign ?_
   refine n_thenN ?_
   refine c_if (ht := fun c5 => ?_) (hf := fun c5 => ?_)
   · replace hF := bt c5 hF
     refine c_seq ?_
     refine c_region ?_
     refine oy hS y_assign ?_
     refine n_thenN ?_
     subst hF
     exact wp_ret (wr1 hS)
   replace hF := bf c5 hF
   refine c_seq ?_
   refine c_region ?_
   refine oy hS y_bin ?_
   refine oy hS y_assign ?_
   refine n_thenN ?_
   refine c_if (ht := fun c6 => ?_) (hf := fun c6 => ?_)
   · replace hF := bt c6 hF
     refine c_seq ?_
     refine c_region ?_
     refine oy hS y_assign ?_
     refine n_thenN ?_
     subst hF
     exact wp_ret (wr1 hS)
   replace hF := bf c6 hF
   refine c_seq ?_
   refine c_region ?_
   refine oy hS y_bin ?_
   refine oy hS y_assign ?_
   refine n_thenN ?_
   refine c_if (ht := fun c7 => ?_) (hf := fun c7 => ?_)
   · replace hF := bt c7 hF
     refine c_seq ?_
     refine c_region ?_
     refine oy hS y_assign ?_
     refine n_thenN ?_
     subst hF
     exact wp_ret (wr1 hS)
   replace hF := bf c7 hF
   iterate 2 (refine c_seq ?_)
   refine c_region ?_
   refine oy hS y_bin ?_
   refine oy hS y_assign ?_
   refine n_thenN ?_
   refine c_if (ht := fun c8 => ?_) (hf := fun c8 => ?_)
   · replace hF := bt c8 hF
     refine wp_skip ?_
     refine c_if (ht := fun c9 => ?_) (hf := fun c9 => ?_)
     · replace hF := bt c9 hF
       refine c_seq ?_
       refine c_region ?_
       refine oy hS y_assign ?_
       refine n_thenN ?_
       subst hF
       exact wp_ret (wr1 hS)
     replace hF := bf c9 hF
     iterate 2 (refine c_seq ?_)
     refine c_region ?_
     refine oy hS y_bin ?_
     refine oy hS y_assign ?_
     refine n_thenN ?_
     refine c_if (ht := fun c10 => ?_) (hf := fun c10 => ?_)
     · replace hF := bt c10 hF
       refine wp_skip ?_
       refine c_if (ht := fun c11 => ?_) (hf := fun c11 => ?_)
       · replace hF := bt c11 hF
         refine c_seq ?_
         refine c_region ?_
         refine oy hS y_assign ?_
         refine n_thenN ?_
         subst hF
         exact wp_ret (wr1 hS)
       replace hF := bf c11 hF
       iterate 2 (refine c_seq ?_)
       refine c_region ?_
       refine oy hS y_bin ?_
       refine oy hS y_assign ?_
       refine n_thenN ?_
       refine c_if (ht := fun c12 => ?_) (hf := fun c12 => ?_)
       · replace hF := bt c12 hF
         refine wp_skip ?_
         refine c_if (ht := fun c13 => ?_) (hf := fun c13 => ?_)
         · replace hF := bt c13 hF
           refine c_seq ?_
           refine c_region ?_
           refine oy hS y_assign ?_
           refine n_thenN ?_
           subst hF
           exact wp_ret (wr1 hS)
         replace hF := bf c13 hF
         refine wp_skip ?_
         refine c_seq ?_
         refine c_region ?_
         refine oy hS y_assign ?_
         refine n_thenN ?_
         subst hF
         exact wp_ret (wr1 hS)
       replace hF := bf c12 hF
       refine c_seq ?_
       refine c_region ?_
       refine oy hS y_bin ?_
       refine oy hS y_assign ?_
       refine n_thenN ?_
       refine c_if (ht := fun c14 => ?_) (hf := fun c14 => ?_)
       · replace hF := bt c14 hF
         refine wp_skip ?_
         refine c_if (ht := fun c15 => ?_) (hf := fun c15 => ?_)
         · replace hF := bt c15 hF
           refine c_seq ?_
           refine c_region ?_
           refine oy hS y_assign ?_
           refine n_thenN ?_
           subst hF
           exact wp_ret (wr1 hS)
         replace hF := bf c15 hF
         refine wp_skip ?_
         refine c_seq ?_
         refine c_region ?_
         refine oy hS y_assign ?_
         refine n_thenN ?_
         subst hF
         exact wp_ret (wr1 hS)
       replace hF := bf c14 hF
       refine c_region ?_
       refine oy hS y_bin ?_
       refine oy hS y_assign ?_
       refine n_thenN ?_
       refine c_if (ht := fun c16 => ?_) (hf := fun c16 => ?_)
       · replace hF := bt c16 hF
         refine c_seq ?_
         refine c_region ?_
         refine oy hS y_assign ?_
         refine n_thenN ?_
         subst hF
         exact wp_ret (wr1 hS)
       replace hF := bf c16 hF
       refine wp_skip ?_
       refine c_seq ?_
       refine c_region ?_
       refine oy hS y_assign ?_
       refine n_thenN ?_
       subst hF
       exact wp_ret (wr1 hS)
     replace hF := bf c10 hF
     refine c_region ?_
     refine oy hS y_bin ?_
     refine oy hS y_assign ?_
     refine n_thenN ?_
     refine c_if (ht := fun c17 => ?_) (hf := fun c17 => ?_)
     · replace hF := bt c17 hF
       refine c_seq ?_
       refine c_region ?_
       refine oy hS y_assign ?_
       refine n_thenN ?_
       subst hF
       exact wp_ret (wr1 hS)
     replace hF := bf c17 hF
     iterate 2 (refine c_seq ?_)
     refine c_region ?_
     refine oy hS y_bin ?_
     refine oy hS y_assign ?_
     refine n_thenN ?_
     refine c_if (ht := fun c18 => ?_) (hf := fun c18 => ?_)
     · replace hF := bt c18 hF
       refine wp_skip ?_
       refine c_if (ht := fun c19 => ?_) (hf := fun c19 => ?_)
       · replace hF := bt c19 hF
         refine c_seq ?_
         refine c_region ?_
         refine oy hS y_assign ?_
         refine n_thenN ?_
         subst hF
         exact wp_ret (wr1 hS)
       replace hF := bf c19 hF
       refine wp_skip ?_
       refine c_seq ?_
       refine c_region ?_
       refine oy hS y_assign ?_
       refine n_thenN ?_
       subst hF
       exact wp_ret (wr1 hS)
     replace hF := bf c18 hF
     refine c_seq ?_
     refine c_region ?_
     refine oy hS y_bin ?_
     refine oy hS y_assign ?_
     refine n_thenN ?_
     refine c_if (ht := fun c20 => ?_) (hf := fun c20 => ?_)
     · replace hF := bt c20 hF
       refine wp_skip ?_
       refine c_if (ht := fun c21 => ?_) (hf := fun c21 => ?_)
       · replace hF := bt c21 hF
         refine c_seq ?_
         refine c_region ?_
         refine oy hS y_assign ?_
         refine n_thenN ?_
         subst hF
         exact wp_ret (wr1 hS)
       replace hF := bf c21 hF
       refine wp_skip ?_
       refine c_seq ?_
       refine c_region ?_
       refine oy hS y_assign ?_
       refine n_thenN ?_
       subst hF
       exact wp_ret (wr1 hS)
     replace hF := bf c20 hF
     refine c_region ?_
     refine oy hS y_bin ?_
     refine oy hS y_assign ?_
     refine n_thenN ?_
     refine c_if (ht := fun c22 => ?_) (hf := fun c22 => ?_)
     · replace hF := bt c22 hF
       refine c_seq ?_
       refine c_region ?_
       refine oy hS y_assign ?_
       refine n_thenN ?_
       subst hF
       exact wp_ret (wr1 hS)
     replace hF := bf c22 hF
     refine wp_skip ?_
     refine c_seq ?_
     refine c_region ?_
     refine oy hS y_assign ?_
     refine n_thenN ?_
     subst hF
     exact wp_ret (wr1 hS)
   replace hF := bf c8 hF
   refine c_region ?_
   refine oy hS y_bin ?_
   refine oy hS y_assign ?_
   refine n_thenN ?_
   refine c_if (ht := fun c23 => ?_) (hf := fun c23 => ?_)
   · replace hF := bt c23 hF
     refine c_seq ?_
     refine c_region ?_
     refine oy hS y_assign ?_
     refine n_thenN ?_
     subst hF
     exact wp_ret (wr1 hS)
   replace hF := bf c23 hF
   iterate 2 (refine c_seq ?_)
   refine c_region ?_
   refine oy hS y_bin ?_
   refine oy hS y_assign ?_
   refine n_thenN ?_
   refine c_if (ht := fun c24 => ?_) (hf := fun c24 => ?_)
   · replace hF := bt c24 hF
     refine wp_skip ?_
     refine c_if (ht := fun c25 => ?_) (hf := fun c25 => ?_)
     · replace hF := bt c25 hF
       refine c_seq ?_
       refine c_region ?_
       refine oy hS y_assign ?_
       refine n_thenN ?_
       subst hF
       exact wp_ret (wr1 hS)
     replace hF := bf c25 hF
     iterate 2 (refine c_seq ?_)
     refine c_region ?_
     refine oy hS y_bin ?_
     refine oy hS y_assign ?_
     refine n_thenN ?_
     refine c_if (ht := fun c26 => ?_) (hf := fun c26 => ?_)
     · replace hF := bt c26 hF
       refine wp_skip ?_
       refine c_if (ht := fun c27 => ?_) (hf := fun c27 => ?_)
       · replace hF := bt c27 hF
         refine c_seq ?_
         refine c_region ?_
         refine oy hS y_assign ?_
         refine n_thenN ?_
         subst hF
         exact wp_ret (wr1 hS)
       replace hF := bf c27 hF
       refine wp_skip ?_
       refine c_seq ?_
       refine c_region ?_
       refine oy hS y_assign ?_
       refine n_thenN ?_
       subst hF
       exact wp_ret (wr1 hS)
     replace hF := bf c26 hF
     refine c_seq ?_
     refine c_region ?_
     refine oy hS y_bin ?_
     refine oy hS y_assign ?_
     refine n_thenN ?_
     refine c_if (ht := fun c28 => ?_) (hf := fun c28 => ?_)
     · replace hF := bt c28 hF
       refine wp_skip ?_
       refine c_if (ht := fun c29 => ?_) (hf := fun c29 => ?_)
       · replace hF := bt c29 hF
         refine c_seq ?_
         refine c_region ?_
         refine oy hS y_assign ?_
         refine n_thenN ?_
         subst hF
         exact wp_ret (wr1 hS)
       replace hF := bf c29 hF
       refine wp_skip ?_
       refine c_seq ?_
       refine c_region ?_
       refine oy hS y_assign ?_
       refine n_thenN ?_
       subst hF
       exact wp_ret (wr1 hS)
     replace hF := bf c28 hF
     refine c_region ?_
     refine oy hS y_bin ?_
     refine oy hS y_assign ?_
     refine n_thenN ?_
     refine c_if (ht := fun c30 => ?_) (hf := fun c30 => ?_)
     · replace hF := bt c30 hF
       refine c_seq ?_
       refine c_region ?_
       refine oy hS y_assign ?_
       refine n_thenN ?_
       subst hF
       exact wp_ret (wr1 hS)
     replace hF := bf c30 hF
     refine wp_skip ?_
     refine c_seq ?_
     refine c_region ?_
     refine oy hS y_assign ?_
     refine n_thenN ?_
     subst hF
     exact wp_ret (wr1 hS)
   replace hF := bf c24 hF
   refine c_region ?_
   refine oy hS y_bin ?_
   refine oy hS y_assign ?_
   refine n_thenN ?_
   refine c_if (ht := fun c31 => ?_) (hf := fun c31 => ?_)
   · replace hF := bt c31 hF
     refine c_seq ?_
     refine c_region ?_
     refine oy hS y_assign ?_
     refine n_thenN ?_
     subst hF
     exact wp_ret (wr1 hS)
   replace hF := bf c31 hF
   iterate 2 (refine c_seq ?_)
   refine c_region ?_
   refine oy hS y_bin ?_
   refine oy hS y_assign ?_
   refine n_thenN ?_
   refine c_if (ht := fun c32 => ?_) (hf := fun c32 => ?_)
   · replace hF := bt c32 hF
     refine wp_skip ?_
     refine c_if (ht := fun c33 => ?_) (hf := fun c33 => ?_)
     · replace hF := bt c33 hF
       refine c_seq ?_
       refine c_region ?_
       refine oy hS y_assign ?_
       refine n_thenN ?_
       subst hF
       exact wp_ret (wr1 hS)
     replace hF := bf c33 hF
     refine wp_skip ?_
     refine c_seq ?_
     refine c_region ?_
     refine oy hS y_assign ?_
     refine n_thenN ?_
     subst hF
     exact wp_ret (wr1 hS)
   replace hF := bf c32 hF
   refine c_seq ?_
   refine c_region ?_
   refine oy hS y_bin ?_
   refine oy hS y_assign ?_
   refine n_thenN ?_
   refine c_if (ht := fun c34 => ?_) (hf := fun c34 => ?_)
   · replace hF := bt c34 hF
     refine wp_skip ?_
     refine c_if (ht := fun c35 => ?_) (hf := fun c35 => ?_)
     · replace hF := bt c35 hF
       refine c_seq ?_
       refine c_region ?_
       refine oy hS y_assign ?_
       refine n_thenN ?_
       subst hF
       exact wp_ret (wr1 hS)
     replace hF := bf c35 hF
     refine wp_skip ?_
     refine c_seq ?_
     refine c_region ?_
     refine oy hS y_assign ?_
     refine n_thenN ?_
     subst hF
     exact wp_ret (wr1 hS)
   replace hF := bf c34 hF
   refine c_region ?_
   refine oy hS y_bin ?_
   refine oy hS y_assign ?_
   refine n_thenN ?_
   refine c_if (ht := fun c36 => ?_) (hf := fun c36 => ?_)
   · replace hF := bt c36 hF
     refine c_seq ?_
     refine c_region ?_
     refine oy hS y_assign ?_
     refine n_thenN ?_
     subst hF
     exact wp_ret (wr1 hS)
   replace hF := bf c36 hF
   refine wp_skip ?_
   refine c_seq ?_
   refine c_region ?_
   refine oy hS y_assign ?_
   refine n_thenN ?_
   subst hF
   exact wp_ret (wr1 hS)
 replace hF := bf c2 hF
 refine c_region ?_
 refine oy hS y_bin ?_
 refine oy hS y_assign ?_
 refine n_thenN ?_
 refine c_if (ht := fun c37 => ?_) (hf := fun c37 => ?_)
 · replace hF := bt c37 hF
   refine c_seq ?_
   refine c_region ?_
   refine oy hS y_assign ?_
   refine n_thenN ?_
   subst hF
   exact wp_ret (wr1 hS)
 replace hF := bf c37 hF
 refine c_seq ?_
 refine c_region ?_
 refine oy hS y_bin ?_
 refine oy hS y_assign ?_
 refine n_thenN ?_
 refine c_if (ht := fun c38 => ?_) (hf := fun c38 => ?_)
 · replace hF := bt c38 hF
   refine c_seq ?_
   refine c_region ?_
   refine oy hS y_assign ?_
   refine n_thenN ?_
   subst hF
   exact wp_ret (wr1 hS)
 replace hF := bf c38 hF
 refine c_seq ?_
 refine c_region ?_
 refine oy hS y_bin ?_
 refine oy hS y_assign ?_
 refine n_thenN ?_
 refine c_if (ht := fun c39 => ?_) (hf := fun c39 => ?_)
 · replace hF := bt c39 hF
   refine c_seq ?_
   refine c_region ?_
   refine oy hS y_assign ?_
   refine n_thenN ?_
   subst hF
   exact wp_ret (wr1 hS)
 replace hF := bf c39 hF
 refine c_seq ?_
 refine c_region ?_
 refine oy hS y_bin ?_
 refine oy hS y_assign ?_
 refine n_thenN ?_
 refine c_if (ht := fun c40 => ?_) (hf := fun c40 => ?_)
 · replace hF := bt c40 hF
   refine c_seq ?_
   refine c_region ?_
   refine oy hS y_assign ?_
   refine n_thenN ?_
   subst hF
   exact wp_ret (wr1 hS)
 replace hF := bf c40 hF
 refine c_seq ?_
 refine c_region ?_
 refine oy hS y_bin ?_
 refine oy hS y_assign ?_
 refine n_thenN ?_
 refine c_if (ht := fun c41 => ?_) (hf := fun c41 => ?_)
 · replace hF := bt c41 hF
   refine c_seq ?_
   refine c_region ?_
   refine oy hS y_assign ?_
   refine n_thenN ?_
   subst hF
   exact wp_ret (wr1 hS)
 replace hF := bf c41 hF
 iterate 2 (refine c_seq ?_)
 refine c_region ?_
 refine oy hS y_bin ?_
 refine oy hS y_assign ?_
 refine n_thenN ?_
 refine c_if (ht := fun c42 => ?_) (hf := fun c42 => ?_)
 · replace hF := bt c42 hF
   refine wp_skip ?_
   refine c_if (ht := fun c43 => ?_) (hf := fun c43 => ?_)
   · replace hF := bt c43 hF
     refine c_seq ?_
     refine c_region ?_
     refine oy hS y_assign ?_
     refine n_thenN ?_
     subst hF
     exact wp_ret (wr1 hS)
   replace hF := bf c43 hF
   iterate 2 (refine c_seq ?_)
   refine c_region ?_
   refine oy hS y_bin ?_
   refine oy hS y_assign ?_
   refine n_thenN ?_
   refine c_if (ht := fun c44 => ?_) (hf := fun c44 => ?_)
   · replace hF := bt c44 hF
     refine wp_skip ?_
     refine c_if (ht := fun c45 => ?_) (hf := fun c45 => ?_)
     · replace hF := bt c45 hF
       refine c_seq ?_
       refine c_region ?_
       refine oy hS y_assign ?_
       refine n_thenN ?_
       subst hF
       exact wp_ret (wr1 hS)
     replace hF := bf c45 hF
     iterate 2 (refine c_seq ?_)
     refine c_region ?_
     refine oy hS y_bin ?_
     refine oy hS y_assign ?_
     refine n_thenN ?_
     refine c_if (ht := fun c46 => ?_) (hf := fun c46 => ?_)
     · replace hF := bt c46 hF
       refine wp_skip ?_
       refine c_if (ht := fun c47 => ?_) (hf := fun c47 => ?_)
       · replace hF := bt c47 hF
         refine c_seq ?_
         refine c_region ?_
         refine oy hS y_assign ?_
         refine n_thenN ?_
         subst hF
         exact wp_ret (wr1 hS)
       replace hF := bf c47 hF
       refine wp_skip ?_
       refine c_seq ?_
       refine c_region ?_
       refine oy hS y_assign ?_
       refine n_thenN ?_
       subst hF
       exact wp_ret (wr1 hS)
     replace hF := bf c46 hF
     refine c_seq ?_
     refine c_region ?_
     refine oy hS y_bin ?_
     refine oy hS y_assign ?_
     refine n_thenN ?_
     refine c_if (ht := fun c48 => ?_) (hf := fun c48 => ?_)
     · replace hF := bt c48 hF
       refine wp_skip ?_
       refine c_if (ht := fun c49 => ?_) (hf := fun c49 => ?_)
       · replace hF := bt c49 hF
         refine c_seq ?_
         refine c_region ?_
         refine oy hS y_assign ?_
         refine n_thenN ?_
         subst hF
         exact wp_ret (wr1 hS)
       replace hF := bf c49 hF
       refine wp_skip ?_
       refine c_seq ?_
       refine c_region ?_
       refine oy hS y_assign ?_
       refine n_thenN ?_
       subst hF
       exact wp_ret (wr1 hS)
     replace hF := bf c48 hF
     refine c_region ?_
     refine oy hS y_bin ?_
     refine oy hS y_assign ?_
     refine n_thenN ?_
     refine c_if (ht := fun c50 => ?_) (hf := fun c50 => ?_)
     · replace hF := bt c50 hF
       refine c_seq ?_
       refine c_region ?_
       refine oy hS y_assign ?_
       refine n_thenN ?_
       subst hF
       exact wp_ret (wr1 hS)
     replace hF := bf c50 hF
     refine wp_skip ?_
     refine c_seq ?_
     refine c_region ?_
     refine oy hS y_assign ?_
     refine n_thenN ?_
     subst hF
     exact wp_ret (wr1 hS)
   replace hF := bf c44 hF
   refine c_region ?_
   refine oy hS y_bin ?_
   refine oy hS y_assign ?_
   refine n_thenN ?_
   refine c_if (ht := fun c51 => ?_) (hf := fun c51 => ?_)
   · replace hF := bt c51 hF
     refine c_seq ?_
     refine c_region ?_
     refine oy hS y_assign ?_
     refine n_thenN ?_
     subst hF
     exact wp_ret (wr1 hS)
   replace hF := bf c51 hF
   iterate 2 (refine c_seq ?_)
   refine c_region ?_
   refine oy hS y_bin ?_
   refine oy hS y_assign ?_
   refine n_thenN ?_
   refine c_if (ht := fun c52 => ?_) (hf := fun c52 => ?_)
   · replace hF := bt c52 hF
     refine wp_skip ?_
     refine c_if (ht := fun c53 => ?_) (hf := fun c53 => ?_)
     · replace hF := bt c53 hF
       refine c_seq ?_
       refine c_region ?_
       refine oy hS y_assign ?_
       refine n_thenN ?_
       subst hF
       exact wp_ret (wr1 hS)
     replace hF := bf c53 hF
     refine wp_skip ?_
     refine c_seq ?_
     refine c_region ?_
     refine oy hS y_assign ?_
     refine n_thenN ?_
     subst hF
     exact wp_ret (wr1 hS)
   replace hF := bf c52 hF
   refine c_seq ?_
   refine c_region ?_
   refine oy hS y_bin ?_
   refine oy hS y_assign ?_
   refine n_thenN ?_
   refine c_if (ht := fun c54 => ?_) (hf := fun c54 => ?_)
   · replace hF := bt c54 hF
     refine wp_skip ?_
     refine c_if (ht := fun c55 => ?_) (hf := fun c55 => ?_)
     · replace hF := bt c55 hF
       refine c_seq ?_
       refine c_region ?_
       refine oy hS y_assign ?_
       refine n_thenN ?_
       subst hF
       exact wp_ret (wr1 hS)
     replace hF := bf c55 hF
     refine wp_skip ?_
     refine c_seq ?_
     refine c_region ?_
     refine oy hS y_assign ?_
     refine n_thenN ?_
     subst hF
     exact wp_ret (wr1 hS)
   replace hF := bf c54 hF
   refine c_region ?_
   refine oy hS y_bin ?_
   refine oy hS y_assign ?_
   refine n_thenN ?_
   refine c_if (ht := fun c56 => ?_) (hf := fun c56 => ?_)
   · replace hF := bt c56 hF
     refine c_seq ?_
     refine c_region ?_
     refine oy hS y_assign ?_
     refine n_thenN ?_
     subst hF
     exact wp_ret (wr1 hS)
   replace hF := bf c56 hF
   refine wp_skip ?_
   refine c_seq ?_
   refine c_region ?_
   refine oy hS y_assign ?_
   refine n_thenN ?_
   subst hF
   exact wp_ret (wr1 hS)
 replace hF := bf c42 hF
 refine c_region ?_
 refine oy hS y_bin ?_
 refine oy hS y_assign ?_
 refine n_thenN ?_
 refine c_if (ht := fun c57 => ?_) (hf := fun c57 => ?_)
 · replace hF := bt c57 hF
   refine c_seq ?_
   refine c_region ?_
   refine oy hS y_assign ?_
   refine n_thenN ?_
   subst hF
   exact wp_ret (wr1 hS)
 replace hF := bf c57 hF
 iterate 2 (refine c_seq ?_)
 refine c_region ?_
 refine oy hS y_bin ?_
 refine oy hS y_assign ?_
 refine n_thenN ?_
 refine c_if (ht := fun c58 => ?_) (hf := fun c58 => ?_)
 · replace hF := bt c58 hF
   refine wp_skip ?_
   refine c_if (ht := fun c59 => ?_) (hf := fun c59 => ?_)
   · replace hF := bt c59 hF
     refine c_seq ?_
     refine c_region ?_
     refine oy hS y_assign ?_
     refine n_thenN ?_
     subst hF
     exact wp_ret (wr1 hS)
   replace hF := bf c59 hF
   iterate 2 (refine c_seq ?_)
   refine c_region ?_
   refine oy hS y_bin ?_
   refine oy hS y_assign ?_
   refine n_thenN ?_
   refine c_if (ht := fun c60 => ?_) (hf := fun c60 => ?_)
   · replace hF := bt c60 hF
     refine wp_skip ?_
     refine c_if (ht := fun c61 => ?_) (hf := fun c61 => ?_)
     · replace hF := bt c61 hF
       refine c_seq ?_
       refine c_region ?_
       refine oy hS y_assign ?_
       refine n_thenN ?_
       subst hF
       exact wp_ret (wr1 hS)
     replace hF := bf c61 hF
     refine wp_skip ?_
     refine c_seq ?_
     refine c_region ?_
     refine oy hS y_assign ?_
     refine n_thenN ?_
     subst hF
     exact wp_ret (wr1 hS)
   replace hF := bf c60 hF
   refine c_seq ?_
   refine c_region ?_
   refine oy hS y_bin ?_
   refine oy hS y_assign ?_
   refine n_thenN ?_
   refine c_if (ht := fun c62 => ?_) (hf := fun c62 => ?_)
   · replace hF := bt c62 hF
     refine wp_skip ?_
     refine c_if (ht := fun c63 => ?_) (hf := fun c63 => ?_)
     · replace hF := bt c63 hF
       refine c_seq ?_
       refine c_region ?_
       refine oy hS y_assign ?_
       refine n_thenN ?_
       subst hF
       exact wp_ret (wr1 hS)
     replace hF := bf c63 hF
     refine wp_skip ?_
     refine c_seq ?_
     refine c_region ?_
     refine oy hS y_assign ?_
     refine n_thenN ?_
     subst hF
     exact wp_ret (wr1 hS)
   replace hF := bf c62 hF
   refine c_region ?_
   refine oy hS y_bin ?_
   refine oy hS y_assign ?_
   refine n_thenN ?_
   refine c_if (ht := fun c64 => ?_) (hf := fun c64 => ?_)
   · replace hF := bt c64 hF
     refine c_seq ?_
     refine c_region ?_
     refine oy hS y_assign ?_
     refine n_thenN ?_
     subst hF
     exact wp_ret (wr1 hS)
   replace hF := bf c64 hF
   refine wp_skip ?_
   refine c_seq ?_
   refine c_region ?_
   refine oy hS y_assign ?_
   refine n_thenN ?_
   subst hF
   exact wp_ret (wr1 hS)
 replace hF := bf c58 hF
 refine c_region ?_
 refine oy hS y_bin ?_
 refine oy hS y_assign ?_
 refine n_thenN ?_
 refine c_if (ht := fun c65 => ?_) (hf := fun c65 => ?_)
 · replace hF := bt c65 hF
   refine c_seq ?_
   refine c_region ?_
   refine oy hS y_assign ?_
   refine n_thenN ?_
   subst hF
   exact wp_ret (wr1 hS)
 replace hF := bf c65 hF
 iterate 2 (refine c_seq ?_)
 refine c_region ?_
 refine oy hS y_bin ?_
 refine oy hS y_assign ?_
 refine n_thenN ?_
 refine c_if (ht := fun c66 => ?_) (hf := fun c66 => ?_)
 · replace hF := bt c66 hF
   refine wp_skip ?_
   refine c_if (ht := fun c67 => ?_) (hf := fun c67 => ?_)
   · replace hF := bt c67 hF
     refine c_seq ?_
     refine c_region ?_
     refine oy hS y_assign ?_
     refine n_thenN ?_
     subst hF
     exact wp_ret (wr1 hS)
   replace hF := bf c67 hF
   refine wp_skip ?_
   refine c_seq ?_
   refine c_region ?_
   refine oy hS y_assign ?_
   refine n_thenN ?_
   subst hF
   exact wp_ret (wr1 hS)
 replace hF := bf c66 hF
 refine c_seq ?_
 refine c_region ?_
 refine oy hS y_bin ?_
 refine oy hS y_assign ?_
 refine n_thenN ?_
 refine c_if (ht := fun c68 => ?_) (hf := fun c68 => ?_)
 · replace hF := bt c68 hF
   refine wp_skip ?_
   refine c_if (ht := fun c69 => ?_) (hf := fun c69 => ?_)
   · replace hF := bt c69 hF
     refine c_seq ?_
     refine c_region ?_
     refine oy hS y_assign ?_
     refine n_thenN ?_
     subst hF
     exact wp_ret (wr1 hS)
   replace hF := bf c69 hF
   refine wp_skip ?_
   refine c_seq ?_
   refine c_region ?_
   refine oy hS y_assign ?_
   refine n_thenN ?_
   subst hF
   exact wp_ret (wr1 hS)
 replace hF := bf c68 hF
 refine c_region ?_
 refine oy hS y_bin ?_
 refine oy hS y_assign ?_
 refine n_thenN ?_
 refine c_if (ht := fun c70 => ?_) (hf := fun c70 => ?_)
 · replace hF := bt c70 hF
   refine c_seq ?_
   refine c_region ?_
   refine oy hS y_assign ?_
   refine n_thenN ?_
   subst hF
   exact wp_ret (wr1 hS)
 replace hF := bf c70 hF
 refine wp_skip ?_
 refine c_seq ?_
 refine c_region ?_
 refine oy hS y_assign ?_
 refine n_thenN ?_
 subst hF
 exact wp_ret (wr1 hS)
theorem w_isa_Shape {g : Frag} {a0 : Int}  : LCs Try.prog 63 #[.int .i64 a0] g (.int .i64 (isa_Shape a0)) := w_isa_Shape_  rfl

def isa_HasD (a0 : Int) : Bool :=
  bif decide (1 ≤ a0) then bif decide (a0 ≤ 4) then true else decide (a0 = 6) else decide (a0 = 6)
set_option maxHeartbeats 2000000 in
theorem w_isa_HasD_ {g : Frag} {a0 : Int} {r : Bool}  (hF : isa_HasD a0 = r) : LCs Try.prog 62 #[.int .i64 a0] g (.bool r) := by
 unfold isa_HasD at hF
 refine lc_body (k := 13) (av := [.int .i64 a0]) Try.func62 rfl rfl (h := fun W hS => ?_)
 refine c_seq ?_
 refine c_region ?_
 refine oy hS y_assign ?_
 refine n_thenN ?_
 refine c_seq ?_
 refine c_region ?_
 refine oy hS y_move ?_
 refine oy hS y_bin ?_
 refine o_split (ht := fun c1 => ?_) (hf := fun c1 => ?_)
 · replace hF := bt c1 hF
   refine o_gu rfl rfl rfl ?_
   refine oy hS y_move ?_
   refine o_gu rfl rfl rfl ?_
   refine oy hS y_bin ?_
   refine oy hS y_pickT ?_
   refine o_split (ht := fun c2 => ?_) (hf := fun c2 => ?_)
   · replace hF := bt c2 hF
     iterate 2 (refine o_sk rfl rfl ?_)
     refine oy hS y_pickT ?_
     refine oy hS y_assign ?_
     refine n_thenN ?_
     subst hF
     exact wp_ret (wr1 hS)
   replace hF := bf c2 hF
   refine o_gu rfl rfl rfl ?_
   refine oy hS y_move ?_
   refine o_gu rfl rfl rfl ?_
   refine oy hS y_bin ?_
   refine oy hS y_pickF ?_
   refine oy hS y_assign ?_
   refine n_thenN ?_
   subst hF
   exact wp_ret (wr1 hS)
 replace hF := bf c1 hF
 iterate 2 (refine o_sk rfl rfl ?_)
 refine oy hS y_pickF ?_
 refine oy hS y_move ?_
 refine o_gu rfl rfl rfl ?_
 refine oy hS y_move ?_
 refine o_gu rfl rfl rfl ?_
 refine oy hS y_bin ?_
 refine oy hS y_pickF ?_
 refine oy hS y_assign ?_
 refine n_thenN ?_
 subst hF
 exact wp_ret (wr1 hS)
theorem w_isa_HasD {g : Frag} {a0 : Int}  : LCs Try.prog 62 #[.int .i64 a0] g (.bool (isa_HasD a0)) := w_isa_HasD_  rfl

def isa_reg (a0 : Bool) (a1 : Int) : Bool :=
  bif decide (a1 = 0) then true else bif a0 then bif decide (0 < a1) then decide (a1 < 16) else false else false
set_option maxHeartbeats 2000000 in
theorem w_isa_reg_ {g : Frag} {a0 : Bool} {a1 : Int} {r : Bool}  (hF : isa_reg a0 a1 = r) : LCs Try.prog 75 #[.bool a0, .int .i64 a1] g (.bool r) := by
 unfold isa_reg at hF
 refine lc_body (k := 18) (av := [.bool a0, .int .i64 a1]) Try.func75 rfl rfl (h := fun W hS => ?_)
 refine c_seq ?_
 refine c_region ?_
 refine oy hS y_assign ?_
 refine n_thenN ?_
 refine c_seq ?_
 refine c_region ?_
 refine oy hS y_move ?_
 refine oy hS y_bin ?_
 refine o_split (ht := fun c1 => ?_) (hf := fun c1 => ?_)
 · replace hF := bt c1 hF
   iterate 2 (refine o_sk rfl rfl ?_)
   iterate 2 (refine o_sku rfl rfl ?_)
   iterate 2 (refine o_sk rfl rfl ?_)
   iterate 2 (refine o_sku rfl rfl ?_)
   refine o_sk rfl rfl ?_
   refine oy hS y_pickT ?_
   refine oy hS y_assign ?_
   refine n_thenN ?_
   subst hF
   exact wp_ret (wr1 hS)
 replace hF := bf c1 hF
 refine o_gu rfl rfl rfl ?_
 refine oy hS y_move ?_
 refine o_gu rfl rfl rfl ?_
 refine o_split (ht := fun c2 => ?_) (hf := fun c2 => ?_)
 · replace hF := bt c2 hF
   refine o_gu rfl rfl rfl ?_
   refine oy hS y_move ?_
   refine o_gu rfl rfl rfl ?_
   refine oy hS y_bin ?_
   refine o_gu rfl rfl rfl ?_
   refine oy hS y_pickT ?_
   refine o_gu rfl rfl rfl ?_
   refine o_split (ht := fun c3 => ?_) (hf := fun c3 => ?_)
   · replace hF := bt c3 hF
     refine o_gu rfl rfl rfl ?_
     refine oy hS y_move ?_
     refine o_gu rfl rfl rfl ?_
     refine oy hS y_bin ?_
     refine o_gu rfl rfl rfl ?_
     refine oy hS y_pickT ?_
     refine oy hS y_pickF ?_
     refine oy hS y_assign ?_
     refine n_thenN ?_
     subst hF
     exact wp_ret (wr1 hS)
   replace hF := bf c3 hF
   iterate 2 (refine o_sk rfl rfl ?_)
   refine o_gu rfl rfl rfl ?_
   iterate 2 (refine oy hS y_pickF ?_)
   refine oy hS y_assign ?_
   refine n_thenN ?_
   subst hF
   exact wp_ret (wr1 hS)
 replace hF := bf c2 hF
 iterate 2 (refine o_sk rfl rfl ?_)
 refine o_gu rfl rfl rfl ?_
 refine oy hS y_pickF ?_
 refine o_gu rfl rfl rfl ?_
 refine oy hS y_move ?_
 iterate 2 (refine o_sk rfl rfl ?_)
 refine o_gu rfl rfl rfl ?_
 iterate 2 (refine oy hS y_pickF ?_)
 refine oy hS y_assign ?_
 refine n_thenN ?_
 subst hF
 exact wp_ret (wr1 hS)
theorem w_isa_reg {g : Frag} {a0 : Bool} {a1 : Int}  : LCs Try.prog 75 #[.bool a0, .int .i64 a1] g (.bool (isa_reg a0 a1)) := w_isa_reg_  rfl

def isa_HasA (a0 : Int) : Bool :=
  bif decide (a0 = 1) then bif decide (a0 = 1) then true else false else bif decide (a0 = 2) then bif decide (a0 = 2) then true else false else bif decide (a0 = 3) then bif decide (a0 = 3) then true else false else bif decide (a0 = 5) then bif decide (a0 = 5) then true else false else bif decide (a0 = 7) then bif decide (a0 = 7) then true else false else bif decide (a0 = 9) then true else false
set_option maxHeartbeats 2000000 in
theorem w_isa_HasA_ {g : Frag} {a0 : Int} {r : Bool}  (hF : isa_HasA a0 = r) : LCs Try.prog 76 #[.int .i64 a0] g (.bool r) := by
 unfold isa_HasA at hF
 refine lc_body (k := 11) (av := [.int .i64 a0]) Try.func76 rfl rfl (h := fun W hS => ?_)
 refine c_seq ?_
 refine c_region ?_
 refine oy hS y_assign ?_
 refine n_thenN ?_
 iterate 2 (refine c_seq ?_)
 refine c_region ?_
 refine oy hS y_move ?_
 refine n_thenN ?_
 refine c_block ?_
 iterate 2 (refine c_seq ?_)
 refine c_region ?_
 refine oy hS y_bin ?_
 refine oy hS y_assign ?_
 refine n_thenN ?_
 refine c_if (ht := fun c1 => ?_) (hf := fun c1 => ?_)
 · replace hF := bt c1 hF
   refine wp_skip ?_
   refine c_if (ht := fun c2 => ?_) (hf := fun c2 => ?_)
   · replace hF := bt c2 hF
     refine c_seq ?_
     refine c_region ?_
     refine oy hS y_assign ?_
     refine n_thenN ?_
     subst hF
     exact wp_ret (wr1 hS)
   replace hF := bf c2 hF
   refine wp_skip ?_
   refine c_seq ?_
   refine c_region ?_
   refine oy hS y_assign ?_
   refine n_thenN ?_
   subst hF
   exact wp_ret (wr1 hS)
 replace hF := bf c1 hF
 refine c_seq ?_
 refine c_region ?_
 refine oy hS y_bin ?_
 refine oy hS y_assign ?_
 refine n_thenN ?_
 refine c_if (ht := fun c3 => ?_) (hf := fun c3 => ?_)
 · replace hF := bt c3 hF
   refine wp_skip ?_
   refine c_if (ht := fun c4 => ?_) (hf := fun c4 => ?_)
   · replace hF := bt c4 hF
     refine c_seq ?_
     refine c_region ?_
     refine oy hS y_assign ?_
     refine n_thenN ?_
     subst hF
     exact wp_ret (wr1 hS)
   replace hF := bf c4 hF
   refine wp_skip ?_
   refine c_seq ?_
   refine c_region ?_
   refine oy hS y_assign ?_
   refine n_thenN ?_
   subst hF
   exact wp_ret (wr1 hS)
 replace hF := bf c3 hF
 refine c_seq ?_
 refine c_region ?_
 refine oy hS y_bin ?_
 refine oy hS y_assign ?_
 refine n_thenN ?_
 refine c_if (ht := fun c5 => ?_) (hf := fun c5 => ?_)
 · replace hF := bt c5 hF
   refine wp_skip ?_
   refine c_if (ht := fun c6 => ?_) (hf := fun c6 => ?_)
   · replace hF := bt c6 hF
     refine c_seq ?_
     refine c_region ?_
     refine oy hS y_assign ?_
     refine n_thenN ?_
     subst hF
     exact wp_ret (wr1 hS)
   replace hF := bf c6 hF
   refine wp_skip ?_
   refine c_seq ?_
   refine c_region ?_
   refine oy hS y_assign ?_
   refine n_thenN ?_
   subst hF
   exact wp_ret (wr1 hS)
 replace hF := bf c5 hF
 refine c_seq ?_
 refine c_region ?_
 refine oy hS y_bin ?_
 refine oy hS y_assign ?_
 refine n_thenN ?_
 refine c_if (ht := fun c7 => ?_) (hf := fun c7 => ?_)
 · replace hF := bt c7 hF
   refine wp_skip ?_
   refine c_if (ht := fun c8 => ?_) (hf := fun c8 => ?_)
   · replace hF := bt c8 hF
     refine c_seq ?_
     refine c_region ?_
     refine oy hS y_assign ?_
     refine n_thenN ?_
     subst hF
     exact wp_ret (wr1 hS)
   replace hF := bf c8 hF
   refine wp_skip ?_
   refine c_seq ?_
   refine c_region ?_
   refine oy hS y_assign ?_
   refine n_thenN ?_
   subst hF
   exact wp_ret (wr1 hS)
 replace hF := bf c7 hF
 refine c_seq ?_
 refine c_region ?_
 refine oy hS y_bin ?_
 refine oy hS y_assign ?_
 refine n_thenN ?_
 refine c_if (ht := fun c9 => ?_) (hf := fun c9 => ?_)
 · replace hF := bt c9 hF
   refine wp_skip ?_
   refine c_if (ht := fun c10 => ?_) (hf := fun c10 => ?_)
   · replace hF := bt c10 hF
     refine c_seq ?_
     refine c_region ?_
     refine oy hS y_assign ?_
     refine n_thenN ?_
     subst hF
     exact wp_ret (wr1 hS)
   replace hF := bf c10 hF
   refine wp_skip ?_
   refine c_seq ?_
   refine c_region ?_
   refine oy hS y_assign ?_
   refine n_thenN ?_
   subst hF
   exact wp_ret (wr1 hS)
 replace hF := bf c9 hF
 refine c_region ?_
 refine oy hS y_bin ?_
 refine oy hS y_assign ?_
 refine n_thenN ?_
 refine c_if (ht := fun c11 => ?_) (hf := fun c11 => ?_)
 · replace hF := bt c11 hF
   refine c_seq ?_
   refine c_region ?_
   refine oy hS y_assign ?_
   refine n_thenN ?_
   subst hF
   exact wp_ret (wr1 hS)
 replace hF := bf c11 hF
 refine wp_skip ?_
 refine c_seq ?_
 refine c_region ?_
 refine oy hS y_assign ?_
 refine n_thenN ?_
 subst hF
 exact wp_ret (wr1 hS)
theorem w_isa_HasA {g : Frag} {a0 : Int}  : LCs Try.prog 76 #[.int .i64 a0] g (.bool (isa_HasA a0)) := w_isa_HasA_  rfl

def isa_HasB (a0 : Int) : Bool :=
  bif decide (a0 = 1) then true else decide (a0 = 5)
set_option maxHeartbeats 2000000 in
theorem w_isa_HasB_ {g : Frag} {a0 : Int} {r : Bool}  (hF : isa_HasB a0 = r) : LCs Try.prog 77 #[.int .i64 a0] g (.bool r) := by
 unfold isa_HasB at hF
 refine lc_body (k := 9) (av := [.int .i64 a0]) Try.func77 rfl rfl (h := fun W hS => ?_)
 refine c_seq ?_
 refine c_region ?_
 refine oy hS y_assign ?_
 refine n_thenN ?_
 refine c_seq ?_
 refine c_region ?_
 refine oy hS y_move ?_
 refine oy hS y_bin ?_
 refine o_split (ht := fun c1 => ?_) (hf := fun c1 => ?_)
 · replace hF := bt c1 hF
   iterate 2 (refine o_sk rfl rfl ?_)
   refine oy hS y_pickT ?_
   refine oy hS y_assign ?_
   refine n_thenN ?_
   subst hF
   exact wp_ret (wr1 hS)
 replace hF := bf c1 hF
 refine o_gu rfl rfl rfl ?_
 refine oy hS y_move ?_
 refine o_gu rfl rfl rfl ?_
 refine oy hS y_bin ?_
 refine oy hS y_pickF ?_
 refine oy hS y_assign ?_
 refine n_thenN ?_
 subst hF
 exact wp_ret (wr1 hS)
theorem w_isa_HasB {g : Frag} {a0 : Int}  : LCs Try.prog 77 #[.int .i64 a0] g (.bool (isa_HasB a0)) := w_isa_HasB_  rfl

def isa_Target (a0 : Int) : Bool :=
  bif decide (a0 = 8) then true else decide (a0 = 9)
set_option maxHeartbeats 2000000 in
theorem w_isa_Target_ {g : Frag} {a0 : Int} {r : Bool}  (hF : isa_Target a0 = r) : LCs Try.prog 91 #[.int .i64 a0] g (.bool r) := by
 unfold isa_Target at hF
 refine lc_body (k := 9) (av := [.int .i64 a0]) Try.func91 rfl rfl (h := fun W hS => ?_)
 refine c_seq ?_
 refine c_region ?_
 refine oy hS y_assign ?_
 refine n_thenN ?_
 refine c_seq ?_
 refine c_region ?_
 refine oy hS y_move ?_
 refine oy hS y_bin ?_
 refine o_split (ht := fun c1 => ?_) (hf := fun c1 => ?_)
 · replace hF := bt c1 hF
   iterate 2 (refine o_sk rfl rfl ?_)
   refine oy hS y_pickT ?_
   refine oy hS y_assign ?_
   refine n_thenN ?_
   subst hF
   exact wp_ret (wr1 hS)
 replace hF := bf c1 hF
 refine o_gu rfl rfl rfl ?_
 refine oy hS y_move ?_
 refine o_gu rfl rfl rfl ?_
 refine oy hS y_bin ?_
 refine oy hS y_pickF ?_
 refine oy hS y_assign ?_
 refine n_thenN ?_
 subst hF
 exact wp_ret (wr1 hS)
theorem w_isa_Target {g : Frag} {a0 : Int}  : LCs Try.prog 91 #[.int .i64 a0] g (.bool (isa_Target a0)) := w_isa_Target_  rfl

def isa_letter (a0 : Int) : Bool :=
  bif decide (a0 = 95) then true else bif decide (97 ≤ a0) then decide (a0 ≤ 122) else false
set_option maxHeartbeats 2000000 in
theorem w_isa_letter_ {g : Frag} {a0 : Int} {r : Bool}  (hF : isa_letter a0 = r) : LCs Try.prog 104 #[.int .u8 a0] g (.bool r) := by
 unfold isa_letter at hF
 refine lc_body (k := 13) (av := [.int .u8 a0]) Try.func104 rfl rfl (h := fun W hS => ?_)
 refine c_seq ?_
 refine c_region ?_
 refine oy hS y_assign ?_
 refine n_thenN ?_
 refine c_seq ?_
 refine c_region ?_
 refine oy hS y_move ?_
 refine oy hS y_bin ?_
 refine o_split (ht := fun c1 => ?_) (hf := fun c1 => ?_)
 · replace hF := bt c1 hF
   iterate 3 (refine o_sk rfl rfl ?_)
   iterate 2 (refine o_sku rfl rfl ?_)
   refine o_sk rfl rfl ?_
   refine oy hS y_pickT ?_
   refine oy hS y_assign ?_
   refine n_thenN ?_
   subst hF
   exact wp_ret (wr1 hS)
 replace hF := bf c1 hF
 refine o_gu rfl rfl rfl ?_
 refine oy hS y_move ?_
 refine o_gu rfl rfl rfl ?_
 refine oy hS y_bin ?_
 refine o_gu rfl rfl rfl ?_
 refine o_split (ht := fun c2 => ?_) (hf := fun c2 => ?_)
 · replace hF := bt c2 hF
   refine o_gu rfl rfl rfl ?_
   refine oy hS y_move ?_
   refine o_gu rfl rfl rfl ?_
   refine oy hS y_bin ?_
   refine o_gu rfl rfl rfl ?_
   refine oy hS y_pickT ?_
   refine oy hS y_pickF ?_
   refine oy hS y_assign ?_
   refine n_thenN ?_
   subst hF
   exact wp_ret (wr1 hS)
 replace hF := bf c2 hF
 iterate 2 (refine o_sk rfl rfl ?_)
 refine o_gu rfl rfl rfl ?_
 iterate 2 (refine oy hS y_pickF ?_)
 refine oy hS y_assign ?_
 refine n_thenN ?_
 subst hF
 exact wp_ret (wr1 hS)
theorem w_isa_letter {g : Frag} {a0 : Int}  : LCs Try.prog 104 #[.int .u8 a0] g (.bool (isa_letter a0)) := w_isa_letter_  rfl

noncomputable def isa_Name2_b2 (a0 : ByteArray) : Int → Option (Step Int Bool) := fun x17 => bif decide (x17 < (a0.size : Int)) then (byte' a0 x17).bind fun x28 => bif !(isa_letter x28) then bif decide (x28 < 48) then some (.done (false)) else bif decide (57 < x28) then some (.done (false)) else some (.next (IntKind.i64.wrap (x17 + 1))) else some (.next (IntKind.i64.wrap (x17 + 1))) else some (.done (true))
noncomputable def isa_Name2_k1 (a0 : ByteArray) : Unit → Option Bool := fun _ => loop (σ := Int) (isa_Name2_b2 a0) 0
noncomputable def isa_Name2 (a0 : ByteArray) : Option Bool :=
  cut (σ := Unit) (bif decide (a0 = (ByteArray.mk #[])) then some (.done (false)) else bif decide (12 < (a0.size : Int)) then some (.done (false)) else (byte' a0 0).bind fun x9 => bif !(isa_letter x9) then some (.done (false)) else some (.next ())) (isa_Name2_k1 a0)
set_option maxHeartbeats 2000000 in
theorem w_isa_Name2_ {g : Frag} {a0 : ByteArray} {r : Bool}  (hF : isa_Name2 a0 = some r) : LCs Try.prog 92 #[.string a0] g (.bool r) := by
 unfold isa_Name2 at hF
 refine lc_body (k := 38) (av := [.string a0]) Try.func92 rfl rfl (h := fun W hS => ?_)
 refine c_seq ?_
 refine c_region ?_
 refine oy hS y_assign ?_
 refine n_thenN ?_
 obtain ⟨z5, hF, hK6⟩ := cut_step hF
 refine c_cutP (fun a w' => isa_Name2_k1 a0 () = some r ∧ (∃ s : Nat → Value, a = Ac (.lit 38 [.string a0, s 1, s 2, s 3, s 4, s 5, s 6, s 7, s 8, s 9, s 10, s 11, s 12, s 13, s 14, s 15, s 16, s 17, s 18, s 19, s 20, s 21, s 22, s 23, s 24, s 25, s 26, s 27, s 28, s 29, s 30, s 31, s 32, s 33, s 34, s 35, s 36, s 37])) ∧ St W g [] [] w') ?_ ?_
 · skip
   refine c_seq ?_
   refine c_region ?_
   refine oy hS y_move ?_
   refine oy hS y_seql ?_
   refine o_split (ht := fun c7 => ?_) (hf := fun c7 => ?_)
   · replace hF := bt c7 hF
     iterate 3 (refine o_sk rfl rfl ?_)
     refine oy hS y_pickT ?_
     refine oy hS y_move ?_
     iterate 4 (refine o_sk rfl rfl ?_)
     refine oy hS y_pickT ?_
     refine n_thenN ?_
     refine c_if_true (h := ?_)
     refine c_seq ?_
     refine c_region ?_
     refine oy hS y_assign ?_
     refine n_thenN ?_
     obtain rfl := Option.some.inj hF
     obtain rfl : _ = r := hK6
     exact wp_ret (wr1 hS)
   replace hF := bf c7 hF
   refine o_gu rfl rfl rfl ?_
   refine oy hS y_move ?_
   refine o_gu rfl rfl rfl ?_
   refine oy hS (y_lens Try.underlying9) ?_
   refine o_gu rfl rfl rfl ?_
   refine oy hS y_bin ?_
   refine oy hS y_pickF ?_
   refine o_split (ht := fun c8 => ?_) (hf := fun c8 => ?_)
   · replace hF := bt c8 hF
     iterate 4 (refine o_sk rfl rfl ?_)
     refine oy hS y_pickT ?_
     refine n_thenN ?_
     refine c_if_true (h := ?_)
     refine c_seq ?_
     refine c_region ?_
     refine oy hS y_assign ?_
     refine n_thenN ?_
     obtain rfl := Option.some.inj hF
     obtain rfl : _ = r := hK6
     exact wp_ret (wr1 hS)
   replace hF := bf c8 hF
   refine o_gu rfl rfl rfl ?_
   refine oy hS y_move ?_
   refine o_gu rfl rfl rfl ?_
   obtain ⟨x9, hx9, hF⟩ := ob hF
   refine oy hS (y_byte hx9 Try.underlying9) ?_
   refine o_gu rfl rfl rfl ?_
   refine o_callS hS Try.func104 rfl rfl (hc := (w_isa_letter (a0 := x9))) (h := ?_)
   clear hS; intro w hS
   refine o_gu rfl rfl rfl ?_
   refine oy hS y_not ?_
   refine oy hS y_pickF ?_
   refine n_thenN ?_
   refine c_if (ht := fun c10 => ?_) (hf := fun c10 => ?_)
   · replace hF := bt c10 hF
     refine c_seq ?_
     refine c_region ?_
     refine oy hS y_assign ?_
     refine n_thenN ?_
     obtain rfl := Option.some.inj hF
     obtain rfl : _ = r := hK6
     exact wp_ret (wr1 hS)
   replace hF := bf c10 hF
   refine wp_skip ?_
   obtain rfl := Option.some.inj hF
   change _ ∧ _
   exact ⟨hK6, mk_ex, (hS.re (.nil _))⟩
 rintro a w ⟨hF, ⟨s11, rfl⟩, hS⟩
 dsimp only [isa_Name2_k1] at hF
 iterate 2 (refine c_seq ?_)
 refine c_region ?_
 refine oy hS y_move ?_
 refine oy hS (y_lens Try.underlying9) ?_
 refine oy hS y_move ?_
 refine n_thenN ?_
 refine c_block ?_
 refine c_loopP hF (fun (q : Int) a w' => (∃ s : Nat → Value, a = Ac (.lit 38 [.string a0, s 1, s 2, s 3, s 4, s 5, s 6, s 7, s 8, s 9, s 10, s 11, s 12, s 13, s 14, s 15, s 16, s 17, s 18, .int .i64 (a0.size : Int), .int .i64 q, s 21, s 22, s 23, s 24, s 25, s 26, s 27, s 28, s 29, s 30, s 31, s 32, s 33, s 34, s 35, s 36, s 37])) ∧ St W g [] [] w') ⟨mk_ex, (hS.re (.nil _))⟩ ?_
 clear hS hF
 intro n25 q a w hI hq
 revert hq hI; revert q; intro x17 hI hq
 obtain ⟨⟨s26, rfl⟩, hS⟩ := hq
 obtain ⟨z23, hF, hK24⟩ := iter_step hI
 clear hI
 dsimp only [isa_Name2_b2] at hF
 refine c_seq ?_
 refine c_region ?_
 refine oy hS y_bin ?_
 refine n_thenN ?_
 refine c_seq ?_
 refine c_if (ht := fun c27 => ?_) (hf := fun c27 => ?_)
 · replace hF := bt c27 hF
   refine wp_skip ?_
   refine c_seq ?_
   refine c_block ?_
   refine c_seq ?_
   refine c_region ?_
   refine oy hS y_move ?_
   refine oy hS y_assign ?_
   refine n_thenN ?_
   refine c_seq ?_
   refine c_region ?_
   iterate 2 (refine oy hS y_move ?_)
   obtain ⟨x28, hx28, hF⟩ := ob hF
   refine oy hS (y_byte hx28 Try.underlying9) ?_
   refine oy hS y_assign ?_
   refine n_thenN ?_
   refine c_seq ?_
   refine c_region ?_
   refine oy hS y_move ?_
   refine o_callS hS Try.func104 rfl rfl (hc := (w_isa_letter (a0 := x28))) (h := ?_)
   clear hS; intro w hS
   refine oy hS y_not ?_
   refine o_split (ht := fun c29 => ?_) (hf := fun c29 => ?_)
   · replace hF := bt c29 hF
     refine o_gu rfl rfl rfl ?_
     refine oy hS y_move ?_
     refine o_gu rfl rfl rfl ?_
     refine oy hS y_bin ?_
     refine o_gu rfl rfl rfl ?_
     refine o_split (ht := fun c30 => ?_) (hf := fun c30 => ?_)
     · replace hF := bt c30 hF
       iterate 2 (refine o_sk rfl rfl ?_)
       refine o_gu rfl rfl rfl ?_
       iterate 2 (refine oy hS y_pickT ?_)
       refine n_thenN ?_
       refine c_if_true (h := ?_)
       refine c_seq ?_
       refine c_region ?_
       refine oy hS y_assign ?_
       refine n_thenN ?_
       obtain rfl := Option.some.inj hF
       obtain rfl : _ = r := hK24
       exact wp_ret (wr1 hS)
     replace hF := bf c30 hF
     refine o_gu rfl rfl rfl ?_
     refine oy hS y_move ?_
     refine o_gu rfl rfl rfl ?_
     refine oy hS y_bin ?_
     refine o_gu rfl rfl rfl ?_
     refine oy hS y_pickF ?_
     refine oy hS y_pickT ?_
     refine n_thenN ?_
     refine c_if (ht := fun c31 => ?_) (hf := fun c31 => ?_)
     · replace hF := bt c31 hF
       refine c_seq ?_
       refine c_region ?_
       refine oy hS y_assign ?_
       refine n_thenN ?_
       obtain rfl := Option.some.inj hF
       obtain rfl : _ = r := hK24
       exact wp_ret (wr1 hS)
     replace hF := bf c31 hF
     refine wp_skip ?_
     refine c_region ?_
     refine oy hS y_bin ?_
     refine oy hS y_move ?_
     refine n_thenN ?_
     obtain rfl := Option.some.inj hF
     exact ⟨_, hK24, mk_ex, (hS.re (.nil _))⟩
   replace hF := bf c29 hF
   iterate 3 (refine o_sk rfl rfl ?_)
   iterate 2 (refine o_sku rfl rfl ?_)
   refine o_sk rfl rfl ?_
   refine oy hS y_pickF ?_
   refine n_thenN ?_
   refine c_if_false (h := ?_)
   refine wp_skip ?_
   refine c_region ?_
   refine oy hS y_bin ?_
   refine oy hS y_move ?_
   refine n_thenN ?_
   obtain rfl := Option.some.inj hF
   exact ⟨_, hK24, mk_ex, (hS.re (.nil _))⟩
 replace hF := bf c27 hF
 refine wp_exit ?_
 refine c_seq ?_
 refine c_region ?_
 refine oy hS y_assign ?_
 refine n_thenN ?_
 obtain rfl := Option.some.inj hF
 obtain rfl : _ = r := hK24
 exact wp_ret (wr1 hS)
theorem w_isa_Name2 {g : Frag} {a0 : ByteArray} {r : Bool}  (hF : isa_Name2 a0 = some r) : LCs Try.prog 92 #[.string a0] g (.bool r) := w_isa_Name2_  hF

def isa_Bits (a0 : Int) : Int :=
  bif decide (a0 = 3) then bif decide (a0 = 3) then 14 else bif decide (a0 = 4) then bif decide (a0 = 4) then 18 else 0 else bif decide (a0 = 8) then 18 else 0 else bif decide (a0 = 5) then bif decide (a0 = 5) then 14 else bif decide (a0 = 4) then bif decide (a0 = 4) then 18 else 0 else bif decide (a0 = 8) then 18 else 0 else bif decide (a0 = 9) then 14 else bif decide (a0 = 4) then bif decide (a0 = 4) then 18 else 0 else bif decide (a0 = 8) then 18 else 0
set_option maxHeartbeats 2000000 in
theorem w_isa_Bits_ {g : Frag} {a0 : Int} {r : Int}  (hF : isa_Bits a0 = r) : LCs Try.prog 93 #[.int .i64 a0] g (.int .i64 r) := by
 unfold isa_Bits at hF
 refine lc_body (k := 11) (av := [.int .i64 a0]) Try.func93 rfl rfl (h := fun W hS => ?_)
 refine c_seq ?_
 refine c_region ?_
 refine oy hS y_assign ?_
 refine n_thenN ?_
 iterate 2 (refine c_seq ?_)
 refine c_region ?_
 refine oy hS y_move ?_
 refine n_thenN ?_
 refine c_block ?_
 iterate 2 (refine c_seq ?_)
 refine c_region ?_
 refine oy hS y_bin ?_
 refine oy hS y_assign ?_
 refine n_thenN ?_
 refine c_if (ht := fun c1 => ?_) (hf := fun c1 => ?_)
 · replace hF := bt c1 hF
   refine wp_skip ?_
   refine c_if (ht := fun c2 => ?_) (hf := fun c2 => ?_)
   · replace hF := bt c2 hF
     refine c_seq ?_
     refine c_region ?_
     refine oy hS y_assign ?_
     refine n_thenN ?_
     subst hF
     exact wp_ret (wr1 hS)
   replace hF := bf c2 hF
   iterate 2 (refine c_seq ?_)
   refine c_region ?_
   refine oy hS y_bin ?_
   refine oy hS y_assign ?_
   refine n_thenN ?_
   refine c_if (ht := fun c3 => ?_) (hf := fun c3 => ?_)
   · replace hF := bt c3 hF
     refine wp_skip ?_
     refine c_if (ht := fun c4 => ?_) (hf := fun c4 => ?_)
     · replace hF := bt c4 hF
       refine c_seq ?_
       refine c_region ?_
       refine oy hS y_assign ?_
       refine n_thenN ?_
       subst hF
       exact wp_ret (wr1 hS)
     replace hF := bf c4 hF
     refine wp_skip ?_
     refine c_seq ?_
     refine c_region ?_
     refine oy hS y_assign ?_
     refine n_thenN ?_
     subst hF
     exact wp_ret (wr1 hS)
   replace hF := bf c3 hF
   refine c_region ?_
   refine oy hS y_bin ?_
   refine oy hS y_assign ?_
   refine n_thenN ?_
   refine c_if (ht := fun c5 => ?_) (hf := fun c5 => ?_)
   · replace hF := bt c5 hF
     refine c_seq ?_
     refine c_region ?_
     refine oy hS y_assign ?_
     refine n_thenN ?_
     subst hF
     exact wp_ret (wr1 hS)
   replace hF := bf c5 hF
   refine wp_skip ?_
   refine c_seq ?_
   refine c_region ?_
   refine oy hS y_assign ?_
   refine n_thenN ?_
   subst hF
   exact wp_ret (wr1 hS)
 replace hF := bf c1 hF
 refine c_seq ?_
 refine c_region ?_
 refine oy hS y_bin ?_
 refine oy hS y_assign ?_
 refine n_thenN ?_
 refine c_if (ht := fun c6 => ?_) (hf := fun c6 => ?_)
 · replace hF := bt c6 hF
   refine wp_skip ?_
   refine c_if (ht := fun c7 => ?_) (hf := fun c7 => ?_)
   · replace hF := bt c7 hF
     refine c_seq ?_
     refine c_region ?_
     refine oy hS y_assign ?_
     refine n_thenN ?_
     subst hF
     exact wp_ret (wr1 hS)
   replace hF := bf c7 hF
   iterate 2 (refine c_seq ?_)
   refine c_region ?_
   refine oy hS y_bin ?_
   refine oy hS y_assign ?_
   refine n_thenN ?_
   refine c_if (ht := fun c8 => ?_) (hf := fun c8 => ?_)
   · replace hF := bt c8 hF
     refine wp_skip ?_
     refine c_if (ht := fun c9 => ?_) (hf := fun c9 => ?_)
     · replace hF := bt c9 hF
       refine c_seq ?_
       refine c_region ?_
       refine oy hS y_assign ?_
       refine n_thenN ?_
       subst hF
       exact wp_ret (wr1 hS)
     replace hF := bf c9 hF
     refine wp_skip ?_
     refine c_seq ?_
     refine c_region ?_
     refine oy hS y_assign ?_
     refine n_thenN ?_
     subst hF
     exact wp_ret (wr1 hS)
   replace hF := bf c8 hF
   refine c_region ?_
   refine oy hS y_bin ?_
   refine oy hS y_assign ?_
   refine n_thenN ?_
   refine c_if (ht := fun c10 => ?_) (hf := fun c10 => ?_)
   · replace hF := bt c10 hF
     refine c_seq ?_
     refine c_region ?_
     refine oy hS y_assign ?_
     refine n_thenN ?_
     subst hF
     exact wp_ret (wr1 hS)
   replace hF := bf c10 hF
   refine wp_skip ?_
   refine c_seq ?_
   refine c_region ?_
   refine oy hS y_assign ?_
   refine n_thenN ?_
   subst hF
   exact wp_ret (wr1 hS)
 replace hF := bf c6 hF
 refine c_region ?_
 refine oy hS y_bin ?_
 refine oy hS y_assign ?_
 refine n_thenN ?_
 refine c_if (ht := fun c11 => ?_) (hf := fun c11 => ?_)
 · replace hF := bt c11 hF
   refine c_seq ?_
   refine c_region ?_
   refine oy hS y_assign ?_
   refine n_thenN ?_
   subst hF
   exact wp_ret (wr1 hS)
 replace hF := bf c11 hF
 iterate 2 (refine c_seq ?_)
 refine c_region ?_
 refine oy hS y_bin ?_
 refine oy hS y_assign ?_
 refine n_thenN ?_
 refine c_if (ht := fun c12 => ?_) (hf := fun c12 => ?_)
 · replace hF := bt c12 hF
   refine wp_skip ?_
   refine c_if (ht := fun c13 => ?_) (hf := fun c13 => ?_)
   · replace hF := bt c13 hF
     refine c_seq ?_
     refine c_region ?_
     refine oy hS y_assign ?_
     refine n_thenN ?_
     subst hF
     exact wp_ret (wr1 hS)
   replace hF := bf c13 hF
   refine wp_skip ?_
   refine c_seq ?_
   refine c_region ?_
   refine oy hS y_assign ?_
   refine n_thenN ?_
   subst hF
   exact wp_ret (wr1 hS)
 replace hF := bf c12 hF
 refine c_region ?_
 refine oy hS y_bin ?_
 refine oy hS y_assign ?_
 refine n_thenN ?_
 refine c_if (ht := fun c14 => ?_) (hf := fun c14 => ?_)
 · replace hF := bt c14 hF
   refine c_seq ?_
   refine c_region ?_
   refine oy hS y_assign ?_
   refine n_thenN ?_
   subst hF
   exact wp_ret (wr1 hS)
 replace hF := bf c14 hF
 refine wp_skip ?_
 refine c_seq ?_
 refine c_region ?_
 refine oy hS y_assign ?_
 refine n_thenN ?_
 subst hF
 exact wp_ret (wr1 hS)
theorem w_isa_Bits {g : Frag} {a0 : Int}  : LCs Try.prog 93 #[.int .i64 a0] g (.int .i64 (isa_Bits a0)) := w_isa_Bits_  rfl

noncomputable def word_Within (a0 : Int) (a1 : Int) : Option Bool :=
  (shl' .i64 (-1) (IntKind.i64.wrap (a1 - 1))).bind fun x1 => bif decide (x1 ≤ a0) then (shl' .i64 1 (IntKind.i64.wrap (a1 - 1))).bind fun x3 => some (decide (a0 < x3)) else some (false)
set_option maxHeartbeats 2000000 in
theorem w_word_Within_ {g : Frag} {a0 : Int} {a1 : Int} {r : Bool}  (hF : word_Within a0 a1 = some r) : LCs Try.prog 94 #[.int .i64 a0, .int .i64 a1] g (.bool r) := by
 unfold word_Within at hF
 refine lc_body (k := 17) (av := [.int .i64 a0, .int .i64 a1]) Try.func94 rfl rfl (h := fun W hS => ?_)
 refine c_seq ?_
 refine c_region ?_
 refine oy hS y_assign ?_
 refine n_thenN ?_
 refine c_seq ?_
 refine c_region ?_
 iterate 2 (refine oy hS y_move ?_)
 refine oy hS y_bin ?_
 obtain ⟨x1, hx1, hF⟩ := ob hF
 refine oy hS (y_shl hx1) ?_
 refine oy hS y_bin ?_
 refine o_split (ht := fun c2 => ?_) (hf := fun c2 => ?_)
 · replace hF := bt c2 hF
   refine o_gu rfl rfl rfl ?_
   refine oy hS y_move ?_
   refine o_gu rfl rfl rfl ?_
   refine oy hS y_move ?_
   refine o_gu rfl rfl rfl ?_
   refine oy hS y_bin ?_
   refine o_gu rfl rfl rfl ?_
   obtain ⟨x3, hx3, hF⟩ := ob hF
   refine oy hS (y_shl hx3) ?_
   refine o_gu rfl rfl rfl ?_
   refine oy hS y_bin ?_
   refine oy hS y_pickT ?_
   refine oy hS y_assign ?_
   refine n_thenN ?_
   obtain rfl := Option.some.inj hF
   exact wp_ret (wr1 hS)
 replace hF := bf c2 hF
 iterate 5 (refine o_sk rfl rfl ?_)
 refine oy hS y_pickF ?_
 refine oy hS y_assign ?_
 refine n_thenN ?_
 obtain rfl := Option.some.inj hF
 exact wp_ret (wr1 hS)
theorem w_word_Within {g : Frag} {a0 : Int} {a1 : Int} {r : Bool}  (hF : word_Within a0 a1 = some r) : LCs Try.prog 94 #[.int .i64 a0, .int .i64 a1] g (.bool r) := w_word_Within_  hF
end Go.Proofs.Ytadajdcbeegabaa
