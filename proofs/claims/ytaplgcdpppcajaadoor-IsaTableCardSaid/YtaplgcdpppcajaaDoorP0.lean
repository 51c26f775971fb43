/- Functions, lifted. Printed by lift.py. -/
import Derived.Test.YtaplgcdpppcajaaDoorProg
import Derived.Test.YtaplgcdpppcajaaDoorSh
import Derived.KernelRfl
namespace Go.Proofs.YtaplgcdpppcajaaDoor
open Go Go.RowKit Fr
set_option linter.unusedVariables false
set_option linter.unusedSimpArgs false
set_option maxRecDepth 20000
open Tryd
set_option maxHeartbeats 2000000
noncomputable def r3_Form (a0 : Int) : Option Int :=
  (at' ([0, 1, 1, 1, 1, 1, 1, 1, 1, 1, 1, 1, 1, 1, 1, 1, 1, 1, 1, 1, 1, 2, 3, 4, 3, 5, 6, 7, 8, 9, 9, 8, 0, 0] : List Int) a0).bind fun x4 => some (x4)
theorem w_r3_Form_ {g : Frag} {a0 : Int} {r : Int}  (hF : r3_Form a0 = some r) : LCs Tryd.prog 6 #[.int .i64 a0] g (.int .i64 r) := by
 unfold r3_Form at hF
 refine lc_body (k := 7) (av := [.int .i64 a0]) func6 rfl rfl (h := fun W hS => ?_)
 refine c_seq <| c_region <| oy hS y_assign <| n_thenN <| c_seq <| c_region ?_
 refine o_buildT val_int ([0, 1, 1, 1, 1, 1, 1, 1, 1, 1, 1, 1, 1, 1, 1, 1, 1, 1, 1, 1, 1, 2, 3, 4, 3, 5, 6, 7, 8, 9, 9, 8, 0, 0] : List Int) hS el_int (fun _ => rfl) enc_len_int (by decide) rfl (by decide) (hp := rfl) (h := ?_)
 clear hS; intro b1 w hS h2
 have hS : St W g [] ([(b1, blk (([0, 1, 1, 1, 1, 1, 1, 1, 1, 1, 1, 1, 1, 1, 1, 1, 1, 1, 1, 1, 1, 2, 3, 4, 3, 5, 6, 7, 8, 9, 9, 8, 0, 0] : List Int).flatMap enc_int) 3)] ++ []) w := hS
 refine oy hS y_move ?_
 obtain ⟨x4, hx4, hF⟩ := ob hF
 obtain ⟨b5, c6, cl7, hv8, ha9, B0, D0, E0⟩ := OwT.at hx4 h2 enc_len_int
 refine oy hS (y_index hv8 ha9 B0 underlying30 el_int.size) <| oy hS (y_load (fun w hS => hS.own (mA (mX D0))) underlying3 rfl (E0 0 _ rfl)) <| oy hS y_assign <| n_thenN ?_
 obtain rfl := osi hF
 exact wp_ret (wr1 hS)
theorem w_r3_Form {g : Frag} {a0 : Int} {r : Int}  (hF : r3_Form a0 = some r) : LCs Tryd.prog 6 #[.int .i64 a0] g (.int .i64 r) := w_r3_Form_  hF

def r0_Between (a0 : Int) (a1 : Int) (a2 : Int) : Bool :=
  bif decide (a1 ≤ a0) then decide (a0 ≤ a2) else false
theorem w_r0_Between_ {g : Frag} {a0 : Int} {a1 : Int} {a2 : Int} {r : Bool}  (hF : r0_Between a0 a1 a2 = r) : LCs Tryd.prog 40 #[.int .i64 a0, .int .i64 a1, .int .i64 a2] g (.bool r) := by
 unfold r0_Between at hF
 refine lc_body (k := 15) (av := [.int .i64 a0, .int .i64 a1, .int .i64 a2]) func40 rfl rfl (h := fun W hS => ?_)
 refine c_seq <| c_region <| oy hS y_assign <| n_thenN <| c_seq <| c_region ?_
 iterate 2 (refine oy hS y_move ?_)
 refine oy hS y_bin ?_
 refine o_split (ht := fun c1 => ?_) (hf := fun c1 => ?_)
 · replace hF := bt c1 hF
   refine o_gu rfl rfl rfl <| oy hS y_move <| o_gu rfl rfl rfl <| oy hS y_move <| o_gu rfl rfl rfl <| oy hS y_bin <| oy hS y_pickT <| oy hS y_assign ?_
   refine n_thenN ?_
   subst hF
   exact wp_ret (wr1 hS)
 replace hF := bf c1 hF
 iterate 3 (refine o_sk rfl rfl ?_)
 refine oy hS y_pickF <| oy hS y_assign <| n_thenN ?_
 subst hF
 exact wp_ret (wr1 hS)
theorem w_r0_Between {g : Frag} {a0 : Int} {a1 : Int} {a2 : Int}  : LCs Tryd.prog 40 #[.int .i64 a0, .int .i64 a1, .int .i64 a2] g (.bool (r0_Between a0 a1 a2)) := w_r0_Between_  rfl

def r3_HasD (a0 : Int) : Bool :=
  bif (r0_Between a0 1 4) then true else decide (a0 = 6)
theorem w_r3_HasD_ {g : Frag} {a0 : Int} {r : Bool}  (hF : r3_HasD a0 = r) : LCs Tryd.prog 7 #[.int .i64 a0] g (.bool r) := by
 unfold r3_HasD at hF
 refine lc_body (k := 9) (av := [.int .i64 a0]) func7 rfl rfl (h := fun W hS => ?_)
 refine c_seq <| c_region <| oy hS y_assign <| n_thenN <| c_seq <| c_region <| oy hS y_move ?_
 refine o_callS hS func40 rfl rfl (hc := (w_r0_Between (a0 := a0) (a1 := 1) (a2 := 4))) (h := ?_)
 clear hS; intro w hS
 refine o_split (ht := fun c1 => ?_) (hf := fun c1 => ?_)
 · replace hF := bt c1 hF
   iterate 2 (refine o_sk rfl rfl ?_)
   refine oy hS y_pickT <| oy hS y_assign <| n_thenN ?_
   subst hF
   exact wp_ret (wr1 hS)
 replace hF := bf c1 hF
 refine o_gu rfl rfl rfl <| oy hS y_move <| o_gu rfl rfl rfl <| oy hS y_bin <| oy hS y_pickF <| oy hS y_assign <| n_thenN ?_
 subst hF
 exact wp_ret (wr1 hS)
theorem w_r3_HasD {g : Frag} {a0 : Int}  : LCs Tryd.prog 7 #[.int .i64 a0] g (.bool (r3_HasD a0)) := w_r3_HasD_  rfl

def r3_HasA (a0 : Int) : Bool :=
  bif (r0_Between a0 1 3) then true else bif decide (a0 = 5) then true else bif decide (a0 = 7) then true else decide (a0 = 9)
theorem w_r3_HasA_ {g : Frag} {a0 : Int} {r : Bool}  (hF : r3_HasA a0 = r) : LCs Tryd.prog 8 #[.int .i64 a0] g (.bool r) := by
 unfold r3_HasA at hF
 refine lc_body (k := 17) (av := [.int .i64 a0]) func8 rfl rfl (h := fun W hS => ?_)
 refine c_seq <| c_region <| oy hS y_assign <| n_thenN <| c_seq <| c_region <| oy hS y_move ?_
 refine o_callS hS func40 rfl rfl (hc := (w_r0_Between (a0 := a0) (a1 := 1) (a2 := 3))) (h := ?_)
 clear hS; intro w hS
 refine o_split (ht := fun c1 => ?_) (hf := fun c1 => ?_)
 · replace hF := bt c1 hF
   iterate 2 (refine o_sk rfl rfl ?_)
   refine oy hS y_pickT <| oy hS y_move ?_
   iterate 2 (refine o_sk rfl rfl ?_)
   refine oy hS y_pickT <| oy hS y_move ?_
   iterate 2 (refine o_sk rfl rfl ?_)
   refine oy hS y_pickT <| oy hS y_assign <| n_thenN ?_
   subst hF
   exact wp_ret (wr1 hS)
 replace hF := bf c1 hF
 refine o_gu rfl rfl rfl <| oy hS y_move <| o_gu rfl rfl rfl <| oy hS y_bin <| oy hS y_pickF ?_
 refine o_split (ht := fun c2 => ?_) (hf := fun c2 => ?_)
 · replace hF := bt c2 hF
   iterate 2 (refine o_sk rfl rfl ?_)
   refine oy hS y_pickT <| oy hS y_move ?_
   iterate 2 (refine o_sk rfl rfl ?_)
   refine oy hS y_pickT <| oy hS y_assign <| n_thenN ?_
   subst hF
   exact wp_ret (wr1 hS)
 replace hF := bf c2 hF
 refine o_gu rfl rfl rfl <| oy hS y_move <| o_gu rfl rfl rfl <| oy hS y_bin <| oy hS y_pickF ?_
 refine o_split (ht := fun c3 => ?_) (hf := fun c3 => ?_)
 · replace hF := bt c3 hF
   iterate 2 (refine o_sk rfl rfl ?_)
   refine oy hS y_pickT <| oy hS y_assign <| n_thenN ?_
   subst hF
   exact wp_ret (wr1 hS)
 replace hF := bf c3 hF
 refine o_gu rfl rfl rfl <| oy hS y_move <| o_gu rfl rfl rfl <| oy hS y_bin <| oy hS y_pickF <| oy hS y_assign <| n_thenN ?_
 subst hF
 exact wp_ret (wr1 hS)
theorem w_r3_HasA {g : Frag} {a0 : Int}  : LCs Tryd.prog 8 #[.int .i64 a0] g (.bool (r3_HasA a0)) := w_r3_HasA_  rfl

def r3_HasB (a0 : Int) : Bool :=
  bif decide (a0 = 1) then true else decide (a0 = 5)
theorem w_r3_HasB_ {g : Frag} {a0 : Int} {r : Bool}  (hF : r3_HasB a0 = r) : LCs Tryd.prog 9 #[.int .i64 a0] g (.bool r) := by
 unfold r3_HasB at hF
 refine lc_body (k := 9) (av := [.int .i64 a0]) func9 rfl rfl (h := fun W hS => ?_)
 refine c_seq <| c_region <| oy hS y_assign <| n_thenN <| c_seq <| c_region <| oy hS y_move <| oy hS y_bin ?_
 refine o_split (ht := fun c1 => ?_) (hf := fun c1 => ?_)
 · replace hF := bt c1 hF
   iterate 2 (refine o_sk rfl rfl ?_)
   refine oy hS y_pickT <| oy hS y_assign <| n_thenN ?_
   subst hF
   exact wp_ret (wr1 hS)
 replace hF := bf c1 hF
 refine o_gu rfl rfl rfl <| oy hS y_move <| o_gu rfl rfl rfl <| oy hS y_bin <| oy hS y_pickF <| oy hS y_assign <| n_thenN ?_
 subst hF
 exact wp_ret (wr1 hS)
theorem w_r3_HasB {g : Frag} {a0 : Int}  : LCs Tryd.prog 9 #[.int .i64 a0] g (.bool (r3_HasB a0)) := w_r3_HasB_  rfl

def isa_Is (a0 : Int) : Bool :=
  bif decide (0 ≤ a0) then decide (a0 ≤ 33) else false
theorem w_isa_Is_ {g : Frag} {a0 : Int} {r : Bool}  (hF : isa_Is a0 = r) : LCs Tryd.prog 58 #[.int .i64 a0] g (.bool r) := by
 unfold isa_Is at hF
 refine lc_body (k := 9) (av := [.int .i64 a0]) func58 rfl rfl (h := fun W hS => ?_)
 refine c_seq <| c_region <| oy hS y_assign <| n_thenN <| c_seq <| c_region <| oy hS y_move <| oy hS y_bin ?_
 refine o_split (ht := fun c1 => ?_) (hf := fun c1 => ?_)
 · replace hF := bt c1 hF
   refine o_gu rfl rfl rfl <| oy hS y_move <| o_gu rfl rfl rfl <| oy hS y_bin <| oy hS y_pickT <| oy hS y_assign <| n_thenN ?_
   subst hF
   exact wp_ret (wr1 hS)
 replace hF := bf c1 hF
 iterate 2 (refine o_sk rfl rfl ?_)
 refine oy hS y_pickF <| oy hS y_assign <| n_thenN ?_
 subst hF
 exact wp_ret (wr1 hS)
theorem w_isa_Is {g : Frag} {a0 : Int}  : LCs Tryd.prog 58 #[.int .i64 a0] g (.bool (isa_Is a0)) := w_isa_Is_  rfl

def isa_Shape (a0 : Int) : Int :=
  bif decide (a0 = 21) then 2 else bif decide (a0 = 22) then 3 else bif decide (a0 = 24) then 3 else bif decide (a0 = 23) then 4 else bif decide (a0 = 25) then 5 else bif decide (a0 = 26) then 6 else bif decide (a0 = 27) then 7 else bif decide (a0 = 28) then 8 else bif decide (a0 = 31) then 8 else bif decide (a0 = 29) then 9 else bif decide (a0 = 30) then 9 else bif decide (a0 = 0) then 0 else bif decide (a0 = 32) then 0 else bif decide (a0 = 33) then 0 else 1
theorem w_isa_Shape_ {g : Frag} {a0 : Int} {r : Int}  (hF : isa_Shape a0 = r) : LCs Tryd.prog 47 #[.int .i64 a0] g (.int .i64 r) := by
 unfold isa_Shape at hF
 refine lc_body (k := 27) (av := [.int .i64 a0]) func47 rfl rfl (h := fun W hS => ?_)
 refine c_seq <| c_region <| oy hS y_assign <| n_thenN ?_
 iterate 2 (refine c_seq ?_)
 refine c_region <| oy hS y_move <| n_thenN <| c_block <| c_seq <| c_region <| oy hS y_bin <| oy hS y_assign ?_
 refine n_thenN ?_
 refine c_if (ht := fun c1 => ?_) (hf := fun c1 => ?_)
 · replace hF := bt c1 hF
   refine c_seq <| c_region <| oy hS y_assign <| n_thenN ?_
   subst hF
   exact wp_ret (wr1 hS)
 replace hF := bf c1 hF
 iterate 2 (refine c_seq ?_)
 refine c_region <| oy hS y_bin <| oy hS y_assign <| n_thenN ?_
 refine c_if (ht := fun c2 => ?_) (hf := fun c2 => ?_)
 · replace hF := bt c2 hF
   refine wp_skip ?_
   refine c_ifT c2 ?_
   refine c_seq <| c_region <| oy hS y_assign <| n_thenN ?_
   subst hF
   exact wp_ret (wr1 hS)
 replace hF := bf c2 hF
 refine c_region <| oy hS y_bin <| oy hS y_assign <| n_thenN ?_
 refine c_if (ht := fun c3 => ?_) (hf := fun c3 => ?_)
 · replace hF := bt c3 hF
   refine c_seq <| c_region <| oy hS y_assign <| n_thenN ?_
   subst hF
   exact wp_ret (wr1 hS)
 replace hF := bf c3 hF
 refine c_seq <| c_region <| oy hS y_bin <| oy hS y_assign <| n_thenN ?_
 refine c_if (ht := fun c4 => ?_) (hf := fun c4 => ?_)
 · replace hF := bt c4 hF
   refine c_seq <| c_region <| oy hS y_assign <| n_thenN ?_
   subst hF
   exact wp_ret (wr1 hS)
 replace hF := bf c4 hF
 refine c_seq <| c_region <| oy hS y_bin <| oy hS y_assign <| n_thenN ?_
 refine c_if (ht := fun c5 => ?_) (hf := fun c5 => ?_)
 · replace hF := bt c5 hF
   refine c_seq <| c_region <| oy hS y_assign <| n_thenN ?_
   subst hF
   exact wp_ret (wr1 hS)
 replace hF := bf c5 hF
 refine c_seq <| c_region <| oy hS y_bin <| oy hS y_assign <| n_thenN ?_
 refine c_if (ht := fun c6 => ?_) (hf := fun c6 => ?_)
 · replace hF := bt c6 hF
   refine c_seq <| c_region <| oy hS y_assign <| n_thenN ?_
   subst hF
   exact wp_ret (wr1 hS)
 replace hF := bf c6 hF
 refine c_seq <| c_region <| oy hS y_bin <| oy hS y_assign <| n_thenN ?_
 refine c_if (ht := fun c7 => ?_) (hf := fun c7 => ?_)
 · replace hF := bt c7 hF
   refine c_seq <| c_region <| oy hS y_assign <| n_thenN ?_
   subst hF
   exact wp_ret (wr1 hS)
 replace hF := bf c7 hF
 iterate 2 (refine c_seq ?_)
 refine c_region <| oy hS y_bin <| oy hS y_assign <| n_thenN ?_
 refine c_if (ht := fun c8 => ?_) (hf := fun c8 => ?_)
 · replace hF := bt c8 hF
   refine wp_skip ?_
   refine c_ifT c8 ?_
   refine c_seq <| c_region <| oy hS y_assign <| n_thenN ?_
   subst hF
   exact wp_ret (wr1 hS)
 replace hF := bf c8 hF
 refine c_region <| oy hS y_bin <| oy hS y_assign <| n_thenN ?_
 refine c_if (ht := fun c9 => ?_) (hf := fun c9 => ?_)
 · replace hF := bt c9 hF
   refine c_seq <| c_region <| oy hS y_assign <| n_thenN ?_
   subst hF
   exact wp_ret (wr1 hS)
 replace hF := bf c9 hF
 iterate 2 (refine c_seq ?_)
 refine c_region <| oy hS y_bin <| oy hS y_assign <| n_thenN ?_
 refine c_if (ht := fun c10 => ?_) (hf := fun c10 => ?_)
 · replace hF := bt c10 hF
   refine wp_skip ?_
   refine c_ifT c10 ?_
   refine c_seq <| c_region <| oy hS y_assign <| n_thenN ?_
   subst hF
   exact wp_ret (wr1 hS)
 replace hF := bf c10 hF
 refine c_region <| oy hS y_bin <| oy hS y_assign <| n_thenN ?_
 refine c_if (ht := fun c11 => ?_) (hf := fun c11 => ?_)
 · replace hF := bt c11 hF
   refine c_seq <| c_region <| oy hS y_assign <| n_thenN ?_
   subst hF
   exact wp_ret (wr1 hS)
 replace hF := bf c11 hF
 iterate 2 (refine c_seq ?_)
 refine c_region <| oy hS y_bin <| oy hS y_assign <| n_thenN ?_
 refine c_if (ht := fun c12 => ?_) (hf := fun c12 => ?_)
 · replace hF := bt c12 hF
   refine wp_skip ?_
   refine c_ifT c12 ?_
   refine c_seq <| c_region <| oy hS y_assign <| n_thenN ?_
   subst hF
   exact wp_ret (wr1 hS)
 replace hF := bf c12 hF
 refine c_seq <| c_region <| oy hS y_bin <| oy hS y_assign <| n_thenN ?_
 refine c_if (ht := fun c13 => ?_) (hf := fun c13 => ?_)
 · replace hF := bt c13 hF
   refine wp_skip ?_
   refine c_ifT c13 ?_
   refine c_seq <| c_region <| oy hS y_assign <| n_thenN ?_
   subst hF
   exact wp_ret (wr1 hS)
 replace hF := bf c13 hF
 refine c_region <| oy hS y_bin <| oy hS y_assign <| n_thenN ?_
 refine c_if (ht := fun c14 => ?_) (hf := fun c14 => ?_)
 · replace hF := bt c14 hF
   refine c_seq <| c_region <| oy hS y_assign <| n_thenN ?_
   subst hF
   exact wp_ret (wr1 hS)
 replace hF := bf c14 hF
 refine wp_skip <| c_seq <| c_region <| oy hS y_assign <| n_thenN ?_
 subst hF
 exact wp_ret (wr1 hS)
theorem w_isa_Shape {g : Frag} {a0 : Int}  : LCs Tryd.prog 47 #[.int .i64 a0] g (.int .i64 (isa_Shape a0)) := w_isa_Shape_  rfl

def isa_HasD (a0 : Int) : Bool :=
  bif decide (1 ≤ a0) then bif decide (a0 ≤ 4) then true else decide (a0 = 6) else decide (a0 = 6)
theorem w_isa_HasD_ {g : Frag} {a0 : Int} {r : Bool}  (hF : isa_HasD a0 = r) : LCs Tryd.prog 50 #[.int .i64 a0] g (.bool r) := by
 unfold isa_HasD at hF
 refine lc_body (k := 13) (av := [.int .i64 a0]) func50 rfl rfl (h := fun W hS => ?_)
 refine c_seq <| c_region <| oy hS y_assign <| n_thenN <| c_seq <| c_region <| oy hS y_move <| oy hS y_bin ?_
 refine o_split (ht := fun c1 => ?_) (hf := fun c1 => ?_)
 · replace hF := bt c1 hF
   refine o_gu rfl rfl rfl <| oy hS y_move <| o_gu rfl rfl rfl <| oy hS y_bin <| oy hS y_pickT ?_
   refine o_split (ht := fun c2 => ?_) (hf := fun c2 => ?_)
   · replace hF := bt c2 hF
     iterate 2 (refine o_sk rfl rfl ?_)
     refine oy hS y_pickT <| oy hS y_assign <| n_thenN ?_
     subst hF
     exact wp_ret (wr1 hS)
   replace hF := bf c2 hF
   refine o_gu rfl rfl rfl <| oy hS y_move <| o_gu rfl rfl rfl <| oy hS y_bin <| oy hS y_pickF <| oy hS y_assign <| n_thenN ?_
   subst hF
   exact wp_ret (wr1 hS)
 replace hF := bf c1 hF
 iterate 2 (refine o_sk rfl rfl ?_)
 refine oy hS y_pickF <| oy hS y_move <| o_gu rfl rfl rfl <| oy hS y_move <| o_gu rfl rfl rfl <| oy hS y_bin <| oy hS y_pickF <| oy hS y_assign ?_
 refine n_thenN ?_
 subst hF
 exact wp_ret (wr1 hS)
theorem w_isa_HasD {g : Frag} {a0 : Int}  : LCs Tryd.prog 50 #[.int .i64 a0] g (.bool (isa_HasD a0)) := w_isa_HasD_  rfl

def isa_reg (a0 : Bool) (a1 : Int) : Bool :=
  bif decide (a1 = 0) then true else bif a0 then bif decide (0 < a1) then decide (a1 < 16) else false else false
theorem w_isa_reg_ {g : Frag} {a0 : Bool} {a1 : Int} {r : Bool}  (hF : isa_reg a0 a1 = r) : LCs Tryd.prog 65 #[.bool a0, .int .i64 a1] g (.bool r) := by
 unfold isa_reg at hF
 refine lc_body (k := 18) (av := [.bool a0, .int .i64 a1]) func65 rfl rfl (h := fun W hS => ?_)
 refine c_seq <| c_region <| oy hS y_assign <| n_thenN <| c_seq <| c_region <| oy hS y_move <| oy hS y_bin ?_
 refine o_split (ht := fun c1 => ?_) (hf := fun c1 => ?_)
 · replace hF := bt c1 hF
   iterate 2 (refine o_sk rfl rfl ?_)
   iterate 2 (refine o_sku rfl rfl ?_)
   iterate 2 (refine o_sk rfl rfl ?_)
   iterate 2 (refine o_sku rfl rfl ?_)
   refine o_sk rfl rfl ?_
   refine oy hS y_pickT <| oy hS y_assign <| n_thenN ?_
   subst hF
   exact wp_ret (wr1 hS)
 replace hF := bf c1 hF
 refine o_gu rfl rfl rfl <| oy hS y_move <| o_gu rfl rfl rfl ?_
 refine o_split (ht := fun c2 => ?_) (hf := fun c2 => ?_)
 · replace hF := bt c2 hF
   refine o_gu rfl rfl rfl <| oy hS y_move <| o_gu rfl rfl rfl <| oy hS y_bin <| o_gu rfl rfl rfl <| oy hS y_pickT <| o_gu rfl rfl rfl ?_
   refine o_split (ht := fun c3 => ?_) (hf := fun c3 => ?_)
   · replace hF := bt c3 hF
     refine o_gu rfl rfl rfl <| oy hS y_move <| o_gu rfl rfl rfl <| oy hS y_bin <| o_gu rfl rfl rfl <| oy hS y_pickT <| oy hS y_pickF <| oy hS y_assign ?_
     refine n_thenN ?_
     subst hF
     exact wp_ret (wr1 hS)
   replace hF := bf c3 hF
   iterate 2 (refine o_sk rfl rfl ?_)
   refine o_gu rfl rfl rfl ?_
   iterate 2 (refine oy hS y_pickF ?_)
   refine oy hS y_assign <| n_thenN ?_
   subst hF
   exact wp_ret (wr1 hS)
 replace hF := bf c2 hF
 iterate 2 (refine o_sk rfl rfl ?_)
 refine o_gu rfl rfl rfl <| oy hS y_pickF <| o_gu rfl rfl rfl <| oy hS y_move ?_
 iterate 2 (refine o_sk rfl rfl ?_)
 refine o_gu rfl rfl rfl ?_
 iterate 2 (refine oy hS y_pickF ?_)
 refine oy hS y_assign <| n_thenN ?_
 subst hF
 exact wp_ret (wr1 hS)
theorem w_isa_reg {g : Frag} {a0 : Bool} {a1 : Int}  : LCs Tryd.prog 65 #[.bool a0, .int .i64 a1] g (.bool (isa_reg a0 a1)) := w_isa_reg_  rfl

def isa_HasA (a0 : Int) : Bool :=
  bif decide (a0 = 1) then true else bif decide (a0 = 2) then true else bif decide (a0 = 3) then true else bif decide (a0 = 5) then true else bif decide (a0 = 7) then true else bif decide (a0 = 9) then true else false
theorem w_isa_HasA_ {g : Frag} {a0 : Int} {r : Bool}  (hF : isa_HasA a0 = r) : LCs Tryd.prog 51 #[.int .i64 a0] g (.bool r) := by
 unfold isa_HasA at hF
 refine lc_body (k := 11) (av := [.int .i64 a0]) func51 rfl rfl (h := fun W hS => ?_)
 refine c_seq <| c_region <| oy hS y_assign <| n_thenN ?_
 iterate 2 (refine c_seq ?_)
 refine c_region <| oy hS y_move <| n_thenN <| c_block ?_
 iterate 2 (refine c_seq ?_)
 refine c_region <| oy hS y_bin <| oy hS y_assign <| n_thenN ?_
 refine c_if (ht := fun c1 => ?_) (hf := fun c1 => ?_)
 · replace hF := bt c1 hF
   refine wp_skip ?_
   refine c_ifT c1 ?_
   refine c_seq <| c_region <| oy hS y_assign <| n_thenN ?_
   subst hF
   exact wp_ret (wr1 hS)
 replace hF := bf c1 hF
 refine c_seq <| c_region <| oy hS y_bin <| oy hS y_assign <| n_thenN ?_
 refine c_if (ht := fun c2 => ?_) (hf := fun c2 => ?_)
 · replace hF := bt c2 hF
   refine wp_skip ?_
   refine c_ifT c2 ?_
   refine c_seq <| c_region <| oy hS y_assign <| n_thenN ?_
   subst hF
   exact wp_ret (wr1 hS)
 replace hF := bf c2 hF
 refine c_seq <| c_region <| oy hS y_bin <| oy hS y_assign <| n_thenN ?_
 refine c_if (ht := fun c3 => ?_) (hf := fun c3 => ?_)
 · replace hF := bt c3 hF
   refine wp_skip ?_
   refine c_ifT c3 ?_
   refine c_seq <| c_region <| oy hS y_assign <| n_thenN ?_
   subst hF
   exact wp_ret (wr1 hS)
 replace hF := bf c3 hF
 refine c_seq <| c_region <| oy hS y_bin <| oy hS y_assign <| n_thenN ?_
 refine c_if (ht := fun c4 => ?_) (hf := fun c4 => ?_)
 · replace hF := bt c4 hF
   refine wp_skip ?_
   refine c_ifT c4 ?_
   refine c_seq <| c_region <| oy hS y_assign <| n_thenN ?_
   subst hF
   exact wp_ret (wr1 hS)
 replace hF := bf c4 hF
 refine c_seq <| c_region <| oy hS y_bin <| oy hS y_assign <| n_thenN ?_
 refine c_if (ht := fun c5 => ?_) (hf := fun c5 => ?_)
 · replace hF := bt c5 hF
   refine wp_skip ?_
   refine c_ifT c5 ?_
   refine c_seq <| c_region <| oy hS y_assign <| n_thenN ?_
   subst hF
   exact wp_ret (wr1 hS)
 replace hF := bf c5 hF
 refine c_region <| oy hS y_bin <| oy hS y_assign <| n_thenN ?_
 refine c_if (ht := fun c6 => ?_) (hf := fun c6 => ?_)
 · replace hF := bt c6 hF
   refine c_seq <| c_region <| oy hS y_assign <| n_thenN ?_
   subst hF
   exact wp_ret (wr1 hS)
 replace hF := bf c6 hF
 refine wp_skip <| c_seq <| c_region <| oy hS y_assign <| n_thenN ?_
 subst hF
 exact wp_ret (wr1 hS)
theorem w_isa_HasA {g : Frag} {a0 : Int}  : LCs Tryd.prog 51 #[.int .i64 a0] g (.bool (isa_HasA a0)) := w_isa_HasA_  rfl

def isa_HasB (a0 : Int) : Bool :=
  bif decide (a0 = 1) then true else decide (a0 = 5)
theorem w_isa_HasB_ {g : Frag} {a0 : Int} {r : Bool}  (hF : isa_HasB a0 = r) : LCs Tryd.prog 66 #[.int .i64 a0] g (.bool r) := by
 unfold isa_HasB at hF
 refine lc_body (k := 9) (av := [.int .i64 a0]) func66 rfl rfl (h := fun W hS => ?_)
 refine c_seq <| c_region <| oy hS y_assign <| n_thenN <| c_seq <| c_region <| oy hS y_move <| oy hS y_bin ?_
 refine o_split (ht := fun c1 => ?_) (hf := fun c1 => ?_)
 · replace hF := bt c1 hF
   iterate 2 (refine o_sk rfl rfl ?_)
   refine oy hS y_pickT <| oy hS y_assign <| n_thenN ?_
   subst hF
   exact wp_ret (wr1 hS)
 replace hF := bf c1 hF
 refine o_gu rfl rfl rfl <| oy hS y_move <| o_gu rfl rfl rfl <| oy hS y_bin <| oy hS y_pickF <| oy hS y_assign <| n_thenN ?_
 subst hF
 exact wp_ret (wr1 hS)
theorem w_isa_HasB {g : Frag} {a0 : Int}  : LCs Tryd.prog 66 #[.int .i64 a0] g (.bool (isa_HasB a0)) := w_isa_HasB_  rfl

def isa_Target (a0 : Int) : Bool :=
  bif decide (a0 = 8) then true else decide (a0 = 9)
theorem w_isa_Target_ {g : Frag} {a0 : Int} {r : Bool}  (hF : isa_Target a0 = r) : LCs Tryd.prog 74 #[.int .i64 a0] g (.bool r) := by
 unfold isa_Target at hF
 refine lc_body (k := 9) (av := [.int .i64 a0]) func74 rfl rfl (h := fun W hS => ?_)
 refine c_seq <| c_region <| oy hS y_assign <| n_thenN <| c_seq <| c_region <| oy hS y_move <| oy hS y_bin ?_
 refine o_split (ht := fun c1 => ?_) (hf := fun c1 => ?_)
 · replace hF := bt c1 hF
   iterate 2 (refine o_sk rfl rfl ?_)
   refine oy hS y_pickT <| oy hS y_assign <| n_thenN ?_
   subst hF
   exact wp_ret (wr1 hS)
 replace hF := bf c1 hF
 refine o_gu rfl rfl rfl <| oy hS y_move <| o_gu rfl rfl rfl <| oy hS y_bin <| oy hS y_pickF <| oy hS y_assign <| n_thenN ?_
 subst hF
 exact wp_ret (wr1 hS)
theorem w_isa_Target {g : Frag} {a0 : Int}  : LCs Tryd.prog 74 #[.int .i64 a0] g (.bool (isa_Target a0)) := w_isa_Target_  rfl

def isa_letter (a0 : Int) : Bool :=
  bif decide (a0 = 95) then true else bif decide (97 ≤ a0) then decide (a0 ≤ 122) else false
theorem w_isa_letter_ {g : Frag} {a0 : Int} {r : Bool}  (hF : isa_letter a0 = r) : LCs Tryd.prog 64 #[.int .u8 a0] g (.bool r) := by
 unfold isa_letter at hF
 refine lc_body (k := 13) (av := [.int .u8 a0]) func64 rfl rfl (h := fun W hS => ?_)
 refine c_seq <| c_region <| oy hS y_assign <| n_thenN <| c_seq <| c_region <| oy hS y_move <| oy hS y_bin ?_
 refine o_split (ht := fun c1 => ?_) (hf := fun c1 => ?_)
 · replace hF := bt c1 hF
   iterate 3 (refine o_sk rfl rfl ?_)
   iterate 2 (refine o_sku rfl rfl ?_)
   refine o_sk rfl rfl ?_
   refine oy hS y_pickT <| oy hS y_assign <| n_thenN ?_
   subst hF
   exact wp_ret (wr1 hS)
 replace hF := bf c1 hF
 refine o_gu rfl rfl rfl <| oy hS y_move <| o_gu rfl rfl rfl <| oy hS y_bin <| o_gu rfl rfl rfl ?_
 refine o_split (ht := fun c2 => ?_) (hf := fun c2 => ?_)
 · replace hF := bt c2 hF
   refine o_gu rfl rfl rfl <| oy hS y_move <| o_gu rfl rfl rfl <| oy hS y_bin <| o_gu rfl rfl rfl <| oy hS y_pickT <| oy hS y_pickF <| oy hS y_assign ?_
   refine n_thenN ?_
   subst hF
   exact wp_ret (wr1 hS)
 replace hF := bf c2 hF
 iterate 2 (refine o_sk rfl rfl ?_)
 refine o_gu rfl rfl rfl ?_
 iterate 2 (refine oy hS y_pickF ?_)
 refine oy hS y_assign <| n_thenN ?_
 subst hF
 exact wp_ret (wr1 hS)
theorem w_isa_letter {g : Frag} {a0 : Int}  : LCs Tryd.prog 64 #[.int .u8 a0] g (.bool (isa_letter a0)) := w_isa_letter_  rfl

noncomputable def isa_Name2_b2 (a0 : ByteArray) : Int → Option (Step Int Bool) := fun x17 => bif decide (x17 < (a0.size : Int)) then (byte' a0 x17).bind fun x28 => bif !(isa_letter x28) then bif decide (x28 < 48) then some (.done (false)) else bif decide (57 < x28) then some (.done (false)) else some (.next (IntKind.i64.wrap (x17 + 1))) else some (.next (IntKind.i64.wrap (x17 + 1))) else some (.done (true))
noncomputable def isa_Name2_k1 (a0 : ByteArray) : Unit → Option Bool := fun _ => loop (σ := Int) (isa_Name2_b2 a0) 0
noncomputable def isa_Name2 (a0 : ByteArray) : Option Bool :=
  cut (σ := Unit) (bif decide (a0 = (ByteArray.mk #[])) then some (.done (false)) else bif decide (12 < (a0.size : Int)) then some (.done (false)) else (byte' a0 0).bind fun x9 => bif !(isa_letter x9) then some (.done (false)) else some (.next ())) (isa_Name2_k1 a0)
theorem w_isa_Name2_ {g : Frag} {a0 : ByteArray} {r : Bool}  (hF : isa_Name2 a0 = some r) : LCs Tryd.prog 38 #[.string a0] g (.bool r) := by
 unfold isa_Name2 at hF
 refine lc_body (k := 38) (av := [.string a0]) func38 rfl rfl (h := fun W hS => ?_)
 refine c_seq <| c_region <| oy hS y_assign <| n_thenN ?_
 obtain ⟨z5, hF, hK6⟩ := cut_step hF
 refine c_cutP (fun a w' => isa_Name2_k1 a0 () = some r ∧ (∃ s : Nat → Value, a = Ac ((Fm.dead 38 s).upd 0 (.string a0))) ∧ St W g [] [] w') ?_ ?_
 · skip
   refine c_seq <| c_region <| oy hS y_move <| oy hS y_seql ?_
   refine o_split (ht := fun c7 => ?_) (hf := fun c7 => ?_)
   · replace hF := bt c7 hF
     iterate 3 (refine o_sk rfl rfl ?_)
     refine oy hS y_pickT <| oy hS y_move ?_
     iterate 4 (refine o_sk rfl rfl ?_)
     refine oy hS y_pickT <| n_thenN ?_
     refine c_if_true (h := ?_)
     refine c_seq <| c_region <| oy hS y_assign <| n_thenN ?_
     obtain rfl := osi hF
     obtain rfl : _ = r := hK6
     exact wp_ret (wr1 hS)
   replace hF := bf c7 hF
   refine o_gu rfl rfl rfl <| oy hS y_move <| o_gu rfl rfl rfl <| oy hS (y_lens underlying9) <| o_gu rfl rfl rfl <| oy hS y_bin <| oy hS y_pickF ?_
   refine o_split (ht := fun c8 => ?_) (hf := fun c8 => ?_)
   · replace hF := bt c8 hF
     iterate 4 (refine o_sk rfl rfl ?_)
     refine oy hS y_pickT <| n_thenN ?_
     refine c_if_true (h := ?_)
     refine c_seq <| c_region <| oy hS y_assign <| n_thenN ?_
     obtain rfl := osi hF
     obtain rfl : _ = r := hK6
     exact wp_ret (wr1 hS)
   replace hF := bf c8 hF
   refine o_gu rfl rfl rfl <| oy hS y_move <| o_gu rfl rfl rfl ?_
   obtain ⟨x9, hx9, hF⟩ := ob hF
   refine oy hS (y_byte hx9 underlying9) <| o_gu rfl rfl rfl ?_
   refine o_callS hS func64 rfl rfl (hc := (w_isa_letter (a0 := x9))) (h := ?_)
   clear hS; intro w hS
   refine o_gu rfl rfl rfl <| oy hS y_not <| oy hS y_pickF <| n_thenN ?_
   refine c_if (ht := fun c10 => ?_) (hf := fun c10 => ?_)
   · replace hF := bt c10 hF
     refine c_seq <| c_region <| oy hS y_assign <| n_thenN ?_
     obtain rfl := osi hF
     obtain rfl : _ = r := hK6
     exact wp_ret (wr1 hS)
   replace hF := bf c10 hF
   refine wp_skip ?_
   obtain rfl := osi hF
   change _ ∧ _
   exact ⟨hK6, mk_exF, (hS.re (.n))⟩
 rintro a w ⟨hF, ⟨s11, rfl⟩, hS⟩
 dsimp only [isa_Name2_k1] at hF
 iterate 2 (refine c_seq ?_)
 refine c_region <| oy hS y_move <| oy hS (y_lens underlying9) <| oy hS y_move <| n_thenN <| c_block ?_
 refine c_loopP hF (fun (q : Int) a w' => (∃ s : Nat → Value, a = Ac ((((Fm.dead 38 s).upd 0 (.string a0)).upd 19 (.int .i64 (a0.size : Int))).upd 20 (.int .i64 q))) ∧ St W g [] [] w') ⟨mk_exF, (hS.re (.n))⟩ ?_
 clear hS hF
 intro n25 q a w hI hq
 revert hq hI; revert q; intro x17 hI hq
 obtain ⟨⟨s26, rfl⟩, hS⟩ := hq
 obtain ⟨z23, hF, B0⟩ := iter_step hI
 clear hI
 dsimp only [isa_Name2_b2] at hF
 refine c_seq <| c_region <| oy hS y_bin <| n_thenN <| c_seq ?_
 refine c_if (ht := fun c27 => ?_) (hf := fun c27 => ?_)
 · replace hF := bt c27 hF
   refine wp_skip <| c_seq <| c_block <| c_seq <| c_region <| oy hS y_move <| oy hS y_assign <| n_thenN ?_
   refine c_seq <| c_region ?_
   iterate 2 (refine oy hS y_move ?_)
   obtain ⟨x28, D0, hF⟩ := ob hF
   refine oy hS (y_byte D0 underlying9) <| oy hS y_assign <| n_thenN <| c_seq <| c_region <| oy hS y_move ?_
   refine o_callS hS func64 rfl rfl (hc := (w_isa_letter (a0 := x28))) (h := ?_)
   clear hS; intro w hS
   refine oy hS y_not ?_
   refine o_split (ht := fun c29 => ?_) (hf := fun c29 => ?_)
   · replace hF := bt c29 hF
     refine o_gu rfl rfl rfl <| oy hS y_move <| o_gu rfl rfl rfl <| oy hS y_bin <| o_gu rfl rfl rfl ?_
     refine o_split (ht := fun c30 => ?_) (hf := fun c30 => ?_)
     · replace hF := bt c30 hF
       iterate 2 (refine o_sk rfl rfl ?_)
       refine o_gu rfl rfl rfl ?_
       iterate 2 (refine oy hS y_pickT ?_)
       refine n_thenN ?_
       refine c_if_true (h := ?_)
       refine c_seq <| c_region <| oy hS y_assign <| n_thenN ?_
       obtain rfl := osi hF
       obtain rfl : _ = r := B0
       exact wp_ret (wr1 hS)
     replace hF := bf c30 hF
     refine o_gu rfl rfl rfl <| oy hS y_move <| o_gu rfl rfl rfl <| oy hS y_bin <| o_gu rfl rfl rfl <| oy hS y_pickF <| oy hS y_pickT <| n_thenN ?_
     refine c_if (ht := fun c31 => ?_) (hf := fun c31 => ?_)
     · replace hF := bt c31 hF
       refine c_seq <| c_region <| oy hS y_assign <| n_thenN ?_
       obtain rfl := osi hF
       obtain rfl : _ = r := B0
       exact wp_ret (wr1 hS)
     replace hF := bf c31 hF
     refine wp_skip <| c_region <| oy hS y_bin <| oy hS y_move <| n_thenN ?_
     obtain rfl := osi hF
     exact ⟨_, B0, mk_exF, (hS.re (.n))⟩
   replace hF := bf c29 hF
   iterate 3 (refine o_sk rfl rfl ?_)
   iterate 2 (refine o_sku rfl rfl ?_)
   refine o_sk rfl rfl ?_
   refine oy hS y_pickF <| n_thenN ?_
   refine c_if_false (h := ?_)
   refine wp_skip <| c_region <| oy hS y_bin <| oy hS y_move <| n_thenN ?_
   obtain rfl := osi hF
   exact ⟨_, B0, mk_exF, (hS.re (.n))⟩
 replace hF := bf c27 hF
 refine wp_exit ?_
 refine c_seq <| c_region <| oy hS y_assign <| n_thenN ?_
 obtain rfl := osi hF
 obtain rfl : _ = r := B0
 exact wp_ret (wr1 hS)
theorem w_isa_Name2 {g : Frag} {a0 : ByteArray} {r : Bool}  (hF : isa_Name2 a0 = some r) : LCs Tryd.prog 38 #[.string a0] g (.bool r) := w_isa_Name2_  hF

def isa_Bits (a0 : Int) : Int :=
  bif decide (a0 = 3) then 14 else bif decide (a0 = 5) then 14 else bif decide (a0 = 9) then 14 else bif decide (a0 = 4) then 18 else bif decide (a0 = 8) then 18 else 0
theorem w_isa_Bits_ {g : Frag} {a0 : Int} {r : Int}  (hF : isa_Bits a0 = r) : LCs Tryd.prog 52 #[.int .i64 a0] g (.int .i64 r) := by
 unfold isa_Bits at hF
 refine lc_body (k := 11) (av := [.int .i64 a0]) func52 rfl rfl (h := fun W hS => ?_)
 refine c_seq <| c_region <| oy hS y_assign <| n_thenN ?_
 iterate 2 (refine c_seq ?_)
 refine c_region <| oy hS y_move <| n_thenN <| c_block ?_
 iterate 2 (refine c_seq ?_)
 refine c_region <| oy hS y_bin <| oy hS y_assign <| n_thenN ?_
 refine c_if (ht := fun c1 => ?_) (hf := fun c1 => ?_)
 · replace hF := bt c1 hF
   refine wp_skip ?_
   refine c_ifT c1 ?_
   refine c_seq <| c_region <| oy hS y_assign <| n_thenN ?_
   subst hF
   exact wp_ret (wr1 hS)
 replace hF := bf c1 hF
 refine c_seq <| c_region <| oy hS y_bin <| oy hS y_assign <| n_thenN ?_
 refine c_if (ht := fun c2 => ?_) (hf := fun c2 => ?_)
 · replace hF := bt c2 hF
   refine wp_skip ?_
   refine c_ifT c2 ?_
   refine c_seq <| c_region <| oy hS y_assign <| n_thenN ?_
   subst hF
   exact wp_ret (wr1 hS)
 replace hF := bf c2 hF
 refine c_region <| oy hS y_bin <| oy hS y_assign <| n_thenN ?_
 refine c_if (ht := fun c3 => ?_) (hf := fun c3 => ?_)
 · replace hF := bt c3 hF
   refine c_seq <| c_region <| oy hS y_assign <| n_thenN ?_
   subst hF
   exact wp_ret (wr1 hS)
 replace hF := bf c3 hF
 iterate 2 (refine c_seq ?_)
 refine c_region <| oy hS y_bin <| oy hS y_assign <| n_thenN ?_
 refine c_if (ht := fun c4 => ?_) (hf := fun c4 => ?_)
 · replace hF := bt c4 hF
   refine wp_skip ?_
   refine c_ifT c4 ?_
   refine c_seq <| c_region <| oy hS y_assign <| n_thenN ?_
   subst hF
   exact wp_ret (wr1 hS)
 replace hF := bf c4 hF
 refine c_region <| oy hS y_bin <| oy hS y_assign <| n_thenN ?_
 refine c_if (ht := fun c5 => ?_) (hf := fun c5 => ?_)
 · replace hF := bt c5 hF
   refine c_seq <| c_region <| oy hS y_assign <| n_thenN ?_
   subst hF
   exact wp_ret (wr1 hS)
 replace hF := bf c5 hF
 refine wp_skip <| c_seq <| c_region <| oy hS y_assign <| n_thenN ?_
 subst hF
 exact wp_ret (wr1 hS)
theorem w_isa_Bits {g : Frag} {a0 : Int}  : LCs Tryd.prog 52 #[.int .i64 a0] g (.int .i64 (isa_Bits a0)) := w_isa_Bits_  rfl

noncomputable def word_Within (a0 : Int) (a1 : Int) : Option Bool :=
  (shl' .i64 (-1) (IntKind.i64.wrap (a1 - 1))).bind fun x1 => bif decide (x1 ≤ a0) then (shl' .i64 1 (IntKind.i64.wrap (a1 - 1))).bind fun x3 => some (decide (a0 < x3)) else some (false)
theorem w_word_Within_ {g : Frag} {a0 : Int} {a1 : Int} {r : Bool}  (hF : word_Within a0 a1 = some r) : LCs Tryd.prog 75 #[.int .i64 a0, .int .i64 a1] g (.bool r) := by
 unfold word_Within at hF
 refine lc_body (k := 17) (av := [.int .i64 a0, .int .i64 a1]) func75 rfl rfl (h := fun W hS => ?_)
 refine c_seq <| c_region <| oy hS y_assign <| n_thenN <| c_seq <| c_region ?_
 iterate 2 (refine oy hS y_move ?_)
 refine oy hS y_bin ?_
 obtain ⟨x1, hx1, hF⟩ := ob hF
 refine oy hS (y_shl hx1) <| oy hS y_bin ?_
 refine o_split (ht := fun c2 => ?_) (hf := fun c2 => ?_)
 · replace hF := bt c2 hF
   refine o_gu rfl rfl rfl <| oy hS y_move <| o_gu rfl rfl rfl <| oy hS y_move <| o_gu rfl rfl rfl <| oy hS y_bin <| o_gu rfl rfl rfl ?_
   obtain ⟨x3, hx3, hF⟩ := ob hF
   refine oy hS (y_shl hx3) <| o_gu rfl rfl rfl <| oy hS y_bin <| oy hS y_pickT <| oy hS y_assign <| n_thenN ?_
   obtain rfl := osi hF
   exact wp_ret (wr1 hS)
 replace hF := bf c2 hF
 iterate 5 (refine o_sk rfl rfl ?_)
 refine oy hS y_pickF <| oy hS y_assign <| n_thenN ?_
 obtain rfl := osi hF
 exact wp_ret (wr1 hS)
theorem w_word_Within {g : Frag} {a0 : Int} {a1 : Int} {r : Bool}  (hF : word_Within a0 a1 = some r) : LCs Tryd.prog 75 #[.int .i64 a0, .int .i64 a1] g (.bool r) := w_word_Within_  hF

noncomputable def isa_imm (a0 : T_Ins) (a1 : Int) : Option Bool :=
  bif (isa_Target a1) then bif !(decide (a0.Sym = (ByteArray.mk #[]))) then bif decide (a0.Imm = 0) then (isa_Name2 a0.Sym).bind fun r5 => some (r5) else some (false) else bif decide (0 ≤ a0.Imm) then some (decide (a0.Imm < 1024)) else some (false) else bif decide (a1 = 4) then bif !(decide (a0.Sym = (ByteArray.mk #[]))) then (isa_Name2 a0.Sym).bind fun r9 => bif !r9 then some (false) else bif decide (a1 ≠ 4) then some (false) else bif decide ((isa_Bits a1) = 0) then some (decide (a0.Imm = 0)) else (word_Within a0.Imm (isa_Bits a1)).bind fun r13 => some (r13) else bif decide (a1 ≠ 4) then bif decide ((isa_Bits a1) = 0) then some (decide (a0.Imm = 0)) else (word_Within a0.Imm (isa_Bits a1)).bind fun r16 => some (r16) else bif decide ((isa_Bits a1) = 0) then some (decide (a0.Imm = 0)) else (word_Within a0.Imm (isa_Bits a1)).bind fun r18 => some (r18) else bif decide (a1 ≠ 4) then bif !(decide (a0.Sym = (ByteArray.mk #[]))) then some (false) else bif decide ((isa_Bits a1) = 0) then some (decide (a0.Imm = 0)) else (word_Within a0.Imm (isa_Bits a1)).bind fun r22 => some (r22) else bif decide ((isa_Bits a1) = 0) then some (decide (a0.Imm = 0)) else (word_Within a0.Imm (isa_Bits a1)).bind fun r24 => some (r24)
theorem w_isa_imm_ {g : Frag} {a0 : T_Ins} {a1 : Int} {r : Bool}  (hF : isa_imm a0 a1 = some r) : LCs Tryd.prog 67 #[.agg (enc_Ins a0).toArray, .int .i64 a1] g (.bool r) := by
 unfold isa_imm at hF
 refine lc_body (k := 65) (av := [.agg (enc_Ins a0).toArray, .int .i64 a1]) func67 rfl rfl (h := fun W hS => ?_)
 refine c_seq <| c_region ?_
 refine o_boxP (cl := (enc_Ins a0)) rfl hS ?_
 clear hS; intro b1 w hS
 refine oy hS y_assign <| n_thenN <| c_seq <| c_block <| c_seq <| c_region <| oy hS y_move ?_
 refine o_callS hS func74 rfl rfl (hc := (w_isa_Target (a0 := a1))) (h := ?_)
 clear hS; intro w hS
 refine o_split (ht := fun c2 => ?_) (hf := fun c2 => ?_)
 · replace hF := bt c2 hF
   refine o_gu rfl rfl rfl <| oy hS (y_field fa_api_Ins_5) <| o_gu rfl rfl rfl <| oy hS (y_load oH underlying9 rfl rfl) <| o_gu rfl rfl rfl <| oy hS y_sneq <| oy hS y_pickT <| oy hS y_assign ?_
   refine n_thenN ?_
   refine c_if (ht := fun c3 => ?_) (hf := fun c3 => ?_)
   · replace hF := bt c3 hF
     refine c_seq <| c_region <| oy hS (y_field fa_api_Ins_4) <| oy hS (y_load oH underlying3 rfl rfl) <| oy hS y_bin ?_
     refine o_split (ht := fun c4 => ?_) (hf := fun c4 => ?_)
     · replace hF := bt c4 hF
       refine o_gu rfl rfl rfl <| oy hS (y_field fa_api_Ins_5) <| o_gu rfl rfl rfl <| oy hS (y_load oH underlying9 rfl rfl) <| o_gu rfl rfl rfl ?_
       obtain ⟨r5, hr5, hF⟩ := ob hF
       refine o_callS hS func38 rfl rfl (hc := (w_isa_Name2 (a0 := a0.Sym) (hF := hr5))) (h := ?_)
       clear hS; intro w hS
       refine oy hS y_pickT <| oy hS y_assign <| n_thenN ?_
       obtain rfl := osi hF
       exact wp_ret (wr1 hS)
     replace hF := bf c4 hF
     iterate 3 (refine o_sk rfl rfl ?_)
     refine oy hS y_pickF <| oy hS y_assign <| n_thenN ?_
     obtain rfl := osi hF
     exact wp_ret (wr1 hS)
   replace hF := bf c3 hF
   refine c_seq <| c_region <| oy hS y_move ?_
   refine o_callS hS func74 rfl rfl (hc := (w_isa_Target (a0 := a1))) (h := ?_)
   clear hS; intro w hS
   refine oy hS y_assign <| n_thenN ?_
   refine c_ifT c2 ?_
   refine c_seq <| c_region <| oy hS (y_field fa_api_Ins_4) <| oy hS (y_load oH underlying3 rfl rfl) <| oy hS y_bin ?_
   refine o_split (ht := fun c6 => ?_) (hf := fun c6 => ?_)
   · replace hF := bt c6 hF
     refine o_gu rfl rfl rfl <| oy hS (y_field fa_api_Ins_4) <| o_gu rfl rfl rfl <| oy hS (y_load oH underlying3 rfl rfl) <| o_gu rfl rfl rfl <| oy hS y_bin <| oy hS y_pickT <| oy hS y_assign ?_
     refine n_thenN ?_
     obtain rfl := osi hF
     exact wp_ret (wr1 hS)
   replace hF := bf c6 hF
   iterate 3 (refine o_sk rfl rfl ?_)
   refine oy hS y_pickF <| oy hS y_assign <| n_thenN ?_
   obtain rfl := osi hF
   exact wp_ret (wr1 hS)
 replace hF := bf c2 hF
 iterate 3 (refine o_sk rfl rfl ?_)
 refine oy hS y_pickF <| oy hS y_assign <| n_thenN ?_
 refine c_if_false (h := ?_)
 refine c_seq <| c_region <| oy hS y_move ?_
 refine o_callS hS func74 rfl rfl (hc := (w_isa_Target (a0 := a1))) (h := ?_)
 clear hS; intro w hS
 refine oy hS y_assign <| n_thenN ?_
 refine c_ifF c2 ?_
 iterate 2 (refine c_seq ?_)
 refine c_region <| oy hS y_move <| oy hS y_bin ?_
 refine o_split (ht := fun c7 => ?_) (hf := fun c7 => ?_)
 · replace hF := bt c7 hF
   refine o_gu rfl rfl rfl <| oy hS (y_field fa_api_Ins_5) <| o_gu rfl rfl rfl <| oy hS (y_load oH underlying9 rfl rfl) <| o_gu rfl rfl rfl <| oy hS y_sneq <| oy hS y_pickT ?_
   refine o_split (ht := fun c8 => ?_) (hf := fun c8 => ?_)
   · replace hF := bt c8 hF
     refine o_gu rfl rfl rfl <| oy hS (y_field fa_api_Ins_5) <| o_gu rfl rfl rfl <| oy hS (y_load oH underlying9 rfl rfl) <| o_gu rfl rfl rfl ?_
     obtain ⟨r9, hr9, hF⟩ := ob hF
     refine o_callS hS func38 rfl rfl (hc := (w_isa_Name2 (a0 := a0.Sym) (hF := hr9))) (h := ?_)
     clear hS; intro w hS
     refine o_gu rfl rfl rfl <| oy hS y_not <| oy hS y_pickT <| oy hS y_assign <| n_thenN ?_
     refine c_if (ht := fun c10 => ?_) (hf := fun c10 => ?_)
     · replace hF := bt c10 hF
       refine wp_skip ?_
       refine c_ifT c10 ?_
       refine c_seq <| c_region <| oy hS y_assign <| n_thenN ?_
       obtain rfl := osi hF
       exact wp_ret (wr1 hS)
     replace hF := bf c10 hF
     refine c_region <| oy hS y_move <| oy hS y_bin ?_
     refine o_split (ht := fun c11 => ?_) (hf := fun c11 => ?_)
     · replace hF := bt c11 hF
       refine o_gu rfl rfl rfl <| oy hS (y_field fa_api_Ins_5) <| o_gu rfl rfl rfl <| oy hS (y_load oH underlying9 rfl rfl) <| o_gu rfl rfl rfl <| oy hS y_sneq <| oy hS y_pickT <| oy hS y_assign ?_
       refine n_thenN ?_
       refine c_ifT c8 ?_
       refine c_seq <| c_region <| oy hS y_assign <| n_thenN ?_
       obtain rfl := osi hF
       exact wp_ret (wr1 hS)
     replace hF := bf c11 hF
     iterate 3 (refine o_sk rfl rfl ?_)
     refine oy hS y_pickF <| oy hS y_assign <| n_thenN ?_
     refine c_if_false (h := ?_)
     refine c_seq <| c_region <| oy hS y_move ?_
     refine o_callS hS func52 rfl rfl (hc := (w_isa_Bits (a0 := a1))) (h := ?_)
     clear hS; intro w hS
     refine oy hS y_bin <| oy hS y_assign <| n_thenN ?_
     refine c_if (ht := fun c12 => ?_) (hf := fun c12 => ?_)
     · replace hF := bt c12 hF
       refine c_seq <| c_region <| oy hS (y_field fa_api_Ins_4) <| oy hS (y_load oH underlying3 rfl rfl) <| oy hS y_bin <| oy hS y_assign <| n_thenN ?_
       obtain rfl := osi hF
       exact wp_ret (wr1 hS)
     replace hF := bf c12 hF
     refine wp_skip <| c_seq ?_
     refine c_quiet (by kernel_rfl) (by kernel_rfl) hS ?_
     refine qy (y_field fa_api_Ins_4) <| qy (y_load (fun w hS => hS.own (mH)) underlying3 rfl rfl) <| qy y_move ?_
     refine q_callS func52 rfl rfl (hc := (w_isa_Bits (a0 := a1))) (h := ?_)
     obtain ⟨r13, B0, hF⟩ := ob hF
     refine q_callS func75 rfl rfl (hc := (w_word_Within (a0 := a0.Imm) (a1 := (isa_Bits a1)) (hF := B0))) (h := ?_)
     refine qy y_assign ?_
     refine q_nilN (h := ?_)
     clear hS; intro w hS
     obtain rfl := osi hF
     exact wp_ret (wr1 hS)
   replace hF := bf c8 hF
   iterate 4 (refine o_sk rfl rfl ?_)
   refine oy hS y_pickF <| oy hS y_assign <| n_thenN ?_
   refine c_if_false (h := ?_)
   refine c_region <| oy hS y_move <| oy hS y_bin ?_
   refine o_split (ht := fun c14 => ?_) (hf := fun c14 => ?_)
   · replace hF := bt c14 hF
     refine o_gu rfl rfl rfl <| oy hS (y_field fa_api_Ins_5) <| o_gu rfl rfl rfl <| oy hS (y_load oH underlying9 rfl rfl) <| o_gu rfl rfl rfl <| oy hS y_sneq <| oy hS y_pickT <| oy hS y_assign ?_
     refine n_thenN ?_
     refine c_ifF c8 ?_
     refine c_seq <| c_region <| oy hS y_move ?_
     refine o_callS hS func52 rfl rfl (hc := (w_isa_Bits (a0 := a1))) (h := ?_)
     clear hS; intro w hS
     refine oy hS y_bin <| oy hS y_assign <| n_thenN ?_
     refine c_if (ht := fun c15 => ?_) (hf := fun c15 => ?_)
     · replace hF := bt c15 hF
       refine c_seq <| c_region <| oy hS (y_field fa_api_Ins_4) <| oy hS (y_load oH underlying3 rfl rfl) <| oy hS y_bin <| oy hS y_assign <| n_thenN ?_
       obtain rfl := osi hF
       exact wp_ret (wr1 hS)
     replace hF := bf c15 hF
     refine wp_skip <| c_seq ?_
     refine c_quiet (by kernel_rfl) (by kernel_rfl) hS ?_
     refine qy (y_field fa_api_Ins_4) <| qy (y_load (fun w hS => hS.own (mH)) underlying3 rfl rfl) <| qy y_move ?_
     refine q_callS func52 rfl rfl (hc := (w_isa_Bits (a0 := a1))) (h := ?_)
     obtain ⟨r16, D0, hF⟩ := ob hF
     refine q_callS func75 rfl rfl (hc := (w_word_Within (a0 := a0.Imm) (a1 := (isa_Bits a1)) (hF := D0))) (h := ?_)
     refine qy y_assign ?_
     refine q_nilN (h := ?_)
     clear hS; intro w hS
     obtain rfl := osi hF
     exact wp_ret (wr1 hS)
   replace hF := bf c14 hF
   iterate 3 (refine o_sk rfl rfl ?_)
   refine oy hS y_pickF <| oy hS y_assign <| n_thenN ?_
   refine c_if_false (h := ?_)
   refine c_seq <| c_region <| oy hS y_move ?_
   refine o_callS hS func52 rfl rfl (hc := (w_isa_Bits (a0 := a1))) (h := ?_)
   clear hS; intro w hS
   refine oy hS y_bin <| oy hS y_assign <| n_thenN ?_
   refine c_if (ht := fun c17 => ?_) (hf := fun c17 => ?_)
   · replace hF := bt c17 hF
     refine c_seq <| c_region <| oy hS (y_field fa_api_Ins_4) <| oy hS (y_load oH underlying3 rfl rfl) <| oy hS y_bin <| oy hS y_assign <| n_thenN ?_
     obtain rfl := osi hF
     exact wp_ret (wr1 hS)
   replace hF := bf c17 hF
   refine wp_skip <| c_seq ?_
   refine c_quiet (by kernel_rfl) (by kernel_rfl) hS ?_
   refine qy (y_field fa_api_Ins_4) <| qy (y_load (fun w hS => hS.own (mH)) underlying3 rfl rfl) <| qy y_move ?_
   refine q_callS func52 rfl rfl (hc := (w_isa_Bits (a0 := a1))) (h := ?_)
   obtain ⟨r18, E0, hF⟩ := ob hF
   refine q_callS func75 rfl rfl (hc := (w_word_Within (a0 := a0.Imm) (a1 := (isa_Bits a1)) (hF := E0))) (h := ?_)
   refine qy y_assign ?_
   refine q_nilN (h := ?_)
   clear hS; intro w hS
   obtain rfl := osi hF
   exact wp_ret (wr1 hS)
 replace hF := bf c7 hF
 iterate 3 (refine o_sk rfl rfl ?_)
 refine oy hS y_pickF <| oy hS y_move ?_
 iterate 4 (refine o_sk rfl rfl ?_)
 refine oy hS y_pickF <| oy hS y_assign <| n_thenN ?_
 refine c_if_false (h := ?_)
 refine c_region <| oy hS y_move <| oy hS y_bin ?_
 refine o_split (ht := fun c19 => ?_) (hf := fun c19 => ?_)
 · replace hF := bt c19 hF
   refine o_gu rfl rfl rfl <| oy hS (y_field fa_api_Ins_5) <| o_gu rfl rfl rfl <| oy hS (y_load oH underlying9 rfl rfl) <| o_gu rfl rfl rfl <| oy hS y_sneq <| oy hS y_pickT <| oy hS y_assign ?_
   refine n_thenN ?_
   refine c_if (ht := fun c20 => ?_) (hf := fun c20 => ?_)
   · replace hF := bt c20 hF
     refine c_seq <| c_region <| oy hS y_assign <| n_thenN ?_
     obtain rfl := osi hF
     exact wp_ret (wr1 hS)
   replace hF := bf c20 hF
   refine c_seq <| c_region <| oy hS y_move ?_
   refine o_callS hS func52 rfl rfl (hc := (w_isa_Bits (a0 := a1))) (h := ?_)
   clear hS; intro w hS
   refine oy hS y_bin <| oy hS y_assign <| n_thenN ?_
   refine c_if (ht := fun c21 => ?_) (hf := fun c21 => ?_)
   · replace hF := bt c21 hF
     refine c_seq <| c_region <| oy hS (y_field fa_api_Ins_4) <| oy hS (y_load oH underlying3 rfl rfl) <| oy hS y_bin <| oy hS y_assign <| n_thenN ?_
     obtain rfl := osi hF
     exact wp_ret (wr1 hS)
   replace hF := bf c21 hF
   refine wp_skip <| c_seq ?_
   refine c_quiet (by kernel_rfl) (by kernel_rfl) hS ?_
   refine qy (y_field fa_api_Ins_4) <| qy (y_load (fun w hS => hS.own (mH)) underlying3 rfl rfl) <| qy y_move ?_
   refine q_callS func52 rfl rfl (hc := (w_isa_Bits (a0 := a1))) (h := ?_)
   obtain ⟨r22, G0, hF⟩ := ob hF
   refine q_callS func75 rfl rfl (hc := (w_word_Within (a0 := a0.Imm) (a1 := (isa_Bits a1)) (hF := G0))) (h := ?_)
   refine qy y_assign ?_
   refine q_nilN (h := ?_)
   clear hS; intro w hS
   obtain rfl := osi hF
   exact wp_ret (wr1 hS)
 replace hF := bf c19 hF
 iterate 3 (refine o_sk rfl rfl ?_)
 refine oy hS y_pickF <| oy hS y_assign <| n_thenN ?_
 refine c_if_false (h := ?_)
 refine c_seq <| c_region <| oy hS y_move ?_
 refine o_callS hS func52 rfl rfl (hc := (w_isa_Bits (a0 := a1))) (h := ?_)
 clear hS; intro w hS
 refine oy hS y_bin <| oy hS y_assign <| n_thenN ?_
 refine c_if (ht := fun c23 => ?_) (hf := fun c23 => ?_)
 · replace hF := bt c23 hF
   refine c_seq <| c_region <| oy hS (y_field fa_api_Ins_4) <| oy hS (y_load oH underlying3 rfl rfl) <| oy hS y_bin <| oy hS y_assign <| n_thenN ?_
   obtain rfl := osi hF
   exact wp_ret (wr1 hS)
 replace hF := bf c23 hF
 refine wp_skip <| c_seq ?_
 refine c_quiet (by kernel_rfl) (by kernel_rfl) hS ?_
 refine qy (y_field fa_api_Ins_4) <| qy (y_load (fun w hS => hS.own (mH)) underlying3 rfl rfl) <| qy y_move ?_
 refine q_callS func52 rfl rfl (hc := (w_isa_Bits (a0 := a1))) (h := ?_)
 obtain ⟨r24, I0, hF⟩ := ob hF
 refine q_callS func75 rfl rfl (hc := (w_word_Within (a0 := a0.Imm) (a1 := (isa_Bits a1)) (hF := I0))) (h := ?_)
 refine qy y_assign ?_
 refine q_nilN (h := ?_)
 clear hS; intro w hS
 obtain rfl := osi hF
 exact wp_ret (wr1 hS)
theorem w_isa_imm {g : Frag} {a0 : T_Ins} {a1 : Int} {r : Bool}  (hF : isa_imm a0 a1 = some r) : LCs Tryd.prog 67 #[.agg (enc_Ins a0).toArray, .int .i64 a1] g (.bool r) := w_isa_imm_  hF

noncomputable def isa_IsIns (a0 : T_Ins) : Option Bool :=
  bif !(isa_Is a0.Op) then some (false) else bif (isa_reg (isa_HasD (isa_Shape a0.Op)) a0.D) then bif (isa_reg (isa_HasA (isa_Shape a0.Op)) a0.A) then bif (isa_reg (isa_HasB (isa_Shape a0.Op)) a0.B) then (isa_imm a0 (isa_Shape a0.Op)).bind fun r6 => some (r6) else some (false) else some (false) else some (false)
theorem w_isa_IsIns_ {g : Frag} {a0 : T_Ins} {r : Bool}  (hF : isa_IsIns a0 = some r) : LCs Tryd.prog 41 #[.agg (enc_Ins a0).toArray] g (.bool r) := by
 unfold isa_IsIns at hF
 refine lc_body (k := 35) (av := [.agg (enc_Ins a0).toArray]) func41 rfl rfl (h := fun W hS => ?_)
 refine c_seq <| c_region ?_
 refine o_boxP (cl := (enc_Ins a0)) rfl hS ?_
 clear hS; intro b1 w hS
 refine oy hS y_assign <| n_thenN ?_
 iterate 2 (refine c_seq ?_)
 refine c_region <| oy hS (y_field fa_api_Ins_0) <| oy hS (y_load oH underlying3 rfl rfl) ?_
 refine o_callS hS func58 rfl rfl (hc := (w_isa_Is (a0 := a0.Op))) (h := ?_)
 clear hS; intro w hS
 refine oy hS y_not <| n_thenN ?_
 refine c_if (ht := fun c2 => ?_) (hf := fun c2 => ?_)
 · replace hF := bt c2 hF
   refine c_seq <| c_region <| oy hS y_assign <| n_thenN ?_
   obtain rfl := osi hF
   exact wp_ret (wr1 hS)
 replace hF := bf c2 hF
 refine wp_skip <| c_seq <| c_region <| oy hS (y_field fa_api_Ins_0) <| oy hS (y_load oH underlying3 rfl rfl) ?_
 refine o_callS hS func47 rfl rfl (hc := (w_isa_Shape (a0 := a0.Op))) (h := ?_)
 clear hS; intro w hS
 refine oy hS y_assign <| n_thenN <| c_seq ?_
 refine c_quiet (by kernel_rfl) (by kernel_rfl) hS ?_
 refine qy y_move ?_
 refine q_callS func50 rfl rfl (hc := (w_isa_HasD (a0 := (isa_Shape a0.Op)))) (h := ?_)
 refine qy (y_field fa_api_Ins_1) <| qy (y_load (fun w hS => hS.own (mH)) underlying3 rfl rfl) ?_
 refine q_callS func65 rfl rfl (hc := (w_isa_reg (a0 := (isa_HasD (isa_Shape a0.Op))) (a1 := a0.D))) (h := ?_)
 refine q_split (ht := fun c3 => ?_) (hf := fun c3 => ?_)
 · replace hF := bt c3 hF
   refine q_gu rfl rfl rfl ?_
   refine qy y_move ?_
   refine q_gu rfl rfl rfl ?_
   refine q_callS func51 rfl rfl (hc := (w_isa_HasA (a0 := (isa_Shape a0.Op)))) (h := ?_)
   refine q_gu rfl rfl rfl ?_
   refine qy (y_field fa_api_Ins_2) ?_
   refine q_gu rfl rfl rfl ?_
   refine qy (y_load (fun w hS => hS.own (mH)) underlying3 rfl rfl) ?_
   refine q_gu rfl rfl rfl ?_
   refine q_callS func65 rfl rfl (hc := (w_isa_reg (a0 := (isa_HasA (isa_Shape a0.Op))) (a1 := a0.A))) (h := ?_)
   refine qy y_pickT ?_
   refine q_split (ht := fun c4 => ?_) (hf := fun c4 => ?_)
   · replace hF := bt c4 hF
     refine q_gu rfl rfl rfl ?_
     refine qy y_move ?_
     refine q_gu rfl rfl rfl ?_
     refine q_callS func66 rfl rfl (hc := (w_isa_HasB (a0 := (isa_Shape a0.Op)))) (h := ?_)
     refine q_gu rfl rfl rfl ?_
     refine qy (y_field fa_api_Ins_3) ?_
     refine q_gu rfl rfl rfl ?_
     refine qy (y_load (fun w hS => hS.own (mH)) underlying3 rfl rfl) ?_
     refine q_gu rfl rfl rfl ?_
     refine q_callS func65 rfl rfl (hc := (w_isa_reg (a0 := (isa_HasB (isa_Shape a0.Op))) (a1 := a0.B))) (h := ?_)
     refine qy y_pickT ?_
     refine q_split (ht := fun c5 => ?_) (hf := fun c5 => ?_)
     · replace hF := bt c5 hF
       refine q_gu rfl rfl rfl ?_
       refine qy (y_loadW (fun w hS => hS.own (mH)) underlying27 rfl (by exact sz_api_Ins)) ?_
       refine q_gu rfl rfl rfl ?_
       refine qy y_move ?_
       refine q_gu rfl rfl rfl ?_
       obtain ⟨r6, hr6, hF⟩ := ob hF
       refine q_callS func67 rfl rfl (hc := (w_isa_imm (a0 := a0) (a1 := (isa_Shape a0.Op)) (hF := hr6))) (h := ?_)
       refine qy y_pickT <| qy y_assign ?_
       refine q_nilN (h := ?_)
       clear hS; intro w hS
       obtain rfl := osi hF
       exact wp_ret (wr1 hS)
     replace hF := bf c5 hF
     iterate 3 (refine q_sk rfl rfl ?_)
     refine qy y_pickF <| qy y_assign ?_
     refine q_nilN (h := ?_)
     clear hS; intro w hS
     obtain rfl := osi hF
     exact wp_ret (wr1 hS)
   replace hF := bf c4 hF
   iterate 5 (refine q_sk rfl rfl ?_)
   refine qy y_pickF <| qy y_move ?_
   iterate 3 (refine q_sk rfl rfl ?_)
   refine qy y_pickF <| qy y_assign ?_
   refine q_nilN (h := ?_)
   clear hS; intro w hS
   obtain rfl := osi hF
   exact wp_ret (wr1 hS)
 replace hF := bf c3 hF
 iterate 5 (refine q_sk rfl rfl ?_)
 refine qy y_pickF <| qy y_move ?_
 iterate 5 (refine q_sk rfl rfl ?_)
 refine qy y_pickF <| qy y_move ?_
 iterate 3 (refine q_sk rfl rfl ?_)
 refine qy y_pickF <| qy y_assign ?_
 refine q_nilN (h := ?_)
 clear hS; intro w hS
 obtain rfl := osi hF
 exact wp_ret (wr1 hS)
theorem w_isa_IsIns {g : Frag} {a0 : T_Ins} {r : Bool}  (hF : isa_IsIns a0 = some r) : LCs Tryd.prog 41 #[.agg (enc_Ins a0).toArray] g (.bool r) := w_isa_IsIns_  hF

noncomputable def isa_Check (a0 : T_Ins) : Option Int :=
  (isa_IsIns a0).bind fun r2 => bif !r2 then some (1) else some (0)
theorem w_isa_Check_ {g : Frag} {a0 : T_Ins} {r : Int}  (hF : isa_Check a0 = some r) : LCs Tryd.prog 11 #[.agg (enc_Ins a0).toArray] g (.int .i64 r) := by
 unfold isa_Check at hF
 refine lc_body (k := 6) (av := [.agg (enc_Ins a0).toArray]) func11 rfl rfl (h := fun W hS => ?_)
 refine c_seq <| c_region ?_
 refine o_boxP (cl := (enc_Ins a0)) rfl hS ?_
 clear hS; intro b1 w hS
 refine oy hS y_assign <| n_thenN ?_
 iterate 2 (refine c_seq ?_)
 refine c_region ?_
 refine oy hS (y_loadW oH underlying27 rfl (by exact sz_api_Ins)) ?_
 obtain ⟨r2, hr2, hF⟩ := ob hF
 refine o_callS hS func41 rfl rfl (hc := (w_isa_IsIns (a0 := a0) (hF := hr2))) (h := ?_)
 clear hS; intro w hS
 refine oy hS y_not <| n_thenN ?_
 refine c_if (ht := fun c3 => ?_) (hf := fun c3 => ?_)
 · replace hF := bt c3 hF
   refine c_seq <| c_region <| oy hS y_assign <| n_thenN ?_
   obtain rfl := osi hF
   exact wp_ret (wr1 hS)
 replace hF := bf c3 hF
 refine wp_skip <| c_seq <| c_region <| oy hS y_assign <| n_thenN ?_
 obtain rfl := osi hF
 exact wp_ret (wr1 hS)
theorem w_isa_Check {g : Frag} {a0 : T_Ins} {r : Int}  (hF : isa_Check a0 = some r) : LCs Tryd.prog 11 #[.agg (enc_Ins a0).toArray] g (.int .i64 r) := w_isa_Check_  hF

def l3_num (a0 : Int) : Int :=
  a0
theorem w_l3_num_ {g : Frag} {a0 : Int} {r : Int}  (hF : l3_num a0 = r) : LCs Tryd.prog 10 #[.int .i64 a0] g (.int .i64 r) := by
 unfold l3_num at hF
 refine lc_body (k := 4) (av := [.int .i64 a0]) func10 rfl rfl (h := fun W hS => ?_)
 refine c_seq <| c_region <| oy hS y_assign <| n_thenN <| c_seq <| c_region <| oy hS y_move <| oy hS y_assign ?_
 refine n_thenN ?_
 subst hF
 exact wp_ret (wr1 hS)
theorem w_l3_num {g : Frag} {a0 : Int}  : LCs Tryd.prog 10 #[.int .i64 a0] g (.int .i64 (l3_num a0)) := w_l3_num_  rfl

def r3_Valid (a0 : Int) : Bool :=
  (r0_Between a0 0 33)
theorem w_r3_Valid_ {g : Frag} {a0 : Int} {r : Bool}  (hF : r3_Valid a0 = r) : LCs Tryd.prog 26 #[.int .i64 a0] g (.bool r) := by
 unfold r3_Valid at hF
 refine lc_body (k := 5) (av := [.int .i64 a0]) func26 rfl rfl (h := fun W hS => ?_)
 refine c_seq <| c_region <| oy hS y_assign <| n_thenN <| c_seq <| c_region <| oy hS y_move ?_
 refine o_callS hS func40 rfl rfl (hc := (w_r0_Between (a0 := a0) (a1 := 0) (a2 := 33))) (h := ?_)
 clear hS; intro w hS
 refine oy hS y_assign <| n_thenN ?_
 subst hF
 exact wp_ret (wr1 hS)
theorem w_r3_Valid {g : Frag} {a0 : Int}  : LCs Tryd.prog 26 #[.int .i64 a0] g (.bool (r3_Valid a0)) := w_r3_Valid_  rfl

def r0_Num (a0 : Int) (a1 : Int) : Bool :=
  bif decide (0 ≤ a0) then decide (a0 ≤ a1) else false
theorem w_r0_Num_ {g : Frag} {a0 : Int} {a1 : Int} {r : Bool}  (hF : r0_Num a0 a1 = r) : LCs Tryd.prog 45 #[.int .i64 a0, .int .i64 a1] g (.bool r) := by
 unfold r0_Num at hF
 refine lc_body (k := 12) (av := [.int .i64 a0, .int .i64 a1]) func45 rfl rfl (h := fun W hS => ?_)
 refine c_seq <| c_region <| oy hS y_assign <| n_thenN <| c_seq <| c_region <| oy hS y_move <| oy hS y_bin ?_
 refine o_split (ht := fun c1 => ?_) (hf := fun c1 => ?_)
 · replace hF := bt c1 hF
   refine o_gu rfl rfl rfl <| oy hS y_move <| o_gu rfl rfl rfl <| oy hS y_move <| o_gu rfl rfl rfl <| oy hS y_bin <| oy hS y_pickT <| oy hS y_assign ?_
   refine n_thenN ?_
   subst hF
   exact wp_ret (wr1 hS)
 replace hF := bf c1 hF
 iterate 3 (refine o_sk rfl rfl ?_)
 refine oy hS y_pickF <| oy hS y_assign <| n_thenN ?_
 subst hF
 exact wp_ret (wr1 hS)
theorem w_r0_Num {g : Frag} {a0 : Int} {a1 : Int}  : LCs Tryd.prog 45 #[.int .i64 a0, .int .i64 a1] g (.bool (r0_Num a0 a1)) := w_r0_Num_  rfl

def r3_reg (a0 : Int) (a1 : Bool) : Bool :=
  bif a1 then (r0_Num a0 15) else decide (a0 = 0)
theorem w_r3_reg_ {g : Frag} {a0 : Int} {a1 : Bool} {r : Bool}  (hF : r3_reg a0 a1 = r) : LCs Tryd.prog 42 #[.int .i64 a0, .bool a1] g (.bool r) := by
 unfold r3_reg at hF
 refine lc_body (k := 10) (av := [.int .i64 a0, .bool a1]) func42 rfl rfl (h := fun W hS => ?_)
 refine c_seq <| c_region <| oy hS y_assign <| n_thenN ?_
 iterate 2 (refine c_seq ?_)
 refine c_region <| oy hS y_move <| n_thenN ?_
 refine c_if (ht := fun c1 => ?_) (hf := fun c1 => ?_)
 · replace hF := bt c1 hF
   refine c_seq <| c_region <| oy hS y_move ?_
   refine o_callS hS func45 rfl rfl (hc := (w_r0_Num (a0 := a0) (a1 := 15))) (h := ?_)
   clear hS; intro w hS
   refine oy hS y_assign <| n_thenN ?_
   subst hF
   exact wp_ret (wr1 hS)
 replace hF := bf c1 hF
 refine wp_skip <| c_seq <| c_region <| oy hS y_move <| oy hS y_bin <| oy hS y_assign <| n_thenN ?_
 subst hF
 exact wp_ret (wr1 hS)
theorem w_r3_reg {g : Frag} {a0 : Int} {a1 : Bool}  : LCs Tryd.prog 42 #[.int .i64 a0, .bool a1] g (.bool (r3_reg a0 a1)) := w_r3_reg_  rfl

noncomputable def r3_Name_b2 (a0 : ByteArray) : Int → Option (Step Int Bool) := fun x38 => bif decide (x38 < (a0.size : Int)) then (byte' a0 x38).bind fun x66 => bif decide (97 ≤ x66) then (byte' a0 x38).bind fun x68 => bif decide (x68 ≤ 122) then bif !true then some (.done (false)) else some (.next (IntKind.i64.wrap (x38 + 1))) else (byte' a0 x38).bind fun x71 => bif decide (x71 = 95) then bif !true then some (.done (false)) else some (.next (IntKind.i64.wrap (x38 + 1))) else (byte' a0 x38).bind fun x74 => bif decide (48 ≤ x74) then (byte' a0 x38).bind fun x76 => bif !(decide (x76 ≤ 57)) then some (.done (false)) else some (.next (IntKind.i64.wrap (x38 + 1))) else bif !false then some (.done (false)) else some (.next (IntKind.i64.wrap (x38 + 1))) else (byte' a0 x38).bind fun x79 => bif decide (x79 = 95) then bif !true then some (.done (false)) else some (.next (IntKind.i64.wrap (x38 + 1))) else (byte' a0 x38).bind fun x82 => bif decide (48 ≤ x82) then (byte' a0 x38).bind fun x84 => bif !(decide (x84 ≤ 57)) then some (.done (false)) else some (.next (IntKind.i64.wrap (x38 + 1))) else bif !false then some (.done (false)) else some (.next (IntKind.i64.wrap (x38 + 1))) else some (.done (true))
noncomputable def r3_Name_k1 (a0 : ByteArray) : Unit → Option Bool := fun _ => loop (σ := Int) (r3_Name_b2 a0) 0
noncomputable def r3_Name (a0 : ByteArray) : Option Bool :=
  cut (σ := Unit) (bif decide ((a0.size : Int) = 0) then some (.done (false)) else bif decide (12 < (a0.size : Int)) then some (.done (false)) else (byte' a0 0).bind fun x11 => bif decide (48 ≤ x11) then (byte' a0 0).bind fun x13 => bif decide (x13 ≤ 57) then some (.done (false)) else some (.next ()) else some (.next ())) (r3_Name_k1 a0)
theorem w_r3_Name_ {g : Frag} {a0 : ByteArray} {r : Bool}  (hF : r3_Name a0 = some r) : LCs Tryd.prog 39 #[.string a0] g (.bool r) := by
 unfold r3_Name at hF
 refine lc_body (k := 57) (av := [.string a0]) func39 rfl rfl (h := fun W hS => ?_)
 refine c_seq <| c_region <| oy hS y_assign <| n_thenN ?_
 obtain ⟨z7, hF, hK8⟩ := cut_step hF
 refine c_cutP (fun a w' => r3_Name_k1 a0 () = some r ∧ (∃ s : Nat → Value, a = Ac ((Fm.dead 57 s).upd 0 (.string a0))) ∧ St W g [] [] w') ?_ ?_
 · skip
   refine c_seq <| c_region <| oy hS y_move <| oy hS (y_lens underlying9) <| oy hS y_bin ?_
   refine o_split (ht := fun c9 => ?_) (hf := fun c9 => ?_)
   · replace hF := bt c9 hF
     iterate 3 (refine o_sk rfl rfl ?_)
     refine oy hS y_pickT <| oy hS y_move ?_
     iterate 4 (refine o_sk rfl rfl ?_)
     iterate 3 (refine o_sku rfl rfl ?_)
     refine o_sk rfl rfl ?_
     refine oy hS y_pickT <| n_thenN ?_
     refine c_if_true (h := ?_)
     refine c_seq <| c_region <| oy hS y_assign <| n_thenN ?_
     obtain rfl := osi hF
     obtain rfl : _ = r := hK8
     exact wp_ret (wr1 hS)
   replace hF := bf c9 hF
   refine o_gu rfl rfl rfl <| oy hS y_move <| o_gu rfl rfl rfl <| oy hS (y_lens underlying9) <| o_gu rfl rfl rfl <| oy hS y_bin <| oy hS y_pickF ?_
   refine o_split (ht := fun c10 => ?_) (hf := fun c10 => ?_)
   · replace hF := bt c10 hF
     iterate 4 (refine o_sk rfl rfl ?_)
     iterate 3 (refine o_sku rfl rfl ?_)
     refine o_sk rfl rfl ?_
     refine oy hS y_pickT <| n_thenN ?_
     refine c_if_true (h := ?_)
     refine c_seq <| c_region <| oy hS y_assign <| n_thenN ?_
     obtain rfl := osi hF
     obtain rfl : _ = r := hK8
     exact wp_ret (wr1 hS)
   replace hF := bf c10 hF
   refine o_gu rfl rfl rfl <| oy hS y_move <| o_gu rfl rfl rfl ?_
   obtain ⟨x11, D0, hF⟩ := ob hF
   refine oy hS (y_byte D0 underlying9) <| o_gu rfl rfl rfl <| oy hS y_bin <| o_gu rfl rfl rfl ?_
   refine o_split (ht := fun c12 => ?_) (hf := fun c12 => ?_)
   · replace hF := bt c12 hF
     refine o_gu rfl rfl rfl <| oy hS y_move <| o_gu rfl rfl rfl ?_
     obtain ⟨x13, E0, hF⟩ := ob hF
     refine oy hS (y_byte E0 underlying9) <| o_gu rfl rfl rfl <| oy hS y_bin <| o_gu rfl rfl rfl <| oy hS y_pickT <| oy hS y_pickF <| n_thenN ?_
     refine c_if (ht := fun c14 => ?_) (hf := fun c14 => ?_)
     · replace hF := bt c14 hF
       refine c_seq <| c_region <| oy hS y_assign <| n_thenN ?_
       obtain rfl := osi hF
       obtain rfl : _ = r := hK8
       exact wp_ret (wr1 hS)
     replace hF := bf c14 hF
     refine wp_skip ?_
     obtain rfl := osi hF
     change _ ∧ _
     exact ⟨hK8, mk_exF, (hS.re (.n))⟩
   replace hF := bf c12 hF
   iterate 3 (refine o_sk rfl rfl ?_)
   refine o_gu rfl rfl rfl ?_
   iterate 2 (refine oy hS y_pickF ?_)
   refine n_thenN ?_
   refine c_if_false (h := ?_)
   refine wp_skip ?_
   obtain rfl := osi hF
   change _ ∧ _
   exact ⟨hK8, mk_exF, (hS.re (.n))⟩
 rintro a w ⟨hF, ⟨s15, rfl⟩, hS⟩
 dsimp only [r3_Name_k1] at hF
 iterate 2 (refine c_seq ?_)
 refine c_region <| oy hS y_assign <| n_thenN <| c_block ?_
 refine c_loopP hF (fun (q : Int) a w' => (∃ s : Nat → Value, a = Ac (((Fm.dead 57 s).upd 0 (.string a0)).upd 3 (.int .i64 q))) ∧ St W g [] [] w') ⟨mk_exF, (hS.re (.n))⟩ ?_
 clear hS hF
 intro n63 q a w hI hq
 revert hq hI; revert q; intro x38 hI hq
 obtain ⟨⟨s64, rfl⟩, hS⟩ := hq
 obtain ⟨z61, hF, B0⟩ := iter_step hI
 clear hI
 dsimp only [r3_Name_b2] at hF
 iterate 2 (refine c_seq ?_)
 refine c_region ?_
 iterate 2 (refine oy hS y_move ?_)
 refine oy hS (y_lens underlying9) <| oy hS y_bin <| n_thenN ?_
 refine c_if (ht := fun c65 => ?_) (hf := fun c65 => ?_)
 · replace hF := bt c65 hF
   refine wp_skip <| c_seq <| c_block <| c_seq <| c_region ?_
   iterate 2 (refine oy hS y_move ?_)
   obtain ⟨x66, G0, hF⟩ := ob hF
   refine oy hS (y_byte G0 underlying9) <| oy hS y_bin ?_
   refine o_split (ht := fun c67 => ?_) (hf := fun c67 => ?_)
   · replace hF := bt c67 hF
     refine o_gu rfl rfl rfl <| oy hS y_move <| o_gu rfl rfl rfl <| oy hS y_move <| o_gu rfl rfl rfl ?_
     obtain ⟨x68, I0, hF⟩ := ob hF
     refine oy hS (y_byte I0 underlying9) <| o_gu rfl rfl rfl <| oy hS y_bin <| oy hS y_pickT ?_
     refine o_split (ht := fun c69 => ?_) (hf := fun c69 => ?_)
     · replace hF := bt c69 hF
       iterate 4 (refine o_sk rfl rfl ?_)
       refine oy hS y_pickT <| oy hS y_move ?_
       iterate 5 (refine o_sk rfl rfl ?_)
       iterate 4 (refine o_sku rfl rfl ?_)
       refine o_sk rfl rfl ?_
       refine oy hS y_pickT <| oy hS y_not <| n_thenN ?_
       refine c_if (ht := fun c70 => ?_) (hf := fun c70 => ?_)
       · replace hF := bt c70 hF
         refine c_seq <| c_region <| oy hS y_assign <| n_thenN ?_
         obtain rfl := osi hF
         obtain rfl : _ = r := B0
         exact wp_ret (wr1 hS)
       replace hF := bf c70 hF
       refine wp_skip <| c_region <| oy hS y_move <| oy hS y_bin <| oy hS y_assign <| n_thenN ?_
       obtain rfl := osi hF
       exact ⟨_, B0, mk_exF, (hS.re (.n))⟩
     replace hF := bf c69 hF
     refine o_gu rfl rfl rfl <| oy hS y_move <| o_gu rfl rfl rfl <| oy hS y_move <| o_gu rfl rfl rfl ?_
     obtain ⟨x71, J0, hF⟩ := ob hF
     refine oy hS (y_byte J0 underlying9) <| o_gu rfl rfl rfl <| oy hS y_bin <| oy hS y_pickF ?_
     refine o_split (ht := fun c72 => ?_) (hf := fun c72 => ?_)
     · replace hF := bt c72 hF
       iterate 5 (refine o_sk rfl rfl ?_)
       iterate 4 (refine o_sku rfl rfl ?_)
       refine o_sk rfl rfl ?_
       refine oy hS y_pickT <| oy hS y_not <| n_thenN ?_
       refine c_if (ht := fun c73 => ?_) (hf := fun c73 => ?_)
       · replace hF := bt c73 hF
         refine c_seq <| c_region <| oy hS y_assign <| n_thenN ?_
         obtain rfl := osi hF
         obtain rfl : _ = r := B0
         exact wp_ret (wr1 hS)
       replace hF := bf c73 hF
       refine wp_skip <| c_region <| oy hS y_move <| oy hS y_bin <| oy hS y_assign <| n_thenN ?_
       obtain rfl := osi hF
       exact ⟨_, B0, mk_exF, (hS.re (.n))⟩
     replace hF := bf c72 hF
     refine o_gu rfl rfl rfl <| oy hS y_move <| o_gu rfl rfl rfl <| oy hS y_move <| o_gu rfl rfl rfl ?_
     obtain ⟨x74, K0, hF⟩ := ob hF
     refine oy hS (y_byte K0 underlying9) <| o_gu rfl rfl rfl <| oy hS y_bin <| o_gu rfl rfl rfl ?_
     refine o_split (ht := fun c75 => ?_) (hf := fun c75 => ?_)
     · replace hF := bt c75 hF
       refine o_gu rfl rfl rfl <| oy hS y_move <| o_gu rfl rfl rfl <| oy hS y_move <| o_gu rfl rfl rfl ?_
       obtain ⟨x76, M0, hF⟩ := ob hF
       refine oy hS (y_byte M0 underlying9) <| o_gu rfl rfl rfl <| oy hS y_bin <| o_gu rfl rfl rfl <| oy hS y_pickT <| oy hS y_pickF <| oy hS y_not <| n_thenN ?_
       refine c_if (ht := fun c77 => ?_) (hf := fun c77 => ?_)
       · replace hF := bt c77 hF
         refine c_seq <| c_region <| oy hS y_assign <| n_thenN ?_
         obtain rfl := osi hF
         obtain rfl : _ = r := B0
         exact wp_ret (wr1 hS)
       replace hF := bf c77 hF
       refine wp_skip <| c_region <| oy hS y_move <| oy hS y_bin <| oy hS y_assign <| n_thenN ?_
       obtain rfl := osi hF
       exact ⟨_, B0, mk_exF, (hS.re (.n))⟩
     replace hF := bf c75 hF
     iterate 4 (refine o_sk rfl rfl ?_)
     refine o_gu rfl rfl rfl ?_
     iterate 2 (refine oy hS y_pickF ?_)
     refine oy hS y_not <| n_thenN ?_
     refine c_if (ht := fun c78 => ?_) (hf := fun c78 => ?_)
     · replace hF := bt c78 hF
       refine c_seq <| c_region <| oy hS y_assign <| n_thenN ?_
       obtain rfl := osi hF
       obtain rfl : _ = r := B0
       exact wp_ret (wr1 hS)
     replace hF := bf c78 hF
     refine wp_skip <| c_region <| oy hS y_move <| oy hS y_bin <| oy hS y_assign <| n_thenN ?_
     obtain rfl := osi hF
     exact ⟨_, B0, mk_exF, (hS.re (.n))⟩
   replace hF := bf c67 hF
   iterate 4 (refine o_sk rfl rfl ?_)
   refine oy hS y_pickF <| oy hS y_move <| o_gu rfl rfl rfl <| oy hS y_move <| o_gu rfl rfl rfl <| oy hS y_move <| o_gu rfl rfl rfl ?_
   obtain ⟨x79, N0, hF⟩ := ob hF
   refine oy hS (y_byte N0 underlying9) <| o_gu rfl rfl rfl <| oy hS y_bin <| oy hS y_pickF ?_
   refine o_split (ht := fun c80 => ?_) (hf := fun c80 => ?_)
   · replace hF := bt c80 hF
     iterate 5 (refine o_sk rfl rfl ?_)
     iterate 4 (refine o_sku rfl rfl ?_)
     refine o_sk rfl rfl ?_
     refine oy hS y_pickT <| oy hS y_not <| n_thenN ?_
     refine c_if (ht := fun c81 => ?_) (hf := fun c81 => ?_)
     · replace hF := bt c81 hF
       refine c_seq <| c_region <| oy hS y_assign <| n_thenN ?_
       obtain rfl := osi hF
       obtain rfl : _ = r := B0
       exact wp_ret (wr1 hS)
     replace hF := bf c81 hF
     refine wp_skip <| c_region <| oy hS y_move <| oy hS y_bin <| oy hS y_assign <| n_thenN ?_
     obtain rfl := osi hF
     exact ⟨_, B0, mk_exF, (hS.re (.n))⟩
   replace hF := bf c80 hF
   refine o_gu rfl rfl rfl <| oy hS y_move <| o_gu rfl rfl rfl <| oy hS y_move <| o_gu rfl rfl rfl ?_
   obtain ⟨x82, R0, hF⟩ := ob hF
   refine oy hS (y_byte R0 underlying9) <| o_gu rfl rfl rfl <| oy hS y_bin <| o_gu rfl rfl rfl ?_
   refine o_split (ht := fun c83 => ?_) (hf := fun c83 => ?_)
   · replace hF := bt c83 hF
     refine o_gu rfl rfl rfl <| oy hS y_move <| o_gu rfl rfl rfl <| oy hS y_move <| o_gu rfl rfl rfl ?_
     obtain ⟨x84, T0, hF⟩ := ob hF
     refine oy hS (y_byte T0 underlying9) <| o_gu rfl rfl rfl <| oy hS y_bin <| o_gu rfl rfl rfl <| oy hS y_pickT <| oy hS y_pickF <| oy hS y_not <| n_thenN ?_
     refine c_if (ht := fun c85 => ?_) (hf := fun c85 => ?_)
     · replace hF := bt c85 hF
       refine c_seq <| c_region <| oy hS y_assign <| n_thenN ?_
       obtain rfl := osi hF
       obtain rfl : _ = r := B0
       exact wp_ret (wr1 hS)
     replace hF := bf c85 hF
     refine wp_skip <| c_region <| oy hS y_move <| oy hS y_bin <| oy hS y_assign <| n_thenN ?_
     obtain rfl := osi hF
     exact ⟨_, B0, mk_exF, (hS.re (.n))⟩
   replace hF := bf c83 hF
   iterate 4 (refine o_sk rfl rfl ?_)
   refine o_gu rfl rfl rfl ?_
   iterate 2 (refine oy hS y_pickF ?_)
   refine oy hS y_not <| n_thenN ?_
   refine c_if (ht := fun c86 => ?_) (hf := fun c86 => ?_)
   · replace hF := bt c86 hF
     refine c_seq <| c_region <| oy hS y_assign <| n_thenN ?_
     obtain rfl := osi hF
     obtain rfl : _ = r := B0
     exact wp_ret (wr1 hS)
   replace hF := bf c86 hF
   refine wp_skip <| c_region <| oy hS y_move <| oy hS y_bin <| oy hS y_assign <| n_thenN ?_
   obtain rfl := osi hF
   exact ⟨_, B0, mk_exF, (hS.re (.n))⟩
 replace hF := bf c65 hF
 refine wp_exit ?_
 refine c_seq <| c_region <| oy hS y_assign <| n_thenN ?_
 obtain rfl := osi hF
 obtain rfl : _ = r := B0
 exact wp_ret (wr1 hS)
theorem w_r3_Name {g : Frag} {a0 : ByteArray} {r : Bool}  (hF : r3_Name a0 = some r) : LCs Tryd.prog 39 #[.string a0] g (.bool r) := w_r3_Name_  hF

noncomputable def r1_Fits (a0 : Int) (a1 : Int) : Option Bool :=
  (shl' .i64 1 (IntKind.i64.wrap (a1 - 1))).bind fun x1 => bif decide ((IntKind.i64.wrap (0 - x1)) ≤ a0) then some (decide (a0 < x1)) else some (false)
theorem w_r1_Fits_ {g : Frag} {a0 : Int} {a1 : Int} {r : Bool}  (hF : r1_Fits a0 a1 = some r) : LCs Tryd.prog 43 #[.int .i64 a0, .int .i64 a1] g (.bool r) := by
 unfold r1_Fits at hF
 refine lc_body (k := 18) (av := [.int .i64 a0, .int .i64 a1]) func43 rfl rfl (h := fun W hS => ?_)
 refine c_seq <| c_region <| oy hS y_assign <| n_thenN <| c_seq <| c_region <| oy hS y_move <| oy hS y_bin ?_
 obtain ⟨x1, hx1, hF⟩ := ob hF
 refine oy hS (y_shl hx1) <| oy hS y_assign <| n_thenN <| c_seq <| c_region ?_
 iterate 2 (refine oy hS y_move ?_)
 refine oy hS y_neg <| oy hS y_bin ?_
 refine o_split (ht := fun c2 => ?_) (hf := fun c2 => ?_)
 · replace hF := bt c2 hF
   refine o_gu rfl rfl rfl <| oy hS y_move <| o_gu rfl rfl rfl <| oy hS y_move <| o_gu rfl rfl rfl <| oy hS y_bin <| oy hS y_pickT <| oy hS y_assign ?_
   refine n_thenN ?_
   obtain rfl := osi hF
   exact wp_ret (wr1 hS)
 replace hF := bf c2 hF
 iterate 3 (refine o_sk rfl rfl ?_)
 refine oy hS y_pickF <| oy hS y_assign <| n_thenN ?_
 obtain rfl := osi hF
 exact wp_ret (wr1 hS)
theorem w_r1_Fits {g : Frag} {a0 : Int} {a1 : Int} {r : Bool}  (hF : r1_Fits a0 a1 = some r) : LCs Tryd.prog 43 #[.int .i64 a0, .int .i64 a1] g (.bool r) := w_r1_Fits_  hF

def r3_Target (a0 : Int) : Bool :=
  bif decide (a0 = 8) then true else decide (a0 = 9)
theorem w_r3_Target_ {g : Frag} {a0 : Int} {r : Bool}  (hF : r3_Target a0 = r) : LCs Tryd.prog 44 #[.int .i64 a0] g (.bool r) := by
 unfold r3_Target at hF
 refine lc_body (k := 9) (av := [.int .i64 a0]) func44 rfl rfl (h := fun W hS => ?_)
 refine c_seq <| c_region <| oy hS y_assign <| n_thenN <| c_seq <| c_region <| oy hS y_move <| oy hS y_bin ?_
 refine o_split (ht := fun c1 => ?_) (hf := fun c1 => ?_)
 · replace hF := bt c1 hF
   iterate 2 (refine o_sk rfl rfl ?_)
   refine oy hS y_pickT <| oy hS y_assign <| n_thenN ?_
   subst hF
   exact wp_ret (wr1 hS)
 replace hF := bf c1 hF
 refine o_gu rfl rfl rfl <| oy hS y_move <| o_gu rfl rfl rfl <| oy hS y_bin <| oy hS y_pickF <| oy hS y_assign <| n_thenN ?_
 subst hF
 exact wp_ret (wr1 hS)
theorem w_r3_Target {g : Frag} {a0 : Int}  : LCs Tryd.prog 44 #[.int .i64 a0] g (.bool (r3_Target a0)) := w_r3_Target_  rfl

def r3_Bits (a0 : Int) : Int :=
  bif decide (a0 = 3) then 14 else bif decide (a0 = 5) then 14 else bif decide (a0 = 9) then 14 else bif decide (a0 = 4) then 18 else bif decide (a0 = 8) then 18 else 0
theorem w_r3_Bits_ {g : Frag} {a0 : Int} {r : Int}  (hF : r3_Bits a0 = r) : LCs Tryd.prog 46 #[.int .i64 a0] g (.int .i64 r) := by
 unfold r3_Bits at hF
 refine lc_body (k := 11) (av := [.int .i64 a0]) func46 rfl rfl (h := fun W hS => ?_)
 refine c_seq <| c_region <| oy hS y_assign <| n_thenN ?_
 iterate 2 (refine c_seq ?_)
 refine c_region <| oy hS y_move <| n_thenN <| c_block ?_
 iterate 2 (refine c_seq ?_)
 refine c_region <| oy hS y_bin <| oy hS y_assign <| n_thenN ?_
 refine c_if (ht := fun c1 => ?_) (hf := fun c1 => ?_)
 · replace hF := bt c1 hF
   refine wp_skip ?_
   refine c_ifT c1 ?_
   refine c_seq <| c_region <| oy hS y_assign <| n_thenN ?_
   subst hF
   exact wp_ret (wr1 hS)
 replace hF := bf c1 hF
 refine c_seq <| c_region <| oy hS y_bin <| oy hS y_assign <| n_thenN ?_
 refine c_if (ht := fun c2 => ?_) (hf := fun c2 => ?_)
 · replace hF := bt c2 hF
   refine wp_skip ?_
   refine c_ifT c2 ?_
   refine c_seq <| c_region <| oy hS y_assign <| n_thenN ?_
   subst hF
   exact wp_ret (wr1 hS)
 replace hF := bf c2 hF
 refine c_region <| oy hS y_bin <| oy hS y_assign <| n_thenN ?_
 refine c_if (ht := fun c3 => ?_) (hf := fun c3 => ?_)
 · replace hF := bt c3 hF
   refine c_seq <| c_region <| oy hS y_assign <| n_thenN ?_
   subst hF
   exact wp_ret (wr1 hS)
 replace hF := bf c3 hF
 iterate 2 (refine c_seq ?_)
 refine c_region <| oy hS y_bin <| oy hS y_assign <| n_thenN ?_
 refine c_if (ht := fun c4 => ?_) (hf := fun c4 => ?_)
 · replace hF := bt c4 hF
   refine wp_skip ?_
   refine c_ifT c4 ?_
   refine c_seq <| c_region <| oy hS y_assign <| n_thenN ?_
   subst hF
   exact wp_ret (wr1 hS)
 replace hF := bf c4 hF
 refine c_region <| oy hS y_bin <| oy hS y_assign <| n_thenN ?_
 refine c_if (ht := fun c5 => ?_) (hf := fun c5 => ?_)
 · replace hF := bt c5 hF
   refine c_seq <| c_region <| oy hS y_assign <| n_thenN ?_
   subst hF
   exact wp_ret (wr1 hS)
 replace hF := bf c5 hF
 refine wp_skip <| c_seq <| c_region <| oy hS y_assign <| n_thenN ?_
 subst hF
 exact wp_ret (wr1 hS)
theorem w_r3_Bits {g : Frag} {a0 : Int}  : LCs Tryd.prog 46 #[.int .i64 a0] g (.int .i64 (r3_Bits a0)) := w_r3_Bits_  rfl
end Go.Proofs.YtaplgcdpppcajaaDoor
