/- Functions, lifted. Printed by lift.py. -/
import Derived.Test.YtfnmihhcopkkbaaGreatProg
import Derived.Test.YtfnmihhcopkkbaaGreatP0
import Derived.KernelRfl
namespace Go.Proofs.YtfnmihhcopkkbaaGreat
open Go Go.RowKit Fr
set_option linter.unusedVariables false
set_option linter.unusedSimpArgs false
set_option maxRecDepth 20000
open Tryz
set_option maxHeartbeats 2000000
def isa_Bits (a0 : Int) : Int :=
  bif decide (a0 = 3) then 14 else bif decide (a0 = 5) then 14 else bif decide (a0 = 9) then 14 else bif decide (a0 = 4) then 18 else bif decide (a0 = 8) then 18 else 0
theorem w_isa_Bits_ {g : Frag} {a0 : Int} {r : Int}  (hF : isa_Bits a0 = r) : LCs Tryz.prog 143 #[.int .i64 a0] g (.int .i64 r) := by
 unfold isa_Bits at hF
 refine lc_body (k := 11) (av := [.int .i64 a0]) func143 rfl rfl (h := fun W hS => ?_)
 refine c_seq <| c_region <| oy hS y_assign <| n_thenN ?_
 iterate 2 (refine c_seq ?_)
 refine c_region <| oy hS y_move <| n_thenN <| c_block ?_
 iterate 2 (refine c_seq ?_)
 refine c_region <| oy hS y_bin <| oy hS y_assign <| n_thenN ?_
 refine c_if (ht := fun c1 => ?_) (hf := fun c1 => ?_)
 · replace hF := bt c1 hF
   refine wp_skip ?_
   refine c_ifT c1 ?_
   refine c_seq <| c_region <| oy hS y_assign <| n_thenN ?_
   subst hF
   exact wp_ret (wr1 hS)
 replace hF := bf c1 hF
 refine c_seq <| c_region <| oy hS y_bin <| oy hS y_assign <| n_thenN ?_
 refine c_if (ht := fun c2 => ?_) (hf := fun c2 => ?_)
 · replace hF := bt c2 hF
   refine wp_skip ?_
   refine c_ifT c2 ?_
   refine c_seq <| c_region <| oy hS y_assign <| n_thenN ?_
   subst hF
   exact wp_ret (wr1 hS)
 replace hF := bf c2 hF
 refine c_region <| oy hS y_bin <| oy hS y_assign <| n_thenN ?_
 refine c_if (ht := fun c3 => ?_) (hf := fun c3 => ?_)
 · replace hF := bt c3 hF
   refine c_seq <| c_region <| oy hS y_assign <| n_thenN ?_
   subst hF
   exact wp_ret (wr1 hS)
 replace hF := bf c3 hF
 iterate 2 (refine c_seq ?_)
 refine c_region <| oy hS y_bin <| oy hS y_assign <| n_thenN ?_
 refine c_if (ht := fun c4 => ?_) (hf := fun c4 => ?_)
 · replace hF := bt c4 hF
   refine wp_skip ?_
   refine c_ifT c4 ?_
   refine c_seq <| c_region <| oy hS y_assign <| n_thenN ?_
   subst hF
   exact wp_ret (wr1 hS)
 replace hF := bf c4 hF
 refine c_region <| oy hS y_bin <| oy hS y_assign <| n_thenN ?_
 refine c_if (ht := fun c5 => ?_) (hf := fun c5 => ?_)
 · replace hF := bt c5 hF
   refine c_seq <| c_region <| oy hS y_assign <| n_thenN ?_
   subst hF
   exact wp_ret (wr1 hS)
 replace hF := bf c5 hF
 refine wp_skip <| c_seq <| c_region <| oy hS y_assign <| n_thenN ?_
 subst hF
 exact wp_ret (wr1 hS)
theorem w_isa_Bits {g : Frag} {a0 : Int}  : LCs Tryz.prog 143 #[.int .i64 a0] g (.int .i64 (isa_Bits a0)) := w_isa_Bits_  rfl

noncomputable def word_Within (a0 : Int) (a1 : Int) : Option Bool :=
  (shl' .i64 (-1) (IntKind.i64.wrap (a1 - 1))).bind fun x1 => bif decide (x1 ≤ a0) then (shl' .i64 1 (IntKind.i64.wrap (a1 - 1))).bind fun x3 => some (decide (a0 < x3)) else some (false)
theorem w_word_Within_ {g : Frag} {a0 : Int} {a1 : Int} {r : Bool}  (hF : word_Within a0 a1 = some r) : LCs Tryz.prog 144 #[.int .i64 a0, .int .i64 a1] g (.bool r) := by
 unfold word_Within at hF
 refine lc_body (k := 17) (av := [.int .i64 a0, .int .i64 a1]) func144 rfl rfl (h := fun W hS => ?_)
 refine c_seq <| c_region <| oy hS y_assign <| n_thenN <| c_seq <| c_region ?_
 iterate 2 (refine oy hS y_move ?_)
 refine oy hS y_bin ?_
 obtain ⟨x1, hx1, hF⟩ := ob hF
 refine oy hS (y_shl hx1) <| oy hS y_bin ?_
 refine o_split (ht := fun c2 => ?_) (hf := fun c2 => ?_)
 · replace hF := bt c2 hF
   refine o_gu rfl rfl rfl <| oy hS y_move <| o_gu rfl rfl rfl <| oy hS y_move <| o_gu rfl rfl rfl <| oy hS y_bin <| o_gu rfl rfl rfl ?_
   obtain ⟨x3, hx3, hF⟩ := ob hF
   refine oy hS (y_shl hx3) <| o_gu rfl rfl rfl <| oy hS y_bin <| oy hS y_pickT <| oy hS y_assign <| n_thenN ?_
   obtain rfl := osi hF
   exact wp_ret (wr1 hS)
 replace hF := bf c2 hF
 iterate 5 (refine o_sk rfl rfl ?_)
 refine oy hS y_pickF <| oy hS y_assign <| n_thenN ?_
 obtain rfl := osi hF
 exact wp_ret (wr1 hS)
theorem w_word_Within {g : Frag} {a0 : Int} {a1 : Int} {r : Bool}  (hF : word_Within a0 a1 = some r) : LCs Tryz.prog 144 #[.int .i64 a0, .int .i64 a1] g (.bool r) := w_word_Within_  hF

noncomputable def isa_imm (a0 : T_Ins) (a1 : Int) : Option Bool :=
  bif (isa_Target a1) then bif !(decide (a0.Sym = (ByteArray.mk #[]))) then bif decide (a0.Imm = 0) then (isa_Name2 a0.Sym).bind fun r5 => some (r5) else some (false) else bif decide (0 ≤ a0.Imm) then some (decide (a0.Imm < 1024)) else some (false) else bif decide (a1 = 4) then bif !(decide (a0.Sym = (ByteArray.mk #[]))) then (isa_Name2 a0.Sym).bind fun r9 => bif !r9 then some (false) else bif decide (a1 ≠ 4) then some (false) else bif decide ((isa_Bits a1) = 0) then some (decide (a0.Imm = 0)) else (word_Within a0.Imm (isa_Bits a1)).bind fun r13 => some (r13) else bif decide (a1 ≠ 4) then bif decide ((isa_Bits a1) = 0) then some (decide (a0.Imm = 0)) else (word_Within a0.Imm (isa_Bits a1)).bind fun r16 => some (r16) else bif decide ((isa_Bits a1) = 0) then some (decide (a0.Imm = 0)) else (word_Within a0.Imm (isa_Bits a1)).bind fun r18 => some (r18) else bif decide (a1 ≠ 4) then bif !(decide (a0.Sym = (ByteArray.mk #[]))) then some (false) else bif decide ((isa_Bits a1) = 0) then some (decide (a0.Imm = 0)) else (word_Within a0.Imm (isa_Bits a1)).bind fun r22 => some (r22) else bif decide ((isa_Bits a1) = 0) then some (decide (a0.Imm = 0)) else (word_Within a0.Imm (isa_Bits a1)).bind fun r24 => some (r24)
theorem w_isa_imm_ {g : Frag} {a0 : T_Ins} {a1 : Int} {r : Bool}  (hF : isa_imm a0 a1 = some r) : LCs Tryz.prog 118 #[.agg (enc_Ins a0).toArray, .int .i64 a1] g (.bool r) := by
 unfold isa_imm at hF
 refine lc_body (k := 65) (av := [.agg (enc_Ins a0).toArray, .int .i64 a1]) func118 rfl rfl (h := fun W hS => ?_)
 refine c_seq <| c_region ?_
 refine o_boxP (cl := (enc_Ins a0)) rfl hS ?_
 clear hS; intro b1 w hS
 refine oy hS y_assign <| n_thenN <| c_seq <| c_block <| c_seq <| c_region <| oy hS y_move ?_
 refine o_callS hS func141 rfl rfl (hc := (w_isa_Target (a0 := a1))) (h := ?_)
 clear hS; intro w hS
 refine o_split (ht := fun c2 => ?_) (hf := fun c2 => ?_)
 · replace hF := bt c2 hF
   refine o_gu rfl rfl rfl <| oy hS (y_field fa_api_Ins_5) <| o_gu rfl rfl rfl <| oy hS (y_load oH underlying9 rfl rfl) <| o_gu rfl rfl rfl <| oy hS y_sneq <| oy hS y_pickT <| oy hS y_assign ?_
   refine n_thenN ?_
   refine c_if (ht := fun c3 => ?_) (hf := fun c3 => ?_)
   · replace hF := bt c3 hF
     refine c_seq <| c_region <| oy hS (y_field fa_api_Ins_4) <| oy hS (y_load oH underlying3 rfl rfl) <| oy hS y_bin ?_
     refine o_split (ht := fun c4 => ?_) (hf := fun c4 => ?_)
     · replace hF := bt c4 hF
       refine o_gu rfl rfl rfl <| oy hS (y_field fa_api_Ins_5) <| o_gu rfl rfl rfl <| oy hS (y_load oH underlying9 rfl rfl) <| o_gu rfl rfl rfl ?_
       obtain ⟨r5, hr5, hF⟩ := ob hF
       refine o_callS hS func142 rfl rfl (hc := (w_isa_Name2 (a0 := a0.Sym) (hF := hr5))) (h := ?_)
       clear hS; intro w hS
       refine oy hS y_pickT <| oy hS y_assign <| n_thenN ?_
       obtain rfl := osi hF
       exact wp_ret (wr1 hS)
     replace hF := bf c4 hF
     iterate 3 (refine o_sk rfl rfl ?_)
     refine oy hS y_pickF <| oy hS y_assign <| n_thenN ?_
     obtain rfl := osi hF
     exact wp_ret (wr1 hS)
   replace hF := bf c3 hF
   refine c_seq <| c_region <| oy hS y_move ?_
   refine o_callS hS func141 rfl rfl (hc := (w_isa_Target (a0 := a1))) (h := ?_)
   clear hS; intro w hS
   refine oy hS y_assign <| n_thenN ?_
   refine c_ifT c2 ?_
   refine c_seq <| c_region <| oy hS (y_field fa_api_Ins_4) <| oy hS (y_load oH underlying3 rfl rfl) <| oy hS y_bin ?_
   refine o_split (ht := fun c6 => ?_) (hf := fun c6 => ?_)
   · replace hF := bt c6 hF
     refine o_gu rfl rfl rfl <| oy hS (y_field fa_api_Ins_4) <| o_gu rfl rfl rfl <| oy hS (y_load oH underlying3 rfl rfl) <| o_gu rfl rfl rfl <| oy hS y_bin <| oy hS y_pickT <| oy hS y_assign ?_
     refine n_thenN ?_
     obtain rfl := osi hF
     exact wp_ret (wr1 hS)
   replace hF := bf c6 hF
   iterate 3 (refine o_sk rfl rfl ?_)
   refine oy hS y_pickF <| oy hS y_assign <| n_thenN ?_
   obtain rfl := osi hF
   exact wp_ret (wr1 hS)
 replace hF := bf c2 hF
 iterate 3 (refine o_sk rfl rfl ?_)
 refine oy hS y_pickF <| oy hS y_assign <| n_thenN ?_
 refine c_if_false (h := ?_)
 refine c_seq <| c_region <| oy hS y_move ?_
 refine o_callS hS func141 rfl rfl (hc := (w_isa_Target (a0 := a1))) (h := ?_)
 clear hS; intro w hS
 refine oy hS y_assign <| n_thenN ?_
 refine c_ifF c2 ?_
 iterate 2 (refine c_seq ?_)
 refine c_region <| oy hS y_move <| oy hS y_bin ?_
 refine o_split (ht := fun c7 => ?_) (hf := fun c7 => ?_)
 · replace hF := bt c7 hF
   refine o_gu rfl rfl rfl <| oy hS (y_field fa_api_Ins_5) <| o_gu rfl rfl rfl <| oy hS (y_load oH underlying9 rfl rfl) <| o_gu rfl rfl rfl <| oy hS y_sneq <| oy hS y_pickT ?_
   refine o_split (ht := fun c8 => ?_) (hf := fun c8 => ?_)
   · replace hF := bt c8 hF
     refine o_gu rfl rfl rfl <| oy hS (y_field fa_api_Ins_5) <| o_gu rfl rfl rfl <| oy hS (y_load oH underlying9 rfl rfl) <| o_gu rfl rfl rfl ?_
     obtain ⟨r9, hr9, hF⟩ := ob hF
     refine o_callS hS func142 rfl rfl (hc := (w_isa_Name2 (a0 := a0.Sym) (hF := hr9))) (h := ?_)
     clear hS; intro w hS
     refine o_gu rfl rfl rfl <| oy hS y_not <| oy hS y_pickT <| oy hS y_assign <| n_thenN ?_
     refine c_if (ht := fun c10 => ?_) (hf := fun c10 => ?_)
     · replace hF := bt c10 hF
       refine wp_skip ?_
       refine c_ifT c10 ?_
       refine c_seq <| c_region <| oy hS y_assign <| n_thenN ?_
       obtain rfl := osi hF
       exact wp_ret (wr1 hS)
     replace hF := bf c10 hF
     refine c_region <| oy hS y_move <| oy hS y_bin ?_
     refine o_split (ht := fun c11 => ?_) (hf := fun c11 => ?_)
     · replace hF := bt c11 hF
       refine o_gu rfl rfl rfl <| oy hS (y_field fa_api_Ins_5) <| o_gu rfl rfl rfl <| oy hS (y_load oH underlying9 rfl rfl) <| o_gu rfl rfl rfl <| oy hS y_sneq <| oy hS y_pickT <| oy hS y_assign ?_
       refine n_thenN ?_
       refine c_ifT c8 ?_
       refine c_seq <| c_region <| oy hS y_assign <| n_thenN ?_
       obtain rfl := osi hF
       exact wp_ret (wr1 hS)
     replace hF := bf c11 hF
     iterate 3 (refine o_sk rfl rfl ?_)
     refine oy hS y_pickF <| oy hS y_assign <| n_thenN ?_
     refine c_if_false (h := ?_)
     refine c_seq <| c_region <| oy hS y_move ?_
     refine o_callS hS func143 rfl rfl (hc := (w_isa_Bits (a0 := a1))) (h := ?_)
     clear hS; intro w hS
     refine oy hS y_bin <| oy hS y_assign <| n_thenN ?_
     refine c_if (ht := fun c12 => ?_) (hf := fun c12 => ?_)
     · replace hF := bt c12 hF
       refine c_seq <| c_region <| oy hS (y_field fa_api_Ins_4) <| oy hS (y_load oH underlying3 rfl rfl) <| oy hS y_bin <| oy hS y_assign <| n_thenN ?_
       obtain rfl := osi hF
       exact wp_ret (wr1 hS)
     replace hF := bf c12 hF
     refine wp_skip <| c_seq ?_
     refine c_quiet (by kernel_rfl) (by kernel_rfl) hS ?_
     refine qy (y_field fa_api_Ins_4) <| qy (y_load (fun w hS => hS.own (mH)) underlying3 rfl rfl) <| qy y_move ?_
     refine q_callS func143 rfl rfl (hc := (w_isa_Bits (a0 := a1))) (h := ?_)
     obtain ⟨r13, B0, hF⟩ := ob hF
     refine q_callS func144 rfl rfl (hc := (w_word_Within (a0 := a0.Imm) (a1 := (isa_Bits a1)) (hF := B0))) (h := ?_)
     refine qy y_assign ?_
     refine q_nilN (h := ?_)
     clear hS; intro w hS
     obtain rfl := osi hF
     exact wp_ret (wr1 hS)
   replace hF := bf c8 hF
   iterate 4 (refine o_sk rfl rfl ?_)
   refine oy hS y_pickF <| oy hS y_assign <| n_thenN ?_
   refine c_if_false (h := ?_)
   refine c_region <| oy hS y_move <| oy hS y_bin ?_
   refine o_split (ht := fun c14 => ?_) (hf := fun c14 => ?_)
   · replace hF := bt c14 hF
     refine o_gu rfl rfl rfl <| oy hS (y_field fa_api_Ins_5) <| o_gu rfl rfl rfl <| oy hS (y_load oH underlying9 rfl rfl) <| o_gu rfl rfl rfl <| oy hS y_sneq <| oy hS y_pickT <| oy hS y_assign ?_
     refine n_thenN ?_
     refine c_ifF c8 ?_
     refine c_seq <| c_region <| oy hS y_move ?_
     refine o_callS hS func143 rfl rfl (hc := (w_isa_Bits (a0 := a1))) (h := ?_)
     clear hS; intro w hS
     refine oy hS y_bin <| oy hS y_assign <| n_thenN ?_
     refine c_if (ht := fun c15 => ?_) (hf := fun c15 => ?_)
     · replace hF := bt c15 hF
       refine c_seq <| c_region <| oy hS (y_field fa_api_Ins_4) <| oy hS (y_load oH underlying3 rfl rfl) <| oy hS y_bin <| oy hS y_assign <| n_thenN ?_
       obtain rfl := osi hF
       exact wp_ret (wr1 hS)
     replace hF := bf c15 hF
     refine wp_skip <| c_seq ?_
     refine c_quiet (by kernel_rfl) (by kernel_rfl) hS ?_
     refine qy (y_field fa_api_Ins_4) <| qy (y_load (fun w hS => hS.own (mH)) underlying3 rfl rfl) <| qy y_move ?_
     refine q_callS func143 rfl rfl (hc := (w_isa_Bits (a0 := a1))) (h := ?_)
     obtain ⟨r16, D0, hF⟩ := ob hF
     refine q_callS func144 rfl rfl (hc := (w_word_Within (a0 := a0.Imm) (a1 := (isa_Bits a1)) (hF := D0))) (h := ?_)
     refine qy y_assign ?_
     refine q_nilN (h := ?_)
     clear hS; intro w hS
     obtain rfl := osi hF
     exact wp_ret (wr1 hS)
   replace hF := bf c14 hF
   iterate 3 (refine o_sk rfl rfl ?_)
   refine oy hS y_pickF <| oy hS y_assign <| n_thenN ?_
   refine c_if_false (h := ?_)
   refine c_seq <| c_region <| oy hS y_move ?_
   refine o_callS hS func143 rfl rfl (hc := (w_isa_Bits (a0 := a1))) (h := ?_)
   clear hS; intro w hS
   refine oy hS y_bin <| oy hS y_assign <| n_thenN ?_
   refine c_if (ht := fun c17 => ?_) (hf := fun c17 => ?_)
   · replace hF := bt c17 hF
     refine c_seq <| c_region <| oy hS (y_field fa_api_Ins_4) <| oy hS (y_load oH underlying3 rfl rfl) <| oy hS y_bin <| oy hS y_assign <| n_thenN ?_
     obtain rfl := osi hF
     exact wp_ret (wr1 hS)
   replace hF := bf c17 hF
   refine wp_skip <| c_seq ?_
   refine c_quiet (by kernel_rfl) (by kernel_rfl) hS ?_
   refine qy (y_field fa_api_Ins_4) <| qy (y_load (fun w hS => hS.own (mH)) underlying3 rfl rfl) <| qy y_move ?_
   refine q_callS func143 rfl rfl (hc := (w_isa_Bits (a0 := a1))) (h := ?_)
   obtain ⟨r18, E0, hF⟩ := ob hF
   refine q_callS func144 rfl rfl (hc := (w_word_Within (a0 := a0.Imm) (a1 := (isa_Bits a1)) (hF := E0))) (h := ?_)
   refine qy y_assign ?_
   refine q_nilN (h := ?_)
   clear hS; intro w hS
   obtain rfl := osi hF
   exact wp_ret (wr1 hS)
 replace hF := bf c7 hF
 iterate 3 (refine o_sk rfl rfl ?_)
 refine oy hS y_pickF <| oy hS y_move ?_
 iterate 4 (refine o_sk rfl rfl ?_)
 refine oy hS y_pickF <| oy hS y_assign <| n_thenN ?_
 refine c_if_false (h := ?_)
 refine c_region <| oy hS y_move <| oy hS y_bin ?_
 refine o_split (ht := fun c19 => ?_) (hf := fun c19 => ?_)
 · replace hF := bt c19 hF
   refine o_gu rfl rfl rfl <| oy hS (y_field fa_api_Ins_5) <| o_gu rfl rfl rfl <| oy hS (y_load oH underlying9 rfl rfl) <| o_gu rfl rfl rfl <| oy hS y_sneq <| oy hS y_pickT <| oy hS y_assign ?_
   refine n_thenN ?_
   refine c_if (ht := fun c20 => ?_) (hf := fun c20 => ?_)
   · replace hF := bt c20 hF
     refine c_seq <| c_region <| oy hS y_assign <| n_thenN ?_
     obtain rfl := osi hF
     exact wp_ret (wr1 hS)
   replace hF := bf c20 hF
   refine c_seq <| c_region <| oy hS y_move ?_
   refine o_callS hS func143 rfl rfl (hc := (w_isa_Bits (a0 := a1))) (h := ?_)
   clear hS; intro w hS
   refine oy hS y_bin <| oy hS y_assign <| n_thenN ?_
   refine c_if (ht := fun c21 => ?_) (hf := fun c21 => ?_)
   · replace hF := bt c21 hF
     refine c_seq <| c_region <| oy hS (y_field fa_api_Ins_4) <| oy hS (y_load oH underlying3 rfl rfl) <| oy hS y_bin <| oy hS y_assign <| n_thenN ?_
     obtain rfl := osi hF
     exact wp_ret (wr1 hS)
   replace hF := bf c21 hF
   refine wp_skip <| c_seq ?_
   refine c_quiet (by kernel_rfl) (by kernel_rfl) hS ?_
   refine qy (y_field fa_api_Ins_4) <| qy (y_load (fun w hS => hS.own (mH)) underlying3 rfl rfl) <| qy y_move ?_
   refine q_callS func143 rfl rfl (hc := (w_isa_Bits (a0 := a1))) (h := ?_)
   obtain ⟨r22, G0, hF⟩ := ob hF
   refine q_callS func144 rfl rfl (hc := (w_word_Within (a0 := a0.Imm) (a1 := (isa_Bits a1)) (hF := G0))) (h := ?_)
   refine qy y_assign ?_
   refine q_nilN (h := ?_)
   clear hS; intro w hS
   obtain rfl := osi hF
   exact wp_ret (wr1 hS)
 replace hF := bf c19 hF
 iterate 3 (refine o_sk rfl rfl ?_)
 refine oy hS y_pickF <| oy hS y_assign <| n_thenN ?_
 refine c_if_false (h := ?_)
 refine c_seq <| c_region <| oy hS y_move ?_
 refine o_callS hS func143 rfl rfl (hc := (w_isa_Bits (a0 := a1))) (h := ?_)
 clear hS; intro w hS
 refine oy hS y_bin <| oy hS y_assign <| n_thenN ?_
 refine c_if (ht := fun c23 => ?_) (hf := fun c23 => ?_)
 · replace hF := bt c23 hF
   refine c_seq <| c_region <| oy hS (y_field fa_api_Ins_4) <| oy hS (y_load oH underlying3 rfl rfl) <| oy hS y_bin <| oy hS y_assign <| n_thenN ?_
   obtain rfl := osi hF
   exact wp_ret (wr1 hS)
 replace hF := bf c23 hF
 refine wp_skip <| c_seq ?_
 refine c_quiet (by kernel_rfl) (by kernel_rfl) hS ?_
 refine qy (y_field fa_api_Ins_4) <| qy (y_load (fun w hS => hS.own (mH)) underlying3 rfl rfl) <| qy y_move ?_
 refine q_callS func143 rfl rfl (hc := (w_isa_Bits (a0 := a1))) (h := ?_)
 obtain ⟨r24, I0, hF⟩ := ob hF
 refine q_callS func144 rfl rfl (hc := (w_word_Within (a0 := a0.Imm) (a1 := (isa_Bits a1)) (hF := I0))) (h := ?_)
 refine qy y_assign ?_
 refine q_nilN (h := ?_)
 clear hS; intro w hS
 obtain rfl := osi hF
 exact wp_ret (wr1 hS)
theorem w_isa_imm {g : Frag} {a0 : T_Ins} {a1 : Int} {r : Bool}  (hF : isa_imm a0 a1 = some r) : LCs Tryz.prog 118 #[.agg (enc_Ins a0).toArray, .int .i64 a1] g (.bool r) := w_isa_imm_  hF

noncomputable def isa_IsIns (a0 : T_Ins) : Option Bool :=
  bif !(isa_Is a0.Op) then some (false) else bif (isa_reg (isa_HasD (isa_Shape a0.Op)) a0.D) then bif (isa_reg (isa_HasA (isa_Shape a0.Op)) a0.A) then bif (isa_reg (isa_HasB (isa_Shape a0.Op)) a0.B) then (isa_imm a0 (isa_Shape a0.Op)).bind fun r6 => some (r6) else some (false) else some (false) else some (false)
theorem w_isa_IsIns_ {g : Frag} {a0 : T_Ins} {r : Bool}  (hF : isa_IsIns a0 = some r) : LCs Tryz.prog 77 #[.agg (enc_Ins a0).toArray] g (.bool r) := by
 unfold isa_IsIns at hF
 refine lc_body (k := 35) (av := [.agg (enc_Ins a0).toArray]) func77 rfl rfl (h := fun W hS => ?_)
 refine c_seq <| c_region ?_
 refine o_boxP (cl := (enc_Ins a0)) rfl hS ?_
 clear hS; intro b1 w hS
 refine oy hS y_assign <| n_thenN ?_
 iterate 2 (refine c_seq ?_)
 refine c_region <| oy hS (y_field fa_api_Ins_0) <| oy hS (y_load oH underlying3 rfl rfl) ?_
 refine o_callS hS func114 rfl rfl (hc := (w_isa_Is (a0 := a0.Op))) (h := ?_)
 clear hS; intro w hS
 refine oy hS y_not <| n_thenN ?_
 refine c_if (ht := fun c2 => ?_) (hf := fun c2 => ?_)
 · replace hF := bt c2 hF
   refine c_seq <| c_region <| oy hS y_assign <| n_thenN ?_
   obtain rfl := osi hF
   exact wp_ret (wr1 hS)
 replace hF := bf c2 hF
 refine wp_skip <| c_seq <| c_region <| oy hS (y_field fa_api_Ins_0) <| oy hS (y_load oH underlying3 rfl rfl) ?_
 refine o_callS hS func62 rfl rfl (hc := (w_isa_Shape (a0 := a0.Op))) (h := ?_)
 clear hS; intro w hS
 refine oy hS y_assign <| n_thenN <| c_seq ?_
 refine c_quiet (by kernel_rfl) (by kernel_rfl) hS ?_
 refine qy y_move ?_
 refine q_callS func61 rfl rfl (hc := (w_isa_HasD (a0 := (isa_Shape a0.Op)))) (h := ?_)
 refine qy (y_field fa_api_Ins_1) <| qy (y_load (fun w hS => hS.own (mH)) underlying3 rfl rfl) ?_
 refine q_callS func115 rfl rfl (hc := (w_isa_reg (a0 := (isa_HasD (isa_Shape a0.Op))) (a1 := a0.D))) (h := ?_)
 refine q_split (ht := fun c3 => ?_) (hf := fun c3 => ?_)
 · replace hF := bt c3 hF
   refine q_gu rfl rfl rfl ?_
   refine qy y_move ?_
   refine q_gu rfl rfl rfl ?_
   refine q_callS func116 rfl rfl (hc := (w_isa_HasA (a0 := (isa_Shape a0.Op)))) (h := ?_)
   refine q_gu rfl rfl rfl ?_
   refine qy (y_field fa_api_Ins_2) ?_
   refine q_gu rfl rfl rfl ?_
   refine qy (y_load (fun w hS => hS.own (mH)) underlying3 rfl rfl) ?_
   refine q_gu rfl rfl rfl ?_
   refine q_callS func115 rfl rfl (hc := (w_isa_reg (a0 := (isa_HasA (isa_Shape a0.Op))) (a1 := a0.A))) (h := ?_)
   refine qy y_pickT ?_
   refine q_split (ht := fun c4 => ?_) (hf := fun c4 => ?_)
   · replace hF := bt c4 hF
     refine q_gu rfl rfl rfl ?_
     refine qy y_move ?_
     refine q_gu rfl rfl rfl ?_
     refine q_callS func117 rfl rfl (hc := (w_isa_HasB (a0 := (isa_Shape a0.Op)))) (h := ?_)
     refine q_gu rfl rfl rfl ?_
     refine qy (y_field fa_api_Ins_3) ?_
     refine q_gu rfl rfl rfl ?_
     refine qy (y_load (fun w hS => hS.own (mH)) underlying3 rfl rfl) ?_
     refine q_gu rfl rfl rfl ?_
     refine q_callS func115 rfl rfl (hc := (w_isa_reg (a0 := (isa_HasB (isa_Shape a0.Op))) (a1 := a0.B))) (h := ?_)
     refine qy y_pickT ?_
     refine q_split (ht := fun c5 => ?_) (hf := fun c5 => ?_)
     · replace hF := bt c5 hF
       refine q_gu rfl rfl rfl ?_
       refine qy (y_loadW (fun w hS => hS.own (mH)) underlying81 rfl (by exact sz_api_Ins)) ?_
       refine q_gu rfl rfl rfl ?_
       refine qy y_move ?_
       refine q_gu rfl rfl rfl ?_
       obtain ⟨r6, hr6, hF⟩ := ob hF
       refine q_callS func118 rfl rfl (hc := (w_isa_imm (a0 := a0) (a1 := (isa_Shape a0.Op)) (hF := hr6))) (h := ?_)
       refine qy y_pickT <| qy y_assign ?_
       refine q_nilN (h := ?_)
       clear hS; intro w hS
       obtain rfl := osi hF
       exact wp_ret (wr1 hS)
     replace hF := bf c5 hF
     iterate 3 (refine q_sk rfl rfl ?_)
     refine qy y_pickF <| qy y_assign ?_
     refine q_nilN (h := ?_)
     clear hS; intro w hS
     obtain rfl := osi hF
     exact wp_ret (wr1 hS)
   replace hF := bf c4 hF
   iterate 5 (refine q_sk rfl rfl ?_)
   refine qy y_pickF <| qy y_move ?_
   iterate 3 (refine q_sk rfl rfl ?_)
   refine qy y_pickF <| qy y_assign ?_
   refine q_nilN (h := ?_)
   clear hS; intro w hS
   obtain rfl := osi hF
   exact wp_ret (wr1 hS)
 replace hF := bf c3 hF
 iterate 5 (refine q_sk rfl rfl ?_)
 refine qy y_pickF <| qy y_move ?_
 iterate 5 (refine q_sk rfl rfl ?_)
 refine qy y_pickF <| qy y_move ?_
 iterate 3 (refine q_sk rfl rfl ?_)
 refine qy y_pickF <| qy y_assign ?_
 refine q_nilN (h := ?_)
 clear hS; intro w hS
 obtain rfl := osi hF
 exact wp_ret (wr1 hS)
theorem w_isa_IsIns {g : Frag} {a0 : T_Ins} {r : Bool}  (hF : isa_IsIns a0 = some r) : LCs Tryz.prog 77 #[.agg (enc_Ins a0).toArray] g (.bool r) := w_isa_IsIns_  hF

def isa_Ends (a0 : Int) : Bool :=
  bif decide (28 ≤ a0) then decide (a0 ≤ 33) else false
theorem w_isa_Ends_ {g : Frag} {a0 : Int} {r : Bool}  (hF : isa_Ends a0 = r) : LCs Tryz.prog 125 #[.int .i64 a0] g (.bool r) := by
 unfold isa_Ends at hF
 refine lc_body (k := 9) (av := [.int .i64 a0]) func125 rfl rfl (h := fun W hS => ?_)
 refine c_seq <| c_region <| oy hS y_assign <| n_thenN <| c_seq <| c_region <| oy hS y_move <| oy hS y_bin ?_
 refine o_split (ht := fun c1 => ?_) (hf := fun c1 => ?_)
 · replace hF := bt c1 hF
   refine o_gu rfl rfl rfl <| oy hS y_move <| o_gu rfl rfl rfl <| oy hS y_bin <| oy hS y_pickT <| oy hS y_assign <| n_thenN ?_
   subst hF
   exact wp_ret (wr1 hS)
 replace hF := bf c1 hF
 iterate 2 (refine o_sk rfl rfl ?_)
 refine oy hS y_pickF <| oy hS y_assign <| n_thenN ?_
 subst hF
 exact wp_ret (wr1 hS)
theorem w_isa_Ends {g : Frag} {a0 : Int}  : LCs Tryz.prog 125 #[.int .i64 a0] g (.bool (isa_Ends a0)) := w_isa_Ends_  rfl

def isa_May (a0 : Int) (a1 : Int) : Bool :=
  bif !(isa_Is a0) then false else bif decide (a1 < 0) then false else bif decide (3 < a1) then false else bif decide (a0 = 0) then true else bif decide (a0 = 14) then decide (a1 = 3) else bif decide (a0 = 15) then decide (a1 = 3) else bif decide (a0 = 16) then decide (a1 = 3) else bif decide (a0 = 17) then decide (a1 = 3) else bif decide (a0 = 20) then decide (a1 = 3) else bif decide (a0 = 18) then decide (a1 = 1) else bif decide (a0 = 19) then decide (a1 = 1) else bif decide (a0 = 21) then decide (a1 = 1) else bif decide (a0 = 24) then decide (a1 = 2) else bif decide (a0 = 25) then decide (a1 = 2) else bif decide (a0 = 26) then decide (a1 = 2) else bif decide (a0 = 27) then decide (a1 = 2) else bif decide (a1 = 0) then true else bif decide (a1 = 1) then !(isa_Ends a0) else false
theorem w_isa_May_ {g : Frag} {a0 : Int} {a1 : Int} {r : Bool}  (hF : isa_May a0 a1 = r) : LCs Tryz.prog 128 #[.int .i64 a0, .int .i64 a1] g (.bool r) := by
 unfold isa_May at hF
 refine lc_body (k := 51) (av := [.int .i64 a0, .int .i64 a1]) func128 rfl rfl (h := fun W hS => ?_)
 refine c_seq <| c_region <| oy hS y_assign <| n_thenN ?_
 iterate 2 (refine c_seq ?_)
 refine c_region <| oy hS y_move ?_
 refine o_callS hS func114 rfl rfl (hc := (w_isa_Is (a0 := a0))) (h := ?_)
 clear hS; intro w hS
 refine oy hS y_not ?_
 refine o_split (ht := fun c1 => ?_) (hf := fun c1 => ?_)
 · replace hF := bt c1 hF
   iterate 2 (refine o_sk rfl rfl ?_)
   refine oy hS y_pickT <| oy hS y_move ?_
   iterate 2 (refine o_sk rfl rfl ?_)
   refine oy hS y_pickT <| n_thenN ?_
   refine c_if_true (h := ?_)
   refine c_seq <| c_region <| oy hS y_assign <| n_thenN ?_
   subst hF
   exact wp_ret (wr1 hS)
 replace hF := bf c1 hF
 refine o_gu rfl rfl rfl <| oy hS y_move <| o_gu rfl rfl rfl <| oy hS y_bin <| oy hS y_pickF ?_
 refine o_split (ht := fun c2 => ?_) (hf := fun c2 => ?_)
 · replace hF := bt c2 hF
   iterate 2 (refine o_sk rfl rfl ?_)
   refine oy hS y_pickT <| n_thenN ?_
   refine c_if_true (h := ?_)
   refine c_seq <| c_region <| oy hS y_assign <| n_thenN ?_
   subst hF
   exact wp_ret (wr1 hS)
 replace hF := bf c2 hF
 refine o_gu rfl rfl rfl <| oy hS y_move <| o_gu rfl rfl rfl <| oy hS y_bin <| oy hS y_pickF <| n_thenN ?_
 refine c_if (ht := fun c3 => ?_) (hf := fun c3 => ?_)
 · replace hF := bt c3 hF
   refine c_seq <| c_region <| oy hS y_assign <| n_thenN ?_
   subst hF
   exact wp_ret (wr1 hS)
 replace hF := bf c3 hF
 refine wp_skip ?_
 iterate 2 (refine c_seq ?_)
 refine c_region <| oy hS y_move <| n_thenN <| c_block <| c_seq <| c_region <| oy hS y_bin <| oy hS y_assign ?_
 refine n_thenN ?_
 refine c_if (ht := fun c4 => ?_) (hf := fun c4 => ?_)
 · replace hF := bt c4 hF
   refine c_seq <| c_region <| oy hS y_assign <| n_thenN ?_
   subst hF
   exact wp_ret (wr1 hS)
 replace hF := bf c4 hF
 iterate 2 (refine c_seq ?_)
 refine c_region <| oy hS y_bin <| oy hS y_assign <| n_thenN ?_
 refine c_if (ht := fun c5 => ?_) (hf := fun c5 => ?_)
 · replace hF := bt c5 hF
   refine wp_skip ?_
   refine c_ifT c5 ?_
   refine c_seq <| c_region <| oy hS y_move <| oy hS y_bin <| oy hS y_assign <| n_thenN ?_
   subst hF
   exact wp_ret (wr1 hS)
 replace hF := bf c5 hF
 refine c_seq <| c_region <| oy hS y_bin <| oy hS y_assign <| n_thenN ?_
 refine c_if (ht := fun c6 => ?_) (hf := fun c6 => ?_)
 · replace hF := bt c6 hF
   refine wp_skip ?_
   refine c_ifT c6 ?_
   refine c_seq <| c_region <| oy hS y_move <| oy hS y_bin <| oy hS y_assign <| n_thenN ?_
   subst hF
   exact wp_ret (wr1 hS)
 replace hF := bf c6 hF
 refine c_seq <| c_region <| oy hS y_bin <| oy hS y_assign <| n_thenN ?_
 refine c_if (ht := fun c7 => ?_) (hf := fun c7 => ?_)
 · replace hF := bt c7 hF
   refine wp_skip ?_
   refine c_ifT c7 ?_
   refine c_seq <| c_region <| oy hS y_move <| oy hS y_bin <| oy hS y_assign <| n_thenN ?_
   subst hF
   exact wp_ret (wr1 hS)
 replace hF := bf c7 hF
 refine c_seq <| c_region <| oy hS y_bin <| oy hS y_assign <| n_thenN ?_
 refine c_if (ht := fun c8 => ?_) (hf := fun c8 => ?_)
 · replace hF := bt c8 hF
   refine wp_skip ?_
   refine c_ifT c8 ?_
   refine c_seq <| c_region <| oy hS y_move <| oy hS y_bin <| oy hS y_assign <| n_thenN ?_
   subst hF
   exact wp_ret (wr1 hS)
 replace hF := bf c8 hF
 refine c_region <| oy hS y_bin <| oy hS y_assign <| n_thenN ?_
 refine c_if (ht := fun c9 => ?_) (hf := fun c9 => ?_)
 · replace hF := bt c9 hF
   refine c_seq <| c_region <| oy hS y_move <| oy hS y_bin <| oy hS y_assign <| n_thenN ?_
   subst hF
   exact wp_ret (wr1 hS)
 replace hF := bf c9 hF
 iterate 2 (refine c_seq ?_)
 refine c_region <| oy hS y_bin <| oy hS y_assign <| n_thenN ?_
 refine c_if (ht := fun c10 => ?_) (hf := fun c10 => ?_)
 · replace hF := bt c10 hF
   refine wp_skip ?_
   refine c_ifT c10 ?_
   refine c_seq <| c_region <| oy hS y_move <| oy hS y_bin <| oy hS y_assign <| n_thenN ?_
   subst hF
   exact wp_ret (wr1 hS)
 replace hF := bf c10 hF
 refine c_seq <| c_region <| oy hS y_bin <| oy hS y_assign <| n_thenN ?_
 refine c_if (ht := fun c11 => ?_) (hf := fun c11 => ?_)
 · replace hF := bt c11 hF
   refine wp_skip ?_
   refine c_ifT c11 ?_
   refine c_seq <| c_region <| oy hS y_move <| oy hS y_bin <| oy hS y_assign <| n_thenN ?_
   subst hF
   exact wp_ret (wr1 hS)
 replace hF := bf c11 hF
 refine c_region <| oy hS y_bin <| oy hS y_assign <| n_thenN ?_
 refine c_if (ht := fun c12 => ?_) (hf := fun c12 => ?_)
 · replace hF := bt c12 hF
   refine c_seq <| c_region <| oy hS y_move <| oy hS y_bin <| oy hS y_assign <| n_thenN ?_
   subst hF
   exact wp_ret (wr1 hS)
 replace hF := bf c12 hF
 iterate 2 (refine c_seq ?_)
 refine c_region <| oy hS y_bin <| oy hS y_assign <| n_thenN ?_
 refine c_if (ht := fun c13 => ?_) (hf := fun c13 => ?_)
 · replace hF := bt c13 hF
   refine wp_skip ?_
   refine c_ifT c13 ?_
   refine c_seq <| c_region <| oy hS y_move <| oy hS y_bin <| oy hS y_assign <| n_thenN ?_
   subst hF
   exact wp_ret (wr1 hS)
 replace hF := bf c13 hF
 refine c_seq <| c_region <| oy hS y_bin <| oy hS y_assign <| n_thenN ?_
 refine c_if (ht := fun c14 => ?_) (hf := fun c14 => ?_)
 · replace hF := bt c14 hF
   refine wp_skip ?_
   refine c_ifT c14 ?_
   refine c_seq <| c_region <| oy hS y_move <| oy hS y_bin <| oy hS y_assign <| n_thenN ?_
   subst hF
   exact wp_ret (wr1 hS)
 replace hF := bf c14 hF
 refine c_seq <| c_region <| oy hS y_bin <| oy hS y_assign <| n_thenN ?_
 refine c_if (ht := fun c15 => ?_) (hf := fun c15 => ?_)
 · replace hF := bt c15 hF
   refine wp_skip ?_
   refine c_ifT c15 ?_
   refine c_seq <| c_region <| oy hS y_move <| oy hS y_bin <| oy hS y_assign <| n_thenN ?_
   subst hF
   exact wp_ret (wr1 hS)
 replace hF := bf c15 hF
 refine c_region <| oy hS y_bin <| oy hS y_assign <| n_thenN ?_
 refine c_if (ht := fun c16 => ?_) (hf := fun c16 => ?_)
 · replace hF := bt c16 hF
   refine c_seq <| c_region <| oy hS y_move <| oy hS y_bin <| oy hS y_assign <| n_thenN ?_
   subst hF
   exact wp_ret (wr1 hS)
 replace hF := bf c16 hF
 refine wp_skip <| c_seq <| c_region <| oy hS y_move <| oy hS y_bin ?_
 refine o_split (ht := fun c17 => ?_) (hf := fun c17 => ?_)
 · replace hF := bt c17 hF
   iterate 3 (refine o_sk rfl rfl ?_)
   iterate 3 (refine o_sku rfl rfl ?_)
   refine o_sk rfl rfl ?_
   refine oy hS y_pickT <| oy hS y_assign <| n_thenN ?_
   subst hF
   exact wp_ret (wr1 hS)
 replace hF := bf c17 hF
 refine o_gu rfl rfl rfl <| oy hS y_move <| o_gu rfl rfl rfl <| oy hS y_bin <| o_gu rfl rfl rfl ?_
 refine o_split (ht := fun c18 => ?_) (hf := fun c18 => ?_)
 · replace hF := bt c18 hF
   refine o_gu rfl rfl rfl <| oy hS y_move <| o_gu rfl rfl rfl ?_
   refine o_callS hS func125 rfl rfl (hc := (w_isa_Ends (a0 := a0))) (h := ?_)
   clear hS; intro w hS
   refine o_gu rfl rfl rfl <| oy hS y_not <| o_gu rfl rfl rfl <| oy hS y_pickT <| oy hS y_pickF <| oy hS y_assign <| n_thenN ?_
   subst hF
   exact wp_ret (wr1 hS)
 replace hF := bf c18 hF
 iterate 3 (refine o_sk rfl rfl ?_)
 refine o_gu rfl rfl rfl ?_
 iterate 2 (refine oy hS y_pickF ?_)
 refine oy hS y_assign <| n_thenN ?_
 subst hF
 exact wp_ret (wr1 hS)
theorem w_isa_May {g : Frag} {a0 : Int} {a1 : Int}  : LCs Tryz.prog 128 #[.int .i64 a0, .int .i64 a1] g (.bool (isa_May a0 a1)) := w_isa_May_  rfl

noncomputable def bits_IsBundle_b1 (a0 : (A4 T_Ins)) : Int → Option (Step Int Bool) := fun x7 => bif decide (x7 < 4) then (at' [a0.x0, a0.x1, a0.x2, a0.x3] x7).bind fun x19 => (isa_IsIns x19).bind fun r21 => bif !r21 then some (.done (false)) else bif !(isa_May x19.Op x7) then some (.done (false)) else some (.next (IntKind.i64.wrap (x7 + 1))) else some (.done (true))
noncomputable def bits_IsBundle (a0 : (A4 T_Ins)) : Option Bool :=
  loop (σ := Int) (bits_IsBundle_b1 a0) 0
theorem w_bits_IsBundle_ {g : Frag} {a0 : (A4 T_Ins)} {r : Bool}  (hF : bits_IsBundle a0 = some r) : LCs Tryz.prog 99 #[.agg (enc_Bundle a0).toArray] g (.bool r) := by
 unfold bits_IsBundle at hF
 refine lc_body (k := 21) (av := [.agg (enc_Bundle a0).toArray]) func99 rfl rfl (h := fun W hS => ?_)
 refine c_seq <| c_region ?_
 refine o_boxP (cl := (enc_Bundle a0)) rfl hS ?_
 clear hS; intro b1 w hS
 refine oy hS y_assign <| n_thenN ?_
 iterate 2 (refine c_seq ?_)
 refine c_region ?_
 refine oy hS (y_loadW oH underlying83 rfl (by exact sz_api_Bundle)) ?_
 refine oy hS y_move <| n_thenN <| c_block ?_
 refine c_loopP hF (fun (q : Int) a w' => (∃ s : Nat → Value, a = Ac (((Fm.dead 21 s).upd 5 (.agg (enc_Bundle a0).toArray)).upd 6 (.int .i64 q))) ∧ St W g [] [] w') ⟨mk_exF, (hS.re (.n))⟩ ?_
 clear hS hF
 intro n16 q a w hI hq
 revert hq hI; revert q; intro x7 hI hq
 obtain ⟨⟨s17, rfl⟩, hS⟩ := hq
 obtain ⟨z14, hF, B0⟩ := iter_step hI
 clear hI
 dsimp only [bits_IsBundle_b1] at hF
 refine c_seq <| c_region <| oy hS y_bin <| n_thenN <| c_seq ?_
 refine c_if (ht := fun c18 => ?_) (hf := fun c18 => ?_)
 · replace hF := bt c18 hF
   refine wp_skip <| c_seq <| c_block <| c_seq <| c_region <| oy hS y_move ?_
   obtain ⟨x19, D0, hF⟩ := ob hF
   refine oy hS (y_ixA (enc := enc_Ins) D0 enc_len_Ins underlying83 rfl underlying81 rfl (by exact sz_api_Ins)) ?_
   refine o_allocP (cl := (enc_Ins ⟨0, 0, 0, 0, 0, ByteArray.empty⟩)) zr_api_Ins rfl hS ?_
   clear hS; intro b20 w hS
   refine oy hS y_assign ?_
   refine o_storeW (vs := (enc_Ins x19)) hS (by exact rfl) (Upd.here _) (by exact sz_api_Ins) (enc_one_Ins _) ?_
   clear hS; intro w hS
   refine n_thenN <| c_seq <| c_region ?_
   refine oy hS (y_loadW oH underlying81 rfl (by exact sz_api_Ins)) ?_
   obtain ⟨r21, E0, hF⟩ := ob hF
   refine o_callS hS func77 rfl rfl (hc := (w_isa_IsIns (a0 := x19) (hF := E0))) (h := ?_)
   clear hS; intro w hS
   refine oy hS y_not ?_
   refine o_split (ht := fun c22 => ?_) (hf := fun c22 => ?_)
   · replace hF := bt c22 hF
     iterate 5 (refine o_sk rfl rfl ?_)
     refine oy hS y_pickT <| n_thenN ?_
     refine c_if_true (h := ?_)
     refine c_seq <| c_region <| oy hS y_assign <| n_thenN ?_
     obtain rfl := osi hF
     obtain rfl : _ = r := B0
     exact wp_ret (wr1 hS)
   replace hF := bf c22 hF
   refine o_gu rfl rfl rfl <| oy hS (y_field fa_api_Ins_0) <| o_gu rfl rfl rfl <| oy hS (y_load oH underlying3 rfl rfl) <| o_gu rfl rfl rfl <| oy hS y_move <| o_gu rfl rfl rfl ?_
   refine o_callS hS func128 rfl rfl (hc := (w_isa_May (a0 := x19.Op) (a1 := x7))) (h := ?_)
   clear hS; intro w hS
   refine o_gu rfl rfl rfl <| oy hS y_not <| oy hS y_pickF <| n_thenN ?_
   refine c_if (ht := fun c23 => ?_) (hf := fun c23 => ?_)
   · replace hF := bt c23 hF
     refine c_seq <| c_region <| oy hS y_assign <| n_thenN ?_
     obtain rfl := osi hF
     obtain rfl : _ = r := B0
     exact wp_ret (wr1 hS)
   replace hF := bf c23 hF
   refine wp_skip <| c_region <| oy hS y_bin <| oy hS y_move <| n_thenN ?_
   obtain rfl := osi hF
   exact ⟨_, B0, mk_exF, (hS.re (.n))⟩
 replace hF := bf c18 hF
 refine wp_exit ?_
 refine c_seq <| c_region <| oy hS y_assign <| n_thenN ?_
 obtain rfl := osi hF
 obtain rfl : _ = r := B0
 exact wp_ret (wr1 hS)
theorem w_bits_IsBundle {g : Frag} {a0 : (A4 T_Ins)} {r : Bool}  (hF : bits_IsBundle a0 = some r) : LCs Tryz.prog 99 #[.agg (enc_Bundle a0).toArray] g (.bool r) := w_bits_IsBundle_  hF

noncomputable def bits_Bare_b1 (a0 : (A4 T_Ins)) : Int → Option (Step Int Bool) := fun x5 => bif decide (x5 < 4) then (at' [a0.x0, a0.x1, a0.x2, a0.x3] x5).bind fun x15 => bif !(decide (x15.Sym = (ByteArray.mk #[]))) then some (.done (false)) else some (.next (IntKind.i64.wrap (x5 + 1))) else some (.done (true))
noncomputable def bits_Bare (a0 : (A4 T_Ins)) : Option Bool :=
  loop (σ := Int) (bits_Bare_b1 a0) 0
theorem w_bits_Bare_ {g : Frag} {a0 : (A4 T_Ins)} {r : Bool}  (hF : bits_Bare a0 = some r) : LCs Tryz.prog 100 #[.agg (enc_Bundle a0).toArray] g (.bool r) := by
 unfold bits_Bare at hF
 refine lc_body (k := 13) (av := [.agg (enc_Bundle a0).toArray]) func100 rfl rfl (h := fun W hS => ?_)
 refine c_seq <| c_region ?_
 refine o_boxP (cl := (enc_Bundle a0)) rfl hS ?_
 clear hS; intro b1 w hS
 refine oy hS y_assign <| n_thenN ?_
 iterate 2 (refine c_seq ?_)
 refine c_region ?_
 refine oy hS (y_loadW oH underlying83 rfl (by exact sz_api_Bundle)) ?_
 refine oy hS y_move <| n_thenN <| c_block ?_
 refine c_loopP hF (fun (q : Int) a w' => (∃ s : Nat → Value, a = Ac (((Fm.dead 13 s).upd 5 (.agg (enc_Bundle a0).toArray)).upd 6 (.int .i64 q))) ∧ St W g [] [] w') ⟨mk_exF, (hS.re (.n))⟩ ?_
 clear hS hF
 intro n12 q a w hI hq
 revert hq hI; revert q; intro x5 hI hq
 obtain ⟨⟨s13, rfl⟩, hS⟩ := hq
 obtain ⟨z10, hF, B0⟩ := iter_step hI
 clear hI
 dsimp only [bits_Bare_b1] at hF
 refine c_seq <| c_region <| oy hS y_bin <| n_thenN <| c_seq ?_
 refine c_if (ht := fun c14 => ?_) (hf := fun c14 => ?_)
 · replace hF := bt c14 hF
   refine wp_skip <| c_seq <| c_block <| c_seq <| c_region ?_
   obtain ⟨x15, D0, hF⟩ := ob hF
   refine oy hS (y_ixA (enc := enc_Ins) D0 enc_len_Ins underlying83 rfl underlying81 rfl (by exact sz_api_Ins)) ?_
   refine o_allocP (cl := (enc_Ins ⟨0, 0, 0, 0, 0, ByteArray.empty⟩)) zr_api_Ins rfl hS ?_
   clear hS; intro b16 w hS
   refine o_storeW (vs := (enc_Ins x15)) hS (by exact rfl) (Upd.here _) (by exact sz_api_Ins) (enc_one_Ins _) ?_
   clear hS; intro w hS
   refine n_thenN <| c_seq <| c_region <| oy hS (y_field fa_api_Ins_5) <| oy hS (y_load oH underlying9 rfl rfl) <| oy hS y_sneq <| n_thenN ?_
   refine c_if (ht := fun c17 => ?_) (hf := fun c17 => ?_)
   · replace hF := bt c17 hF
     refine c_seq <| c_region <| oy hS y_assign <| n_thenN ?_
     obtain rfl := osi hF
     obtain rfl : _ = r := B0
     exact wp_ret (wr1 hS)
   replace hF := bf c17 hF
   refine wp_skip <| c_region <| oy hS y_bin <| oy hS y_move <| n_thenN ?_
   obtain rfl := osi hF
   exact ⟨_, B0, mk_exF, (hS.re (.n))⟩
 replace hF := bf c14 hF
 refine wp_exit ?_
 refine c_seq <| c_region <| oy hS y_assign <| n_thenN ?_
 obtain rfl := osi hF
 obtain rfl : _ = r := B0
 exact wp_ret (wr1 hS)
theorem w_bits_Bare {g : Frag} {a0 : (A4 T_Ins)} {r : Bool}  (hF : bits_Bare a0 = some r) : LCs Tryz.prog 100 #[.agg (enc_Bundle a0).toArray] g (.bool r) := w_bits_Bare_  hF

noncomputable def pipe_Code_1 (a0 : (A4 T_Ins)) : Option Bool :=
  (bits_IsBundle a0).bind fun r2 => bif !r2 then some (true) else (bits_Bare a0).bind fun r4 => some (!r4)
theorem w_pipe_Code_1_ {g : Frag} {a0 : (A4 T_Ins)} {r : Bool}  (hF : pipe_Code_1 a0 = some r) : LCs Tryz.prog 98 #[.agg (enc_Bundle a0).toArray] g (.bool r) := by
 unfold pipe_Code_1 at hF
 refine lc_body (k := 11) (av := [.agg (enc_Bundle a0).toArray]) func98 rfl rfl (h := fun W hS => ?_)
 refine c_seq <| c_region ?_
 refine o_boxP (cl := (enc_Bundle a0)) rfl hS ?_
 clear hS; intro b1 w hS
 refine oy hS y_assign <| n_thenN <| c_seq <| c_region ?_
 refine oy hS (y_loadW oH underlying83 rfl (by exact sz_api_Bundle)) ?_
 obtain ⟨r2, hr2, hF⟩ := ob hF
 refine o_callS hS func99 rfl rfl (hc := (w_bits_IsBundle (a0 := a0) (hF := hr2))) (h := ?_)
 clear hS; intro w hS
 refine oy hS y_not ?_
 refine o_split (ht := fun c3 => ?_) (hf := fun c3 => ?_)
 · replace hF := bt c3 hF
   iterate 3 (refine o_sk rfl rfl ?_)
   refine oy hS y_pickT <| oy hS y_assign <| n_thenN ?_
   obtain rfl := osi hF
   exact wp_ret (wr1 hS)
 replace hF := bf c3 hF
 refine o_gu rfl rfl rfl ?_
 refine oy hS (y_loadW oH underlying83 rfl (by exact sz_api_Bundle)) ?_
 refine o_gu rfl rfl rfl ?_
 obtain ⟨r4, hr4, hF⟩ := ob hF
 refine o_callS hS func100 rfl rfl (hc := (w_bits_Bare (a0 := a0) (hF := hr4))) (h := ?_)
 clear hS; intro w hS
 refine o_gu rfl rfl rfl <| oy hS y_not <| oy hS y_pickF <| oy hS y_assign <| n_thenN ?_
 obtain rfl := osi hF
 exact wp_ret (wr1 hS)
theorem w_pipe_Code_1 {g : Frag} {a0 : (A4 T_Ins)} {r : Bool}  (hF : pipe_Code_1 a0 = some r) : LCs Tryz.prog 98 #[.agg (enc_Bundle a0).toArray] g (.bool r) := w_pipe_Code_1_  hF

noncomputable def slices_IndexFunc_api_Bundle_api_Bundle_pipe_Code_1_b1 (a0 : (List (A4 T_Ins))) : Int → Option (Step Int Int) := fun x16 => bif decide (x16 < (a0.length : Int)) then (at' a0 x16).bind fun x37 => (pipe_Code_1 x37).bind fun r49 => bif r49 then some (.done (x16)) else some (.next (IntKind.i64.wrap (x16 + 1))) else some (.done ((-1)))
noncomputable def slices_IndexFunc_api_Bundle_api_Bundle_pipe_Code_1 (a0 : (List (A4 T_Ins))) : Option Int :=
  loop (σ := Int) (slices_IndexFunc_api_Bundle_api_Bundle_pipe_Code_1_b1 a0) 0
theorem w_slices_IndexFunc_api_Bundle_api_Bundle_pipe_Code_1_ {g : Frag} {a0 : (List (A4 T_Ins))} {v0_ : Value} {r : Int} (h0 : SlT g enc_Bundle 24 a0 v0_) (hF : slices_IndexFunc_api_Bundle_api_Bundle_pipe_Code_1 a0 = some r) : LCs Tryz.prog 129 #[v0_, .func (.func 98) #[] #[]] g (.int .i64 r) := by
 unfold slices_IndexFunc_api_Bundle_api_Bundle_pipe_Code_1 at hF
 refine lc_body (k := 19) (av := [v0_, .func (.func 98) #[] #[]]) func129 rfl rfl (h := fun W hS => ?_)
 refine c_seq <| c_region <| oy hS y_assign <| n_thenN ?_
 iterate 2 (refine c_seq ?_)
 refine c_region <| oy hS y_move <| oy hS (y_len h0 underlying38) <| oy hS y_move <| n_thenN <| c_block ?_
 refine c_loopP hF (fun (q : Int) a w' => (∃ s : Nat → Value, a = Ac (((((Fm.dead 19 s).upd 0 v0_).upd 1 (.func (.func 98) #[] #[])).upd 7 (.int .i64 (a0.length : Int))).upd 8 (.int .i64 q))) ∧ St W g [] [] w') ⟨mk_exF, (hS.re (.n))⟩ ?_
 clear hS hF
 intro n34 q a w hI hq
 revert hq hI; revert q; intro x16 hI hq
 obtain ⟨⟨s35, rfl⟩, hS⟩ := hq
 obtain ⟨z32, hF, B0⟩ := iter_step hI
 clear hI
 dsimp only [slices_IndexFunc_api_Bundle_api_Bundle_pipe_Code_1_b1] at hF
 refine c_seq <| c_region <| oy hS y_bin <| n_thenN <| c_seq ?_
 refine c_if (ht := fun c36 => ?_) (hf := fun c36 => ?_)
 · replace hF := bt c36 hF
   refine wp_skip <| c_seq <| c_block <| c_seq <| c_region <| oy hS y_move <| oy hS y_assign <| n_thenN ?_
   refine c_seq <| c_region ?_
   iterate 3 (refine oy hS y_move ?_)
   obtain ⟨x37, D0, hF⟩ := ob hF
   obtain ⟨b38, o39, c40, N0, e42, R0, E0, G0, I0, J0, K0⟩ := SlT.at D0 h0 enc_len_Bundle
   refine oy hS (y_index E0 G0 I0 underlying38 el_api_Bundle.size) ?_
   refine oy hS (y_loadN (vs := (enc_Bundle x37)) (fun w hS => hS.block J0) underlying83 rfl (by exact sz_api_Bundle) (fun j u hj => K0 j u hj)) ?_
   obtain ⟨r49, M0, hF⟩ := ob hF
   refine o_callVS2 hS func98 rfl rfl (hc := (w_pipe_Code_1 (a0 := x37) (hF := M0))) (h := ?_)
   clear hS; intro w hS
   refine n_thenN ?_
   refine c_if (ht := fun c50 => ?_) (hf := fun c50 => ?_)
   · replace hF := bt c50 hF
     refine c_seq <| c_region <| oy hS y_move <| oy hS y_assign <| n_thenN ?_
     obtain rfl := osi hF
     obtain rfl : _ = r := B0
     exact wp_ret (wr1 hS)
   replace hF := bf c50 hF
   refine wp_skip <| c_region <| oy hS y_bin <| oy hS y_move <| n_thenN ?_
   obtain rfl := osi hF
   exact ⟨_, B0, mk_exF, (hS.re (.n))⟩
 replace hF := bf c36 hF
 refine wp_exit ?_
 refine c_seq <| c_region <| oy hS y_assign <| n_thenN ?_
 obtain rfl := osi hF
 obtain rfl : _ = r := B0
 exact wp_ret (wr1 hS)
theorem w_slices_IndexFunc_api_Bundle_api_Bundle_pipe_Code_1 {g : Frag} {a0 : (List (A4 T_Ins))} {v0_ : Value} {r : Int} (h0 : SlT g enc_Bundle 24 a0 v0_) (hF : slices_IndexFunc_api_Bundle_api_Bundle_pipe_Code_1 a0 = some r) : LCs Tryz.prog 129 #[v0_, .func (.func 98) #[] #[]] g (.int .i64 r) := w_slices_IndexFunc_api_Bundle_api_Bundle_pipe_Code_1_ h0 hF

noncomputable def slices_ContainsFunc_api_Bundle_api_Bundle_pipe_Code_1 (a0 : (List (A4 T_Ins))) : Option Bool :=
  (slices_IndexFunc_api_Bundle_api_Bundle_pipe_Code_1 a0).bind fun r1 => some (decide (0 ≤ r1))
theorem w_slices_ContainsFunc_api_Bundle_api_Bundle_pipe_Code_1_ {g : Frag} {a0 : (List (A4 T_Ins))} {v0_ : Value} {r : Bool} (h0 : SlT g enc_Bundle 24 a0 v0_) (hF : slices_ContainsFunc_api_Bundle_api_Bundle_pipe_Code_1 a0 = some r) : LCs Tryz.prog 101 #[v0_, .func (.func 98) #[] #[]] g (.bool r) := by
 unfold slices_ContainsFunc_api_Bundle_api_Bundle_pipe_Code_1 at hF
 refine lc_body (k := 9) (av := [v0_, .func (.func 98) #[] #[]]) func101 rfl rfl (h := fun W hS => ?_)
 refine c_seq <| c_region <| oy hS y_assign <| n_thenN <| c_seq <| c_region ?_
 iterate 2 (refine oy hS y_move ?_)
 obtain ⟨r1, hr1, hF⟩ := ob hF
 refine o_callS hS func129 rfl rfl (hc := (w_slices_IndexFunc_api_Bundle_api_Bundle_pipe_Code_1 (a0 := a0) (h0 := h0.plus) (hF := hr1))) (h := ?_)
 clear hS; intro w hS
 refine oy hS y_bin <| oy hS y_assign <| n_thenN ?_
 obtain rfl := osi hF
 exact wp_ret (wr1 hS)
theorem w_slices_ContainsFunc_api_Bundle_api_Bundle_pipe_Code_1 {g : Frag} {a0 : (List (A4 T_Ins))} {v0_ : Value} {r : Bool} (h0 : SlT g enc_Bundle 24 a0 v0_) (hF : slices_ContainsFunc_api_Bundle_api_Bundle_pipe_Code_1 a0 = some r) : LCs Tryz.prog 101 #[v0_, .func (.func 98) #[] #[]] g (.bool r) := w_slices_ContainsFunc_api_Bundle_api_Bundle_pipe_Code_1_ h0 hF

noncomputable def pipe_Code (a0 : (List (A4 T_Ins))) : Option Bool :=
  bif decide ((a0.length : Int) ≤ 1024) then (slices_ContainsFunc_api_Bundle_api_Bundle_pipe_Code_1 a0).bind fun r2 => some (!r2) else some (false)
theorem w_pipe_Code_ {g : Frag} {a0 : (List (A4 T_Ins))} {v0_ : Value} {r : Bool} (h0 : SlT g enc_Bundle 24 a0 v0_) (hF : pipe_Code a0 = some r) : LCs Tryz.prog 56 #[v0_] g (.bool r) := by
 unfold pipe_Code at hF
 refine lc_body (k := 13) (av := [v0_]) func56 rfl rfl (h := fun W hS => ?_)
 refine c_seq <| c_region <| oy hS y_assign <| n_thenN <| c_seq <| c_region <| oy hS y_assign <| n_thenN ?_
 refine c_seq <| c_region <| oy hS y_move <| oy hS (y_len h0 underlying38) <| oy hS y_bin ?_
 refine o_split (ht := fun c1 => ?_) (hf := fun c1 => ?_)
 · replace hF := bt c1 hF
   refine o_gu rfl rfl rfl <| oy hS y_move <| o_gu rfl rfl rfl <| oy hS y_move <| o_gu rfl rfl rfl ?_
   obtain ⟨r2, hr2, hF⟩ := ob hF
   refine o_callS hS func101 rfl rfl (hc := (w_slices_ContainsFunc_api_Bundle_api_Bundle_pipe_Code_1 (a0 := a0) (h0 := h0.plus) (hF := hr2))) (h := ?_)
   clear hS; intro w hS
   refine o_gu rfl rfl rfl <| oy hS y_not <| oy hS y_pickT <| oy hS y_assign <| n_thenN ?_
   obtain rfl := osi hF
   exact wp_ret (wr1 hS)
 replace hF := bf c1 hF
 iterate 4 (refine o_sk rfl rfl ?_)
 refine oy hS y_pickF <| oy hS y_assign <| n_thenN ?_
 obtain rfl := osi hF
 exact wp_ret (wr1 hS)
theorem w_pipe_Code {g : Frag} {a0 : (List (A4 T_Ins))} {v0_ : Value} {r : Bool} (h0 : SlT g enc_Bundle 24 a0 v0_) (hF : pipe_Code a0 = some r) : LCs Tryz.prog 56 #[v0_] g (.bool r) := w_pipe_Code_ h0 hF

noncomputable def link_May (a0 : T_Image) : Option Bool :=
  (pipe_Code a0.Code).bind fun r2 => bif r2 then bif decide ((a0.Data.length : Int) ≤ 256) then bif decide (0 ≤ a0.Entry) then some (decide (a0.Entry ≤ (a0.Code.length : Int))) else some (false) else some (false) else some (false)
theorem w_link_May_ {g : Frag} {a0 : T_Image} {v0_ : Value} {r : Bool} (h0 : Rd_Image g a0 v0_) (hF : link_May a0 = some r) : LCs Tryz.prog 33 #[v0_] g (.bool r) := by
 obtain ⟨B0, D0, rfl, E0, G0⟩ := h0
 unfold link_May at hF
 refine lc_body (k := 25) (av := [.agg (cl_Image B0 D0 a0.Entry).toArray]) func33 rfl rfl (h := fun W hS => ?_)
 refine c_seq <| c_region ?_
 refine o_boxP (cl := (cl_Image B0 D0 a0.Entry)) rfl hS ?_
 clear hS; intro b1 w hS
 refine oy hS y_assign <| n_thenN <| c_seq <| c_region <| oy hS (y_field fa_api_Image_0) <| oy hS (y_load oH underlying38 rfl rfl) ?_
 obtain ⟨r2, hr2, hF⟩ := ob hF
 refine o_callS hS func56 rfl rfl (hc := (w_pipe_Code (a0 := a0.Code) (h0 := E0.plus) (hF := hr2))) (h := ?_)
 clear hS; intro w hS
 refine o_split (ht := fun c3 => ?_) (hf := fun c3 => ?_)
 · replace hF := bt c3 hF
   refine o_gu rfl rfl rfl <| oy hS (y_field fa_api_Image_1) <| o_gu rfl rfl rfl <| oy hS (y_load oH underlying31 rfl rfl) <| o_gu rfl rfl rfl <| oy hS (y_len G0 underlying31) <| o_gu rfl rfl rfl <| oy hS y_bin ?_
   refine oy hS y_pickT ?_
   refine o_split (ht := fun c4 => ?_) (hf := fun c4 => ?_)
   · replace hF := bt c4 hF
     refine o_gu rfl rfl rfl <| oy hS (y_field fa_api_Image_2) <| o_gu rfl rfl rfl <| oy hS (y_load oH underlying3 rfl rfl) <| o_gu rfl rfl rfl <| oy hS y_bin <| oy hS y_pickT ?_
     refine o_split (ht := fun c5 => ?_) (hf := fun c5 => ?_)
     · replace hF := bt c5 hF
       refine o_gu rfl rfl rfl <| oy hS (y_field fa_api_Image_2) <| o_gu rfl rfl rfl <| oy hS (y_load oH underlying3 rfl rfl) <| o_gu rfl rfl rfl <| oy hS (y_field fa_api_Image_0) <| o_gu rfl rfl rfl <| oy hS (y_load oH underlying38 rfl rfl) ?_
       refine o_gu rfl rfl rfl <| oy hS (y_len E0 underlying38) <| o_gu rfl rfl rfl <| oy hS y_bin <| oy hS y_pickT <| oy hS y_assign <| n_thenN ?_
       obtain rfl := osi hF
       exact wp_ret (wr1 hS)
     replace hF := bf c5 hF
     iterate 6 (refine o_sk rfl rfl ?_)
     refine oy hS y_pickF <| oy hS y_assign <| n_thenN ?_
     obtain rfl := osi hF
     exact wp_ret (wr1 hS)
   replace hF := bf c4 hF
   iterate 3 (refine o_sk rfl rfl ?_)
   refine oy hS y_pickF <| oy hS y_move ?_
   iterate 6 (refine o_sk rfl rfl ?_)
   refine oy hS y_pickF <| oy hS y_assign <| n_thenN ?_
   obtain rfl := osi hF
   exact wp_ret (wr1 hS)
 replace hF := bf c3 hF
 iterate 4 (refine o_sk rfl rfl ?_)
 refine oy hS y_pickF <| oy hS y_move ?_
 iterate 3 (refine o_sk rfl rfl ?_)
 refine oy hS y_pickF <| oy hS y_move ?_
 iterate 6 (refine o_sk rfl rfl ?_)
 refine oy hS y_pickF <| oy hS y_assign <| n_thenN ?_
 obtain rfl := osi hF
 exact wp_ret (wr1 hS)
theorem w_link_May {g : Frag} {a0 : T_Image} {v0_ : Value} {r : Bool} (h0 : Rd_Image g a0 v0_) (hF : link_May a0 = some r) : LCs Tryz.prog 33 #[v0_] g (.bool r) := w_link_May_ h0 hF

def slices_Clone_uint32 (a0 : List Int) : Option (List Int) := app' [] a0
theorem w_slices_Clone_uint32 {g : Frag} {a0 : List Int} {v0_ : Value} (h0 : SlT g enc_uint32 1 a0 v0_) {r : List Int} (hF : slices_Clone_uint32 a0 = some r) : LC Tryz.prog 58 #[v0_] g [] (fun v L => ∃ (u0 : Value) (M0 : Own), u0 = v ∧ L = (M0 ++ []) ∧ OwT 87 enc_uint32 1 r u0 M0) := by
  unfold slices_Clone_uint32 at hF
  refine lc_body (k := 8) (av := [v0_]) func58 rfl rfl (h := fun W hS => ?_)
  refine c_seq <| c_region <| oy hS y_assign ?_
  refine n_thenN (h := ?_)
  refine c_seq <| c_seq <| c_region <| oy hS y_move <| oy hS (y_nilsl h0 underlying31) ?_
  refine n_thenN (h := ?_)
  refine c_if (ht := fun c1 => ?_) (hf := fun c1 => ?_)
  · obtain rfl := isNil_nil h0 c1
    obtain ⟨_, rfl⟩ := app'_some hF
    refine c_seq <| c_region <| oy hS y_assign ?_
    refine n_thenN (h := ?_)
    refine wp_ret (r_ret (vs := [.slice none 0 0]) (L' := []) hS (show resAll _ _ _ [.tmp 2] _ from ⟨res_tmp, trivial⟩) rfl ⟨_, _, rfl, rfl, OwT.nil _ _ _⟩)
  · refine wp_skip ?_
    try change Code.wp _ _ _ _ _
    refine c_seq <| c_region ?_
    refine o_buildT val_uint32 ([] : List Int) hS el_uint32 (fun _ => rfl) enc_len_uint32 (by decide) rfl (by decide) (hp := rfl) (h := ?_)
    clear hS; intro b5 w hS h6
    refine oy hS y_move ?_
    refine o_appPs (LX := [(b5, blk (([] : List Int).flatMap enc_uint32) 87)]) hF hS el_uint32 h6 h0.plus (enc_ones_uint32 _) (by decide) ?_
    clear hS; intro v7 LX7 w h7 hS
    refine oy hS y_assign ?_
    refine n_thenN (h := ?_)
    refine wp_ret (r_ret (vs := [v7]) (L' := (LX7 ++ [])) hS (show resAll _ _ _ [.tmp 2] _ from ⟨res_tmp, trivial⟩) rfl ⟨_, _, rfl, rfl, h7⟩)

noncomputable def seq_New (a0 : (List Int)) : Option (T_State × Int) :=
  bif decide (100 < (a0.length : Int)) then some ((⟨[], [], [], 0, [], 0, [], 0, [], 0, 0⟩ : T_State), 1) else (make' 16 (0 : Int)).bind fun zs3 => (make' 256 (0 : Int)).bind fun zs8 => (slices_Clone_uint32 a0).bind fun r13 => some ((⟨zs3, zs8, r13, 0, [], 0, [], 0, [], 0, 0⟩ : T_State), 0)
theorem w_seq_New_ {g : Frag} {a0 : (List Int)} {v0_ : Value} {r : (T_State × Int)} (h0 : SlT g enc_uint32 1 a0 v0_) (hF : seq_New a0 = some r) : LC Tryz.prog 57 #[v0_] g [] (fun v L => ∃ (u0 : Value) (M0 : Own), v = .tuple #[u0, .int .i64 r.2] ∧ L = (M0 ++ []) ∧ Ow_State r.1 u0 M0) := by
 unfold seq_New at hF
 refine lc_body (k := 13) (av := [v0_]) func57 rfl rfl (h := fun W hS => ?_)
 refine c_seq <| c_region ?_
 refine o_allocP (cl := (cl_State (.slice none 0 0) (.slice none 0 0) (.slice none 0 0) 0 (.slice none 0 0) 0 (.slice none 0 0) 0 (.slice none 0 0) 0 0)) zr_api_State rfl hS ?_
 clear hS; intro b1 w hS
 refine oy hS y_assign <| n_thenN ?_
 iterate 2 (refine c_seq ?_)
 refine c_region <| oy hS y_move <| oy hS (y_len h0 underlying31) <| oy hS y_bin <| n_thenN ?_
 refine c_if (ht := fun c2 => ?_) (hf := fun c2 => ?_)
 · replace hF := bt c2 hF
   refine c_seq <| c_region <| oy hS (y_build (cl := (cl_State (.slice none 0 0) (.slice none 0 0) (.slice none 0 0) 0 (.slice none 0 0) 0 (.slice none 0 0) 0 (.slice none 0 0) 0 0)) bt_api_State rfl fillN) ?_
   refine o_storeW (vs := (cl_State (.slice none 0 0) (.slice none 0 0) (.slice none 0 0) 0 (.slice none 0 0) 0 (.slice none 0 0) 0 (.slice none 0 0) 0 0)) hS (by exact rfl) (Upd.here _) (by exact sz_api_State) (one_State rfl rfl rfl rfl rfl rfl) ?_
   clear hS; intro w hS
   refine oy hS y_assign <| n_thenN ?_
   obtain rfl := osi hF
   refine wp_ret (r_ret (vs := [.agg (cl_State (.slice none 0 0) (.slice none 0 0) (.slice none 0 0) 0 (.slice none 0 0) 0 (.slice none 0 0) 0 (.slice none 0 0) 0 0).toArray, .int .i64 1]) (hS.re (.n)) (rsC (res_cell (hS.own (mH)) underlying62 rfl (by exact sz_api_State)) (rsC res_tmp rsN)) rfl ⟨_, _, rfl, (by first | rfl | simp only [aa, ac, al, an]), ⟨_, _, _, _, _, _, _, _, _, _, _, _, rfl, rfl, OwT.nil _ _ _, OwT.nil _ _ _, OwT.nil _ _ _, OwT.nil _ _ _, OwT.nil _ _ _, OwT.nil _ _ _⟩⟩)
 replace hF := bf c2 hF
 refine wp_skip <| c_seq ?_
 obtain ⟨zs3, D0, hF⟩ := ob hF
 obtain ⟨zs8, E0, hF⟩ := ob hF
 obtain ⟨r13, G0, hF⟩ := ob hF
 refine c_heldL 5 7 (by kernel_rfl) rfl hS ?_
 clear hS; intro w hS
 refine hy0 2 rfl wn (by kernel_rfl) (nq (P := Tryz.prog) (fn := Tryz.f57)) (fun _ => hS.cb) y_move ?_
 refine hb3 0 1 3 (by kernel_rfl) (hb_op rfl wn (nl (P := Tryz.prog) (fn := Tryz.f57)) ?_) (hb_op rfl wn (nl (P := Tryz.prog) (fn := Tryz.f57)) ?_) (hb_op rfl wn (nl (P := Tryz.prog) (fn := Tryz.f57)) ?_)
 · skip
   refine o_makeP D0 hS el_uint32 enc_len_uint32 mz_uint32 (by decide) ?_
   clear hS; intro v4 LX5 w h6 hS
   refine hb_next (fun _ => (hS.re (.b (.d .hb) .n)).cb) ?_
   refine hb2 1 3 (by kernel_rfl) (hb_op rfl wn (nl (P := Tryz.prog) (fn := Tryz.f57)) ?_) (hb_op rfl wn (nl (P := Tryz.prog) (fn := Tryz.f57)) ?_)
   · skip
     refine o_makeP E0 hS el_uint32 enc_len_uint32 mz_uint32 (by decide) ?_
     clear hS; intro v9 I0 w h11 hS
     refine hb_next (fun _ => (hS.re (.b (.d (.d .hb)) .n)).cb) ?_
     refine hb1 3 (by kernel_rfl) (hb_op rfl wn (nl (P := Tryz.prog) (fn := Tryz.f57)) ?_)
     refine o_call0 hS func58 rfl rfl (hc := (w_slices_Clone_uint32 (a0 := a0) (h0 := h0.plus) (hF := G0))) (h := ?_)
     clear hS; intro v14 J0 w hS B0
     obtain ⟨v_0_17, LX_0_18, rfl, rfl, h_0_19⟩ := B0
     simp only [aa, ac, al] at hS
     have hC := (hS.re (.b (.d (.d (.d .hb))) .n)).cb
     refine hb_next (fun _ => hC) ?_
     refine hy0 4 rfl wn (by kernel_rfl) (nq (P := Tryz.prog) (fn := Tryz.f57)) (fun _ => hC) (y_build (cl := (cl_State v4 v9 v_0_17 0 (.slice none 0 0) 0 (.slice none 0 0) 0 (.slice none 0 0) 0 0)) bt_api_State rfl (fillS (vs := [v4]) rfl (h6).cell rfl rfl (fillS (vs := [v9]) rfl (h11).cell rfl rfl (fillS (vs := [v_0_17]) rfl (h_0_19).cell rfl rfl fillN)))) ?_
     refine hb1 5 (by kernel_rfl) (hb_op rfl wn (nl (P := Tryz.prog) (fn := Tryz.f57)) ?_)
     have hS := hS.re (.b (.d (.d (.d .hb))) (.t .h (.t .h (.t .h .n))))
     refine o_storeW (vs := (cl_State v4 v9 v_0_17 0 (.slice none 0 0) 0 (.slice none 0 0) 0 (.slice none 0 0) 0 0)) hS (by exact rfl) (Upd.here _) (by exact sz_api_State) (one_State (h6).one (h11).one (h_0_19).one rfl rfl rfl) ?_
     clear hS; intro w hS
     refine hb_next (fun h => absurd h (by decide)) ?_
     refine hy0 6 rfl wn (by kernel_rfl) (nq (P := Tryz.prog) (fn := Tryz.f57)) (fun h => absurd h (by decide)) y_assign ?_
     refine hb_done (by kernel_rfl) ?_
     obtain rfl := osi hF
     refine wp_ret (r_ret (vs := [.agg (cl_State v4 v9 v_0_17 0 (.slice none 0 0) 0 (.slice none 0 0) 0 (.slice none 0 0) 0 0).toArray, .int .i64 0]) (hS.re (.t (.e (.d (.d .h))) (.t (.e (.d .h)) (.t (.e .h) .n)))) (rsC (res_cell (hS.own (mH)) underlying62 rfl (by exact sz_api_State)) (rsC res_tmp rsN)) rfl ⟨_, _, rfl, (by first | rfl | simp only [aa, ac, al, an]), ⟨_, _, _, _, _, _, _, _, _, _, _, _, rfl, rfl, h6, h11, h_0_19, OwT.nil _ _ _, OwT.nil _ _ _, OwT.nil _ _ _⟩⟩)
   refine o_call0 hS func58 rfl rfl (hc := (w_slices_Clone_uint32 (a0 := a0) (h0 := h0.plus) (hF := G0))) (h := ?_)
   clear hS; intro v14 J0 w hS B0
   obtain ⟨v_0_17, LX_0_18, rfl, rfl, h_0_19⟩ := B0
   simp only [aa, ac, al] at hS
   refine hb_next (fun _ => (hS.re (.b (.d (.d .hb)) .n)).cb) ?_
   refine hb1 1 (by kernel_rfl) (hb_op rfl wn (nl (P := Tryz.prog) (fn := Tryz.f57)) ?_)
   refine o_makeP E0 hS el_uint32 enc_len_uint32 mz_uint32 (by decide) ?_
   clear hS; intro v9 I0 w h11 hS
   have hC := (hS.re (.b (.d (.d (.d .hb))) .n)).cb
   refine hb_next (fun _ => hC) ?_
   refine hy0 4 rfl wn (by kernel_rfl) (nq (P := Tryz.prog) (fn := Tryz.f57)) (fun _ => hC) (y_build (cl := (cl_State v4 v9 v_0_17 0 (.slice none 0 0) 0 (.slice none 0 0) 0 (.slice none 0 0) 0 0)) bt_api_State rfl (fillS (vs := [v4]) rfl (h6).cell rfl rfl (fillS (vs := [v9]) rfl (h11).cell rfl rfl (fillS (vs := [v_0_17]) rfl (h_0_19).cell rfl rfl fillN)))) ?_
   refine hb1 5 (by kernel_rfl) (hb_op rfl wn (nl (P := Tryz.prog) (fn := Tryz.f57)) ?_)
   have hS := hS.re (.b (.d (.d (.d .hb))) (.t .h (.t .h (.t .h .n))))
   refine o_storeW (vs := (cl_State v4 v9 v_0_17 0 (.slice none 0 0) 0 (.slice none 0 0) 0 (.slice none 0 0) 0 0)) hS (by exact rfl) (Upd.here _) (by exact sz_api_State) (one_State (h6).one (h11).one (h_0_19).one rfl rfl rfl) ?_
   clear hS; intro w hS
   refine hb_next (fun h => absurd h (by decide)) ?_
   refine hy0 6 rfl wn (by kernel_rfl) (nq (P := Tryz.prog) (fn := Tryz.f57)) (fun h => absurd h (by decide)) y_assign ?_
   refine hb_done (by kernel_rfl) ?_
   obtain rfl := osi hF
   refine wp_ret (r_ret (vs := [.agg (cl_State v4 v9 v_0_17 0 (.slice none 0 0) 0 (.slice none 0 0) 0 (.slice none 0 0) 0 0).toArray, .int .i64 0]) (hS.re (.t (.e (.d (.d .h))) (.t (.e .h) (.t (.e .h) .n)))) (rsC (res_cell (hS.own (mH)) underlying62 rfl (by exact sz_api_State)) (rsC res_tmp rsN)) rfl ⟨_, _, rfl, (by first | rfl | simp only [aa, ac, al, an]), ⟨_, _, _, _, _, _, _, _, _, _, _, _, rfl, rfl, h6, h11, h_0_19, OwT.nil _ _ _, OwT.nil _ _ _, OwT.nil _ _ _⟩⟩)
 · skip
   refine o_makeP E0 hS el_uint32 enc_len_uint32 mz_uint32 (by decide) ?_
   clear hS; intro v9 I0 w h11 hS
   refine hb_next (fun _ => (hS.re (.b (.d .hb) .n)).cb) ?_
   refine hb2 0 3 (by kernel_rfl) (hb_op rfl wn (nl (P := Tryz.prog) (fn := Tryz.f57)) ?_) (hb_op rfl wn (nl (P := Tryz.prog) (fn := Tryz.f57)) ?_)
   · skip
     refine o_makeP D0 hS el_uint32 enc_len_uint32 mz_uint32 (by decide) ?_
     clear hS; intro v4 LX5 w h6 hS
     refine hb_next (fun _ => (hS.re (.b (.d (.d .hb)) .n)).cb) ?_
     refine hb1 3 (by kernel_rfl) (hb_op rfl wn (nl (P := Tryz.prog) (fn := Tryz.f57)) ?_)
     refine o_call0 hS func58 rfl rfl (hc := (w_slices_Clone_uint32 (a0 := a0) (h0 := h0.plus) (hF := G0))) (h := ?_)
     clear hS; intro v14 J0 w hS B0
     obtain ⟨v_0_17, LX_0_18, rfl, rfl, h_0_19⟩ := B0
     simp only [aa, ac, al] at hS
     have hC := (hS.re (.b (.d (.d (.d .hb))) .n)).cb
     refine hb_next (fun _ => hC) ?_
     refine hy0 4 rfl wn (by kernel_rfl) (nq (P := Tryz.prog) (fn := Tryz.f57)) (fun _ => hC) (y_build (cl := (cl_State v4 v9 v_0_17 0 (.slice none 0 0) 0 (.slice none 0 0) 0 (.slice none 0 0) 0 0)) bt_api_State rfl (fillS (vs := [v4]) rfl (h6).cell rfl rfl (fillS (vs := [v9]) rfl (h11).cell rfl rfl (fillS (vs := [v_0_17]) rfl (h_0_19).cell rfl rfl fillN)))) ?_
     refine hb1 5 (by kernel_rfl) (hb_op rfl wn (nl (P := Tryz.prog) (fn := Tryz.f57)) ?_)
     have hS := hS.re (.b (.d (.d (.d .hb))) (.t .h (.t .h (.t .h .n))))
     refine o_storeW (vs := (cl_State v4 v9 v_0_17 0 (.slice none 0 0) 0 (.slice none 0 0) 0 (.slice none 0 0) 0 0)) hS (by exact rfl) (Upd.here _) (by exact sz_api_State) (one_State (h6).one (h11).one (h_0_19).one rfl rfl rfl) ?_
     clear hS; intro w hS
     refine hb_next (fun h => absurd h (by decide)) ?_
     refine hy0 6 rfl wn (by kernel_rfl) (nq (P := Tryz.prog) (fn := Tryz.f57)) (fun h => absurd h (by decide)) y_assign ?_
     refine hb_done (by kernel_rfl) ?_
     obtain rfl := osi hF
     refine wp_ret (r_ret (vs := [.agg (cl_State v4 v9 v_0_17 0 (.slice none 0 0) 0 (.slice none 0 0) 0 (.slice none 0 0) 0 0).toArray, .int .i64 0]) (hS.re (.t (.e (.d .h)) (.t (.e (.d .h)) (.t (.e .h) .n)))) (rsC (res_cell (hS.own (mH)) underlying62 rfl (by exact sz_api_State)) (rsC res_tmp rsN)) rfl ⟨_, _, rfl, (by first | rfl | simp only [aa, ac, al, an]), ⟨_, _, _, _, _, _, _, _, _, _, _, _, rfl, rfl, h6, h11, h_0_19, OwT.nil _ _ _, OwT.nil _ _ _, OwT.nil _ _ _⟩⟩)
   refine o_call0 hS func58 rfl rfl (hc := (w_slices_Clone_uint32 (a0 := a0) (h0 := h0.plus) (hF := G0))) (h := ?_)
   clear hS; intro v14 J0 w hS B0
   obtain ⟨v_0_17, LX_0_18, rfl, rfl, h_0_19⟩ := B0
   simp only [aa, ac, al] at hS
   refine hb_next (fun _ => (hS.re (.b (.d (.d .hb)) .n)).cb) ?_
   refine hb1 0 (by kernel_rfl) (hb_op rfl wn (nl (P := Tryz.prog) (fn := Tryz.f57)) ?_)
   refine o_makeP D0 hS el_uint32 enc_len_uint32 mz_uint32 (by decide) ?_
   clear hS; intro v4 LX5 w h6 hS
   have hC := (hS.re (.b (.d (.d (.d .hb))) .n)).cb
   refine hb_next (fun _ => hC) ?_
   refine hy0 4 rfl wn (by kernel_rfl) (nq (P := Tryz.prog) (fn := Tryz.f57)) (fun _ => hC) (y_build (cl := (cl_State v4 v9 v_0_17 0 (.slice none 0 0) 0 (.slice none 0 0) 0 (.slice none 0 0) 0 0)) bt_api_State rfl (fillS (vs := [v4]) rfl (h6).cell rfl rfl (fillS (vs := [v9]) rfl (h11).cell rfl rfl (fillS (vs := [v_0_17]) rfl (h_0_19).cell rfl rfl fillN)))) ?_
   refine hb1 5 (by kernel_rfl) (hb_op rfl wn (nl (P := Tryz.prog) (fn := Tryz.f57)) ?_)
   have hS := hS.re (.b (.d (.d (.d .hb))) (.t .h (.t .h (.t .h .n))))
   refine o_storeW (vs := (cl_State v4 v9 v_0_17 0 (.slice none 0 0) 0 (.slice none 0 0) 0 (.slice none 0 0) 0 0)) hS (by exact rfl) (Upd.here _) (by exact sz_api_State) (one_State (h6).one (h11).one (h_0_19).one rfl rfl rfl) ?_
   clear hS; intro w hS
   refine hb_next (fun h => absurd h (by decide)) ?_
   refine hy0 6 rfl wn (by kernel_rfl) (nq (P := Tryz.prog) (fn := Tryz.f57)) (fun h => absurd h (by decide)) y_assign ?_
   refine hb_done (by kernel_rfl) ?_
   obtain rfl := osi hF
   refine wp_ret (r_ret (vs := [.agg (cl_State v4 v9 v_0_17 0 (.slice none 0 0) 0 (.slice none 0 0) 0 (.slice none 0 0) 0 0).toArray, .int .i64 0]) (hS.re (.t (.e .h) (.t (.e (.d .h)) (.t (.e .h) .n)))) (rsC (res_cell (hS.own (mH)) underlying62 rfl (by exact sz_api_State)) (rsC res_tmp rsN)) rfl ⟨_, _, rfl, (by first | rfl | simp only [aa, ac, al, an]), ⟨_, _, _, _, _, _, _, _, _, _, _, _, rfl, rfl, h6, h11, h_0_19, OwT.nil _ _ _, OwT.nil _ _ _, OwT.nil _ _ _⟩⟩)
 refine o_call0 hS func58 rfl rfl (hc := (w_slices_Clone_uint32 (a0 := a0) (h0 := h0.plus) (hF := G0))) (h := ?_)
 clear hS; intro v14 J0 w hS B0
 obtain ⟨v_0_17, LX_0_18, rfl, rfl, h_0_19⟩ := B0
 simp only [aa, ac, al] at hS
 refine hb_next (fun _ => (hS.re (.b (.d .hb) .n)).cb) ?_
 refine hb2 0 1 (by kernel_rfl) (hb_op rfl wn (nl (P := Tryz.prog) (fn := Tryz.f57)) ?_) (hb_op rfl wn (nl (P := Tryz.prog) (fn := Tryz.f57)) ?_)
 · skip
   refine o_makeP D0 hS el_uint32 enc_len_uint32 mz_uint32 (by decide) ?_
   clear hS; intro v4 LX5 w h6 hS
   refine hb_next (fun _ => (hS.re (.b (.d (.d .hb)) .n)).cb) ?_
   refine hb1 1 (by kernel_rfl) (hb_op rfl wn (nl (P := Tryz.prog) (fn := Tryz.f57)) ?_)
   refine o_makeP E0 hS el_uint32 enc_len_uint32 mz_uint32 (by decide) ?_
   clear hS; intro v9 I0 w h11 hS
   have hC := (hS.re (.b (.d (.d (.d .hb))) .n)).cb
   refine hb_next (fun _ => hC) ?_
   refine hy0 4 rfl wn (by kernel_rfl) (nq (P := Tryz.prog) (fn := Tryz.f57)) (fun _ => hC) (y_build (cl := (cl_State v4 v9 v_0_17 0 (.slice none 0 0) 0 (.slice none 0 0) 0 (.slice none 0 0) 0 0)) bt_api_State rfl (fillS (vs := [v4]) rfl (h6).cell rfl rfl (fillS (vs := [v9]) rfl (h11).cell rfl rfl (fillS (vs := [v_0_17]) rfl (h_0_19).cell rfl rfl fillN)))) ?_
   refine hb1 5 (by kernel_rfl) (hb_op rfl wn (nl (P := Tryz.prog) (fn := Tryz.f57)) ?_)
   have hS := hS.re (.b (.d (.d (.d .hb))) (.t .h (.t .h (.t .h .n))))
   refine o_storeW (vs := (cl_State v4 v9 v_0_17 0 (.slice none 0 0) 0 (.slice none 0 0) 0 (.slice none 0 0) 0 0)) hS (by exact rfl) (Upd.here _) (by exact sz_api_State) (one_State (h6).one (h11).one (h_0_19).one rfl rfl rfl) ?_
   clear hS; intro w hS
   refine hb_next (fun h => absurd h (by decide)) ?_
   refine hy0 6 rfl wn (by kernel_rfl) (nq (P := Tryz.prog) (fn := Tryz.f57)) (fun h => absurd h (by decide)) y_assign ?_
   refine hb_done (by kernel_rfl) ?_
   obtain rfl := osi hF
   refine wp_ret (r_ret (vs := [.agg (cl_State v4 v9 v_0_17 0 (.slice none 0 0) 0 (.slice none 0 0) 0 (.slice none 0 0) 0 0).toArray, .int .i64 0]) (hS.re (.t (.e (.d .h)) (.t (.e .h) (.t (.e .h) .n)))) (rsC (res_cell (hS.own (mH)) underlying62 rfl (by exact sz_api_State)) (rsC res_tmp rsN)) rfl ⟨_, _, rfl, (by first | rfl | simp only [aa, ac, al, an]), ⟨_, _, _, _, _, _, _, _, _, _, _, _, rfl, rfl, h6, h11, h_0_19, OwT.nil _ _ _, OwT.nil _ _ _, OwT.nil _ _ _⟩⟩)
 refine o_makeP E0 hS el_uint32 enc_len_uint32 mz_uint32 (by decide) ?_
 clear hS; intro v9 I0 w h11 hS
 refine hb_next (fun _ => (hS.re (.b (.d (.d .hb)) .n)).cb) ?_
 refine hb1 0 (by kernel_rfl) (hb_op rfl wn (nl (P := Tryz.prog) (fn := Tryz.f57)) ?_)
 refine o_makeP D0 hS el_uint32 enc_len_uint32 mz_uint32 (by decide) ?_
 clear hS; intro v4 LX5 w h6 hS
 have hC := (hS.re (.b (.d (.d (.d .hb))) .n)).cb
 refine hb_next (fun _ => hC) ?_
 refine hy0 4 rfl wn (by kernel_rfl) (nq (P := Tryz.prog) (fn := Tryz.f57)) (fun _ => hC) (y_build (cl := (cl_State v4 v9 v_0_17 0 (.slice none 0 0) 0 (.slice none 0 0) 0 (.slice none 0 0) 0 0)) bt_api_State rfl (fillS (vs := [v4]) rfl (h6).cell rfl rfl (fillS (vs := [v9]) rfl (h11).cell rfl rfl (fillS (vs := [v_0_17]) rfl (h_0_19).cell rfl rfl fillN)))) ?_
 refine hb1 5 (by kernel_rfl) (hb_op rfl wn (nl (P := Tryz.prog) (fn := Tryz.f57)) ?_)
 have hS := hS.re (.b (.d (.d (.d .hb))) (.t .h (.t .h (.t .h .n))))
 refine o_storeW (vs := (cl_State v4 v9 v_0_17 0 (.slice none 0 0) 0 (.slice none 0 0) 0 (.slice none 0 0) 0 0)) hS (by exact rfl) (Upd.here _) (by exact sz_api_State) (one_State (h6).one (h11).one (h_0_19).one rfl rfl rfl) ?_
 clear hS; intro w hS
 refine hb_next (fun h => absurd h (by decide)) ?_
 refine hy0 6 rfl wn (by kernel_rfl) (nq (P := Tryz.prog) (fn := Tryz.f57)) (fun h => absurd h (by decide)) y_assign ?_
 refine hb_done (by kernel_rfl) ?_
 obtain rfl := osi hF
 refine wp_ret (r_ret (vs := [.agg (cl_State v4 v9 v_0_17 0 (.slice none 0 0) 0 (.slice none 0 0) 0 (.slice none 0 0) 0 0).toArray, .int .i64 0]) (hS.re (.t (.e .h) (.t (.e .h) (.t (.e .h) .n)))) (rsC (res_cell (hS.own (mH)) underlying62 rfl (by exact sz_api_State)) (rsC res_tmp rsN)) rfl ⟨_, _, rfl, (by first | rfl | simp only [aa, ac, al, an]), ⟨_, _, _, _, _, _, _, _, _, _, _, _, rfl, rfl, h6, h11, h_0_19, OwT.nil _ _ _, OwT.nil _ _ _, OwT.nil _ _ _⟩⟩)
theorem w_seq_New {g : Frag} {a0 : (List Int)} {v0_ : Value} {r : (T_State × Int)} (h0 : SlT g enc_uint32 1 a0 v0_) (hF : seq_New a0 = some r) : LC Tryz.prog 57 #[v0_] g [] (fun v L => ∃ (u0 : Value) (M0 : Own), v = .tuple #[u0, .int .i64 r.2] ∧ L = (M0 ++ []) ∧ Ow_State r.1 u0 M0) := w_seq_New_ h0 hF

noncomputable def image_loaded (a0 : (List Int)) (a1 : Int) (a2 : (List Int)) : Option (T_State × Int) :=
  (seq_New a2).bind fun r2 => bif decide (r2.2 ≠ 0) then some ((⟨[], [], [], 0, [], 0, [], 0, [], 0, 0⟩ : T_State), r2.2) else some ((⟨r2.1.Regs, (cop r2.1.Mem a0), r2.1.In_, r2.1.Taken, r2.1.Out, a1, r2.1.Stack, r2.1.Stop, r2.1.Fly, r2.1.Jump, r2.1.Delay⟩ : T_State), 0)
theorem w_image_loaded_ {g : Frag} {a0 : (List Int)} {v0_ : Value} {a1 : Int} {a2 : (List Int)} {v2_ : Value} {r : (T_State × Int)} (h0 : SlT g enc_uint32 1 a0 v0_) (h2 : SlT g enc_uint32 1 a2 v2_) (hF : image_loaded a0 a1 a2 = some r) : LC Tryz.prog 34 #[v0_, .int .i64 a1, v2_] g [] (fun v L => ∃ (u0 : Value) (M0 : Own), v = .tuple #[u0, .int .i64 r.2] ∧ L = (M0 ++ []) ∧ Ow_State r.1 u0 M0) := by
 unfold image_loaded at hF
 refine lc_body (k := 26) (av := [v0_, .int .i64 a1, v2_]) func34 rfl rfl (h := fun W hS => ?_)
 refine c_seq <| c_region ?_
 refine o_allocP (cl := (cl_State (.slice none 0 0) (.slice none 0 0) (.slice none 0 0) 0 (.slice none 0 0) 0 (.slice none 0 0) 0 (.slice none 0 0) 0 0)) zr_api_State rfl hS ?_
 clear hS; intro b1 w hS
 refine oy hS y_assign <| n_thenN <| c_seq <| c_region <| oy hS y_move ?_
 obtain ⟨r2, hr2, hF⟩ := ob hF
 refine o_call0 hS func57 rfl rfl (hc := (w_seq_New (a0 := a2) (h0 := h2.plus) (hF := hr2))) (h := ?_)
 clear hS; intro v3 LY4 w hS hr5
 obtain ⟨v_0_6, LX_0_7, rfl, rfl, h_0_8⟩ := hr5
 obtain ⟨J0, B0, D0, E0, G0, I0, Y0, X0, Z0, B1, D1, E1, rfl, rfl, K0, V0, N0, R0, T0, U0⟩ := h_0_8
 simp only [aa, ac, al] at hS
 refine oy hS y_move ?_
 iterate 2 (refine oy hS (y_extract rfl) ?_)
 refine o_allocP (cl := (cl_State (.slice none 0 0) (.slice none 0 0) (.slice none 0 0) 0 (.slice none 0 0) 0 (.slice none 0 0) 0 (.slice none 0 0) 0 0)) zr_api_State rfl hS ?_
 clear hS; intro b33 w hS
 refine o_storeW (vs := (cl_State J0 B0 D0 r2.1.Taken E0 r2.1.PC G0 r2.1.Stop I0 r2.1.Jump r2.1.Delay)) hS (by exact rfl) (Upd.here _) (by exact sz_api_State) (one_State (K0).one (V0).one (N0).one (R0).one (T0).one (U0).one) ?_
 clear hS; intro w hS
 refine oy hS y_assign <| n_thenN ?_
 iterate 2 (refine c_seq ?_)
 refine c_region <| oy hS y_move <| oy hS y_bin <| n_thenN ?_
 refine c_if (ht := fun c34 => ?_) (hf := fun c34 => ?_)
 · replace hF := bt c34 hF
   refine c_seq <| c_region <| oy hS (y_build (cl := (cl_State (.slice none 0 0) (.slice none 0 0) (.slice none 0 0) 0 (.slice none 0 0) 0 (.slice none 0 0) 0 (.slice none 0 0) 0 0)) bt_api_State rfl fillN) <| oy hS y_move ?_
   have hS := hS.re (.b (.e (.d (.d (.d (.d (.d (.d .hb))))))) (.b .hb (.t .h (.t .h (.t .h (.t .h (.t .h (.t .h .n))))))))
   refine o_storeW (vs := (cl_State (.slice none 0 0) (.slice none 0 0) (.slice none 0 0) 0 (.slice none 0 0) 0 (.slice none 0 0) 0 (.slice none 0 0) 0 0)) hS (by exact rfl) (Upd.here _) (by exact sz_api_State) (one_State rfl rfl rfl rfl rfl rfl) ?_
   clear hS; intro w hS
   refine oy hS y_assign <| n_thenN ?_
   obtain rfl := osi hF
   refine wp_ret (r_ret (vs := [.agg (cl_State (.slice none 0 0) (.slice none 0 0) (.slice none 0 0) 0 (.slice none 0 0) 0 (.slice none 0 0) 0 (.slice none 0 0) 0 0).toArray, .int .i64 r2.2]) (hS.re (.n)) (rsC (res_cell (hS.own (mH)) underlying62 rfl (by exact sz_api_State)) (rsC res_tmp rsN)) rfl ⟨_, _, rfl, (by first | rfl | simp only [aa, ac, al, an]), ⟨_, _, _, _, _, _, _, _, _, _, _, _, rfl, rfl, OwT.nil _ _ _, OwT.nil _ _ _, OwT.nil _ _ _, OwT.nil _ _ _, OwT.nil _ _ _, OwT.nil _ _ _⟩⟩)
 replace hF := bf c34 hF
 refine wp_skip <| c_seq <| c_region <| oy hS (y_field fa_api_State_1) <| oy hS (y_load oH underlying31 rfl rfl) <| oy hS y_move ?_
 have hS := hS.re (.t (.e (.d .h)) (.b .hb (.t .h (.t .h (.t .h (.t .h (.t .h (.b .hb .n))))))))
 refine o_copyP (LX := X0) hS V0 h0.plus enc_len_uint32 (enc_ones_uint32 _) underlying31 el_uint32.size ?_
 clear hS; intro G1 w h36 hS
 refine n_thenN <| c_seq <| c_region <| oy hS y_move <| oy hS (y_field fa_api_State_5) ?_
 have hS := hS.re (.b (.d .hb) (.t .h (.t .h (.t .h (.t .h (.t .h (.t .h (.b .hb .n))))))))
 refine o_storeA1 (o := 5) (cl' := (cl_State J0 B0 D0 r2.1.Taken E0 a1 G0 r2.1.Stop I0 r2.1.Jump r2.1.Delay)) hS (by kernel_rfl) (by exact Nat.le_of_ble_eq_true rfl) (Upd.here _) (by exact sz_int) rfl rfl ?_
 clear hS; intro w hS
 refine n_thenN <| c_seq <| c_region ?_
 refine oy hS (y_loadW oH underlying62 rfl (by exact sz_api_State)) ?_
 have hS := hS.re (.b (.e (.d (.d (.d (.d (.d (.d .hb))))))) (.b .hb (.t .h (.t .h (.t .h (.t .h (.t .h (.t .h .n))))))))
 refine o_storeW (vs := (cl_State J0 B0 D0 r2.1.Taken E0 a1 G0 r2.1.Stop I0 r2.1.Jump r2.1.Delay)) hS (by exact rfl) (Upd.here _) (by exact sz_api_State) (one_State (K0).one (h36).one (N0).one (R0).one (T0).one (U0).one) ?_
 clear hS; intro w hS
 refine oy hS y_assign <| n_thenN ?_
 obtain rfl := osi hF
 refine wp_ret (r_ret (vs := [.agg (cl_State J0 B0 D0 r2.1.Taken E0 a1 G0 r2.1.Stop I0 r2.1.Jump r2.1.Delay).toArray, .int .i64 0]) (hS.re (.t (.e (.e (.d .h))) (.t (.e (.e .h)) (.t (.e (.e .h)) (.t (.e (.e .h)) (.t (.e (.e .h)) (.t (.e (.e .h)) .n))))))) (rsC (res_cell (hS.own (mH)) underlying62 rfl (by exact sz_api_State)) (rsC res_tmp rsN)) rfl ⟨_, _, rfl, (by first | rfl | simp only [aa, ac, al, an]), ⟨_, _, _, _, _, _, _, _, _, _, _, _, rfl, rfl, K0, h36, N0, R0, T0, U0⟩⟩)
theorem w_image_loaded {g : Frag} {a0 : (List Int)} {v0_ : Value} {a1 : Int} {a2 : (List Int)} {v2_ : Value} {r : (T_State × Int)} (h0 : SlT g enc_uint32 1 a0 v0_) (h2 : SlT g enc_uint32 1 a2 v2_) (hF : image_loaded a0 a1 a2 = some r) : LC Tryz.prog 34 #[v0_, .int .i64 a1, v2_] g [] (fun v L => ∃ (u0 : Value) (M0 : Own), v = .tuple #[u0, .int .i64 r.2] ∧ L = (M0 ++ []) ∧ Ow_State r.1 u0 M0) := w_image_loaded_ h0 h2 hF

noncomputable def word_product (a0 : Int) (a1 : Int) (a2 : Int) : Option Int :=
  bif decide (a0 = 14) then some (IntKind.u32.wrap (a1 * a2)) else bif decide (a0 = 15) then (shr' .i64 (IntKind.i64.wrap ((IntKind.i64.wrap (IntKind.i32.wrap a1)) * (IntKind.i64.wrap (IntKind.i32.wrap a2)))) 32).bind fun x3 => some (IntKind.u32.wrap x3) else bif decide (a0 = 16) then (quo' .i32 (IntKind.i32.wrap a1) (IntKind.i32.wrap a2)).bind fun x5 => some (IntKind.u32.wrap x5) else (rem' (IntKind.i32.wrap a1) (IntKind.i32.wrap a2)).bind fun x6 => some (IntKind.u32.wrap x6)
theorem w_word_product_ {g : Frag} {a0 : Int} {a1 : Int} {a2 : Int} {r : Int}  (hF : word_product a0 a1 a2 = some r) : LCs Tryz.prog 135 #[.int .i64 a0, .int .u32 a1, .int .u32 a2] g (.int .u32 r) := by
 unfold word_product at hF
 refine lc_body (k := 38) (av := [.int .i64 a0, .int .u32 a1, .int .u32 a2]) func135 rfl rfl (h := fun W hS => ?_)
 refine c_seq <| c_region <| oy hS y_assign <| n_thenN <| c_seq <| c_region <| oy hS y_move <| oy hS (y_conv underlying87 underlying21) ?_
 refine oy hS y_move <| oy hS (y_conv underlying87 underlying21) ?_
 iterate 2 (refine oy hS y_assign ?_)
 refine n_thenN ?_
 iterate 2 (refine c_seq ?_)
 refine c_region <| oy hS y_move <| n_thenN <| c_block <| c_seq <| c_region <| oy hS y_bin <| oy hS y_assign ?_
 refine n_thenN ?_
 refine c_if (ht := fun c1 => ?_) (hf := fun c1 => ?_)
 · replace hF := bt c1 hF
   refine c_seq <| c_region ?_
   iterate 2 (refine oy hS y_move ?_)
   refine oy hS y_bin <| oy hS y_assign <| n_thenN ?_
   obtain rfl := osi hF
   exact wp_ret (wr1 hS)
 replace hF := bf c1 hF
 refine c_seq <| c_region <| oy hS y_bin <| oy hS y_assign <| n_thenN ?_
 refine c_if (ht := fun c2 => ?_) (hf := fun c2 => ?_)
 · replace hF := bt c2 hF
   refine c_seq <| c_region <| oy hS y_move <| oy hS (y_conv underlying21 underlying2) <| oy hS y_move <| oy hS (y_conv underlying21 underlying2) <| oy hS y_bin ?_
   obtain ⟨x3, hx3, hF⟩ := ob hF
   refine oy hS (y_shr hx3) <| oy hS (y_conv underlying2 underlying87) <| oy hS y_assign <| n_thenN ?_
   obtain rfl := osi hF
   exact wp_ret (wr1 hS)
 replace hF := bf c2 hF
 refine c_seq <| c_region <| oy hS y_bin <| oy hS y_assign <| n_thenN ?_
 refine c_if (ht := fun c4 => ?_) (hf := fun c4 => ?_)
 · replace hF := bt c4 hF
   refine c_seq <| c_region ?_
   iterate 2 (refine oy hS y_move ?_)
   obtain ⟨x5, hx5, hF⟩ := ob hF
   refine oy hS (y_quo hx5) <| oy hS (y_conv underlying21 underlying87) <| oy hS y_assign <| n_thenN ?_
   obtain rfl := osi hF
   exact wp_ret (wr1 hS)
 replace hF := bf c4 hF
 refine wp_skip <| c_seq <| c_region ?_
 iterate 2 (refine oy hS y_move ?_)
 obtain ⟨x6, hx6, hF⟩ := ob hF
 refine oy hS (y_rem hx6) <| oy hS (y_conv underlying21 underlying87) <| oy hS y_assign <| n_thenN ?_
 obtain rfl := osi hF
 exact wp_ret (wr1 hS)
theorem w_word_product {g : Frag} {a0 : Int} {a1 : Int} {a2 : Int} {r : Int}  (hF : word_product a0 a1 a2 = some r) : LCs Tryz.prog 135 #[.int .i64 a0, .int .u32 a1, .int .u32 a2] g (.int .u32 r) := w_word_product_  hF
end Go.Proofs.YtfnmihhcopkkbaaGreat
