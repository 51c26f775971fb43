/- Functions, lifted. Printed by lift.py. -/
import Derived.Test.YtadajdcbeegabaaProg
import Derived.Test.YtadajdcbeegabaaP1
import Derived.KernelRfl
namespace Go.Proofs.Ytadajdcbeegabaa
open Go Go.RowKit Fr
set_option linter.unusedVariables false
set_option linter.unusedSimpArgs false
set_option maxRecDepth 20000
noncomputable def isa_imm (a0 : T_Ins) (a1 : Int) : Option Bool :=
  bif (isa_Target a1) then bif !(decide (a0.Sym = (ByteArray.mk #[]))) then bif decide (a0.Imm = 0) then (isa_Name2 a0.Sym).bind fun r5 => some (r5) else some (false) else bif (isa_Target a1) then bif decide (0 ≤ a0.Imm) then some (decide (a0.Imm < 1024)) else some (false) else bif decide (a1 = 4) then bif !(decide (a0.Sym = (ByteArray.mk #[]))) then (isa_Name2 a0.Sym).bind fun r10 => bif !r10 then bif !r10 then some (false) else bif decide ((isa_Bits a1) = 0) then some (decide (a0.Imm = 0)) else (word_Within a0.Imm (isa_Bits a1)).bind fun r14 => some (r14) else bif decide (a1 ≠ 4) then bif !(decide (a0.Sym = (ByteArray.mk #[]))) then some (false) else bif decide ((isa_Bits a1) = 0) then some (decide (a0.Imm = 0)) else (word_Within a0.Imm (isa_Bits a1)).bind fun r18 => some (r18) else bif decide ((isa_Bits a1) = 0) then some (decide (a0.Imm = 0)) else (word_Within a0.Imm (isa_Bits a1)).bind fun r20 => some (r20) else bif decide (a1 ≠ 4) then bif !(decide (a0.Sym = (ByteArray.mk #[]))) then some (false) else bif decide ((isa_Bits a1) = 0) then some (decide (a0.Imm = 0)) else (word_Within a0.Imm (isa_Bits a1)).bind fun r24 => some (r24) else bif decide ((isa_Bits a1) = 0) then some (decide (a0.Imm = 0)) else (word_Within a0.Imm (isa_Bits a1)).bind fun r26 => some (r26) else bif decide (a1 ≠ 4) then bif !(decide (a0.Sym = (ByteArray.mk #[]))) then some (false) else bif decide ((isa_Bits a1) = 0) then some (decide (a0.Imm = 0)) else (word_Within a0.Imm (isa_Bits a1)).bind fun r30 => some (r30) else bif decide ((isa_Bits a1) = 0) then some (decide (a0.Imm = 0)) else (word_Within a0.Imm (isa_Bits a1)).bind fun r32 => some (r32) else bif (isa_Target a1) then bif decide (0 ≤ a0.Imm) then some (decide (a0.Imm < 1024)) else some (false) else bif decide (a1 = 4) then bif !(decide (a0.Sym = (ByteArray.mk #[]))) then (isa_Name2 a0.Sym).bind fun r37 => bif !r37 then bif !r37 then some (false) else bif decide ((isa_Bits a1) = 0) then some (decide (a0.Imm = 0)) else (word_Within a0.Imm (isa_Bits a1)).bind fun r41 => some (r41) else bif decide (a1 ≠ 4) then bif !(decide (a0.Sym = (ByteArray.mk #[]))) then some (false) else bif decide ((isa_Bits a1) = 0) then some (decide (a0.Imm = 0)) else (word_Within a0.Imm (isa_Bits a1)).bind fun r45 => some (r45) else bif decide ((isa_Bits a1) = 0) then some (decide (a0.Imm = 0)) else (word_Within a0.Imm (isa_Bits a1)).bind fun r47 => some (r47) else bif decide (a1 ≠ 4) then bif !(decide (a0.Sym = (ByteArray.mk #[]))) then some (false) else bif decide ((isa_Bits a1) = 0) then some (decide (a0.Imm = 0)) else (word_Within a0.Imm (isa_Bits a1)).bind fun r51 => some (r51) else bif decide ((isa_Bits a1) = 0) then some (decide (a0.Imm = 0)) else (word_Within a0.Imm (isa_Bits a1)).bind fun r53 => some (r53) else bif decide (a1 ≠ 4) then bif !(decide (a0.Sym = (ByteArray.mk #[]))) then some (false) else bif decide ((isa_Bits a1) = 0) then some (decide (a0.Imm = 0)) else (word_Within a0.Imm (isa_Bits a1)).bind fun r57 => some (r57) else bif decide ((isa_Bits a1) = 0) then some (decide (a0.Imm = 0)) else (word_Within a0.Imm (isa_Bits a1)).bind fun r59 => some (r59)
set_option maxHeartbeats 2000000 in
theorem w_isa_imm_ {g : Frag} {a0 : T_Ins} {a1 : Int} {r : Bool}  (hF : isa_imm a0 a1 = some r) : LCs Try.prog 78 #[.agg #[.int .i64 a0.Op, .int .i64 a0.D, .int .i64 a0.A, .int .i64 a0.B, .int .i64 a0.Imm, .string a0.Sym], .int .i64 a1] g (.bool r) := by
 unfold isa_imm at hF
 refine lc_body (k := 65) (av := [.agg #[.int .i64 a0.Op, .int .i64 a0.D, .int .i64 a0.A, .int .i64 a0.B, .int .i64 a0.Imm, .string a0.Sym], .int .i64 a1]) Try.func78 rfl rfl (h := fun W hS => ?_)
 refine c_seq ?_
 refine c_region ?_
 refine o_boxP (cl := [.int .i64 a0.Op, .int .i64 a0.D, .int .i64 a0.A, .int .i64 a0.B, .int .i64 a0.Imm, .string a0.Sym]) rfl hS ?_
 clear hS; intro b1 w hS
 refine oy hS y_assign ?_
 refine n_thenN ?_
 refine c_seq ?_
 refine c_block ?_
 refine c_seq ?_
 refine c_region ?_
 refine oy hS y_move ?_
 refine o_callS hS Try.func91 rfl rfl (hc := (w_isa_Target (a0 := a1))) (h := ?_)
 clear hS; intro w hS
 refine o_split (ht := fun c2 => ?_) (hf := fun c2 => ?_)
 · replace hF := bt c2 hF
   refine o_gu rfl rfl rfl ?_
   refine oy hS (y_field fa_api_Ins_5) ?_
   refine o_gu rfl rfl rfl ?_
   refine oy hS (y_load (fun w hS => hS.own (mH)) Try.underlying9 rfl rfl) ?_
   refine o_gu rfl rfl rfl ?_
   refine oy hS y_sneq ?_
   refine oy hS y_pickT ?_
   refine oy hS y_assign ?_
   refine n_thenN ?_
   refine c_if (ht := fun c3 => ?_) (hf := fun c3 => ?_)
   · replace hF := bt c3 hF
     refine c_seq ?_
     refine c_region ?_
     refine oy hS (y_field fa_api_Ins_4) ?_
     refine oy hS (y_load (fun w hS => hS.own (mH)) Try.underlying3 rfl rfl) ?_
     refine oy hS y_bin ?_
     refine o_split (ht := fun c4 => ?_) (hf := fun c4 => ?_)
     · replace hF := bt c4 hF
       refine o_gu rfl rfl rfl ?_
       refine oy hS (y_field fa_api_Ins_5) ?_
       refine o_gu rfl rfl rfl ?_
       refine oy hS (y_load (fun w hS => hS.own (mH)) Try.underlying9 rfl rfl) ?_
       refine o_gu rfl rfl rfl ?_
       obtain ⟨r5, hr5, hF⟩ := ob hF
       refine o_callS hS Try.func92 rfl rfl (hc := (w_isa_Name2 (a0 := a0.Sym) (hF := hr5))) (h := ?_)
       clear hS; intro w hS
       refine oy hS y_pickT ?_
       refine oy hS y_assign ?_
       refine n_thenN ?_
       obtain rfl := Option.some.inj hF
       exact wp_ret (wr1 hS)
     replace hF := bf c4 hF
     iterate 3 (refine o_sk rfl rfl ?_)
     refine oy hS y_pickF ?_
     refine oy hS y_assign ?_
     refine n_thenN ?_
     obtain rfl := Option.some.inj hF
     exact wp_ret (wr1 hS)
   replace hF := bf c3 hF
   refine c_seq ?_
   refine c_region ?_
   refine oy hS y_move ?_
   refine o_callS hS Try.func91 rfl rfl (hc := (w_isa_Target (a0 := a1))) (h := ?_)
   clear hS; intro w hS
   refine oy hS y_assign ?_
   refine n_thenN ?_
   refine c_if (ht := fun c6 => ?_) (hf := fun c6 => ?_)
   · replace hF := bt c6 hF
     refine c_seq ?_
     refine c_region ?_
     refine oy hS (y_field fa_api_Ins_4) ?_
     refine oy hS (y_load (fun w hS => hS.own (mH)) Try.underlying3 rfl rfl) ?_
     refine oy hS y_bin ?_
     refine o_split (ht := fun c7 => ?_) (hf := fun c7 => ?_)
     · replace hF := bt c7 hF
       refine o_gu rfl rfl rfl ?_
       refine oy hS (y_field fa_api_Ins_4) ?_
       refine o_gu rfl rfl rfl ?_
       refine oy hS (y_load (fun w hS => hS.own (mH)) Try.underlying3 rfl rfl) ?_
       refine o_gu rfl rfl rfl ?_
       refine oy hS y_bin ?_
       refine oy hS y_pickT ?_
       refine oy hS y_assign ?_
       refine n_thenN ?_
       obtain rfl := Option.some.inj hF
       exact wp_ret (wr1 hS)
     replace hF := bf c7 hF
     iterate 3 (refine o_sk rfl rfl ?_)
     refine oy hS y_pickF ?_
     refine oy hS y_assign ?_
     refine n_thenN ?_
     obtain rfl := Option.some.inj hF
     exact wp_ret (wr1 hS)
   replace hF := bf c6 hF
   iterate 2 (refine c_seq ?_)
   refine c_region ?_
   refine oy hS y_move ?_
   refine oy hS y_bin ?_
   refine o_split (ht := fun c8 => ?_) (hf := fun c8 => ?_)
   · replace hF := bt c8 hF
     refine o_gu rfl rfl rfl ?_
     refine oy hS (y_field fa_api_Ins_5) ?_
     refine o_gu rfl rfl rfl ?_
     refine oy hS (y_load (fun w hS => hS.own (mH)) Try.underlying9 rfl rfl) ?_
     refine o_gu rfl rfl rfl ?_
     refine oy hS y_sneq ?_
     refine oy hS y_pickT ?_
     refine o_split (ht := fun c9 => ?_) (hf := fun c9 => ?_)
     · replace hF := bt c9 hF
       refine o_gu rfl rfl rfl ?_
       refine oy hS (y_field fa_api_Ins_5) ?_
       refine o_gu rfl rfl rfl ?_
       refine oy hS (y_load (fun w hS => hS.own (mH)) Try.underlying9 rfl rfl) ?_
       refine o_gu rfl rfl rfl ?_
       obtain ⟨r10, hr10, hF⟩ := ob hF
       refine o_callS hS Try.func92 rfl rfl (hc := (w_isa_Name2 (a0 := a0.Sym) (hF := hr10))) (h := ?_)
       clear hS; intro w hS
       refine o_gu rfl rfl rfl ?_
       refine oy hS y_not ?_
       refine oy hS y_pickT ?_
       refine oy hS y_assign ?_
       refine n_thenN ?_
       refine c_if (ht := fun c11 => ?_) (hf := fun c11 => ?_)
       · replace hF := bt c11 hF
         refine wp_skip ?_
         refine c_if (ht := fun c12 => ?_) (hf := fun c12 => ?_)
         · replace hF := bt c12 hF
           refine c_seq ?_
           refine c_region ?_
           refine oy hS y_assign ?_
           refine n_thenN ?_
           obtain rfl := Option.some.inj hF
           exact wp_ret (wr1 hS)
         replace hF := bf c12 hF
         refine c_seq ?_
         refine c_region ?_
         refine oy hS y_move ?_
         refine o_callS hS Try.func93 rfl rfl (hc := (w_isa_Bits (a0 := a1))) (h := ?_)
         clear hS; intro w hS
         refine oy hS y_bin ?_
         refine oy hS y_assign ?_
         refine n_thenN ?_
         refine c_if (ht := fun c13 => ?_) (hf := fun c13 => ?_)
         · replace hF := bt c13 hF
           refine c_seq ?_
           refine c_region ?_
           refine oy hS (y_field fa_api_Ins_4) ?_
           refine oy hS (y_load (fun w hS => hS.own (mH)) Try.underlying3 rfl rfl) ?_
           refine oy hS y_bin ?_
           refine oy hS y_assign ?_
           refine n_thenN ?_
           obtain rfl := Option.some.inj hF
           exact wp_ret (wr1 hS)
         replace hF := bf c13 hF
         refine wp_skip ?_
         refine c_seq ?_
         refine c_quiet (by kernel_rfl) (by kernel_rfl) hS ?_
         refine qy (y_field fa_api_Ins_4) ?_
         refine qy (y_load (fun w hS => hS.own (mH)) Try.underlying3 rfl rfl) ?_
         refine qy y_move ?_
         refine q_callS Try.func93 rfl rfl (hc := (w_isa_Bits (a0 := a1))) (h := ?_)
         obtain ⟨r14, hr14, hF⟩ := ob hF
         refine q_callS Try.func94 rfl rfl (hc := (w_word_Within (a0 := a0.Imm) (a1 := (isa_Bits a1)) (hF := hr14))) (h := ?_)
         refine qy y_assign ?_
         refine q_nilN (h := ?_)
         clear hS; intro w hS
         obtain rfl := Option.some.inj hF
         exact wp_ret (wr1 hS)
       replace hF := bf c11 hF
       refine c_region ?_
       refine oy hS y_move ?_
       refine oy hS y_bin ?_
       refine o_split (ht := fun c15 => ?_) (hf := fun c15 => ?_)
       · replace hF := bt c15 hF
         refine o_gu rfl rfl rfl ?_
         refine oy hS (y_field fa_api_Ins_5) ?_
         refine o_gu rfl rfl rfl ?_
         refine oy hS (y_load (fun w hS => hS.own (mH)) Try.underlying9 rfl rfl) ?_
         refine o_gu rfl rfl rfl ?_
         refine oy hS y_sneq ?_
         refine oy hS y_pickT ?_
         refine oy hS y_assign ?_
         refine n_thenN ?_
         refine c_if (ht := fun c16 => ?_) (hf := fun c16 => ?_)
         · replace hF := bt c16 hF
           refine c_seq ?_
           refine c_region ?_
           refine oy hS y_assign ?_
           refine n_thenN ?_
           obtain rfl := Option.some.inj hF
           exact wp_ret (wr1 hS)
         replace hF := bf c16 hF
         refine c_seq ?_
         refine c_region ?_
         refine oy hS y_move ?_
         refine o_callS hS Try.func93 rfl rfl (hc := (w_isa_Bits (a0 := a1))) (h := ?_)
         clear hS; intro w hS
         refine oy hS y_bin ?_
         refine oy hS y_assign ?_
         refine n_thenN ?_
         refine c_if (ht := fun c17 => ?_) (hf := fun c17 => ?_)
         · replace hF := bt c17 hF
           refine c_seq ?_
           refine c_region ?_
           refine oy hS (y_field fa_api_Ins_4) ?_
           refine oy hS (y_load (fun w hS => hS.own (mH)) Try.underlying3 rfl rfl) ?_
           refine oy hS y_bin ?_
           refine oy hS y_assign ?_
           refine n_thenN ?_
           obtain rfl := Option.some.inj hF
           exact wp_ret (wr1 hS)
         replace hF := bf c17 hF
         refine wp_skip ?_
         refine c_seq ?_
         refine c_quiet (by kernel_rfl) (by kernel_rfl) hS ?_
         refine qy (y_field fa_api_Ins_4) ?_
         refine qy (y_load (fun w hS => hS.own (mH)) Try.underlying3 rfl rfl) ?_
         refine qy y_move ?_
         refine q_callS Try.func93 rfl rfl (hc := (w_isa_Bits (a0 := a1))) (h := ?_)
         obtain ⟨r18, hr18, hF⟩ := ob hF
         refine q_callS Try.func94 rfl rfl (hc := (w_word_Within (a0 := a0.Imm) (a1 := (isa_Bits a1)) (hF := hr18))) (h := ?_)
         refine qy y_assign ?_
         refine q_nilN (h := ?_)
         clear hS; intro w hS
         obtain rfl := Option.some.inj hF
         exact wp_ret (wr1 hS)
       replace hF := bf c15 hF
       iterate 3 (refine o_sk rfl rfl ?_)
       refine oy hS y_pickF ?_
       refine oy hS y_assign ?_
       refine n_thenN ?_
       refine c_if_false (h := ?_)
       refine c_seq ?_
       refine c_region ?_
       refine oy hS y_move ?_
       refine o_callS hS Try.func93 rfl rfl (hc := (w_isa_Bits (a0 := a1))) (h := ?_)
       clear hS; intro w hS
       refine oy hS y_bin ?_
       refine oy hS y_assign ?_
       refine n_thenN ?_
       refine c_if (ht := fun c19 => ?_) (hf := fun c19 => ?_)
       · replace hF := bt c19 hF
         refine c_seq ?_
         refine c_region ?_
         refine oy hS (y_field fa_api_Ins_4) ?_
         refine oy hS (y_load (fun w hS => hS.own (mH)) Try.underlying3 rfl rfl) ?_
         refine oy hS y_bin ?_
         refine oy hS y_assign ?_
         refine n_thenN ?_
         obtain rfl := Option.some.inj hF
         exact wp_ret (wr1 hS)
       replace hF := bf c19 hF
       refine wp_skip ?_
       refine c_seq ?_
       refine c_quiet (by kernel_rfl) (by kernel_rfl) hS ?_
       refine qy (y_field fa_api_Ins_4) ?_
       refine qy (y_load (fun w hS => hS.own (mH)) Try.underlying3 rfl rfl) ?_
       refine qy y_move ?_
       refine q_callS Try.func93 rfl rfl (hc := (w_isa_Bits (a0 := a1))) (h := ?_)
       obtain ⟨r20, hr20, hF⟩ := ob hF
       refine q_callS Try.func94 rfl rfl (hc := (w_word_Within (a0 := a0.Imm) (a1 := (isa_Bits a1)) (hF := hr20))) (h := ?_)
       refine qy y_assign ?_
       refine q_nilN (h := ?_)
       clear hS; intro w hS
       obtain rfl := Option.some.inj hF
       exact wp_ret (wr1 hS)
     replace hF := bf c9 hF
     iterate 4 (refine o_sk rfl rfl ?_)
     refine oy hS y_pickF ?_
     refine oy hS y_assign ?_
     refine n_thenN ?_
     refine c_if_false (h := ?_)
     refine c_region ?_
     refine oy hS y_move ?_
     refine oy hS y_bin ?_
     refine o_split (ht := fun c21 => ?_) (hf := fun c21 => ?_)
     · replace hF := bt c21 hF
       refine o_gu rfl rfl rfl ?_
       refine oy hS (y_field fa_api_Ins_5) ?_
       refine o_gu rfl rfl rfl ?_
       refine oy hS (y_load (fun w hS => hS.own (mH)) Try.underlying9 rfl rfl) ?_
       refine o_gu rfl rfl rfl ?_
       refine oy hS y_sneq ?_
       refine oy hS y_pickT ?_
       refine oy hS y_assign ?_
       refine n_thenN ?_
       refine c_if (ht := fun c22 => ?_) (hf := fun c22 => ?_)
       · replace hF := bt c22 hF
         refine c_seq ?_
         refine c_region ?_
         refine oy hS y_assign ?_
         refine n_thenN ?_
         obtain rfl := Option.some.inj hF
         exact wp_ret (wr1 hS)
       replace hF := bf c22 hF
       refine c_seq ?_
       refine c_region ?_
       refine oy hS y_move ?_
       refine o_callS hS Try.func93 rfl rfl (hc := (w_isa_Bits (a0 := a1))) (h := ?_)
       clear hS; intro w hS
       refine oy hS y_bin ?_
       refine oy hS y_assign ?_
       refine n_thenN ?_
       refine c_if (ht := fun c23 => ?_) (hf := fun c23 => ?_)
       · replace hF := bt c23 hF
         refine c_seq ?_
         refine c_region ?_
         refine oy hS (y_field fa_api_Ins_4) ?_
         refine oy hS (y_load (fun w hS => hS.own (mH)) Try.underlying3 rfl rfl) ?_
         refine oy hS y_bin ?_
         refine oy hS y_assign ?_
         refine n_thenN ?_
         obtain rfl := Option.some.inj hF
         exact wp_ret (wr1 hS)
       replace hF := bf c23 hF
       refine wp_skip ?_
       refine c_seq ?_
       refine c_quiet (by kernel_rfl) (by kernel_rfl) hS ?_
       refine qy (y_field fa_api_Ins_4) ?_
       refine qy (y_load (fun w hS => hS.own (mH)) Try.underlying3 rfl rfl) ?_
       refine qy y_move ?_
       refine q_callS Try.func93 rfl rfl (hc := (w_isa_Bits (a0 := a1))) (h := ?_)
       obtain ⟨r24, hr24, hF⟩ := ob hF
       refine q_callS Try.func94 rfl rfl (hc := (w_word_Within (a0 := a0.Imm) (a1 := (isa_Bits a1)) (hF := hr24))) (h := ?_)
       refine qy y_assign ?_
       refine q_nilN (h := ?_)
       clear hS; intro w hS
       obtain rfl := Option.some.inj hF
       exact wp_ret (wr1 hS)
     replace hF := bf c21 hF
     iterate 3 (refine o_sk rfl rfl ?_)
     refine oy hS y_pickF ?_
     refine oy hS y_assign ?_
     refine n_thenN ?_
     refine c_if_false (h := ?_)
     refine c_seq ?_
     refine c_region ?_
     refine oy hS y_move ?_
     refine o_callS hS Try.func93 rfl rfl (hc := (w_isa_Bits (a0 := a1))) (h := ?_)
     clear hS; intro w hS
     refine oy hS y_bin ?_
     refine oy hS y_assign ?_
     refine n_thenN ?_
     refine c_if (ht := fun c25 => ?_) (hf := fun c25 => ?_)
     · replace hF := bt c25 hF
       refine c_seq ?_
       refine c_region ?_
       refine oy hS (y_field fa_api_Ins_4) ?_
       refine oy hS (y_load (fun w hS => hS.own (mH)) Try.underlying3 rfl rfl) ?_
       refine oy hS y_bin ?_
       refine oy hS y_assign ?_
       refine n_thenN ?_
       obtain rfl := Option.some.inj hF
       exact wp_ret (wr1 hS)
     replace hF := bf c25 hF
     refine wp_skip ?_
     refine c_seq ?_
     refine c_quiet (by kernel_rfl) (by kernel_rfl) hS ?_
     refine qy (y_field fa_api_Ins_4) ?_
     refine qy (y_load (fun w hS => hS.own (mH)) Try.underlying3 rfl rfl) ?_
     refine qy y_move ?_
     refine q_callS Try.func93 rfl rfl (hc := (w_isa_Bits (a0 := a1))) (h := ?_)
     obtain ⟨r26, hr26, hF⟩ := ob hF
     refine q_callS Try.func94 rfl rfl (hc := (w_word_Within (a0 := a0.Imm) (a1 := (isa_Bits a1)) (hF := hr26))) (h := ?_)
     refine qy y_assign ?_
     refine q_nilN (h := ?_)
     clear hS; intro w hS
     obtain rfl := Option.some.inj hF
     exact wp_ret (wr1 hS)
   replace hF := bf c8 hF
   iterate 3 (refine o_sk rfl rfl ?_)
   refine oy hS y_pickF ?_
   refine oy hS y_move ?_
   iterate 4 (refine o_sk rfl rfl ?_)
   refine oy hS y_pickF ?_
   refine oy hS y_assign ?_
   refine n_thenN ?_
   refine c_if_false (h := ?_)
   refine c_region ?_
   refine oy hS y_move ?_
   refine oy hS y_bin ?_
   refine o_split (ht := fun c27 => ?_) (hf := fun c27 => ?_)
   · replace hF := bt c27 hF
     refine o_gu rfl rfl rfl ?_
     refine oy hS (y_field fa_api_Ins_5) ?_
     refine o_gu rfl rfl rfl ?_
     refine oy hS (y_load (fun w hS => hS.own (mH)) Try.underlying9 rfl rfl) ?_
     refine o_gu rfl rfl rfl ?_
     refine oy hS y_sneq ?_
     refine oy hS y_pickT ?_
     refine oy hS y_assign ?_
     refine n_thenN ?_
     refine c_if (ht := fun c28 => ?_) (hf := fun c28 => ?_)
     · replace hF := bt c28 hF
       refine c_seq ?_
       refine c_region ?_
       refine oy hS y_assign ?_
       refine n_thenN ?_
       obtain rfl := Option.some.inj hF
       exact wp_ret (wr1 hS)
     replace hF := bf c28 hF
     refine c_seq ?_
     refine c_region ?_
     refine oy hS y_move ?_
     refine o_callS hS Try.func93 rfl rfl (hc := (w_isa_Bits (a0 := a1))) (h := ?_)
     clear hS; intro w hS
     refine oy hS y_bin ?_
     refine oy hS y_assign ?_
     refine n_thenN ?_
     refine c_if (ht := fun c29 => ?_) (hf := fun c29 => ?_)
     · replace hF := bt c29 hF
       refine c_seq ?_
       refine c_region ?_
       refine oy hS (y_field fa_api_Ins_4) ?_
       refine oy hS (y_load (fun w hS => hS.own (mH)) Try.underlying3 rfl rfl) ?_
       refine oy hS y_bin ?_
       refine oy hS y_assign ?_
       refine n_thenN ?_
       obtain rfl := Option.some.inj hF
       exact wp_ret (wr1 hS)
     replace hF := bf c29 hF
     refine wp_skip ?_
     refine c_seq ?_
     refine c_quiet (by kernel_rfl) (by kernel_rfl) hS ?_
     refine qy (y_field fa_api_Ins_4) ?_
     refine qy (y_load (fun w hS => hS.own (mH)) Try.underlying3 rfl rfl) ?_
     refine qy y_move ?_
     refine q_callS Try.func93 rfl rfl (hc := (w_isa_Bits (a0 := a1))) (h := ?_)
     obtain ⟨r30, hr30, hF⟩ := ob hF
     refine q_callS Try.func94 rfl rfl (hc := (w_word_Within (a0 := a0.Imm) (a1 := (isa_Bits a1)) (hF := hr30))) (h := ?_)
     refine qy y_assign ?_
     refine q_nilN (h := ?_)
     clear hS; intro w hS
     obtain rfl := Option.some.inj hF
     exact wp_ret (wr1 hS)
   replace hF := bf c27 hF
   iterate 3 (refine o_sk rfl rfl ?_)
   refine oy hS y_pickF ?_
   refine oy hS y_assign ?_
   refine n_thenN ?_
   refine c_if_false (h := ?_)
   refine c_seq ?_
   refine c_region ?_
   refine oy hS y_move ?_
   refine o_callS hS Try.func93 rfl rfl (hc := (w_isa_Bits (a0 := a1))) (h := ?_)
   clear hS; intro w hS
   refine oy hS y_bin ?_
   refine oy hS y_assign ?_
   refine n_thenN ?_
   refine c_if (ht := fun c31 => ?_) (hf := fun c31 => ?_)
   · replace hF := bt c31 hF
     refine c_seq ?_
     refine c_region ?_
     refine oy hS (y_field fa_api_Ins_4) ?_
     refine oy hS (y_load (fun w hS => hS.own (mH)) Try.underlying3 rfl rfl) ?_
     refine oy hS y_bin ?_
     refine oy hS y_assign ?_
     refine n_thenN ?_
     obtain rfl := Option.some.inj hF
     exact wp_ret (wr1 hS)
   replace hF := bf c31 hF
   refine wp_skip ?_
   refine c_seq ?_
   refine c_quiet (by kernel_rfl) (by kernel_rfl) hS ?_
   refine qy (y_field fa_api_Ins_4) ?_
   refine qy (y_load (fun w hS => hS.own (mH)) Try.underlying3 rfl rfl) ?_
   refine qy y_move ?_
   refine q_callS Try.func93 rfl rfl (hc := (w_isa_Bits (a0 := a1))) (h := ?_)
   obtain ⟨r32, hr32, hF⟩ := ob hF
   refine q_callS Try.func94 rfl rfl (hc := (w_word_Within (a0 := a0.Imm) (a1 := (isa_Bits a1)) (hF := hr32))) (h := ?_)
   refine qy y_assign ?_
   refine q_nilN (h := ?_)
   clear hS; intro w hS
   obtain rfl := Option.some.inj hF
   exact wp_ret (wr1 hS)
 replace hF := bf c2 hF
 iterate 3 (refine o_sk rfl rfl ?_)
 refine oy hS y_pickF ?_
 refine oy hS y_assign ?_
 refine n_thenN ?_
 refine c_if_false (h := ?_)
 refine c_seq ?_
 refine c_region ?_
 refine oy hS y_move ?_
 refine o_callS hS Try.func91 rfl rfl (hc := (w_isa_Target (a0 := a1))) (h := ?_)
 clear hS; intro w hS
 refine oy hS y_assign ?_
 refine n_thenN ?_
 refine c_if (ht := fun c33 => ?_) (hf := fun c33 => ?_)
 · replace hF := bt c33 hF
   refine c_seq ?_
   refine c_region ?_
   refine oy hS (y_field fa_api_Ins_4) ?_
   refine oy hS (y_load (fun w hS => hS.own (mH)) Try.underlying3 rfl rfl) ?_
   refine oy hS y_bin ?_
   refine o_split (ht := fun c34 => ?_) (hf := fun c34 => ?_)
   · replace hF := bt c34 hF
     refine o_gu rfl rfl rfl ?_
     refine oy hS (y_field fa_api_Ins_4) ?_
     refine o_gu rfl rfl rfl ?_
     refine oy hS (y_load (fun w hS => hS.own (mH)) Try.underlying3 rfl rfl) ?_
     refine o_gu rfl rfl rfl ?_
     refine oy hS y_bin ?_
     refine oy hS y_pickT ?_
     refine oy hS y_assign ?_
     refine n_thenN ?_
     obtain rfl := Option.some.inj hF
     exact wp_ret (wr1 hS)
   replace hF := bf c34 hF
   iterate 3 (refine o_sk rfl rfl ?_)
   refine oy hS y_pickF ?_
   refine oy hS y_assign ?_
   refine n_thenN ?_
   obtain rfl := Option.some.inj hF
   exact wp_ret (wr1 hS)
 replace hF := bf c33 hF
 iterate 2 (refine c_seq ?_)
 refine c_region ?_
 refine oy hS y_move ?_
 refine oy hS y_bin ?_
 refine o_split (ht := fun c35 => ?_) (hf := fun c35 => ?_)
 · replace hF := bt c35 hF
   refine o_gu rfl rfl rfl ?_
   refine oy hS (y_field fa_api_Ins_5) ?_
   refine o_gu rfl rfl rfl ?_
   refine oy hS (y_load (fun w hS => hS.own (mH)) Try.underlying9 rfl rfl) ?_
   refine o_gu rfl rfl rfl ?_
   refine oy hS y_sneq ?_
   refine oy hS y_pickT ?_
   refine o_split (ht := fun c36 => ?_) (hf := fun c36 => ?_)
   · replace hF := bt c36 hF
     refine o_gu rfl rfl rfl ?_
     refine oy hS (y_field fa_api_Ins_5) ?_
     refine o_gu rfl rfl rfl ?_
     refine oy hS (y_load (fun w hS => hS.own (mH)) Try.underlying9 rfl rfl) ?_
     refine o_gu rfl rfl rfl ?_
     obtain ⟨r37, hr37, hF⟩ := ob hF
     refine o_callS hS Try.func92 rfl rfl (hc := (w_isa_Name2 (a0 := a0.Sym) (hF := hr37))) (h := ?_)
     clear hS; intro w hS
     refine o_gu rfl rfl rfl ?_
     refine oy hS y_not ?_
     refine oy hS y_pickT ?_
     refine oy hS y_assign ?_
     refine n_thenN ?_
     refine c_if (ht := fun c38 => ?_) (hf := fun c38 => ?_)
     · replace hF := bt c38 hF
       refine wp_skip ?_
       refine c_if (ht := fun c39 => ?_) (hf := fun c39 => ?_)
       · replace hF := bt c39 hF
         refine c_seq ?_
         refine c_region ?_
         refine oy hS y_assign ?_
         refine n_thenN ?_
         obtain rfl := Option.some.inj hF
         exact wp_ret (wr1 hS)
       replace hF := bf c39 hF
       refine c_seq ?_
       refine c_region ?_
       refine oy hS y_move ?_
       refine o_callS hS Try.func93 rfl rfl (hc := (w_isa_Bits (a0 := a1))) (h := ?_)
       clear hS; intro w hS
       refine oy hS y_bin ?_
       refine oy hS y_assign ?_
       refine n_thenN ?_
       refine c_if (ht := fun c40 => ?_) (hf := fun c40 => ?_)
       · replace hF := bt c40 hF
         refine c_seq ?_
         refine c_region ?_
         refine oy hS (y_field fa_api_Ins_4) ?_
         refine oy hS (y_load (fun w hS => hS.own (mH)) Try.underlying3 rfl rfl) ?_
         refine oy hS y_bin ?_
         refine oy hS y_assign ?_
         refine n_thenN ?_
         obtain rfl := Option.some.inj hF
         exact wp_ret (wr1 hS)
       replace hF := bf c40 hF
       refine wp_skip ?_
       refine c_seq ?_
       refine c_quiet (by kernel_rfl) (by kernel_rfl) hS ?_
       refine qy (y_field fa_api_Ins_4) ?_
       refine qy (y_load (fun w hS => hS.own (mH)) Try.underlying3 rfl rfl) ?_
       refine qy y_move ?_
       refine q_callS Try.func93 rfl rfl (hc := (w_isa_Bits (a0 := a1))) (h := ?_)
       obtain ⟨r41, hr41, hF⟩ := ob hF
       refine q_callS Try.func94 rfl rfl (hc := (w_word_Within (a0 := a0.Imm) (a1 := (isa_Bits a1)) (hF := hr41))) (h := ?_)
       refine qy y_assign ?_
       refine q_nilN (h := ?_)
       clear hS; intro w hS
       obtain rfl := Option.some.inj hF
       exact wp_ret (wr1 hS)
     replace hF := bf c38 hF
     refine c_region ?_
     refine oy hS y_move ?_
     refine oy hS y_bin ?_
     refine o_split (ht := fun c42 => ?_) (hf := fun c42 => ?_)
     · replace hF := bt c42 hF
       refine o_gu rfl rfl rfl ?_
       refine oy hS (y_field fa_api_Ins_5) ?_
       refine o_gu rfl rfl rfl ?_
       refine oy hS (y_load (fun w hS => hS.own (mH)) Try.underlying9 rfl rfl) ?_
       refine o_gu rfl rfl rfl ?_
       refine oy hS y_sneq ?_
       refine oy hS y_pickT ?_
       refine oy hS y_assign ?_
       refine n_thenN ?_
       refine c_if (ht := fun c43 => ?_) (hf := fun c43 => ?_)
       · replace hF := bt c43 hF
         refine c_seq ?_
         refine c_region ?_
         refine oy hS y_assign ?_
         refine n_thenN ?_
         obtain rfl := Option.some.inj hF
         exact wp_ret (wr1 hS)
       replace hF := bf c43 hF
       refine c_seq ?_
       refine c_region ?_
       refine oy hS y_move ?_
       refine o_callS hS Try.func93 rfl rfl (hc := (w_isa_Bits (a0 := a1))) (h := ?_)
       clear hS; intro w hS
       refine oy hS y_bin ?_
       refine oy hS y_assign ?_
       refine n_thenN ?_
       refine c_if (ht := fun c44 => ?_) (hf := fun c44 => ?_)
       · replace hF := bt c44 hF
         refine c_seq ?_
         refine c_region ?_
         refine oy hS (y_field fa_api_Ins_4) ?_
         refine oy hS (y_load (fun w hS => hS.own (mH)) Try.underlying3 rfl rfl) ?_
         refine oy hS y_bin ?_
         refine oy hS y_assign ?_
         refine n_thenN ?_
         obtain rfl := Option.some.inj hF
         exact wp_ret (wr1 hS)
       replace hF := bf c44 hF
       refine wp_skip ?_
       refine c_seq ?_
       refine c_quiet (by kernel_rfl) (by kernel_rfl) hS ?_
       refine qy (y_field fa_api_Ins_4) ?_
       refine qy (y_load (fun w hS => hS.own (mH)) Try.underlying3 rfl rfl) ?_
       refine qy y_move ?_
       refine q_callS Try.func93 rfl rfl (hc := (w_isa_Bits (a0 := a1))) (h := ?_)
       obtain ⟨r45, hr45, hF⟩ := ob hF
       refine q_callS Try.func94 rfl rfl (hc := (w_word_Within (a0 := a0.Imm) (a1 := (isa_Bits a1)) (hF := hr45))) (h := ?_)
       refine qy y_assign ?_
       refine q_nilN (h := ?_)
       clear hS; intro w hS
       obtain rfl := Option.some.inj hF
       exact wp_ret (wr1 hS)
     replace hF := bf c42 hF
     iterate 3 (refine o_sk rfl rfl ?_)
     refine oy hS y_pickF ?_
     refine oy hS y_assign ?_
     refine n_thenN ?_
     refine c_if_false (h := ?_)
     refine c_seq ?_
     refine c_region ?_
     refine oy hS y_move ?_
     refine o_callS hS Try.func93 rfl rfl (hc := (w_isa_Bits (a0 := a1))) (h := ?_)
     clear hS; intro w hS
     refine oy hS y_bin ?_
     refine oy hS y_assign ?_
     refine n_thenN ?_
     refine c_if (ht := fun c46 => ?_) (hf := fun c46 => ?_)
     · replace hF := bt c46 hF
       refine c_seq ?_
       refine c_region ?_
       refine oy hS (y_field fa_api_Ins_4) ?_
       refine oy hS (y_load (fun w hS => hS.own (mH)) Try.underlying3 rfl rfl) ?_
       refine oy hS y_bin ?_
       refine oy hS y_assign ?_
       refine n_thenN ?_
       obtain rfl := Option.some.inj hF
       exact wp_ret (wr1 hS)
     replace hF := bf c46 hF
     refine wp_skip ?_
     refine c_seq ?_
     refine c_quiet (by kernel_rfl) (by kernel_rfl) hS ?_
     refine qy (y_field fa_api_Ins_4) ?_
     refine qy (y_load (fun w hS => hS.own (mH)) Try.underlying3 rfl rfl) ?_
     refine qy y_move ?_
     refine q_callS Try.func93 rfl rfl (hc := (w_isa_Bits (a0 := a1))) (h := ?_)
     obtain ⟨r47, hr47, hF⟩ := ob hF
     refine q_callS Try.func94 rfl rfl (hc := (w_word_Within (a0 := a0.Imm) (a1 := (isa_Bits a1)) (hF := hr47))) (h := ?_)
     refine qy y_assign ?_
     refine q_nilN (h := ?_)
     clear hS; intro w hS
     obtain rfl := Option.some.inj hF
     exact wp_ret (wr1 hS)
   replace hF := bf c36 hF
   iterate 4 (refine o_sk rfl rfl ?_)
   refine oy hS y_pickF ?_
   refine oy hS y_assign ?_
   refine n_thenN ?_
   refine c_if_false (h := ?_)
   refine c_region ?_
   refine oy hS y_move ?_
   refine oy hS y_bin ?_
   refine o_split (ht := fun c48 => ?_) (hf := fun c48 => ?_)
   · replace hF := bt c48 hF
     refine o_gu rfl rfl rfl ?_
     refine oy hS (y_field fa_api_Ins_5) ?_
     refine o_gu rfl rfl rfl ?_
     refine oy hS (y_load (fun w hS => hS.own (mH)) Try.underlying9 rfl rfl) ?_
     refine o_gu rfl rfl rfl ?_
     refine oy hS y_sneq ?_
     refine oy hS y_pickT ?_
     refine oy hS y_assign ?_
     refine n_thenN ?_
     refine c_if (ht := fun c49 => ?_) (hf := fun c49 => ?_)
     · replace hF := bt c49 hF
       refine c_seq ?_
       refine c_region ?_
       refine oy hS y_assign ?_
       refine n_thenN ?_
       obtain rfl := Option.some.inj hF
       exact wp_ret (wr1 hS)
     replace hF := bf c49 hF
     refine c_seq ?_
     refine c_region ?_
     refine oy hS y_move ?_
     refine o_callS hS Try.func93 rfl rfl (hc := (w_isa_Bits (a0 := a1))) (h := ?_)
     clear hS; intro w hS
     refine oy hS y_bin ?_
     refine oy hS y_assign ?_
     refine n_thenN ?_
     refine c_if (ht := fun c50 => ?_) (hf := fun c50 => ?_)
     · replace hF := bt c50 hF
       refine c_seq ?_
       refine c_region ?_
       refine oy hS (y_field fa_api_Ins_4) ?_
       refine oy hS (y_load (fun w hS => hS.own (mH)) Try.underlying3 rfl rfl) ?_
       refine oy hS y_bin ?_
       refine oy hS y_assign ?_
       refine n_thenN ?_
       obtain rfl := Option.some.inj hF
       exact wp_ret (wr1 hS)
     replace hF := bf c50 hF
     refine wp_skip ?_
     refine c_seq ?_
     refine c_quiet (by kernel_rfl) (by kernel_rfl) hS ?_
     refine qy (y_field fa_api_Ins_4) ?_
     refine qy (y_load (fun w hS => hS.own (mH)) Try.underlying3 rfl rfl) ?_
     refine qy y_move ?_
     refine q_callS Try.func93 rfl rfl (hc := (w_isa_Bits (a0 := a1))) (h := ?_)
     obtain ⟨r51, hr51, hF⟩ := ob hF
     refine q_callS Try.func94 rfl rfl (hc := (w_word_Within (a0 := a0.Imm) (a1 := (isa_Bits a1)) (hF := hr51))) (h := ?_)
     refine qy y_assign ?_
     refine q_nilN (h := ?_)
     clear hS; intro w hS
     obtain rfl := Option.some.inj hF
     exact wp_ret (wr1 hS)
   replace hF := bf c48 hF
   iterate 3 (refine o_sk rfl rfl ?_)
   refine oy hS y_pickF ?_
   refine oy hS y_assign ?_
   refine n_thenN ?_
   refine c_if_false (h := ?_)
   refine c_seq ?_
   refine c_region ?_
   refine oy hS y_move ?_
   refine o_callS hS Try.func93 rfl rfl (hc := (w_isa_Bits (a0 := a1))) (h := ?_)
   clear hS; intro w hS
   refine oy hS y_bin ?_
   refine oy hS y_assign ?_
   refine n_thenN ?_
   refine c_if (ht := fun c52 => ?_) (hf := fun c52 => ?_)
   · replace hF := bt c52 hF
     refine c_seq ?_
     refine c_region ?_
     refine oy hS (y_field fa_api_Ins_4) ?_
     refine oy hS (y_load (fun w hS => hS.own (mH)) Try.underlying3 rfl rfl) ?_
     refine oy hS y_bin ?_
     refine oy hS y_assign ?_
     refine n_thenN ?_
     obtain rfl := Option.some.inj hF
     exact wp_ret (wr1 hS)
   replace hF := bf c52 hF
   refine wp_skip ?_
   refine c_seq ?_
   refine c_quiet (by kernel_rfl) (by kernel_rfl) hS ?_
   refine qy (y_field fa_api_Ins_4) ?_
   refine qy (y_load (fun w hS => hS.own (mH)) Try.underlying3 rfl rfl) ?_
   refine qy y_move ?_
   refine q_callS Try.func93 rfl rfl (hc := (w_isa_Bits (a0 := a1))) (h := ?_)
   obtain ⟨r53, hr53, hF⟩ := ob hF
   refine q_callS Try.func94 rfl rfl (hc := (w_word_Within (a0 := a0.Imm) (a1 := (isa_Bits a1)) (hF := hr53))) (h := ?_)
   refine qy y_assign ?_
   refine q_nilN (h := ?_)
   clear hS; intro w hS
   obtain rfl := Option.some.inj hF
   exact wp_ret (wr1 hS)
 replace hF := bf c35 hF
 iterate 3 (refine o_sk rfl rfl ?_)
 refine oy hS y_pickF ?_
 refine oy hS y_move ?_
 iterate 4 (refine o_sk rfl rfl ?_)
 refine oy hS y_pickF ?_
 refine oy hS y_assign ?_
 refine n_thenN ?_
 refine c_if_false (h := ?_)
 refine c_region ?_
 refine oy hS y_move ?_
 refine oy hS y_bin ?_
 refine o_split (ht := fun c54 => ?_) (hf := fun c54 => ?_)
 · replace hF := bt c54 hF
   refine o_gu rfl rfl rfl ?_
   refine oy hS (y_field fa_api_Ins_5) ?_
   refine o_gu rfl rfl rfl ?_
   refine oy hS (y_load (fun w hS => hS.own (mH)) Try.underlying9 rfl rfl) ?_
   refine o_gu rfl rfl rfl ?_
   refine oy hS y_sneq ?_
   refine oy hS y_pickT ?_
   refine oy hS y_assign ?_
   refine n_thenN ?_
   refine c_if (ht := fun c55 => ?_) (hf := fun c55 => ?_)
   · replace hF := bt c55 hF
     refine c_seq ?_
     refine c_region ?_
     refine oy hS y_assign ?_
     refine n_thenN ?_
     obtain rfl := Option.some.inj hF
     exact wp_ret (wr1 hS)
   replace hF := bf c55 hF
   refine c_seq ?_
   refine c_region ?_
   refine oy hS y_move ?_
   refine o_callS hS Try.func93 rfl rfl (hc := (w_isa_Bits (a0 := a1))) (h := ?_)
   clear hS; intro w hS
   refine oy hS y_bin ?_
   refine oy hS y_assign ?_
   refine n_thenN ?_
   refine c_if (ht := fun c56 => ?_) (hf := fun c56 => ?_)
   · replace hF := bt c56 hF
     refine c_seq ?_
     refine c_region ?_
     refine oy hS (y_field fa_api_Ins_4) ?_
     refine oy hS (y_load (fun w hS => hS.own (mH)) Try.underlying3 rfl rfl) ?_
     refine oy hS y_bin ?_
     refine oy hS y_assign ?_
     refine n_thenN ?_
     obtain rfl := Option.some.inj hF
     exact wp_ret (wr1 hS)
   replace hF := bf c56 hF
   refine wp_skip ?_
   refine c_seq ?_
   refine c_quiet (by kernel_rfl) (by kernel_rfl) hS ?_
   refine qy (y_field fa_api_Ins_4) ?_
   refine qy (y_load (fun w hS => hS.own (mH)) Try.underlying3 rfl rfl) ?_
   refine qy y_move ?_
   refine q_callS Try.func93 rfl rfl (hc := (w_isa_Bits (a0 := a1))) (h := ?_)
   obtain ⟨r57, hr57, hF⟩ := ob hF
   refine q_callS Try.func94 rfl rfl (hc := (w_word_Within (a0 := a0.Imm) (a1 := (isa_Bits a1)) (hF := hr57))) (h := ?_)
   refine qy y_assign ?_
   refine q_nilN (h := ?_)
   clear hS; intro w hS
   obtain rfl := Option.some.inj hF
   exact wp_ret (wr1 hS)
 replace hF := bf c54 hF
 iterate 3 (refine o_sk rfl rfl ?_)
 refine oy hS y_pickF ?_
 refine oy hS y_assign ?_
 refine n_thenN ?_
 refine c_if_false (h := ?_)
 refine c_seq ?_
 refine c_region ?_
 refine oy hS y_move ?_
 refine o_callS hS Try.func93 rfl rfl (hc := (w_isa_Bits (a0 := a1))) (h := ?_)
 clear hS; intro w hS
 refine oy hS y_bin ?_
 refine oy hS y_assign ?_
 refine n_thenN ?_
 refine c_if (ht := fun c58 => ?_) (hf := fun c58 => ?_)
 · replace hF := bt c58 hF
   refine c_seq ?_
   refine c_region ?_
   refine oy hS (y_field fa_api_Ins_4) ?_
   refine oy hS (y_load (fun w hS => hS.own (mH)) Try.underlying3 rfl rfl) ?_
   refine oy hS y_bin ?_
   refine oy hS y_assign ?_
   refine n_thenN ?_
   obtain rfl := Option.some.inj hF
   exact wp_ret (wr1 hS)
 replace hF := bf c58 hF
 refine wp_skip ?_
 refine c_seq ?_
 refine c_quiet (by kernel_rfl) (by kernel_rfl) hS ?_
 refine qy (y_field fa_api_Ins_4) ?_
 refine qy (y_load (fun w hS => hS.own (mH)) Try.underlying3 rfl rfl) ?_
 refine qy y_move ?_
 refine q_callS Try.func93 rfl rfl (hc := (w_isa_Bits (a0 := a1))) (h := ?_)
 obtain ⟨r59, hr59, hF⟩ := ob hF
 refine q_callS Try.func94 rfl rfl (hc := (w_word_Within (a0 := a0.Imm) (a1 := (isa_Bits a1)) (hF := hr59))) (h := ?_)
 refine qy y_assign ?_
 refine q_nilN (h := ?_)
 clear hS; intro w hS
 obtain rfl := Option.some.inj hF
 exact wp_ret (wr1 hS)
theorem w_isa_imm {g : Frag} {a0 : T_Ins} {a1 : Int} {r : Bool}  (hF : isa_imm a0 a1 = some r) : LCs Try.prog 78 #[.agg #[.int .i64 a0.Op, .int .i64 a0.D, .int .i64 a0.A, .int .i64 a0.B, .int .i64 a0.Imm, .string a0.Sym], .int .i64 a1] g (.bool r) := w_isa_imm_  hF

noncomputable def isa_IsIns (a0 : T_Ins) : Option Bool :=
  bif !(isa_Is a0.Op) then some (false) else bif (isa_reg (isa_HasD (isa_Shape a0.Op)) a0.D) then bif (isa_reg (isa_HasA (isa_Shape a0.Op)) a0.A) then bif (isa_reg (isa_HasB (isa_Shape a0.Op)) a0.B) then (isa_imm a0 (isa_Shape a0.Op)).bind fun r6 => some (r6) else some (false) else some (false) else some (false)
set_option maxHeartbeats 2000000 in
theorem w_isa_IsIns_ {g : Frag} {a0 : T_Ins} {r : Bool}  (hF : isa_IsIns a0 = some r) : LCs Try.prog 53 #[.agg #[.int .i64 a0.Op, .int .i64 a0.D, .int .i64 a0.A, .int .i64 a0.B, .int .i64 a0.Imm, .string a0.Sym]] g (.bool r) := by
 unfold isa_IsIns at hF
 refine lc_body (k := 35) (av := [.agg #[.int .i64 a0.Op, .int .i64 a0.D, .int .i64 a0.A, .int .i64 a0.B, .int .i64 a0.Imm, .string a0.Sym]]) Try.func53 rfl rfl (h := fun W hS => ?_)
 refine c_seq ?_
 refine c_region ?_
 refine o_boxP (cl := [.int .i64 a0.Op, .int .i64 a0.D, .int .i64 a0.A, .int .i64 a0.B, .int .i64 a0.Imm, .string a0.Sym]) rfl hS ?_
 clear hS; intro b1 w hS
 refine oy hS y_assign ?_
 refine n_thenN ?_
 iterate 2 (refine c_seq ?_)
 refine c_region ?_
 refine oy hS (y_field fa_api_Ins_0) ?_
 refine oy hS (y_load (fun w hS => hS.own (mH)) Try.underlying3 rfl rfl) ?_
 refine o_callS hS Try.func74 rfl rfl (hc := (w_isa_Is (a0 := a0.Op))) (h := ?_)
 clear hS; intro w hS
 refine oy hS y_not ?_
 refine n_thenN ?_
 refine c_if (ht := fun c2 => ?_) (hf := fun c2 => ?_)
 · replace hF := bt c2 hF
   refine c_seq ?_
   refine c_region ?_
   refine oy hS y_assign ?_
   refine n_thenN ?_
   obtain rfl := Option.some.inj hF
   exact wp_ret (wr1 hS)
 replace hF := bf c2 hF
 refine wp_skip ?_
 refine c_seq ?_
 refine c_region ?_
 refine oy hS (y_field fa_api_Ins_0) ?_
 refine oy hS (y_load (fun w hS => hS.own (mH)) Try.underlying3 rfl rfl) ?_
 refine o_callS hS Try.func63 rfl rfl (hc := (w_isa_Shape (a0 := a0.Op))) (h := ?_)
 clear hS; intro w hS
 refine oy hS y_assign ?_
 refine n_thenN ?_
 refine c_seq ?_
 refine c_quiet (by kernel_rfl) (by kernel_rfl) hS ?_
 refine qy y_move ?_
 refine q_callS Try.func62 rfl rfl (hc := (w_isa_HasD (a0 := (isa_Shape a0.Op)))) (h := ?_)
 refine qy (y_field fa_api_Ins_1) ?_
 refine qy (y_load (fun w hS => hS.own (mH)) Try.underlying3 rfl rfl) ?_
 refine q_callS Try.func75 rfl rfl (hc := (w_isa_reg (a0 := (isa_HasD (isa_Shape a0.Op))) (a1 := a0.D))) (h := ?_)
 refine q_split (ht := fun c3 => ?_) (hf := fun c3 => ?_)
 · replace hF := bt c3 hF
   refine q_gu rfl rfl rfl ?_
   refine qy y_move ?_
   refine q_gu rfl rfl rfl ?_
   refine q_callS Try.func76 rfl rfl (hc := (w_isa_HasA (a0 := (isa_Shape a0.Op)))) (h := ?_)
   refine q_gu rfl rfl rfl ?_
   refine qy (y_field fa_api_Ins_2) ?_
   refine q_gu rfl rfl rfl ?_
   refine qy (y_load (fun w hS => hS.own (mH)) Try.underlying3 rfl rfl) ?_
   refine q_gu rfl rfl rfl ?_
   refine q_callS Try.func75 rfl rfl (hc := (w_isa_reg (a0 := (isa_HasA (isa_Shape a0.Op))) (a1 := a0.A))) (h := ?_)
   refine qy y_pickT ?_
   refine q_split (ht := fun c4 => ?_) (hf := fun c4 => ?_)
   · replace hF := bt c4 hF
     refine q_gu rfl rfl rfl ?_
     refine qy y_move ?_
     refine q_gu rfl rfl rfl ?_
     refine q_callS Try.func77 rfl rfl (hc := (w_isa_HasB (a0 := (isa_Shape a0.Op)))) (h := ?_)
     refine q_gu rfl rfl rfl ?_
     refine qy (y_field fa_api_Ins_3) ?_
     refine q_gu rfl rfl rfl ?_
     refine qy (y_load (fun w hS => hS.own (mH)) Try.underlying3 rfl rfl) ?_
     refine q_gu rfl rfl rfl ?_
     refine q_callS Try.func75 rfl rfl (hc := (w_isa_reg (a0 := (isa_HasB (isa_Shape a0.Op))) (a1 := a0.B))) (h := ?_)
     refine qy y_pickT ?_
     refine q_split (ht := fun c5 => ?_) (hf := fun c5 => ?_)
     · replace hF := bt c5 hF
       refine q_gu rfl rfl rfl ?_
       refine qy (y_loadW (fun w hS => hS.own (mH)) Try.underlying43 rfl (by exact sz_api_Ins)) ?_
       refine q_gu rfl rfl rfl ?_
       refine qy y_move ?_
       refine q_gu rfl rfl rfl ?_
       obtain ⟨r6, hr6, hF⟩ := ob hF
       refine q_callS Try.func78 rfl rfl (hc := (w_isa_imm (a0 := a0) (a1 := (isa_Shape a0.Op)) (hF := hr6))) (h := ?_)
       refine qy y_pickT ?_
       refine qy y_assign ?_
       refine q_nilN (h := ?_)
       clear hS; intro w hS
       obtain rfl := Option.some.inj hF
       exact wp_ret (wr1 hS)
     replace hF := bf c5 hF
     iterate 3 (refine q_sk rfl rfl ?_)
     refine qy y_pickF ?_
     refine qy y_assign ?_
     refine q_nilN (h := ?_)
     clear hS; intro w hS
     obtain rfl := Option.some.inj hF
     exact wp_ret (wr1 hS)
   replace hF := bf c4 hF
   iterate 5 (refine q_sk rfl rfl ?_)
   refine qy y_pickF ?_
   refine qy y_move ?_
   iterate 3 (refine q_sk rfl rfl ?_)
   refine qy y_pickF ?_
   refine qy y_assign ?_
   refine q_nilN (h := ?_)
   clear hS; intro w hS
   obtain rfl := Option.some.inj hF
   exact wp_ret (wr1 hS)
 replace hF := bf c3 hF
 iterate 5 (refine q_sk rfl rfl ?_)
 refine qy y_pickF ?_
 refine qy y_move ?_
 iterate 5 (refine q_sk rfl rfl ?_)
 refine qy y_pickF ?_
 refine qy y_move ?_
 iterate 3 (refine q_sk rfl rfl ?_)
 refine qy y_pickF ?_
 refine qy y_assign ?_
 refine q_nilN (h := ?_)
 clear hS; intro w hS
 obtain rfl := Option.some.inj hF
 exact wp_ret (wr1 hS)
theorem w_isa_IsIns {g : Frag} {a0 : T_Ins} {r : Bool}  (hF : isa_IsIns a0 = some r) : LCs Try.prog 53 #[.agg #[.int .i64 a0.Op, .int .i64 a0.D, .int .i64 a0.A, .int .i64 a0.B, .int .i64 a0.Imm, .string a0.Sym]] g (.bool r) := w_isa_IsIns_  hF

noncomputable def seq_Program_1 (a0 : T_Ins) : Option Bool :=
  (isa_IsIns a0).bind fun r2 => bif !r2 then some (true) else some (!(decide (a0.Sym = (ByteArray.mk #[]))))
set_option maxHeartbeats 2000000 in
theorem w_seq_Program_1_ {g : Frag} {a0 : T_Ins} {r : Bool}  (hF : seq_Program_1 a0 = some r) : LCs Try.prog 52 #[.agg #[.int .i64 a0.Op, .int .i64 a0.D, .int .i64 a0.A, .int .i64 a0.B, .int .i64 a0.Imm, .string a0.Sym]] g (.bool r) := by
 unfold seq_Program_1 at hF
 refine lc_body (k := 11) (av := [.agg #[.int .i64 a0.Op, .int .i64 a0.D, .int .i64 a0.A, .int .i64 a0.B, .int .i64 a0.Imm, .string a0.Sym]]) Try.func52 rfl rfl (h := fun W hS => ?_)
 refine c_seq ?_
 refine c_region ?_
 refine o_boxP (cl := [.int .i64 a0.Op, .int .i64 a0.D, .int .i64 a0.A, .int .i64 a0.B, .int .i64 a0.Imm, .string a0.Sym]) rfl hS ?_
 clear hS; intro b1 w hS
 refine oy hS y_assign ?_
 refine n_thenN ?_
 refine c_seq ?_
 refine c_region ?_
 refine oy hS (y_loadW (fun w hS => hS.own (mH)) Try.underlying43 rfl (by exact sz_api_Ins)) ?_
 obtain ⟨r2, hr2, hF⟩ := ob hF
 refine o_callS hS Try.func53 rfl rfl (hc := (w_isa_IsIns (a0 := a0) (hF := hr2))) (h := ?_)
 clear hS; intro w hS
 refine oy hS y_not ?_
 refine o_split (ht := fun c3 => ?_) (hf := fun c3 => ?_)
 · replace hF := bt c3 hF
   iterate 3 (refine o_sk rfl rfl ?_)
   refine oy hS y_pickT ?_
   refine oy hS y_assign ?_
   refine n_thenN ?_
   obtain rfl := Option.some.inj hF
   exact wp_ret (wr1 hS)
 replace hF := bf c3 hF
 refine o_gu rfl rfl rfl ?_
 refine oy hS (y_field fa_api_Ins_5) ?_
 refine o_gu rfl rfl rfl ?_
 refine oy hS (y_load (fun w hS => hS.own (mH)) Try.underlying9 rfl rfl) ?_
 refine o_gu rfl rfl rfl ?_
 refine oy hS y_sneq ?_
 refine oy hS y_pickF ?_
 refine oy hS y_assign ?_
 refine n_thenN ?_
 obtain rfl := Option.some.inj hF
 exact wp_ret (wr1 hS)
theorem w_seq_Program_1 {g : Frag} {a0 : T_Ins} {r : Bool}  (hF : seq_Program_1 a0 = some r) : LCs Try.prog 52 #[.agg #[.int .i64 a0.Op, .int .i64 a0.D, .int .i64 a0.A, .int .i64 a0.B, .int .i64 a0.Imm, .string a0.Sym]] g (.bool r) := w_seq_Program_1_  hF

noncomputable def slices_IndexFunc_api_Ins_api_Ins_seq_Program_1_b1 (a0 : (List T_Ins)) : Int → Option (Step Int Int) := fun x16 => bif decide (x16 < (a0.length : Int)) then (at' a0 x16).bind fun x37 => (seq_Program_1 x37).bind fun r49 => bif r49 then some (.done (x16)) else some (.next (IntKind.i64.wrap (x16 + 1))) else some (.done ((-1)))
noncomputable def slices_IndexFunc_api_Ins_api_Ins_seq_Program_1 (a0 : (List T_Ins)) : Option Int :=
  loop (σ := Int) (slices_IndexFunc_api_Ins_api_Ins_seq_Program_1_b1 a0) 0
set_option maxHeartbeats 2000000 in
theorem w_slices_IndexFunc_api_Ins_api_Ins_seq_Program_1_ {g : Frag} {a0 : (List T_Ins)} {v0_ : Value} {r : Int} (h0 : SlT g enc_Ins 6 a0 v0_) (hF : slices_IndexFunc_api_Ins_api_Ins_seq_Program_1 a0 = some r) : LCs Try.prog 79 #[v0_, .func (.func 52) #[] #[]] g (.int .i64 r) := by
 unfold slices_IndexFunc_api_Ins_api_Ins_seq_Program_1 at hF
 refine lc_body (k := 19) (av := [v0_, .func (.func 52) #[] #[]]) Try.func79 rfl rfl (h := fun W hS => ?_)
 refine c_seq ?_
 refine c_region ?_
 refine oy hS y_assign ?_
 refine n_thenN ?_
 iterate 2 (refine c_seq ?_)
 refine c_region ?_
 refine oy hS y_move ?_
 refine oy hS (y_len h0 Try.underlying22) ?_
 refine oy hS y_move ?_
 refine n_thenN ?_
 refine c_block ?_
 refine c_loopP hF (fun (q : Int) a w' => (∃ s : Nat → Value, a = Ac (.lit 19 [v0_, .func (.func 52) #[] #[], s 2, s 3, s 4, s 5, s 6, .int .i64 (a0.length : Int), .int .i64 q, s 9, s 10, s 11, s 12, s 13, s 14, s 15, s 16, s 17, s 18])) ∧ St W g [] [] w') ⟨mk_ex, (hS.re (.nil _))⟩ ?_
 clear hS hF
 intro n34 q a w hI hq
 revert hq hI; revert q; intro x16 hI hq
 obtain ⟨⟨s35, rfl⟩, hS⟩ := hq
 obtain ⟨z32, hF, hK33⟩ := iter_step hI
 clear hI
 dsimp only [slices_IndexFunc_api_Ins_api_Ins_seq_Program_1_b1] at hF
 refine c_seq ?_
 refine c_region ?_
 refine oy hS y_bin ?_
 refine n_thenN ?_
 refine c_seq ?_
 refine c_if (ht := fun c36 => ?_) (hf := fun c36 => ?_)
 · replace hF := bt c36 hF
   refine wp_skip ?_
   refine c_seq ?_
   refine c_block ?_
   refine c_seq ?_
   refine c_region ?_
   refine oy hS y_move ?_
   refine oy hS y_assign ?_
   refine n_thenN ?_
   refine c_seq ?_
   refine c_region ?_
   iterate 3 (refine oy hS y_move ?_)
   obtain ⟨x37, hx37, hF⟩ := ob hF
   obtain ⟨b38, o39, c40, cs41, e42, fz43, hv44, ha45, hb46, hd47, hc48⟩ := SlT.at hx37 h0 enc_len_Ins
   refine oy hS (y_index hv44 ha45 hb46 Try.underlying22 el_api_Ins.size) ?_
   refine oy hS (y_loadN (vs := [.int .i64 x37.Op, .int .i64 x37.D, .int .i64 x37.A, .int .i64 x37.B, .int .i64 x37.Imm, .string x37.Sym]) (fun w hS => hS.block hd47) Try.underlying43 rfl (by exact sz_api_Ins) (fun j u hj => hc48 j u hj)) ?_
   obtain ⟨r49, hr49, hF⟩ := ob hF
   refine o_callVS2 hS Try.func52 rfl rfl (hc := (w_seq_Program_1 (a0 := x37) (hF := hr49))) (h := ?_)
   clear hS; intro w hS
   refine n_thenN ?_
   refine c_if (ht := fun c50 => ?_) (hf := fun c50 => ?_)
   · replace hF := bt c50 hF
     refine c_seq ?_
     refine c_region ?_
     refine oy hS y_move ?_
     refine oy hS y_assign ?_
     refine n_thenN ?_
     obtain rfl := Option.some.inj hF
     obtain rfl : _ = r := hK33
     exact wp_ret (wr1 hS)
   replace hF := bf c50 hF
   refine wp_skip ?_
   refine c_region ?_
   refine oy hS y_bin ?_
   refine oy hS y_move ?_
   refine n_thenN ?_
   obtain rfl := Option.some.inj hF
   exact ⟨_, hK33, mk_ex, (hS.re (.nil _))⟩
 replace hF := bf c36 hF
 refine wp_exit ?_
 refine c_seq ?_
 refine c_region ?_
 refine oy hS y_assign ?_
 refine n_thenN ?_
 obtain rfl := Option.some.inj hF
 obtain rfl : _ = r := hK33
 exact wp_ret (wr1 hS)
theorem w_slices_IndexFunc_api_Ins_api_Ins_seq_Program_1 {g : Frag} {a0 : (List T_Ins)} {v0_ : Value} {r : Int} (h0 : SlT g enc_Ins 6 a0 v0_) (hF : slices_IndexFunc_api_Ins_api_Ins_seq_Program_1 a0 = some r) : LCs Try.prog 79 #[v0_, .func (.func 52) #[] #[]] g (.int .i64 r) := w_slices_IndexFunc_api_Ins_api_Ins_seq_Program_1_ h0 hF

noncomputable def slices_ContainsFunc_api_Ins_api_Ins_seq_Program_1 (a0 : (List T_Ins)) : Option Bool :=
  (slices_IndexFunc_api_Ins_api_Ins_seq_Program_1 a0).bind fun r1 => some (decide (0 ≤ r1))
set_option maxHeartbeats 2000000 in
theorem w_slices_ContainsFunc_api_Ins_api_Ins_seq_Program_1_ {g : Frag} {a0 : (List T_Ins)} {v0_ : Value} {r : Bool} (h0 : SlT g enc_Ins 6 a0 v0_) (hF : slices_ContainsFunc_api_Ins_api_Ins_seq_Program_1 a0 = some r) : LCs Try.prog 54 #[v0_, .func (.func 52) #[] #[]] g (.bool r) := by
 unfold slices_ContainsFunc_api_Ins_api_Ins_seq_Program_1 at hF
 refine lc_body (k := 9) (av := [v0_, .func (.func 52) #[] #[]]) Try.func54 rfl rfl (h := fun W hS => ?_)
 refine c_seq ?_
 refine c_region ?_
 refine oy hS y_assign ?_
 refine n_thenN ?_
 refine c_seq ?_
 refine c_region ?_
 iterate 2 (refine oy hS y_move ?_)
 obtain ⟨r1, hr1, hF⟩ := ob hF
 refine o_callS hS Try.func79 rfl rfl (hc := (w_slices_IndexFunc_api_Ins_api_Ins_seq_Program_1 (a0 := a0) (h0 := h0.plus) (hF := hr1))) (h := ?_)
 clear hS; intro w hS
 refine oy hS y_bin ?_
 refine oy hS y_assign ?_
 refine n_thenN ?_
 obtain rfl := Option.some.inj hF
 exact wp_ret (wr1 hS)
theorem w_slices_ContainsFunc_api_Ins_api_Ins_seq_Program_1 {g : Frag} {a0 : (List T_Ins)} {v0_ : Value} {r : Bool} (h0 : SlT g enc_Ins 6 a0 v0_) (hF : slices_ContainsFunc_api_Ins_api_Ins_seq_Program_1 a0 = some r) : LCs Try.prog 54 #[v0_, .func (.func 52) #[] #[]] g (.bool r) := w_slices_ContainsFunc_api_Ins_api_Ins_seq_Program_1_ h0 hF

noncomputable def seq_Program (a0 : (List T_Ins)) : Option Bool :=
  bif decide ((a0.length : Int) ≤ 1024) then (slices_ContainsFunc_api_Ins_api_Ins_seq_Program_1 a0).bind fun r2 => some (!r2) else some (false)
set_option maxHeartbeats 2000000 in
theorem w_seq_Program_ {g : Frag} {a0 : (List T_Ins)} {v0_ : Value} {r : Bool} (h0 : SlT g enc_Ins 6 a0 v0_) (hF : seq_Program a0 = some r) : LCs Try.prog 36 #[v0_] g (.bool r) := by
 unfold seq_Program at hF
 refine lc_body (k := 13) (av := [v0_]) Try.func36 rfl rfl (h := fun W hS => ?_)
 refine c_seq ?_
 refine c_region ?_
 refine oy hS y_assign ?_
 refine n_thenN ?_
 refine c_seq ?_
 refine c_region ?_
 refine oy hS y_assign ?_
 refine n_thenN ?_
 refine c_seq ?_
 refine c_region ?_
 refine oy hS y_move ?_
 refine oy hS (y_len h0 Try.underlying22) ?_
 refine oy hS y_bin ?_
 refine o_split (ht := fun c1 => ?_) (hf := fun c1 => ?_)
 · replace hF := bt c1 hF
   refine o_gu rfl rfl rfl ?_
   refine oy hS y_move ?_
   refine o_gu rfl rfl rfl ?_
   refine oy hS y_move ?_
   refine o_gu rfl rfl rfl ?_
   obtain ⟨r2, hr2, hF⟩ := ob hF
   refine o_callS hS Try.func54 rfl rfl (hc := (w_slices_ContainsFunc_api_Ins_api_Ins_seq_Program_1 (a0 := a0) (h0 := h0.plus) (hF := hr2))) (h := ?_)
   clear hS; intro w hS
   refine o_gu rfl rfl rfl ?_
   refine oy hS y_not ?_
   refine oy hS y_pickT ?_
   refine oy hS y_assign ?_
   refine n_thenN ?_
   obtain rfl := Option.some.inj hF
   exact wp_ret (wr1 hS)
 replace hF := bf c1 hF
 iterate 4 (refine o_sk rfl rfl ?_)
 refine oy hS y_pickF ?_
 refine oy hS y_assign ?_
 refine n_thenN ?_
 obtain rfl := Option.some.inj hF
 exact wp_ret (wr1 hS)
theorem w_seq_Program {g : Frag} {a0 : (List T_Ins)} {v0_ : Value} {r : Bool} (h0 : SlT g enc_Ins 6 a0 v0_) (hF : seq_Program a0 = some r) : LCs Try.prog 36 #[v0_] g (.bool r) := w_seq_Program_ h0 hF

def seq_upto_1 (a0 : Int) (a1 : Int) : Bool :=
  bif decide (a0 < 0) then true else decide (a1 < a0)
set_option maxHeartbeats 2000000 in
theorem w_seq_upto_1_ {g : Frag} {a0 : Int} {a1 : Int} {c1_ : Nat} {r : Bool} (h1 : g c1_ = some (blk [.int .i64 a1] 3)) (hF : seq_upto_1 a0 a1 = r) : LCs Try.prog 57 #[.int .i64 a0, .pointer (some ⟨c1_, 0, none⟩)] g (.bool r) := by
 unfold seq_upto_1 at hF
 refine lc_body (k := 11) (av := [.int .i64 a0, .pointer (some ⟨c1_, 0, none⟩)]) Try.func57 rfl rfl (h := fun W hS => ?_)
 refine c_seq ?_
 refine c_region ?_
 refine oy hS y_assign ?_
 refine n_thenN ?_
 refine c_seq ?_
 refine c_region ?_
 refine oy hS y_move ?_
 refine oy hS y_bin ?_
 refine o_split (ht := fun c1 => ?_) (hf := fun c1 => ?_)
 · replace hF := bt c1 hF
   iterate 3 (refine o_sk rfl rfl ?_)
   refine oy hS y_pickT ?_
   refine oy hS y_assign ?_
   refine n_thenN ?_
   subst hF
   exact wp_ret (wr1 hS)
 replace hF := bf c1 hF
 refine o_gu rfl rfl rfl ?_
 refine oy hS y_move ?_
 refine o_gu rfl rfl rfl ?_
 refine oy hS (y_load (fun w hS => hS.block h1) Try.underlying3 rfl rfl) ?_
 refine o_gu rfl rfl rfl ?_
 refine oy hS y_bin ?_
 refine oy hS y_pickF ?_
 refine oy hS y_assign ?_
 refine n_thenN ?_
 subst hF
 exact wp_ret (wr1 hS)
theorem w_seq_upto_1 {g : Frag} {a0 : Int} {a1 : Int} {c1_ : Nat} (h1 : g c1_ = some (blk [.int .i64 a1] 3)) : LCs Try.prog 57 #[.int .i64 a0, .pointer (some ⟨c1_, 0, none⟩)] g (.bool (seq_upto_1 a0 a1)) := w_seq_upto_1_ h1 rfl

noncomputable def slices_IndexFunc_int_int_seq_upto_1_b1 (a0 : (List Int)) (a1_0 : Int) : Int → Option (Step Int Int) := fun x15 => bif decide (x15 < (a0.length : Int)) then (at' a0 x15).bind fun x35 => bif (seq_upto_1 x35 a1_0) then some (.done (x15)) else some (.next (IntKind.i64.wrap (x15 + 1))) else some (.done ((-1)))
noncomputable def slices_IndexFunc_int_int_seq_upto_1 (a0 : (List Int)) (a1_0 : Int) : Option Int :=
  loop (σ := Int) (slices_IndexFunc_int_int_seq_upto_1_b1 a0 a1_0) 0
set_option maxHeartbeats 2000000 in
theorem w_slices_IndexFunc_int_int_seq_upto_1_ {g : Frag} {a0 : (List Int)} {v0_ : Value} {a1_0 : Int} {c1_0 : Nat} {r : Int} (h0 : SlT g enc_int 1 a0 v0_) (h1_0 : g c1_0 = some (blk [.int .i64 a1_0] 3)) (hF : slices_IndexFunc_int_int_seq_upto_1 a0 a1_0 = some r) : LCs Try.prog 80 #[v0_, .func (.func 57) #[] #[.pointer (some ⟨c1_0, 0, none⟩)]] g (.int .i64 r) := by
 unfold slices_IndexFunc_int_int_seq_upto_1 at hF
 refine lc_body (k := 19) (av := [v0_, .func (.func 57) #[] #[.pointer (some ⟨c1_0, 0, none⟩)]]) Try.func80 rfl rfl (h := fun W hS => ?_)
 refine c_seq ?_
 refine c_region ?_
 refine oy hS y_assign ?_
 refine n_thenN ?_
 iterate 2 (refine c_seq ?_)
 refine c_region ?_
 refine oy hS y_move ?_
 refine oy hS (y_len h0 Try.underlying24) ?_
 refine oy hS y_move ?_
 refine n_thenN ?_
 refine c_block ?_
 refine c_loopP hF (fun (q : Int) a w' => (∃ s : Nat → Value, a = Ac (.lit 19 [v0_, .func (.func 57) #[] #[.pointer (some ⟨c1_0, 0, none⟩)], s 2, s 3, s 4, s 5, s 6, .int .i64 (a0.length : Int), .int .i64 q, s 9, s 10, s 11, s 12, s 13, s 14, s 15, s 16, s 17, s 18])) ∧ St W g [] [] w') ⟨mk_ex, (hS.re (.nil _))⟩ ?_
 clear hS hF
 intro n32 q a w hI hq
 revert hq hI; revert q; intro x15 hI hq
 obtain ⟨⟨s33, rfl⟩, hS⟩ := hq
 obtain ⟨z30, hF, hK31⟩ := iter_step hI
 clear hI
 dsimp only [slices_IndexFunc_int_int_seq_upto_1_b1] at hF
 refine c_seq ?_
 refine c_region ?_
 refine oy hS y_bin ?_
 refine n_thenN ?_
 refine c_seq ?_
 refine c_if (ht := fun c34 => ?_) (hf := fun c34 => ?_)
 · replace hF := bt c34 hF
   refine wp_skip ?_
   refine c_seq ?_
   refine c_block ?_
   refine c_seq ?_
   refine c_region ?_
   refine oy hS y_move ?_
   refine oy hS y_assign ?_
   refine n_thenN ?_
   refine c_seq ?_
   refine c_region ?_
   iterate 3 (refine oy hS y_move ?_)
   obtain ⟨x35, hx35, hF⟩ := ob hF
   obtain ⟨b36, o37, c38, cs39, e40, fz41, hv42, ha43, hb44, hd45, hc46⟩ := SlT.at hx35 h0 enc_len_int
   refine oy hS (y_index hv42 ha43 hb44 Try.underlying24 el_int.size) ?_
   refine oy hS (y_load (fun w hS => hS.block hd45) Try.underlying3 rfl (hc46 0 _ rfl)) ?_
   refine o_callVS2 hS Try.func57 rfl rfl (hc := (w_seq_upto_1 (a0 := x35) (a1 := a1_0) (h1 := (Frag.le_plus _ _ _ _ h1_0)))) (h := ?_)
   clear hS; intro w hS
   refine n_thenN ?_
   refine c_if (ht := fun c47 => ?_) (hf := fun c47 => ?_)
   · replace hF := bt c47 hF
     refine c_seq ?_
     refine c_region ?_
     refine oy hS y_move ?_
     refine oy hS y_assign ?_
     refine n_thenN ?_
     obtain rfl := Option.some.inj hF
     obtain rfl : _ = r := hK31
     exact wp_ret (wr1 hS)
   replace hF := bf c47 hF
   refine wp_skip ?_
   refine c_region ?_
   refine oy hS y_bin ?_
   refine oy hS y_move ?_
   refine n_thenN ?_
   obtain rfl := Option.some.inj hF
   exact ⟨_, hK31, mk_ex, (hS.re (.nil _))⟩
 replace hF := bf c34 hF
 refine wp_exit ?_
 refine c_seq ?_
 refine c_region ?_
 refine oy hS y_assign ?_
 refine n_thenN ?_
 obtain rfl := Option.some.inj hF
 obtain rfl : _ = r := hK31
 exact wp_ret (wr1 hS)
theorem w_slices_IndexFunc_int_int_seq_upto_1 {g : Frag} {a0 : (List Int)} {v0_ : Value} {a1_0 : Int} {c1_0 : Nat} {r : Int} (h0 : SlT g enc_int 1 a0 v0_) (h1_0 : g c1_0 = some (blk [.int .i64 a1_0] 3)) (hF : slices_IndexFunc_int_int_seq_upto_1 a0 a1_0 = some r) : LCs Try.prog 80 #[v0_, .func (.func 57) #[] #[.pointer (some ⟨c1_0, 0, none⟩)]] g (.int .i64 r) := w_slices_IndexFunc_int_int_seq_upto_1_ h0 h1_0 hF

noncomputable def slices_ContainsFunc_int_int_seq_upto_1 (a0 : (List Int)) (a1_0 : Int) : Option Bool :=
  (slices_IndexFunc_int_int_seq_upto_1 a0 a1_0).bind fun r1 => some (decide (0 ≤ r1))
set_option maxHeartbeats 2000000 in
theorem w_slices_ContainsFunc_int_int_seq_upto_1_ {g : Frag} {a0 : (List Int)} {v0_ : Value} {a1_0 : Int} {c1_0 : Nat} {r : Bool} (h0 : SlT g enc_int 1 a0 v0_) (h1_0 : g c1_0 = some (blk [.int .i64 a1_0] 3)) (hF : slices_ContainsFunc_int_int_seq_upto_1 a0 a1_0 = some r) : LCs Try.prog 56 #[v0_, .func (.func 57) #[] #[.pointer (some ⟨c1_0, 0, none⟩)]] g (.bool r) := by
 unfold slices_ContainsFunc_int_int_seq_upto_1 at hF
 refine lc_body (k := 9) (av := [v0_, .func (.func 57) #[] #[.pointer (some ⟨c1_0, 0, none⟩)]]) Try.func56 rfl rfl (h := fun W hS => ?_)
 refine c_seq ?_
 refine c_region ?_
 refine oy hS y_assign ?_
 refine n_thenN ?_
 refine c_seq ?_
 refine c_region ?_
 iterate 2 (refine oy hS y_move ?_)
 obtain ⟨r1, hr1, hF⟩ := ob hF
 refine o_callS hS Try.func80 rfl rfl (hc := (w_slices_IndexFunc_int_int_seq_upto_1 (a0 := a0) (a1_0 := a1_0) (h0 := h0.plus) (h1_0 := (Frag.le_plus _ _ _ _ h1_0)) (hF := hr1))) (h := ?_)
 clear hS; intro w hS
 refine oy hS y_bin ?_
 refine oy hS y_assign ?_
 refine n_thenN ?_
 obtain rfl := Option.some.inj hF
 exact wp_ret (wr1 hS)
theorem w_slices_ContainsFunc_int_int_seq_upto_1 {g : Frag} {a0 : (List Int)} {v0_ : Value} {a1_0 : Int} {c1_0 : Nat} {r : Bool} (h0 : SlT g enc_int 1 a0 v0_) (h1_0 : g c1_0 = some (blk [.int .i64 a1_0] 3)) (hF : slices_ContainsFunc_int_int_seq_upto_1 a0 a1_0 = some r) : LCs Try.prog 56 #[v0_, .func (.func 57) #[] #[.pointer (some ⟨c1_0, 0, none⟩)]] g (.bool r) := w_slices_ContainsFunc_int_int_seq_upto_1_ h0 h1_0 hF

noncomputable def seq_upto (a0 : Int) (a1 : (List Int)) : Option Bool :=
  (slices_ContainsFunc_int_int_seq_upto_1 a1 a0).bind fun r2 => some (!r2)
set_option maxHeartbeats 2000000 in
theorem w_seq_upto_ {g : Frag} {a0 : Int} {a1 : (List Int)} {v1_ : Value} {r : Bool} (h1 : SlT g enc_int 1 a1 v1_) (hF : seq_upto a0 a1 = some r) : LCs Try.prog 38 #[.int .i64 a0, v1_] g (.bool r) := by
 unfold seq_upto at hF
 refine lc_body (k := 9) (av := [.int .i64 a0, v1_]) Try.func38 rfl rfl (h := fun W hS => ?_)
 refine c_seq ?_
 refine c_region ?_
 refine o_boxP (cl := [.int .i64 a0]) rfl hS ?_
 clear hS; intro b1 w hS
 refine oy hS y_assign ?_
 refine n_thenN ?_
 refine c_seq ?_
 refine c_region ?_
 refine oy hS y_move ?_
 refine oy hS (y_makeFunc av0 (av1 (by (conv => lhs; whnf) <;> exact rfl))) ?_
 obtain ⟨r2, hr2, hF⟩ := ob hF
 refine o_callS hS Try.func56 rfl rfl (hc := (w_slices_ContainsFunc_int_int_seq_upto_1 (a0 := a1) (a1_0 := a0) (h0 := h1.plus) (h1_0 := (St.plus hS (mH))) (hF := hr2))) (h := ?_)
 clear hS; intro w hS
 refine oy hS y_not ?_
 refine oy hS y_assign ?_
 refine n_thenN ?_
 obtain rfl := Option.some.inj hF
 exact wp_ret (wr1 hS)
theorem w_seq_upto {g : Frag} {a0 : Int} {a1 : (List Int)} {v1_ : Value} {r : Bool} (h1 : SlT g enc_int 1 a1 v1_) (hF : seq_upto a0 a1 = some r) : LCs Try.prog 38 #[.int .i64 a0, v1_] g (.bool r) := w_seq_upto_ h1 hF

noncomputable def seq_Core_k1 (a0 : T_State) : Unit → Option Bool := fun _ => (seq_upto (a0.In_.length : Int) ([a0.Taken] : List Int)).bind fun r16 => bif r16 then (seq_upto 1024 ([a0.PC] : List Int)).bind fun r21 => bif r21 then (seq_upto 1024 a0.Stack).bind fun r23 => some (r23) else some (false) else some (false)
noncomputable def seq_Core (a0 : T_State) : Option Bool :=
  cut (σ := Unit) (bif decide ((a0.Regs.length : Int) ≠ 16) then some (.done (false)) else bif decide ((a0.Mem.length : Int) ≠ 256) then some (.done (false)) else bif decide (100 < (a0.In_.length : Int)) then some (.done (false)) else bif decide (16 < (a0.Stack.length : Int)) then some (.done (false)) else some (.next ())) (seq_Core_k1 a0)
set_option maxHeartbeats 2000000 in
theorem w_seq_Core_ {g : Frag} {a0 : T_State} {v0_ : Value} {r : Bool} (h0 : Rd_State g a0 v0_) (hF : seq_Core a0 = some r) : LCs Try.prog 55 #[v0_] g (.bool r) := by
 obtain ⟨v0_0_, v0_1_, v0_2_, v0_4_, v0_6_, v0_8_, rfl, h0_0_, h0_1_, h0_2_, h0_4_, h0_6_, h0_8_⟩ := h0
 unfold seq_Core at hF
 refine lc_body (k := 43) (av := [.agg #[v0_0_, v0_1_, v0_2_, .int .i64 a0.Taken, v0_4_, .int .i64 a0.PC, v0_6_, .int .i64 a0.Stop, v0_8_, .int .i64 a0.Jump, .int .i64 a0.Delay]]) Try.func55 rfl rfl (h := fun W hS => ?_)
 refine c_seq ?_
 refine c_region ?_
 refine o_boxP (cl := [v0_0_, v0_1_, v0_2_, .int .i64 a0.Taken, v0_4_, .int .i64 a0.PC, v0_6_, .int .i64 a0.Stop, v0_8_, .int .i64 a0.Jump, .int .i64 a0.Delay]) rfl hS ?_
 clear hS; intro b1 w hS
 refine oy hS y_assign ?_
 refine n_thenN ?_
 obtain ⟨z6, hF, hK7⟩ := cut_step hF
 refine c_cutP (fun a w' => seq_Core_k1 a0 () = some r ∧ (∃ s : Nat → Value, a = Ac (.lit 43 [s 0, .pointer (some ⟨b1, 0, none⟩), s 2, s 3, s 4, s 5, s 6, s 7, s 8, s 9, s 10, s 11, s 12, s 13, s 14, s 15, s 16, s 17, s 18, s 19, s 20, s 21, s 22, s 23, s 24, s 25, s 26, s 27, s 28, s 29, s 30, s 31, s 32, s 33, s 34, s 35, s 36, s 37, s 38, s 39, s 40, s 41, s 42])) ∧ St W g [] ((b1, blk [v0_0_, v0_1_, v0_2_, .int .i64 a0.Taken, v0_4_, .int .i64 a0.PC, v0_6_, .int .i64 a0.Stop, v0_8_, .int .i64 a0.Jump, .int .i64 a0.Delay] 27) :: []) w') ?_ ?_
 · skip
   refine c_seq ?_
   refine c_region ?_
   refine oy hS (y_field fa_api_State_0) ?_
   refine oy hS (y_load (fun w hS => hS.own (mH)) Try.underlying23 rfl rfl) ?_
   refine oy hS (y_len h0_0_ Try.underlying23) ?_
   refine oy hS y_bin ?_
   refine o_split (ht := fun c8 => ?_) (hf := fun c8 => ?_)
   · replace hF := bt c8 hF
     iterate 4 (refine o_sk rfl rfl ?_)
     refine oy hS y_pickT ?_
     refine oy hS y_move ?_
     iterate 4 (refine o_sk rfl rfl ?_)
     refine oy hS y_pickT ?_
     refine oy hS y_move ?_
     iterate 4 (refine o_sk rfl rfl ?_)
     refine oy hS y_pickT ?_
     refine n_thenN ?_
     refine c_if_true (h := ?_)
     refine c_seq ?_
     refine c_region ?_
     refine oy hS y_assign ?_
     refine n_thenN ?_
     obtain rfl := Option.some.inj hF
     obtain rfl : _ = r := hK7
     exact wp_ret (wr1 hS)
   replace hF := bf c8 hF
   refine o_gu rfl rfl rfl ?_
   refine oy hS (y_field fa_api_State_1) ?_
   refine o_gu rfl rfl rfl ?_
   refine oy hS (y_load (fun w hS => hS.own (mH)) Try.underlying23 rfl rfl) ?_
   refine o_gu rfl rfl rfl ?_
   refine oy hS (y_len h0_1_ Try.underlying23) ?_
   refine o_gu rfl rfl rfl ?_
   refine oy hS y_bin ?_
   refine oy hS y_pickF ?_
   refine o_split (ht := fun c9 => ?_) (hf := fun c9 => ?_)
   · replace hF := bt c9 hF
     iterate 4 (refine o_sk rfl rfl ?_)
     refine oy hS y_pickT ?_
     refine oy hS y_move ?_
     iterate 4 (refine o_sk rfl rfl ?_)
     refine oy hS y_pickT ?_
     refine n_thenN ?_
     refine c_if_true (h := ?_)
     refine c_seq ?_
     refine c_region ?_
     refine oy hS y_assign ?_
     refine n_thenN ?_
     obtain rfl := Option.some.inj hF
     obtain rfl : _ = r := hK7
     exact wp_ret (wr1 hS)
   replace hF := bf c9 hF
   refine o_gu rfl rfl rfl ?_
   refine oy hS (y_field fa_api_State_2) ?_
   refine o_gu rfl rfl rfl ?_
   refine oy hS (y_load (fun w hS => hS.own (mH)) Try.underlying23 rfl rfl) ?_
   refine o_gu rfl rfl rfl ?_
   refine oy hS (y_len h0_2_ Try.underlying23) ?_
   refine o_gu rfl rfl rfl ?_
   refine oy hS y_bin ?_
   refine oy hS y_pickF ?_
   refine o_split (ht := fun c10 => ?_) (hf := fun c10 => ?_)
   · replace hF := bt c10 hF
     iterate 4 (refine o_sk rfl rfl ?_)
     refine oy hS y_pickT ?_
     refine n_thenN ?_
     refine c_if_true (h := ?_)
     refine c_seq ?_
     refine c_region ?_
     refine oy hS y_assign ?_
     refine n_thenN ?_
     obtain rfl := Option.some.inj hF
     obtain rfl : _ = r := hK7
     exact wp_ret (wr1 hS)
   replace hF := bf c10 hF
   refine o_gu rfl rfl rfl ?_
   refine oy hS (y_field fa_api_State_6) ?_
   refine o_gu rfl rfl rfl ?_
   refine oy hS (y_load (fun w hS => hS.own (mH)) Try.underlying24 rfl rfl) ?_
   refine o_gu rfl rfl rfl ?_
   refine oy hS (y_len h0_6_ Try.underlying24) ?_
   refine o_gu rfl rfl rfl ?_
   refine oy hS y_bin ?_
   refine oy hS y_pickF ?_
   refine n_thenN ?_
   refine c_if (ht := fun c11 => ?_) (hf := fun c11 => ?_)
   · replace hF := bt c11 hF
     refine c_seq ?_
     refine c_region ?_
     refine oy hS y_assign ?_
     refine n_thenN ?_
     obtain rfl := Option.some.inj hF
     obtain rfl : _ = r := hK7
     exact wp_ret (wr1 hS)
   replace hF := bf c11 hF
   refine wp_skip ?_
   obtain rfl := Option.some.inj hF
   change _ ∧ _
   exact ⟨hK7, mk_ex, (hS.re (.takeb (.hereb _ _) (.nil _)))⟩
 rintro a w ⟨hF, ⟨s12, rfl⟩, hS⟩
 dsimp only [seq_Core_k1] at hF
 refine c_seq ?_
 refine c_region ?_
 refine oy hS (y_field fa_api_State_2) ?_
 refine oy hS (y_load (fun w hS => hS.own (mH)) Try.underlying23 rfl rfl) ?_
 refine oy hS (y_len h0_2_ Try.underlying23) ?_
 refine oy hS (y_field fa_api_State_3) ?_
 refine oy hS (y_load (fun w hS => hS.own (mH)) Try.underlying3 rfl rfl) ?_
 refine o_buildT val_int ([a0.Taken] : List Int) hS el_int (fun _ => rfl) enc_len_int (by decide) rfl (by decide) (hp := rfl) (h := ?_)
 clear hS; intro b13 w hS h14
 have hS : St W g [] ([(b13, blk (([a0.Taken] : List Int).flatMap enc_int) 3)] ++ ((b1, blk [v0_0_, v0_1_, v0_2_, .int .i64 a0.Taken, v0_4_, .int .i64 a0.PC, v0_6_, .int .i64 a0.Stop, v0_8_, .int .i64 a0.Jump, .int .i64 a0.Delay] 27) :: [])) w := hS
 obtain ⟨r16, hr16, hF⟩ := ob hF
 refine o_callS hS Try.func38 rfl rfl (hc := (w_seq_upto (a0 := (a0.In_.length : Int)) (a1 := ([a0.Taken] : List Int)) (h1 := (OwT.plus h14 hS (fun p hp => mA (hp)))) (hF := hr16))) (h := ?_)
 clear hS; intro w hS
 refine o_split (ht := fun c17 => ?_) (hf := fun c17 => ?_)
 · replace hF := bt c17 hF
   refine o_gu rfl rfl rfl ?_
   refine oy hS (y_field fa_api_State_5) ?_
   refine o_gu rfl rfl rfl ?_
   refine oy hS (y_load (fun w hS => hS.own (mB (mH))) Try.underlying3 rfl rfl) ?_
   refine o_gu rfl rfl rfl ?_
   refine o_buildT val_int ([a0.PC] : List Int) hS el_int (fun _ => rfl) enc_len_int (by decide) rfl (by decide) (hp := rfl) (h := ?_)
   clear hS; intro b18 w hS h19
   have hS : St W g [] ([(b18, blk (([a0.PC] : List Int).flatMap enc_int) 3)] ++ ([(b13, blk (([a0.Taken] : List Int).flatMap enc_int) 3)] ++ ((b1, blk [v0_0_, v0_1_, v0_2_, .int .i64 a0.Taken, v0_4_, .int .i64 a0.PC, v0_6_, .int .i64 a0.Stop, v0_8_, .int .i64 a0.Jump, .int .i64 a0.Delay] 27) :: []))) w := hS
   refine o_gu rfl rfl rfl ?_
   obtain ⟨r21, hr21, hF⟩ := ob hF
   refine o_callS hS Try.func38 rfl rfl (hc := (w_seq_upto (a0 := 1024) (a1 := ([a0.PC] : List Int)) (h1 := (OwT.plus h19 hS (fun p hp => mA (hp)))) (hF := hr21))) (h := ?_)
   clear hS; intro w hS
   refine oy hS y_pickT ?_
   refine o_split (ht := fun c22 => ?_) (hf := fun c22 => ?_)
   · replace hF := bt c22 hF
     refine o_gu rfl rfl rfl ?_
     refine oy hS (y_field fa_api_State_6) ?_
     refine o_gu rfl rfl rfl ?_
     refine oy hS (y_load (fun w hS => hS.own (mB (mB (mH)))) Try.underlying24 rfl rfl) ?_
     refine o_gu rfl rfl rfl ?_
     obtain ⟨r23, hr23, hF⟩ := ob hF
     refine o_callS hS Try.func38 rfl rfl (hc := (w_seq_upto (a0 := 1024) (a1 := a0.Stack) (h1 := h0_6_.plus) (hF := hr23))) (h := ?_)
     clear hS; intro w hS
     refine oy hS y_pickT ?_
     refine oy hS y_assign ?_
     refine n_thenN ?_
     obtain rfl := Option.some.inj hF
     exact wp_ret (wr1 hS)
   replace hF := bf c22 hF
   iterate 3 (refine o_sk rfl rfl ?_)
   refine oy hS y_pickF ?_
   refine oy hS y_assign ?_
   refine n_thenN ?_
   obtain rfl := Option.some.inj hF
   exact wp_ret (wr1 hS)
 replace hF := bf c17 hF
 iterate 4 (refine o_sk rfl rfl ?_)
 refine oy hS y_pickF ?_
 refine oy hS y_move ?_
 iterate 3 (refine o_sk rfl rfl ?_)
 refine oy hS y_pickF ?_
 refine oy hS y_assign ?_
 refine n_thenN ?_
 obtain rfl := Option.some.inj hF
 exact wp_ret (wr1 hS)
theorem w_seq_Core {g : Frag} {a0 : T_State} {v0_ : Value} {r : Bool} (h0 : Rd_State g a0 v0_) (hF : seq_Core a0 = some r) : LCs Try.prog 55 #[v0_] g (.bool r) := w_seq_Core_ h0 hF

noncomputable def seq_May (a0 : T_State) : Option Bool :=
  (seq_Core a0).bind fun r2 => bif r2 then (seq_upto 5 ([a0.Stop] : List Int)).bind fun r7 => bif r7 then bif decide ((a0.Fly.length : Int) = 0) then bif decide (a0.Jump = 0) then some (decide (a0.Delay = 0)) else some (false) else some (false) else some (false) else some (false)
set_option maxHeartbeats 2000000 in
theorem w_seq_May_ {g : Frag} {a0 : T_State} {v0_ : Value} {r : Bool} (h0 : Rd_State g a0 v0_) (hF : seq_May a0 = some r) : LCs Try.prog 37 #[v0_] g (.bool r) := by
 obtain ⟨v0_0_, v0_1_, v0_2_, v0_4_, v0_6_, v0_8_, rfl, h0_0_, h0_1_, h0_2_, h0_4_, h0_6_, h0_8_⟩ := h0
 unfold seq_May at hF
 refine lc_body (k := 27) (av := [.agg #[v0_0_, v0_1_, v0_2_, .int .i64 a0.Taken, v0_4_, .int .i64 a0.PC, v0_6_, .int .i64 a0.Stop, v0_8_, .int .i64 a0.Jump, .int .i64 a0.Delay]]) Try.func37 rfl rfl (h := fun W hS => ?_)
 refine c_seq ?_
 refine c_region ?_
 refine o_boxP (cl := [v0_0_, v0_1_, v0_2_, .int .i64 a0.Taken, v0_4_, .int .i64 a0.PC, v0_6_, .int .i64 a0.Stop, v0_8_, .int .i64 a0.Jump, .int .i64 a0.Delay]) rfl hS ?_
 clear hS; intro b1 w hS
 refine oy hS y_assign ?_
 refine n_thenN ?_
 refine c_seq ?_
 refine c_region ?_
 refine oy hS (y_loadW (fun w hS => hS.own (mH)) Try.underlying27 rfl (by exact sz_api_State)) ?_
 obtain ⟨r2, hr2, hF⟩ := ob hF
 refine o_callS hS Try.func55 rfl rfl (hc := (w_seq_Core (a0 := a0) (h0 := ⟨_, _, _, _, _, _, rfl, h0_0_.plus, h0_1_.plus, h0_2_.plus, h0_4_.plus, h0_6_.plus, h0_8_.plus⟩) (hF := hr2))) (h := ?_)
 clear hS; intro w hS
 refine o_split (ht := fun c3 => ?_) (hf := fun c3 => ?_)
 · replace hF := bt c3 hF
   refine o_gu rfl rfl rfl ?_
   refine oy hS (y_field fa_api_State_7) ?_
   refine o_gu rfl rfl rfl ?_
   refine oy hS (y_load (fun w hS => hS.own (mH)) Try.underlying3 rfl rfl) ?_
   refine o_gu rfl rfl rfl ?_
   refine o_buildT val_int ([a0.Stop] : List Int) hS el_int (fun _ => rfl) enc_len_int (by decide) rfl (by decide) (hp := rfl) (h := ?_)
   clear hS; intro b4 w hS h5
   have hS : St W g [] ([(b4, blk (([a0.Stop] : List Int).flatMap enc_int) 3)] ++ ((b1, blk [v0_0_, v0_1_, v0_2_, .int .i64 a0.Taken, v0_4_, .int .i64 a0.PC, v0_6_, .int .i64 a0.Stop, v0_8_, .int .i64 a0.Jump, .int .i64 a0.Delay] 27) :: [])) w := hS
   refine o_gu rfl rfl rfl ?_
   obtain ⟨r7, hr7, hF⟩ := ob hF
   refine o_callS hS Try.func38 rfl rfl (hc := (w_seq_upto (a0 := 5) (a1 := ([a0.Stop] : List Int)) (h1 := (OwT.plus h5 hS (fun p hp => mA (hp)))) (hF := hr7))) (h := ?_)
   clear hS; intro w hS
   refine oy hS y_pickT ?_
   refine o_split (ht := fun c8 => ?_) (hf := fun c8 => ?_)
   · replace hF := bt c8 hF
     refine o_gu rfl rfl rfl ?_
     refine oy hS (y_field fa_api_State_8) ?_
     refine o_gu rfl rfl rfl ?_
     refine oy hS (y_load (fun w hS => hS.own (mB (mH))) Try.underlying25 rfl rfl) ?_
     refine o_gu rfl rfl rfl ?_
     refine oy hS (y_len h0_8_ Try.underlying25) ?_
     refine o_gu rfl rfl rfl ?_
     refine oy hS y_bin ?_
     refine oy hS y_pickT ?_
     refine o_split (ht := fun c9 => ?_) (hf := fun c9 => ?_)
     · replace hF := bt c9 hF
       refine o_gu rfl rfl rfl ?_
       refine oy hS (y_field fa_api_State_9) ?_
       refine o_gu rfl rfl rfl ?_
       refine oy hS (y_load (fun w hS => hS.own (mB (mH))) Try.underlying3 rfl rfl) ?_
       refine o_gu rfl rfl rfl ?_
       refine oy hS y_bin ?_
       refine oy hS y_pickT ?_
       refine o_split (ht := fun c10 => ?_) (hf := fun c10 => ?_)
       · replace hF := bt c10 hF
         refine o_gu rfl rfl rfl ?_
         refine oy hS (y_field fa_api_State_10) ?_
         refine o_gu rfl rfl rfl ?_
         refine oy hS (y_load (fun w hS => hS.own (mB (mH))) Try.underlying3 rfl rfl) ?_
         refine o_gu rfl rfl rfl ?_
         refine oy hS y_bin ?_
         refine oy hS y_pickT ?_
         refine oy hS y_assign ?_
         refine n_thenN ?_
         obtain rfl := Option.some.inj hF
         exact wp_ret (wr1 hS)
       replace hF := bf c10 hF
       iterate 3 (refine o_sk rfl rfl ?_)
       refine oy hS y_pickF ?_
       refine oy hS y_assign ?_
       refine n_thenN ?_
       obtain rfl := Option.some.inj hF
       exact wp_ret (wr1 hS)
     replace hF := bf c9 hF
     iterate 3 (refine o_sk rfl rfl ?_)
     refine oy hS y_pickF ?_
     refine oy hS y_move ?_
     iterate 3 (refine o_sk rfl rfl ?_)
     refine oy hS y_pickF ?_
     refine oy hS y_assign ?_
     refine n_thenN ?_
     obtain rfl := Option.some.inj hF
     exact wp_ret (wr1 hS)
   replace hF := bf c8 hF
   iterate 4 (refine o_sk rfl rfl ?_)
   refine oy hS y_pickF ?_
   refine oy hS y_move ?_
   iterate 3 (refine o_sk rfl rfl ?_)
   refine oy hS y_pickF ?_
   refine oy hS y_move ?_
   iterate 3 (refine o_sk rfl rfl ?_)
   refine oy hS y_pickF ?_
   refine oy hS y_assign ?_
   refine n_thenN ?_
   obtain rfl := Option.some.inj hF
   exact wp_ret (wr1 hS)
 replace hF := bf c3 hF
 iterate 4 (refine o_sk rfl rfl ?_)
 refine oy hS y_pickF ?_
 refine oy hS y_move ?_
 iterate 4 (refine o_sk rfl rfl ?_)
 refine oy hS y_pickF ?_
 refine oy hS y_move ?_
 iterate 3 (refine o_sk rfl rfl ?_)
 refine oy hS y_pickF ?_
 refine oy hS y_move ?_
 iterate 3 (refine o_sk rfl rfl ?_)
 refine oy hS y_pickF ?_
 refine oy hS y_assign ?_
 refine n_thenN ?_
 obtain rfl := Option.some.inj hF
 exact wp_ret (wr1 hS)
theorem w_seq_May {g : Frag} {a0 : T_State} {v0_ : Value} {r : Bool} (h0 : Rd_State g a0 v0_) (hF : seq_May a0 = some r) : LCs Try.prog 37 #[v0_] g (.bool r) := w_seq_May_ h0 hF

def slices_Clone_uint32 (a0 : List Int) : Option (List Int) := app' [] a0
theorem w_slices_Clone_uint32 {g : Frag} {a0 : List Int} {v0_ : Value} (h0 : SlT g enc_uint32 1 a0 v0_) {r : List Int} (hF : slices_Clone_uint32 a0 = some r) : LC Try.prog 49 #[v0_] g [] (fun v L => ∃ (u0 : Value) (M0 : Own), u0 = v ∧ L = (M0 ++ []) ∧ OwT 63 enc_uint32 1 r u0 M0) := by
  unfold slices_Clone_uint32 at hF
  refine lc_body (k := 8) (av := [v0_]) Try.func49 rfl rfl (h := fun W hS => ?_)
  refine c_seq ?_
  refine c_region ?_
  refine oy hS y_assign ?_
  refine n_thenN (h := ?_)
  refine c_seq ?_
  refine c_seq ?_
  refine c_region ?_
  refine oy hS y_move ?_
  refine oy hS (y_nilsl h0 Try.underlying23) ?_
  refine n_thenN (h := ?_)
  refine c_if (ht := fun c1 => ?_) (hf := fun c1 => ?_)
  · obtain rfl := isNil_nil h0 c1
    obtain ⟨_, rfl⟩ := app'_some hF
    refine c_seq ?_
    refine c_region ?_
    refine oy hS y_assign ?_
    refine n_thenN (h := ?_)
    refine wp_ret (r_ret (vs := [.slice none 0 0]) (L' := []) hS (show resAll _ _ _ [.tmp 2] _ from ⟨res_tmp, trivial⟩) rfl ⟨_, _, rfl, rfl, OwT.nil _ _ _⟩)
  · refine wp_skip ?_
    try change Code.wp _ _ _ _ _
    refine c_seq ?_
    refine c_region ?_
    refine o_buildT val_uint32 ([] : List Int) hS el_uint32 (fun _ => rfl) enc_len_uint32 (by decide) rfl (by decide) (hp := rfl) (h := ?_)
    clear hS; intro b5 w hS h6
    refine oy hS y_move ?_
    refine o_appPs (LX := [(b5, blk (([] : List Int).flatMap enc_uint32) 63)]) hF hS el_uint32 h6 h0.plus (enc_ones_uint32 _) (by decide) ?_
    clear hS; intro v7 LX7 w h7 hS
    refine oy hS y_assign ?_
    refine n_thenN (h := ?_)
    refine wp_ret (r_ret (vs := [v7]) (L' := (LX7 ++ [])) hS (show resAll _ _ _ [.tmp 2] _ from ⟨res_tmp, trivial⟩) rfl ⟨_, _, rfl, rfl, h7⟩)

def slices_Clone_int (a0 : List Int) : Option (List Int) := app' [] a0
theorem w_slices_Clone_int {g : Frag} {a0 : List Int} {v0_ : Value} (h0 : SlT g enc_int 1 a0 v0_) {r : List Int} (hF : slices_Clone_int a0 = some r) : LC Try.prog 58 #[v0_] g [] (fun v L => ∃ (u0 : Value) (M0 : Own), u0 = v ∧ L = (M0 ++ []) ∧ OwT 3 enc_int 1 r u0 M0) := by
  unfold slices_Clone_int at hF
  refine lc_body (k := 8) (av := [v0_]) Try.func58 rfl rfl (h := fun W hS => ?_)
  refine c_seq ?_
  refine c_region ?_
  refine oy hS y_assign ?_
  refine n_thenN (h := ?_)
  refine c_seq ?_
  refine c_seq ?_
  refine c_region ?_
  refine oy hS y_move ?_
  refine oy hS (y_nilsl h0 Try.underlying24) ?_
  refine n_thenN (h := ?_)
  refine c_if (ht := fun c1 => ?_) (hf := fun c1 => ?_)
  · obtain rfl := isNil_nil h0 c1
    obtain ⟨_, rfl⟩ := app'_some hF
    refine c_seq ?_
    refine c_region ?_
    refine oy hS y_assign ?_
    refine n_thenN (h := ?_)
    refine wp_ret (r_ret (vs := [.slice none 0 0]) (L' := []) hS (show resAll _ _ _ [.tmp 2] _ from ⟨res_tmp, trivial⟩) rfl ⟨_, _, rfl, rfl, OwT.nil _ _ _⟩)
  · refine wp_skip ?_
    try change Code.wp _ _ _ _ _
    refine c_seq ?_
    refine c_region ?_
    refine o_buildT val_int ([] : List Int) hS el_int (fun _ => rfl) enc_len_int (by decide) rfl (by decide) (hp := rfl) (h := ?_)
    clear hS; intro b5 w hS h6
    refine oy hS y_move ?_
    refine o_appPs (LX := [(b5, blk (([] : List Int).flatMap enc_int) 3)]) hF hS el_int h6 h0.plus (enc_ones_int _) (by decide) ?_
    clear hS; intro v7 LX7 w h7 hS
    refine oy hS y_assign ?_
    refine n_thenN (h := ?_)
    refine wp_ret (r_ret (vs := [v7]) (L' := (LX7 ++ [])) hS (show resAll _ _ _ [.tmp 2] _ from ⟨res_tmp, trivial⟩) rfl ⟨_, _, rfl, rfl, h7⟩)

def slices_Clone_Write (a0 : List T_Write) : Option (List T_Write) := app' [] a0
theorem w_slices_Clone_Write {g : Frag} {a0 : List T_Write} {v0_ : Value} (h0 : SlT g enc_Write 3 a0 v0_) {r : List T_Write} (hF : slices_Clone_Write a0 = some r) : LC Try.prog 59 #[v0_] g [] (fun v L => ∃ (u0 : Value) (M0 : Own), u0 = v ∧ L = (M0 ++ []) ∧ OwT 71 enc_Write 3 r u0 M0) := by
  unfold slices_Clone_Write at hF
  refine lc_body (k := 8) (av := [v0_]) Try.func59 rfl rfl (h := fun W hS => ?_)
  refine c_seq ?_
  refine c_region ?_
  refine oy hS y_assign ?_
  refine n_thenN (h := ?_)
  refine c_seq ?_
  refine c_seq ?_
  refine c_region ?_
  refine oy hS y_move ?_
  refine oy hS (y_nilsl h0 Try.underlying25) ?_
  refine n_thenN (h := ?_)
  refine c_if (ht := fun c1 => ?_) (hf := fun c1 => ?_)
  · obtain rfl := isNil_nil h0 c1
    obtain ⟨_, rfl⟩ := app'_some hF
    refine c_seq ?_
    refine c_region ?_
    refine oy hS y_assign ?_
    refine n_thenN (h := ?_)
    refine wp_ret (r_ret (vs := [.slice none 0 0]) (L' := []) hS (show resAll _ _ _ [.tmp 2] _ from ⟨res_tmp, trivial⟩) rfl ⟨_, _, rfl, rfl, OwT.nil _ _ _⟩)
  · refine wp_skip ?_
    try change Code.wp _ _ _ _ _
    refine c_seq ?_
    refine c_region ?_
    refine o_buildT val_Write ([] : List T_Write) hS el_api_Write (fun _ => rfl) enc_len_Write (by decide) rfl (by decide) (hp := rfl) (h := ?_)
    clear hS; intro b5 w hS h6
    refine oy hS y_move ?_
    refine o_appPs (LX := [(b5, blk (([] : List T_Write).flatMap enc_Write) 71)]) hF hS el_api_Write h6 h0.plus (enc_ones_Write _) (by decide) ?_
    clear hS; intro v7 LX7 w h7 hS
    refine oy hS y_assign ?_
    refine n_thenN (h := ?_)
    refine wp_ret (r_ret (vs := [v7]) (L' := (LX7 ++ [])) hS (show resAll _ _ _ [.tmp 2] _ from ⟨res_tmp, trivial⟩) rfl ⟨_, _, rfl, rfl, h7⟩)
end Go.Proofs.Ytadajdcbeegabaa
