/- Functions, lifted. Printed by lift.py. -/
import Derived.Test.YthbpicnbkdbbmaaGreatProg
import Derived.Test.YthbpicnbkdbbmaaGreatP8
import Derived.KernelRfl
namespace Go.Proofs.YthbpicnbkdbbmaaGreat
open Go Go.RowKit Fr
set_option linter.unusedVariables false
set_option linter.unusedSimpArgs false
set_option maxRecDepth 20000
open Tryz
set_option maxHeartbeats 2000000
noncomputable def r0_EqState (a0 : T_State) (a1 : T_State) : Option Bool :=
  (r0_EqWords a0.Regs a1.Regs).bind fun r3 => bif r3 then (r0_EqWords a0.Mem a1.Mem).bind fun r5 => bif r5 then (r0_EqWords a0.In_ a1.In_).bind fun r7 => bif r7 then bif decide (a0.Taken = a1.Taken) then (r0_EqWords a0.Out a1.Out).bind fun r10 => bif r10 then bif decide (a0.PC = a1.PC) then (r0_EqNumbers a0.Stack a1.Stack).bind fun r13 => bif r13 then bif decide (a0.Stop = a1.Stop) then (r0_EqFlies a0.Fly a1.Fly).bind fun r16 => bif r16 then bif decide (a0.Jump = a1.Jump) then some (decide (a0.Delay = a1.Delay)) else some (false) else some (false) else some (false) else some (false) else some (false) else some (false) else some (false) else some (false) else some (false) else some (false)
theorem w_r0_EqState_ {g : Frag} {a0 : T_State} {v0_ : Value} {a1 : T_State} {v1_ : Value} {r : Bool} (h0 : Rd_State g a0 v0_) (h1 : Rd_State g a1 v1_) (hF : r0_EqState a0 a1 = some r) : LCs Tryz.prog 28 #[v0_, v1_] g (.bool r) := by
 obtain ⟨v0_0_, v0_1_, v0_2_, v0_4_, v0_6_, v0_8_, rfl, h0_0_, h0_1_, h0_2_, h0_4_, h0_6_, h0_8_⟩ := h0
 obtain ⟨v1_0_, v1_1_, v1_2_, v1_4_, v1_6_, v1_8_, rfl, h1_0_, h1_1_, h1_2_, h1_4_, h1_6_, h1_8_⟩ := h1
 unfold r0_EqState at hF
 refine lc_body (k := 80) (av := [.agg (cl_State v0_0_ v0_1_ v0_2_ a0.Taken v0_4_ a0.PC v0_6_ a0.Stop v0_8_ a0.Jump a0.Delay).toArray, .agg (cl_State v1_0_ v1_1_ v1_2_ a1.Taken v1_4_ a1.PC v1_6_ a1.Stop v1_8_ a1.Jump a1.Delay).toArray]) func28 rfl rfl (h := fun W hS => ?_)
 refine c_seq <| c_region ?_
 refine o_boxP (cl := (cl_State v0_0_ v0_1_ v0_2_ a0.Taken v0_4_ a0.PC v0_6_ a0.Stop v0_8_ a0.Jump a0.Delay)) rfl hS ?_
 clear hS; intro b1 w hS
 refine o_boxP (cl := (cl_State v1_0_ v1_1_ v1_2_ a1.Taken v1_4_ a1.PC v1_6_ a1.Stop v1_8_ a1.Jump a1.Delay)) rfl hS ?_
 clear hS; intro b2 w hS
 refine oy hS y_assign <| n_thenN <| c_seq <| c_region <| oy hS (y_field fa_api_State_0) <| oy hS (y_load (fun w hS => hS.own (mC (mH))) underlying23 rfl rfl) <| oy hS (y_field fa_api_State_0) <| oy hS (y_load (fun w hS => hS.own (mH)) underlying23 rfl rfl) ?_
 obtain ⟨r3, hr3, hF⟩ := ob hF
 refine o_callS hS func45 rfl rfl (hc := (w_r0_EqWords (a0 := a0.Regs) (a1 := a1.Regs) (h0 := h0_0_.plus) (h1 := h1_0_.plus) (hF := hr3))) (h := ?_)
 clear hS; intro w hS
 refine o_split (ht := fun c4 => ?_) (hf := fun c4 => ?_)
 · replace hF := bt c4 hF
   refine o_gu rfl rfl rfl <| oy hS (y_field fa_api_State_1) <| o_gu rfl rfl rfl <| oy hS (y_load (fun w hS => hS.own (mC (mH))) underlying23 rfl rfl) <| o_gu rfl rfl rfl <| oy hS (y_field fa_api_State_1) <| o_gu rfl rfl rfl <| oy hS (y_load (fun w hS => hS.own (mH)) underlying23 rfl rfl) ?_
   refine o_gu rfl rfl rfl ?_
   obtain ⟨r5, hr5, hF⟩ := ob hF
   refine o_callS hS func45 rfl rfl (hc := (w_r0_EqWords (a0 := a0.Mem) (a1 := a1.Mem) (h0 := h0_1_.plus) (h1 := h1_1_.plus) (hF := hr5))) (h := ?_)
   clear hS; intro w hS
   refine oy hS y_pickT ?_
   refine o_split (ht := fun c6 => ?_) (hf := fun c6 => ?_)
   · replace hF := bt c6 hF
     refine o_gu rfl rfl rfl <| oy hS (y_field fa_api_State_2) <| o_gu rfl rfl rfl <| oy hS (y_load (fun w hS => hS.own (mC (mH))) underlying23 rfl rfl) <| o_gu rfl rfl rfl <| oy hS (y_field fa_api_State_2) <| o_gu rfl rfl rfl <| oy hS (y_load (fun w hS => hS.own (mH)) underlying23 rfl rfl) ?_
     refine o_gu rfl rfl rfl ?_
     obtain ⟨r7, hr7, hF⟩ := ob hF
     refine o_callS hS func45 rfl rfl (hc := (w_r0_EqWords (a0 := a0.In_) (a1 := a1.In_) (h0 := h0_2_.plus) (h1 := h1_2_.plus) (hF := hr7))) (h := ?_)
     clear hS; intro w hS
     refine oy hS y_pickT ?_
     refine o_split (ht := fun c8 => ?_) (hf := fun c8 => ?_)
     · replace hF := bt c8 hF
       refine o_gu rfl rfl rfl <| oy hS (y_field fa_api_State_3) <| o_gu rfl rfl rfl <| oy hS (y_load (fun w hS => hS.own (mC (mH))) underlying3 rfl rfl) <| o_gu rfl rfl rfl <| oy hS (y_field fa_api_State_3) <| o_gu rfl rfl rfl <| oy hS (y_load (fun w hS => hS.own (mH)) underlying3 rfl rfl) ?_
       refine o_gu rfl rfl rfl <| oy hS y_bin <| oy hS y_pickT ?_
       refine o_split (ht := fun c9 => ?_) (hf := fun c9 => ?_)
       · replace hF := bt c9 hF
         refine o_gu rfl rfl rfl <| oy hS (y_field fa_api_State_4) <| o_gu rfl rfl rfl <| oy hS (y_load (fun w hS => hS.own (mC (mH))) underlying23 rfl rfl) <| o_gu rfl rfl rfl <| oy hS (y_field fa_api_State_4) <| o_gu rfl rfl rfl <| oy hS (y_load (fun w hS => hS.own (mH)) underlying23 rfl rfl) ?_
         refine o_gu rfl rfl rfl ?_
         obtain ⟨r10, hr10, hF⟩ := ob hF
         refine o_callS hS func45 rfl rfl (hc := (w_r0_EqWords (a0 := a0.Out) (a1 := a1.Out) (h0 := h0_4_.plus) (h1 := h1_4_.plus) (hF := hr10))) (h := ?_)
         clear hS; intro w hS
         refine oy hS y_pickT ?_
         refine o_split (ht := fun c11 => ?_) (hf := fun c11 => ?_)
         · replace hF := bt c11 hF
           refine o_gu rfl rfl rfl <| oy hS (y_field fa_api_State_5) <| o_gu rfl rfl rfl <| oy hS (y_load (fun w hS => hS.own (mC (mH))) underlying3 rfl rfl) <| o_gu rfl rfl rfl <| oy hS (y_field fa_api_State_5) <| o_gu rfl rfl rfl <| oy hS (y_load (fun w hS => hS.own (mH)) underlying3 rfl rfl) ?_
           refine o_gu rfl rfl rfl <| oy hS y_bin <| oy hS y_pickT ?_
           refine o_split (ht := fun c12 => ?_) (hf := fun c12 => ?_)
           · replace hF := bt c12 hF
             refine o_gu rfl rfl rfl <| oy hS (y_field fa_api_State_6) <| o_gu rfl rfl rfl <| oy hS (y_load (fun w hS => hS.own (mC (mH))) underlying24 rfl rfl) <| o_gu rfl rfl rfl <| oy hS (y_field fa_api_State_6) <| o_gu rfl rfl rfl <| oy hS (y_load (fun w hS => hS.own (mH)) underlying24 rfl rfl) ?_
             refine o_gu rfl rfl rfl ?_
             obtain ⟨r13, hr13, hF⟩ := ob hF
             refine o_callS hS func62 rfl rfl (hc := (w_r0_EqNumbers (a0 := a0.Stack) (a1 := a1.Stack) (h0 := h0_6_.plus) (h1 := h1_6_.plus) (hF := hr13))) (h := ?_)
             clear hS; intro w hS
             refine oy hS y_pickT ?_
             refine o_split (ht := fun c14 => ?_) (hf := fun c14 => ?_)
             · replace hF := bt c14 hF
               refine o_gu rfl rfl rfl <| oy hS (y_field fa_api_State_7) <| o_gu rfl rfl rfl <| oy hS (y_load (fun w hS => hS.own (mC (mH))) underlying3 rfl rfl) <| o_gu rfl rfl rfl <| oy hS (y_field fa_api_State_7) <| o_gu rfl rfl rfl <| oy hS (y_load (fun w hS => hS.own (mH)) underlying3 rfl rfl) ?_
               refine o_gu rfl rfl rfl <| oy hS y_bin <| oy hS y_pickT ?_
               refine o_split (ht := fun c15 => ?_) (hf := fun c15 => ?_)
               · replace hF := bt c15 hF
                 refine o_gu rfl rfl rfl <| oy hS (y_field fa_api_State_8) <| o_gu rfl rfl rfl <| oy hS (y_load (fun w hS => hS.own (mC (mH))) underlying25 rfl rfl) <| o_gu rfl rfl rfl <| oy hS (y_field fa_api_State_8) <| o_gu rfl rfl rfl <| oy hS (y_load (fun w hS => hS.own (mH)) underlying25 rfl rfl) ?_
                 refine o_gu rfl rfl rfl ?_
                 obtain ⟨r16, hr16, hF⟩ := ob hF
                 refine o_callS hS func63 rfl rfl (hc := (w_r0_EqFlies (a0 := a0.Fly) (a1 := a1.Fly) (h0 := h0_8_.plus) (h1 := h1_8_.plus) (hF := hr16))) (h := ?_)
                 clear hS; intro w hS
                 refine oy hS y_pickT ?_
                 refine o_split (ht := fun c17 => ?_) (hf := fun c17 => ?_)
                 · replace hF := bt c17 hF
                   refine o_gu rfl rfl rfl <| oy hS (y_field fa_api_State_9) <| o_gu rfl rfl rfl <| oy hS (y_load (fun w hS => hS.own (mC (mH))) underlying3 rfl rfl) <| o_gu rfl rfl rfl <| oy hS (y_field fa_api_State_9) <| o_gu rfl rfl rfl <| oy hS (y_load (fun w hS => hS.own (mH)) underlying3 rfl rfl) ?_
                   refine o_gu rfl rfl rfl <| oy hS y_bin <| oy hS y_pickT ?_
                   refine o_split (ht := fun c18 => ?_) (hf := fun c18 => ?_)
                   · replace hF := bt c18 hF
                     refine o_gu rfl rfl rfl <| oy hS (y_field fa_api_State_10) <| o_gu rfl rfl rfl <| oy hS (y_load (fun w hS => hS.own (mC (mH))) underlying3 rfl rfl) <| o_gu rfl rfl rfl <| oy hS (y_field fa_api_State_10) <| o_gu rfl rfl rfl <| oy hS (y_load (fun w hS => hS.own (mH)) underlying3 rfl rfl) ?_
                     refine o_gu rfl rfl rfl <| oy hS y_bin <| oy hS y_pickT <| oy hS y_assign <| n_thenN ?_
                     obtain rfl := osi hF
                     exact wp_ret (wr1 hS)
                   replace hF := bf c18 hF
                   iterate 5 (refine o_sk rfl rfl ?_)
                   refine oy hS y_pickF <| oy hS y_assign <| n_thenN ?_
                   obtain rfl := osi hF
                   exact wp_ret (wr1 hS)
                 replace hF := bf c17 hF
                 iterate 5 (refine o_sk rfl rfl ?_)
                 refine oy hS y_pickF <| oy hS y_move ?_
                 iterate 5 (refine o_sk rfl rfl ?_)
                 refine oy hS y_pickF <| oy hS y_assign <| n_thenN ?_
                 obtain rfl := osi hF
                 exact wp_ret (wr1 hS)
               replace hF := bf c15 hF
               iterate 5 (refine o_sk rfl rfl ?_)
               refine oy hS y_pickF <| oy hS y_move ?_
               iterate 5 (refine o_sk rfl rfl ?_)
               refine oy hS y_pickF <| oy hS y_move ?_
               iterate 5 (refine o_sk rfl rfl ?_)
               refine oy hS y_pickF <| oy hS y_assign <| n_thenN ?_
               obtain rfl := osi hF
               exact wp_ret (wr1 hS)
             replace hF := bf c14 hF
             iterate 5 (refine o_sk rfl rfl ?_)
             refine oy hS y_pickF <| oy hS y_move ?_
             iterate 5 (refine o_sk rfl rfl ?_)
             refine oy hS y_pickF <| oy hS y_move ?_
             iterate 5 (refine o_sk rfl rfl ?_)
             refine oy hS y_pickF <| oy hS y_move ?_
             iterate 5 (refine o_sk rfl rfl ?_)
             refine oy hS y_pickF <| oy hS y_assign <| n_thenN ?_
             obtain rfl := osi hF
             exact wp_ret (wr1 hS)
           replace hF := bf c12 hF
           iterate 5 (refine o_sk rfl rfl ?_)
           refine oy hS y_pickF <| oy hS y_move ?_
           iterate 5 (refine o_sk rfl rfl ?_)
           refine oy hS y_pickF <| oy hS y_move ?_
           iterate 5 (refine o_sk rfl rfl ?_)
           refine oy hS y_pickF <| oy hS y_move ?_
           iterate 5 (refine o_sk rfl rfl ?_)
           refine oy hS y_pickF <| oy hS y_move ?_
           iterate 5 (refine o_sk rfl rfl ?_)
           refine oy hS y_pickF <| oy hS y_assign <| n_thenN ?_
           obtain rfl := osi hF
           exact wp_ret (wr1 hS)
         replace hF := bf c11 hF
         iterate 5 (refine o_sk rfl rfl ?_)
         refine oy hS y_pickF <| oy hS y_move ?_
         iterate 5 (refine o_sk rfl rfl ?_)
         refine oy hS y_pickF <| oy hS y_move ?_
         iterate 5 (refine o_sk rfl rfl ?_)
         refine oy hS y_pickF <| oy hS y_move ?_
         iterate 5 (refine o_sk rfl rfl ?_)
         refine oy hS y_pickF <| oy hS y_move ?_
         iterate 5 (refine o_sk rfl rfl ?_)
         refine oy hS y_pickF <| oy hS y_move ?_
         iterate 5 (refine o_sk rfl rfl ?_)
         refine oy hS y_pickF <| oy hS y_assign <| n_thenN ?_
         obtain rfl := osi hF
         exact wp_ret (wr1 hS)
       replace hF := bf c9 hF
       iterate 5 (refine o_sk rfl rfl ?_)
       refine oy hS y_pickF <| oy hS y_move ?_
       iterate 5 (refine o_sk rfl rfl ?_)
       refine oy hS y_pickF <| oy hS y_move ?_
       iterate 5 (refine o_sk rfl rfl ?_)
       refine oy hS y_pickF <| oy hS y_move ?_
       iterate 5 (refine o_sk rfl rfl ?_)
       refine oy hS y_pickF <| oy hS y_move ?_
       iterate 5 (refine o_sk rfl rfl ?_)
       refine oy hS y_pickF <| oy hS y_move ?_
       iterate 5 (refine o_sk rfl rfl ?_)
       refine oy hS y_pickF <| oy hS y_move ?_
       iterate 5 (refine o_sk rfl rfl ?_)
       refine oy hS y_pickF <| oy hS y_assign <| n_thenN ?_
       obtain rfl := osi hF
       exact wp_ret (wr1 hS)
     replace hF := bf c8 hF
     iterate 5 (refine o_sk rfl rfl ?_)
     refine oy hS y_pickF <| oy hS y_move ?_
     iterate 5 (refine o_sk rfl rfl ?_)
     refine oy hS y_pickF <| oy hS y_move ?_
     iterate 5 (refine o_sk rfl rfl ?_)
     refine oy hS y_pickF <| oy hS y_move ?_
     iterate 5 (refine o_sk rfl rfl ?_)
     refine oy hS y_pickF <| oy hS y_move ?_
     iterate 5 (refine o_sk rfl rfl ?_)
     refine oy hS y_pickF <| oy hS y_move ?_
     iterate 5 (refine o_sk rfl rfl ?_)
     refine oy hS y_pickF <| oy hS y_move ?_
     iterate 5 (refine o_sk rfl rfl ?_)
     refine oy hS y_pickF <| oy hS y_move ?_
     iterate 5 (refine o_sk rfl rfl ?_)
     refine oy hS y_pickF <| oy hS y_assign <| n_thenN ?_
     obtain rfl := osi hF
     exact wp_ret (wr1 hS)
   replace hF := bf c6 hF
   iterate 5 (refine o_sk rfl rfl ?_)
   refine oy hS y_pickF <| oy hS y_move ?_
   iterate 5 (refine o_sk rfl rfl ?_)
   refine oy hS y_pickF <| oy hS y_move ?_
   iterate 5 (refine o_sk rfl rfl ?_)
   refine oy hS y_pickF <| oy hS y_move ?_
   iterate 5 (refine o_sk rfl rfl ?_)
   refine oy hS y_pickF <| oy hS y_move ?_
   iterate 5 (refine o_sk rfl rfl ?_)
   refine oy hS y_pickF <| oy hS y_move ?_
   iterate 5 (refine o_sk rfl rfl ?_)
   refine oy hS y_pickF <| oy hS y_move ?_
   iterate 5 (refine o_sk rfl rfl ?_)
   refine oy hS y_pickF <| oy hS y_move ?_
   iterate 5 (refine o_sk rfl rfl ?_)
   refine oy hS y_pickF <| oy hS y_move ?_
   iterate 5 (refine o_sk rfl rfl ?_)
   refine oy hS y_pickF <| oy hS y_assign <| n_thenN ?_
   obtain rfl := osi hF
   exact wp_ret (wr1 hS)
 replace hF := bf c4 hF
 iterate 5 (refine o_sk rfl rfl ?_)
 refine oy hS y_pickF <| oy hS y_move ?_
 iterate 5 (refine o_sk rfl rfl ?_)
 refine oy hS y_pickF <| oy hS y_move ?_
 iterate 5 (refine o_sk rfl rfl ?_)
 refine oy hS y_pickF <| oy hS y_move ?_
 iterate 5 (refine o_sk rfl rfl ?_)
 refine oy hS y_pickF <| oy hS y_move ?_
 iterate 5 (refine o_sk rfl rfl ?_)
 refine oy hS y_pickF <| oy hS y_move ?_
 iterate 5 (refine o_sk rfl rfl ?_)
 refine oy hS y_pickF <| oy hS y_move ?_
 iterate 5 (refine o_sk rfl rfl ?_)
 refine oy hS y_pickF <| oy hS y_move ?_
 iterate 5 (refine o_sk rfl rfl ?_)
 refine oy hS y_pickF <| oy hS y_move ?_
 iterate 5 (refine o_sk rfl rfl ?_)
 refine oy hS y_pickF <| oy hS y_move ?_
 iterate 5 (refine o_sk rfl rfl ?_)
 refine oy hS y_pickF <| oy hS y_assign <| n_thenN ?_
 obtain rfl := osi hF
 exact wp_ret (wr1 hS)
theorem w_r0_EqState {g : Frag} {a0 : T_State} {v0_ : Value} {a1 : T_State} {v1_ : Value} {r : Bool} (h0 : Rd_State g a0 v0_) (h1 : Rd_State g a1 v1_) (hF : r0_EqState a0 a1 = some r) : LCs Tryz.prog 28 #[v0_, v1_] g (.bool r) := w_r0_EqState_ h0 h1 hF

noncomputable def l6_wakes  : Option Bool :=
  (r5_New ([])).bind fun r4 => (set' r4.Mem 0 9).bind fun zs43 => (pipe_Run ([(⟨(⟨0, 0, 0, 0, 0, ByteArray.empty⟩ : T_Ins), (⟨0, 0, 0, 0, 0, ByteArray.empty⟩ : T_Ins), (⟨24, 1, 0, 0, 0, ByteArray.empty⟩ : T_Ins), (⟨0, 0, 0, 0, 0, ByteArray.empty⟩ : T_Ins)⟩ : (A4 T_Ins)), (⟨(⟨0, 0, 0, 0, 0, ByteArray.empty⟩ : T_Ins), (⟨0, 0, 0, 0, 0, ByteArray.empty⟩ : T_Ins), (⟨0, 0, 0, 0, 0, ByteArray.empty⟩ : T_Ins), (⟨0, 0, 0, 0, 0, ByteArray.empty⟩ : T_Ins)⟩ : (A4 T_Ins)), (⟨(⟨0, 0, 0, 0, 0, ByteArray.empty⟩ : T_Ins), (⟨0, 0, 0, 0, 0, ByteArray.empty⟩ : T_Ins), (⟨0, 0, 0, 0, 0, ByteArray.empty⟩ : T_Ins), (⟨0, 0, 0, 0, 0, ByteArray.empty⟩ : T_Ins)⟩ : (A4 T_Ins)), (⟨(⟨33, 0, 0, 0, 0, ByteArray.empty⟩ : T_Ins), (⟨0, 0, 0, 0, 0, ByteArray.empty⟩ : T_Ins), (⟨0, 0, 0, 0, 0, ByteArray.empty⟩ : T_Ins), (⟨0, 0, 0, 0, 0, ByteArray.empty⟩ : T_Ins)⟩ : (A4 T_Ins))] : List (A4 T_Ins)) (⟨r4.Regs, zs43, r4.In_, r4.Taken, r4.Out, r4.PC, r4.Stack, r4.Stop, r4.Fly, r4.Jump, r4.Delay⟩ : T_State) 3).bind fun r47 => (pipe_Run ([(⟨(⟨0, 0, 0, 0, 0, ByteArray.empty⟩ : T_Ins), (⟨0, 0, 0, 0, 0, ByteArray.empty⟩ : T_Ins), (⟨24, 1, 0, 0, 0, ByteArray.empty⟩ : T_Ins), (⟨0, 0, 0, 0, 0, ByteArray.empty⟩ : T_Ins)⟩ : (A4 T_Ins)), (⟨(⟨0, 0, 0, 0, 0, ByteArray.empty⟩ : T_Ins), (⟨0, 0, 0, 0, 0, ByteArray.empty⟩ : T_Ins), (⟨0, 0, 0, 0, 0, ByteArray.empty⟩ : T_Ins), (⟨0, 0, 0, 0, 0, ByteArray.empty⟩ : T_Ins)⟩ : (A4 T_Ins)), (⟨(⟨0, 0, 0, 0, 0, ByteArray.empty⟩ : T_Ins), (⟨0, 0, 0, 0, 0, ByteArray.empty⟩ : T_Ins), (⟨0, 0, 0, 0, 0, ByteArray.empty⟩ : T_Ins), (⟨0, 0, 0, 0, 0, ByteArray.empty⟩ : T_Ins)⟩ : (A4 T_Ins)), (⟨(⟨33, 0, 0, 0, 0, ByteArray.empty⟩ : T_Ins), (⟨0, 0, 0, 0, 0, ByteArray.empty⟩ : T_Ins), (⟨0, 0, 0, 0, 0, ByteArray.empty⟩ : T_Ins), (⟨0, 0, 0, 0, 0, ByteArray.empty⟩ : T_Ins)⟩ : (A4 T_Ins))] : List (A4 T_Ins)) (⟨r4.Regs, zs43, r4.In_, r4.Taken, r4.Out, r4.PC, r4.Stack, r4.Stop, r4.Fly, r4.Jump, r4.Delay⟩ : T_State) 9).bind fun r79 => bif decide ((l6_num r47.2.2) = 0) then bif decide ((l6_num r79.2.2) = 0) then bif decide (r47.2.1 = 3) then bif decide ((r47.1.Regs.length : Int) = 16) then (at' r47.1.Regs 1).bind fun x115 => bif decide (x115 = 0) then bif decide (r79.2.1 = 4) then bif decide ((r79.1.Regs.length : Int) = 16) then (at' r79.1.Regs 1).bind fun x127 => bif decide (x127 = 9) then some (decide (r79.1.Stop = 1)) else some (false) else some (false) else some (false) else some (false) else some (false) else some (false) else some (false) else some (false)
theorem w_l6_wakes_ {g : Frag}  {r : Bool}  (hF : l6_wakes = some r) : LCs Tryz.prog 17 #[] g (.bool r) := by
 unfold l6_wakes at hF
 refine lc_body (k := 83) (av := []) func17 rfl rfl (h := fun W hS => ?_)
 refine c_seq <| c_region <| oy hS y_assign <| n_thenN <| c_seq <| c_region ?_
 iterate 2 (refine oy hS (y_build (cl := (enc_Ins ⟨0, 0, 0, 0, 0, ByteArray.empty⟩)) bt_api_Ins rfl (by kernel_rfl)) ?_)
 refine oy hS (y_build (cl := (enc_Ins ⟨24, 1, 0, 0, 0, ByteArray.empty⟩)) bt_api_Ins rfl (by kernel_rfl)) ?_
 refine oy hS (y_buildA (cl := (enc_Bundle ⟨(⟨0, 0, 0, 0, 0, ByteArray.empty⟩ : T_Ins), (⟨0, 0, 0, 0, 0, ByteArray.empty⟩ : T_Ins), (⟨24, 1, 0, 0, 0, ByteArray.empty⟩ : T_Ins), (⟨0, 0, 0, 0, 0, ByteArray.empty⟩ : T_Ins)⟩)) bta_api_Bundle rfl (by kernel_rfl)) ?_
 iterate 2 (refine oy hS (y_buildA (cl := (enc_Bundle ⟨(⟨0, 0, 0, 0, 0, ByteArray.empty⟩ : T_Ins), (⟨0, 0, 0, 0, 0, ByteArray.empty⟩ : T_Ins), (⟨0, 0, 0, 0, 0, ByteArray.empty⟩ : T_Ins), (⟨0, 0, 0, 0, 0, ByteArray.empty⟩ : T_Ins)⟩)) bta_api_Bundle rfl (by kernel_rfl)) ?_)
 refine oy hS (y_build (cl := (enc_Ins ⟨33, 0, 0, 0, 0, ByteArray.empty⟩)) bt_api_Ins rfl (by kernel_rfl)) ?_
 refine oy hS (y_buildA (cl := (enc_Bundle ⟨(⟨33, 0, 0, 0, 0, ByteArray.empty⟩ : T_Ins), (⟨0, 0, 0, 0, 0, ByteArray.empty⟩ : T_Ins), (⟨0, 0, 0, 0, 0, ByteArray.empty⟩ : T_Ins), (⟨0, 0, 0, 0, 0, ByteArray.empty⟩ : T_Ins)⟩)) bta_api_Bundle rfl (by kernel_rfl)) ?_
 refine o_buildT val_Bundle ([(⟨(⟨0, 0, 0, 0, 0, ByteArray.empty⟩ : T_Ins), (⟨0, 0, 0, 0, 0, ByteArray.empty⟩ : T_Ins), (⟨24, 1, 0, 0, 0, ByteArray.empty⟩ : T_Ins), (⟨0, 0, 0, 0, 0, ByteArray.empty⟩ : T_Ins)⟩ : (A4 T_Ins)), (⟨(⟨0, 0, 0, 0, 0, ByteArray.empty⟩ : T_Ins), (⟨0, 0, 0, 0, 0, ByteArray.empty⟩ : T_Ins), (⟨0, 0, 0, 0, 0, ByteArray.empty⟩ : T_Ins), (⟨0, 0, 0, 0, 0, ByteArray.empty⟩ : T_Ins)⟩ : (A4 T_Ins)), (⟨(⟨0, 0, 0, 0, 0, ByteArray.empty⟩ : T_Ins), (⟨0, 0, 0, 0, 0, ByteArray.empty⟩ : T_Ins), (⟨0, 0, 0, 0, 0, ByteArray.empty⟩ : T_Ins), (⟨0, 0, 0, 0, 0, ByteArray.empty⟩ : T_Ins)⟩ : (A4 T_Ins)), (⟨(⟨33, 0, 0, 0, 0, ByteArray.empty⟩ : T_Ins), (⟨0, 0, 0, 0, 0, ByteArray.empty⟩ : T_Ins), (⟨0, 0, 0, 0, 0, ByteArray.empty⟩ : T_Ins), (⟨0, 0, 0, 0, 0, ByteArray.empty⟩ : T_Ins)⟩ : (A4 T_Ins))] : List (A4 T_Ins)) hS el_api_Bundle (fun _ => rfl) enc_len_Bundle (by decide) rfl (by decide) (hp := rfl) (h := ?_)
 clear hS; intro b1 w hS h2
 have hS : St W g [] ([(b1, blk (([(⟨(⟨0, 0, 0, 0, 0, ByteArray.empty⟩ : T_Ins), (⟨0, 0, 0, 0, 0, ByteArray.empty⟩ : T_Ins), (⟨24, 1, 0, 0, 0, ByteArray.empty⟩ : T_Ins), (⟨0, 0, 0, 0, 0, ByteArray.empty⟩ : T_Ins)⟩ : (A4 T_Ins)), (⟨(⟨0, 0, 0, 0, 0, ByteArray.empty⟩ : T_Ins), (⟨0, 0, 0, 0, 0, ByteArray.empty⟩ : T_Ins), (⟨0, 0, 0, 0, 0, ByteArray.empty⟩ : T_Ins), (⟨0, 0, 0, 0, 0, ByteArray.empty⟩ : T_Ins)⟩ : (A4 T_Ins)), (⟨(⟨0, 0, 0, 0, 0, ByteArray.empty⟩ : T_Ins), (⟨0, 0, 0, 0, 0, ByteArray.empty⟩ : T_Ins), (⟨0, 0, 0, 0, 0, ByteArray.empty⟩ : T_Ins), (⟨0, 0, 0, 0, 0, ByteArray.empty⟩ : T_Ins)⟩ : (A4 T_Ins)), (⟨(⟨33, 0, 0, 0, 0, ByteArray.empty⟩ : T_Ins), (⟨0, 0, 0, 0, 0, ByteArray.empty⟩ : T_Ins), (⟨0, 0, 0, 0, 0, ByteArray.empty⟩ : T_Ins), (⟨0, 0, 0, 0, 0, ByteArray.empty⟩ : T_Ins)⟩ : (A4 T_Ins))] : List (A4 T_Ins)).flatMap enc_Bundle) 34)] ++ []) w := hS
 refine oy hS y_assign <| n_thenN <| c_seq <| c_region ?_
 obtain ⟨r4, hr4, hF⟩ := ob hF
 refine o_call0 hS func43 rfl rfl (hc := (w_r5_New (a0 := ([])) (h0 := (SlR.nil _ _)) (hF := hr4))) (h := ?_)
 clear hS; intro v5 LY6 w hS hr7
 obtain ⟨v_0_8, LX_0_9, rfl, rfl, h_0_10⟩ := hr7
 obtain ⟨vR0_0_11, vR0_1_15, vR0_2_19, vR0_4_23, vR0_6_27, vR0_8_31, LXR0_0_12, LXR0_1_16, LXR0_2_20, LXR0_4_24, LXR0_6_28, LXR0_8_32, rfl, rfl, hR0_0_13, hR0_1_17, hR0_2_21, hR0_4_25, hR0_6_29, hR0_8_33⟩ := h_0_10
 simp only [aa, ac, al] at hS
 refine o_allocP (cl := (cl_State (.slice none 0 0) (.slice none 0 0) (.slice none 0 0) 0 (.slice none 0 0) 0 (.slice none 0 0) 0 (.slice none 0 0) 0 0)) zr_api_State rfl hS ?_
 clear hS; intro b35 w hS
 refine o_storeW (vs := (cl_State vR0_0_11 vR0_1_15 vR0_2_19 r4.Taken vR0_4_23 r4.PC vR0_6_27 r4.Stop vR0_8_31 r4.Jump r4.Delay)) hS (by exact rfl) (Upd.here _) (by exact sz_api_State) (one_State (hR0_0_13).one (hR0_1_17).one (hR0_2_21).one (hR0_4_25).one (hR0_6_29).one (hR0_8_33).one) ?_
 clear hS; intro w hS
 refine n_thenN <| c_seq <| c_region <| oy hS (y_field fa_api_State_1) <| oy hS (y_load (fun w hS => hS.own (mH)) underlying23 rfl rfl) ?_
 obtain ⟨zs43, hzs43, hF⟩ := ob hF
 obtain ⟨b36, c37, cl38, hv39, ha40, hb41, hl42⟩ := OwT.at_set hzs43 hR0_1_17 enc_len_uint32
 refine oy hS (y_index hv39 ha40 hb41 underlying23 el_uint32.size) ?_
 refine o_storeO (L' := fun X => ((b35, blk (cl_State vR0_0_11 vR0_1_15 vR0_2_19 r4.Taken vR0_4_23 r4.PC vR0_6_27 r4.Stop vR0_8_31 r4.Jump r4.Delay) 27) :: (LXR0_0_12 ++ (X ++ (LXR0_2_20 ++ (LXR0_4_24 ++ (LXR0_6_28 ++ (LXR0_8_32 ++ ([(b1, blk (([(⟨(⟨0, 0, 0, 0, 0, ByteArray.empty⟩ : T_Ins), (⟨0, 0, 0, 0, 0, ByteArray.empty⟩ : T_Ins), (⟨24, 1, 0, 0, 0, ByteArray.empty⟩ : T_Ins), (⟨0, 0, 0, 0, 0, ByteArray.empty⟩ : T_Ins)⟩ : (A4 T_Ins)), (⟨(⟨0, 0, 0, 0, 0, ByteArray.empty⟩ : T_Ins), (⟨0, 0, 0, 0, 0, ByteArray.empty⟩ : T_Ins), (⟨0, 0, 0, 0, 0, ByteArray.empty⟩ : T_Ins), (⟨0, 0, 0, 0, 0, ByteArray.empty⟩ : T_Ins)⟩ : (A4 T_Ins)), (⟨(⟨0, 0, 0, 0, 0, ByteArray.empty⟩ : T_Ins), (⟨0, 0, 0, 0, 0, ByteArray.empty⟩ : T_Ins), (⟨0, 0, 0, 0, 0, ByteArray.empty⟩ : T_Ins), (⟨0, 0, 0, 0, 0, ByteArray.empty⟩ : T_Ins)⟩ : (A4 T_Ins)), (⟨(⟨33, 0, 0, 0, 0, ByteArray.empty⟩ : T_Ins), (⟨0, 0, 0, 0, 0, ByteArray.empty⟩ : T_Ins), (⟨0, 0, 0, 0, 0, ByteArray.empty⟩ : T_Ins), (⟨0, 0, 0, 0, 0, ByteArray.empty⟩ : T_Ins)⟩ : (A4 T_Ins))] : List (A4 T_Ins)).flatMap enc_Bundle) 34)] ++ []))))))))) hzs43 hS hR0_1_17 hl42 (fun X => .thereb _ (.there _ (.here _))) enc_len_uint32 rfl (by exact sz_uint32) rfl rfl ?_
 clear hS; intro LX44 w h45 hS
 refine n_thenN <| c_seq <| c_region <| oy hS y_move ?_
 refine oy hS (y_loadW (fun w hS => hS.own (mH)) underlying27 rfl (by exact sz_api_State)) ?_
 obtain ⟨r47, hr47, hF⟩ := ob hF
 refine o_call0 hS func24 rfl rfl (hc := (w_pipe_Run (a0 := ([(⟨(⟨0, 0, 0, 0, 0, ByteArray.empty⟩ : T_Ins), (⟨0, 0, 0, 0, 0, ByteArray.empty⟩ : T_Ins), (⟨24, 1, 0, 0, 0, ByteArray.empty⟩ : T_Ins), (⟨0, 0, 0, 0, 0, ByteArray.empty⟩ : T_Ins)⟩ : (A4 T_Ins)), (⟨(⟨0, 0, 0, 0, 0, ByteArray.empty⟩ : T_Ins), (⟨0, 0, 0, 0, 0, ByteArray.empty⟩ : T_Ins), (⟨0, 0, 0, 0, 0, ByteArray.empty⟩ : T_Ins), (⟨0, 0, 0, 0, 0, ByteArray.empty⟩ : T_Ins)⟩ : (A4 T_Ins)), (⟨(⟨0, 0, 0, 0, 0, ByteArray.empty⟩ : T_Ins), (⟨0, 0, 0, 0, 0, ByteArray.empty⟩ : T_Ins), (⟨0, 0, 0, 0, 0, ByteArray.empty⟩ : T_Ins), (⟨0, 0, 0, 0, 0, ByteArray.empty⟩ : T_Ins)⟩ : (A4 T_Ins)), (⟨(⟨33, 0, 0, 0, 0, ByteArray.empty⟩ : T_Ins), (⟨0, 0, 0, 0, 0, ByteArray.empty⟩ : T_Ins), (⟨0, 0, 0, 0, 0, ByteArray.empty⟩ : T_Ins), (⟨0, 0, 0, 0, 0, ByteArray.empty⟩ : T_Ins)⟩ : (A4 T_Ins))] : List (A4 T_Ins))) (a1 := (⟨r4.Regs, zs43, r4.In_, r4.Taken, r4.Out, r4.PC, r4.Stack, r4.Stop, r4.Fly, r4.Jump, r4.Delay⟩ : T_State)) (a2 := 3) (h0 := (OwT.plus h2 hS (fun p hp => mC (mB (mB (mB (mB (mB (mB (mA (hp))))))))))) (h1 := ⟨_, _, _, _, _, _, rfl, (OwT.plus hR0_0_13 hS (fun p hp => mC (mA (hp)))), (OwT.plus h45 hS (fun p hp => mC (mB (mA (hp))))), (OwT.plus hR0_2_21 hS (fun p hp => mC (mB (mB (mA (hp)))))), (OwT.plus hR0_4_25 hS (fun p hp => mC (mB (mB (mB (mA (hp))))))), (OwT.plus hR0_6_29 hS (fun p hp => mC (mB (mB (mB (mB (mA (hp)))))))), (OwT.plus hR0_8_33 hS (fun p hp => mC (mB (mB (mB (mB (mB (mA (hp)))))))))⟩) (hF := hr47))) (h := ?_)
 clear hS; intro v48 LY49 w hS hr50
 obtain ⟨v_0_51, LX_0_52, rfl, rfl, h_0_53⟩ := hr50
 obtain ⟨vR0_0_54, vR0_1_58, vR0_2_62, vR0_4_66, vR0_6_70, vR0_8_74, LXR0_0_55, LXR0_1_59, LXR0_2_63, LXR0_4_67, LXR0_6_71, LXR0_8_75, rfl, rfl, hR0_0_56, hR0_1_60, hR0_2_64, hR0_4_68, hR0_6_72, hR0_8_76⟩ := h_0_53
 simp only [aa, ac, al] at hS
 refine oy hS y_move ?_
 iterate 3 (refine oy hS (y_extract rfl) ?_)
 refine o_allocP (cl := (cl_State (.slice none 0 0) (.slice none 0 0) (.slice none 0 0) 0 (.slice none 0 0) 0 (.slice none 0 0) 0 (.slice none 0 0) 0 0)) zr_api_State rfl hS ?_
 clear hS; intro b78 w hS
 refine o_storeW (vs := (cl_State vR0_0_54 vR0_1_58 vR0_2_62 r47.1.Taken vR0_4_66 r47.1.PC vR0_6_70 r47.1.Stop vR0_8_74 r47.1.Jump r47.1.Delay)) hS (by exact rfl) (Upd.here _) (by exact sz_api_State) (one_State (hR0_0_56).one (hR0_1_60).one (hR0_2_64).one (hR0_4_68).one (hR0_6_72).one (hR0_8_76).one) ?_
 clear hS; intro w hS
 iterate 2 (refine oy hS y_assign ?_)
 refine n_thenN <| c_seq <| c_region <| oy hS y_move ?_
 refine oy hS (y_loadW (fun w hS => hS.own (mC (mB (mB (mB (mB (mB (mB (mH))))))))) underlying27 rfl (by exact sz_api_State)) ?_
 obtain ⟨r79, hr79, hF⟩ := ob hF
 refine o_call0 hS func24 rfl rfl (hc := (w_pipe_Run (a0 := ([(⟨(⟨0, 0, 0, 0, 0, ByteArray.empty⟩ : T_Ins), (⟨0, 0, 0, 0, 0, ByteArray.empty⟩ : T_Ins), (⟨24, 1, 0, 0, 0, ByteArray.empty⟩ : T_Ins), (⟨0, 0, 0, 0, 0, ByteArray.empty⟩ : T_Ins)⟩ : (A4 T_Ins)), (⟨(⟨0, 0, 0, 0, 0, ByteArray.empty⟩ : T_Ins), (⟨0, 0, 0, 0, 0, ByteArray.empty⟩ : T_Ins), (⟨0, 0, 0, 0, 0, ByteArray.empty⟩ : T_Ins), (⟨0, 0, 0, 0, 0, ByteArray.empty⟩ : T_Ins)⟩ : (A4 T_Ins)), (⟨(⟨0, 0, 0, 0, 0, ByteArray.empty⟩ : T_Ins), (⟨0, 0, 0, 0, 0, ByteArray.empty⟩ : T_Ins), (⟨0, 0, 0, 0, 0, ByteArray.empty⟩ : T_Ins), (⟨0, 0, 0, 0, 0, ByteArray.empty⟩ : T_Ins)⟩ : (A4 T_Ins)), (⟨(⟨33, 0, 0, 0, 0, ByteArray.empty⟩ : T_Ins), (⟨0, 0, 0, 0, 0, ByteArray.empty⟩ : T_Ins), (⟨0, 0, 0, 0, 0, ByteArray.empty⟩ : T_Ins), (⟨0, 0, 0, 0, 0, ByteArray.empty⟩ : T_Ins)⟩ : (A4 T_Ins))] : List (A4 T_Ins))) (a1 := (⟨r4.Regs, zs43, r4.In_, r4.Taken, r4.Out, r4.PC, r4.Stack, r4.Stop, r4.Fly, r4.Jump, r4.Delay⟩ : T_State)) (a2 := 9) (h0 := (OwT.plus h2 hS (fun p hp => mC (mB (mB (mB (mB (mB (mB (mC (mB (mB (mB (mB (mB (mB (mA (hp)))))))))))))))))) (h1 := ⟨_, _, _, _, _, _, rfl, (OwT.plus hR0_0_13 hS (fun p hp => mC (mB (mB (mB (mB (mB (mB (mC (mA (hp))))))))))), (OwT.plus h45 hS (fun p hp => mC (mB (mB (mB (mB (mB (mB (mC (mB (mA (hp)))))))))))), (OwT.plus hR0_2_21 hS (fun p hp => mC (mB (mB (mB (mB (mB (mB (mC (mB (mB (mA (hp))))))))))))), (OwT.plus hR0_4_25 hS (fun p hp => mC (mB (mB (mB (mB (mB (mB (mC (mB (mB (mB (mA (hp)))))))))))))), (OwT.plus hR0_6_29 hS (fun p hp => mC (mB (mB (mB (mB (mB (mB (mC (mB (mB (mB (mB (mA (hp))))))))))))))), (OwT.plus hR0_8_33 hS (fun p hp => mC (mB (mB (mB (mB (mB (mB (mC (mB (mB (mB (mB (mB (mA (hp))))))))))))))))⟩) (hF := hr79))) (h := ?_)
 clear hS; intro v80 LY81 w hS hr82
 obtain ⟨v_0_83, LX_0_84, rfl, rfl, h_0_85⟩ := hr82
 obtain ⟨vR0_0_86, vR0_1_90, vR0_2_94, vR0_4_98, vR0_6_102, vR0_8_106, LXR0_0_87, LXR0_1_91, LXR0_2_95, LXR0_4_99, LXR0_6_103, LXR0_8_107, rfl, rfl, hR0_0_88, hR0_1_92, hR0_2_96, hR0_4_100, hR0_6_104, hR0_8_108⟩ := h_0_85
 simp only [aa, ac, al] at hS
 refine oy hS y_move ?_
 iterate 3 (refine oy hS (y_extract rfl) ?_)
 refine o_allocP (cl := (cl_State (.slice none 0 0) (.slice none 0 0) (.slice none 0 0) 0 (.slice none 0 0) 0 (.slice none 0 0) 0 (.slice none 0 0) 0 0)) zr_api_State rfl hS ?_
 clear hS; intro b110 w hS
 refine o_storeW (vs := (cl_State vR0_0_86 vR0_1_90 vR0_2_94 r79.1.Taken vR0_4_98 r79.1.PC vR0_6_102 r79.1.Stop vR0_8_106 r79.1.Jump r79.1.Delay)) hS (by exact rfl) (Upd.here _) (by exact sz_api_State) (one_State (hR0_0_88).one (hR0_1_92).one (hR0_2_96).one (hR0_4_100).one (hR0_6_104).one (hR0_8_108).one) ?_
 clear hS; intro w hS
 iterate 2 (refine oy hS y_assign ?_)
 refine n_thenN <| c_seq <| c_region <| oy hS y_move ?_
 refine o_callS hS func21 rfl rfl (hc := (w_l6_num (a0 := r47.2.2))) (h := ?_)
 clear hS; intro w hS
 refine oy hS y_bin ?_
 refine o_split (ht := fun c111 => ?_) (hf := fun c111 => ?_)
 · replace hF := bt c111 hF
   refine o_gu rfl rfl rfl <| oy hS y_move <| o_gu rfl rfl rfl ?_
   refine o_callS hS func21 rfl rfl (hc := (w_l6_num (a0 := r79.2.2))) (h := ?_)
   clear hS; intro w hS
   refine o_gu rfl rfl rfl <| oy hS y_bin <| oy hS y_pickT ?_
   refine o_split (ht := fun c112 => ?_) (hf := fun c112 => ?_)
   · replace hF := bt c112 hF
     refine o_gu rfl rfl rfl <| oy hS y_move <| o_gu rfl rfl rfl <| oy hS y_bin <| oy hS y_pickT ?_
     refine o_split (ht := fun c113 => ?_) (hf := fun c113 => ?_)
     · replace hF := bt c113 hF
       refine o_gu rfl rfl rfl <| oy hS (y_field fa_api_State_0) <| o_gu rfl rfl rfl <| oy hS (y_load (fun w hS => hS.own (mC (mB (mB (mB (mB (mB (mB (mH))))))))) underlying23 rfl rfl) <| o_gu rfl rfl rfl <| oy hS (y_lenO hR0_0_56 underlying23) <| o_gu rfl rfl rfl <| oy hS y_bin ?_
       refine oy hS y_pickT ?_
       refine o_split (ht := fun c114 => ?_) (hf := fun c114 => ?_)
       · replace hF := bt c114 hF
         refine o_gu rfl rfl rfl <| oy hS (y_field fa_api_State_0) <| o_gu rfl rfl rfl <| oy hS (y_load (fun w hS => hS.own (mC (mB (mB (mB (mB (mB (mB (mH))))))))) underlying23 rfl rfl) <| o_gu rfl rfl rfl ?_
         obtain ⟨x115, hx115, hF⟩ := ob hF
         obtain ⟨b116, c117, cl118, hv119, ha120, hb121, hl122, hc123⟩ := OwT.at hx115 hR0_0_56 enc_len_uint32
         refine oy hS (y_index hv119 ha120 hb121 underlying23 el_uint32.size) <| o_gu rfl rfl rfl <| oy hS (y_load (fun w hS => hS.own (mC (mB (mB (mB (mB (mB (mB (mC (mA (mX hl122))))))))))) underlying40 rfl (hc123 0 _ rfl)) <| o_gu rfl rfl rfl <| oy hS y_bin <| oy hS y_pickT ?_
         refine o_split (ht := fun c124 => ?_) (hf := fun c124 => ?_)
         · replace hF := bt c124 hF
           refine o_gu rfl rfl rfl <| oy hS y_move <| o_gu rfl rfl rfl <| oy hS y_bin <| oy hS y_pickT ?_
           refine o_split (ht := fun c125 => ?_) (hf := fun c125 => ?_)
           · replace hF := bt c125 hF
             refine o_gu rfl rfl rfl <| oy hS (y_field fa_api_State_0) <| o_gu rfl rfl rfl <| oy hS (y_load (fun w hS => hS.own (mH)) underlying23 rfl rfl) <| o_gu rfl rfl rfl <| oy hS (y_lenO hR0_0_88 underlying23) <| o_gu rfl rfl rfl <| oy hS y_bin ?_
             refine oy hS y_pickT ?_
             refine o_split (ht := fun c126 => ?_) (hf := fun c126 => ?_)
             · replace hF := bt c126 hF
               refine o_gu rfl rfl rfl <| oy hS (y_field fa_api_State_0) <| o_gu rfl rfl rfl <| oy hS (y_load (fun w hS => hS.own (mH)) underlying23 rfl rfl) <| o_gu rfl rfl rfl ?_
               obtain ⟨x127, hx127, hF⟩ := ob hF
               obtain ⟨b128, c129, cl130, hv131, ha132, hb133, hl134, hc135⟩ := OwT.at hx127 hR0_0_88 enc_len_uint32
               refine oy hS (y_index hv131 ha132 hb133 underlying23 el_uint32.size) <| o_gu rfl rfl rfl <| oy hS (y_load (fun w hS => hS.own (mC (mA (mX hl134)))) underlying40 rfl (hc135 0 _ rfl)) <| o_gu rfl rfl rfl <| oy hS y_bin <| oy hS y_pickT ?_
               refine o_split (ht := fun c136 => ?_) (hf := fun c136 => ?_)
               · replace hF := bt c136 hF
                 refine o_gu rfl rfl rfl <| oy hS (y_field fa_api_State_7) <| o_gu rfl rfl rfl <| oy hS (y_load (fun w hS => hS.own (mH)) underlying3 rfl rfl) <| o_gu rfl rfl rfl <| oy hS y_bin <| oy hS y_pickT <| oy hS y_assign ?_
                 refine n_thenN ?_
                 obtain rfl := osi hF
                 exact wp_ret (wr1 hS)
               replace hF := bf c136 hF
               iterate 3 (refine o_sk rfl rfl ?_)
               refine oy hS y_pickF <| oy hS y_assign <| n_thenN ?_
               obtain rfl := osi hF
               exact wp_ret (wr1 hS)
             replace hF := bf c126 hF
             iterate 5 (refine o_sk rfl rfl ?_)
             refine oy hS y_pickF <| oy hS y_move ?_
             iterate 3 (refine o_sk rfl rfl ?_)
             refine oy hS y_pickF <| oy hS y_assign <| n_thenN ?_
             obtain rfl := osi hF
             exact wp_ret (wr1 hS)
           replace hF := bf c125 hF
           iterate 4 (refine o_sk rfl rfl ?_)
           refine oy hS y_pickF <| oy hS y_move ?_
           iterate 5 (refine o_sk rfl rfl ?_)
           refine oy hS y_pickF <| oy hS y_move ?_
           iterate 3 (refine o_sk rfl rfl ?_)
           refine oy hS y_pickF <| oy hS y_assign <| n_thenN ?_
           obtain rfl := osi hF
           exact wp_ret (wr1 hS)
         replace hF := bf c124 hF
         iterate 2 (refine o_sk rfl rfl ?_)
         refine oy hS y_pickF <| oy hS y_move ?_
         iterate 4 (refine o_sk rfl rfl ?_)
         refine oy hS y_pickF <| oy hS y_move ?_
         iterate 5 (refine o_sk rfl rfl ?_)
         refine oy hS y_pickF <| oy hS y_move ?_
         iterate 3 (refine o_sk rfl rfl ?_)
         refine oy hS y_pickF <| oy hS y_assign <| n_thenN ?_
         obtain rfl := osi hF
         exact wp_ret (wr1 hS)
       replace hF := bf c114 hF
       iterate 5 (refine o_sk rfl rfl ?_)
       refine oy hS y_pickF <| oy hS y_move ?_
       iterate 2 (refine o_sk rfl rfl ?_)
       refine oy hS y_pickF <| oy hS y_move ?_
       iterate 4 (refine o_sk rfl rfl ?_)
       refine oy hS y_pickF <| oy hS y_move ?_
       iterate 5 (refine o_sk rfl rfl ?_)
       refine oy hS y_pickF <| oy hS y_move ?_
       iterate 3 (refine o_sk rfl rfl ?_)
       refine oy hS y_pickF <| oy hS y_assign <| n_thenN ?_
       obtain rfl := osi hF
       exact wp_ret (wr1 hS)
     replace hF := bf c113 hF
     iterate 4 (refine o_sk rfl rfl ?_)
     refine oy hS y_pickF <| oy hS y_move ?_
     iterate 5 (refine o_sk rfl rfl ?_)
     refine oy hS y_pickF <| oy hS y_move ?_
     iterate 2 (refine o_sk rfl rfl ?_)
     refine oy hS y_pickF <| oy hS y_move ?_
     iterate 4 (refine o_sk rfl rfl ?_)
     refine oy hS y_pickF <| oy hS y_move ?_
     iterate 5 (refine o_sk rfl rfl ?_)
     refine oy hS y_pickF <| oy hS y_move ?_
     iterate 3 (refine o_sk rfl rfl ?_)
     refine oy hS y_pickF <| oy hS y_assign <| n_thenN ?_
     obtain rfl := osi hF
     exact wp_ret (wr1 hS)
   replace hF := bf c112 hF
   iterate 2 (refine o_sk rfl rfl ?_)
   refine oy hS y_pickF <| oy hS y_move ?_
   iterate 4 (refine o_sk rfl rfl ?_)
   refine oy hS y_pickF <| oy hS y_move ?_
   iterate 5 (refine o_sk rfl rfl ?_)
   refine oy hS y_pickF <| oy hS y_move ?_
   iterate 2 (refine o_sk rfl rfl ?_)
   refine oy hS y_pickF <| oy hS y_move ?_
   iterate 4 (refine o_sk rfl rfl ?_)
   refine oy hS y_pickF <| oy hS y_move ?_
   iterate 5 (refine o_sk rfl rfl ?_)
   refine oy hS y_pickF <| oy hS y_move ?_
   iterate 3 (refine o_sk rfl rfl ?_)
   refine oy hS y_pickF <| oy hS y_assign <| n_thenN ?_
   obtain rfl := osi hF
   exact wp_ret (wr1 hS)
 replace hF := bf c111 hF
 iterate 3 (refine o_sk rfl rfl ?_)
 refine oy hS y_pickF <| oy hS y_move ?_
 iterate 2 (refine o_sk rfl rfl ?_)
 refine oy hS y_pickF <| oy hS y_move ?_
 iterate 4 (refine o_sk rfl rfl ?_)
 refine oy hS y_pickF <| oy hS y_move ?_
 iterate 5 (refine o_sk rfl rfl ?_)
 refine oy hS y_pickF <| oy hS y_move ?_
 iterate 2 (refine o_sk rfl rfl ?_)
 refine oy hS y_pickF <| oy hS y_move ?_
 iterate 4 (refine o_sk rfl rfl ?_)
 refine oy hS y_pickF <| oy hS y_move ?_
 iterate 5 (refine o_sk rfl rfl ?_)
 refine oy hS y_pickF <| oy hS y_move ?_
 iterate 3 (refine o_sk rfl rfl ?_)
 refine oy hS y_pickF <| oy hS y_assign <| n_thenN ?_
 obtain rfl := osi hF
 exact wp_ret (wr1 hS)
theorem w_l6_wakes {g : Frag}  {r : Bool}  (hF : l6_wakes = some r) : LCs Tryz.prog 17 #[] g (.bool r) := w_l6_wakes_  hF

noncomputable def l6_runs_b1 (a0 : (List (A4 T_Ins))) : (Int × (List Int) × (List Int) × (List Int) × Int × (List Int) × Int × (List Int) × Int × (List T_Write) × Int × Int) → Option (Step (Int × (List Int) × (List Int) × (List Int) × Int × (List Int) × Int × (List Int) × Int × (List T_Write) × Int × Int) Bool) := fun (x104, x105, x110, x115, x120, x121, x126, x127, x132, x133, x138, x139) => bif decide (x104 < 50) then (pipe_Cycle a0 (⟨x105, x110, x115, x120, x121, x126, x127, x132, x133, x138, x139⟩ : T_State)).bind fun r214 => (r5_Cycles a0 (⟨x105, x110, x115, x120, x121, x126, x127, x132, x133, x138, x139⟩ : T_State) 1 false).bind fun r246 => bif decide ((l6_num r214.2) ≠ 0) then some (.done (false)) else (r0_EqState r214.1 r246.1).bind fun r279 => bif !r279 then some (.done (false)) else some (.next (IntKind.i64.wrap (x104 + 1), r214.1.Regs, r214.1.Mem, r214.1.In_, r214.1.Taken, r214.1.Out, r214.1.PC, r214.1.Stack, r214.1.Stop, r214.1.Fly, r214.1.Jump, r214.1.Delay)) else (l6_wakes).bind fun r281 => some (.done (r281))
noncomputable def l6_runs (a0 : (List (A4 T_Ins))) (a1 : (List Int)) : Option Bool :=
  (r3_Code a0).bind fun r1 => bif !r1 then some (false) else (r5_New a1).bind fun r3 => loop (σ := (Int × (List Int) × (List Int) × (List Int) × Int × (List Int) × Int × (List Int) × Int × (List T_Write) × Int × Int)) (l6_runs_b1 a0) (0, r3.Regs, r3.Mem, r3.In_, r3.Taken, r3.Out, r3.PC, r3.Stack, r3.Stop, r3.Fly, r3.Jump, r3.Delay)
theorem w_l6_runs_ {g : Frag} {a0 : (List (A4 T_Ins))} {v0_ : Value} {a1 : (List Int)} {v1_ : Value} {r : Bool} (h0 : SlT g enc_Bundle 24 a0 v0_) (h1 : SlT g enc_uint32 1 a1 v1_) (hF : l6_runs a0 a1 = some r) : LCs Tryz.prog 16 #[v0_, v1_] g (.bool r) := by
 unfold l6_runs at hF
 refine lc_body (k := 43) (av := [v0_, v1_]) func16 rfl rfl (h := fun W hS => ?_)
 refine c_seq <| c_region <| oy hS y_assign <| n_thenN ?_
 iterate 2 (refine c_seq ?_)
 refine c_region <| oy hS y_move ?_
 obtain ⟨r1, hr1, hF⟩ := ob hF
 refine o_callS hS func47 rfl rfl (hc := (w_r3_Code (a0 := a0) (h0 := h0.plus) (hF := hr1))) (h := ?_)
 clear hS; intro w hS
 refine oy hS y_not <| n_thenN ?_
 refine c_if (ht := fun c2 => ?_) (hf := fun c2 => ?_)
 · replace hF := bt c2 hF
   refine c_seq <| c_region <| oy hS y_assign <| n_thenN ?_
   obtain rfl := osi hF
   exact wp_ret (wr1 hS)
 replace hF := bf c2 hF
 refine wp_skip <| c_seq <| c_region <| oy hS y_move ?_
 obtain ⟨r3, hr3, hF⟩ := ob hF
 refine o_call0 hS func43 rfl rfl (hc := (w_r5_New (a0 := a1) (h0 := h1.plus) (hF := hr3))) (h := ?_)
 clear hS; intro v4 LY5 w hS hr6
 obtain ⟨v_0_7, LX_0_8, rfl, rfl, h_0_9⟩ := hr6
 obtain ⟨vR0_0_10, vR0_1_14, vR0_2_18, vR0_4_22, vR0_6_26, vR0_8_30, LXR0_0_11, LXR0_1_15, LXR0_2_19, LXR0_4_23, LXR0_6_27, LXR0_8_31, rfl, rfl, hR0_0_12, hR0_1_16, hR0_2_20, hR0_4_24, hR0_6_28, hR0_8_32⟩ := h_0_9
 simp only [aa, ac, al] at hS
 refine o_allocP (cl := (cl_State (.slice none 0 0) (.slice none 0 0) (.slice none 0 0) 0 (.slice none 0 0) 0 (.slice none 0 0) 0 (.slice none 0 0) 0 0)) zr_api_State rfl hS ?_
 clear hS; intro b34 w hS
 refine o_storeW (vs := (cl_State vR0_0_10 vR0_1_14 vR0_2_18 r3.Taken vR0_4_22 r3.PC vR0_6_26 r3.Stop vR0_8_30 r3.Jump r3.Delay)) hS (by exact rfl) (Upd.here _) (by exact sz_api_State) (one_State (hR0_0_12).one (hR0_1_16).one (hR0_2_20).one (hR0_4_24).one (hR0_6_28).one (hR0_8_32).one) ?_
 clear hS; intro w hS
 refine n_thenN ?_
 iterate 2 (refine c_seq ?_)
 refine c_region <| oy hS y_assign <| n_thenN <| c_block ?_
 refine c_loopP hF (fun (q : (Int × (List Int) × (List Int) × (List Int) × Int × (List Int) × Int × (List Int) × Int × (List T_Write) × Int × Int)) a w' => ∃ (v106 : Value) (v111 : Value) (v116 : Value) (v122 : Value) (v128 : Value) (v134 : Value) (LX108 : Own) (LX113 : Own) (LX118 : Own) (LX124 : Own) (LX130 : Own) (LX136 : Own), OwT 40 enc_uint32 1 q.2.1 v106 LX108 ∧ OwT 40 enc_uint32 1 q.2.2.1 v111 LX113 ∧ OwT 40 enc_uint32 1 q.2.2.2.1 v116 LX118 ∧ OwT 40 enc_uint32 1 q.2.2.2.2.2.1 v122 LX124 ∧ OwT 3 enc_int 1 q.2.2.2.2.2.2.2.1 v128 LX130 ∧ OwT 73 enc_Write 3 q.2.2.2.2.2.2.2.2.2.1 v134 LX136 ∧ (∃ s : Nat → Value, a = Ac ((((Fm.dead 43 s).upd 0 v0_).upd 5 (.pointer (some ⟨b34, 0, none⟩))).upd 6 (.int .i64 q.1))) ∧ St W g [] ((b34, blk (cl_State v106 v111 v116 q.2.2.2.2.1 v122 q.2.2.2.2.2.2.1 v128 q.2.2.2.2.2.2.2.2.1 v134 q.2.2.2.2.2.2.2.2.2.2.1 q.2.2.2.2.2.2.2.2.2.2.2) 27) :: (LX108 ++ (LX113 ++ (LX118 ++ (LX124 ++ (LX130 ++ (LX136 ++ []))))))) w') ⟨vR0_0_10, vR0_1_14, vR0_2_18, vR0_4_22, vR0_6_26, vR0_8_30, LXR0_0_11, LXR0_1_15, LXR0_2_19, LXR0_4_23, LXR0_6_27, LXR0_8_31, hR0_0_12, hR0_1_16, hR0_2_20, hR0_4_24, hR0_6_28, hR0_8_32, mk_exF, (hS.re (.b .hb (.t .h (.t .h (.t .h (.t .h (.t .h (.t .h .n))))))))⟩ ?_
 clear hS hF
 intro n211 q a w hI hq
 obtain ⟨x104, x105, x110, x115, x120, x121, x126, x127, x132, x133, x138, x139⟩ := q
 obtain ⟨v106, v111, v116, v122, v128, v134, LX108, LX113, LX118, LX124, LX130, LX136, h107, h112, h117, h123, h129, h135, ⟨s212, rfl⟩, hS⟩ := hq
 replace h107 : OwT 40 enc_uint32 1 x105 v106 LX108 := h107
 replace h112 : OwT 40 enc_uint32 1 x110 v111 LX113 := h112
 replace h117 : OwT 40 enc_uint32 1 x115 v116 LX118 := h117
 replace h123 : OwT 40 enc_uint32 1 x121 v122 LX124 := h123
 replace h129 : OwT 3 enc_int 1 x127 v128 LX130 := h129
 replace h135 : OwT 73 enc_Write 3 x133 v134 LX136 := h135
 obtain ⟨z209, hF, hK210⟩ := iter_step hI
 clear hI
 dsimp only [l6_runs_b1] at hF
 iterate 2 (refine c_seq ?_)
 refine c_region <| oy hS y_move <| oy hS y_bin <| n_thenN ?_
 refine c_if (ht := fun c213 => ?_) (hf := fun c213 => ?_)
 · replace hF := bt c213 hF
   refine wp_skip <| c_seq <| c_block <| c_seq <| c_region <| oy hS y_move ?_
   refine oy hS (y_loadW (fun w hS => hS.own (mH)) underlying27 rfl (by exact sz_api_State)) ?_
   obtain ⟨r214, hr214, hF⟩ := ob hF
   refine o_call0 hS func30 rfl rfl (hc := (w_pipe_Cycle (a0 := a0) (a1 := (⟨x105, x110, x115, x120, x121, x126, x127, x132, x133, x138, x139⟩ : T_State)) (h0 := h0.plus) (h1 := ⟨_, _, _, _, _, _, rfl, (OwT.plus h107 hS (fun p hp => mC (mA (hp)))), (OwT.plus h112 hS (fun p hp => mC (mB (mA (hp))))), (OwT.plus h117 hS (fun p hp => mC (mB (mB (mA (hp)))))), (OwT.plus h123 hS (fun p hp => mC (mB (mB (mB (mA (hp))))))), (OwT.plus h129 hS (fun p hp => mC (mB (mB (mB (mB (mA (hp)))))))), (OwT.plus h135 hS (fun p hp => mC (mB (mB (mB (mB (mB (mA (hp)))))))))⟩) (hF := hr214))) (h := ?_)
   clear hS; intro v215 LY216 w hS hr217
   obtain ⟨v_0_218, LX_0_219, rfl, rfl, h_0_220⟩ := hr217
   obtain ⟨vR0_0_221, vR0_1_225, vR0_2_229, vR0_4_233, vR0_6_237, vR0_8_241, LXR0_0_222, LXR0_1_226, LXR0_2_230, LXR0_4_234, LXR0_6_238, LXR0_8_242, rfl, rfl, hR0_0_223, hR0_1_227, hR0_2_231, hR0_4_235, hR0_6_239, hR0_8_243⟩ := h_0_220
   simp only [aa, ac, al] at hS
   refine oy hS y_move ?_
   iterate 2 (refine oy hS (y_extract rfl) ?_)
   refine o_allocP (cl := (cl_State (.slice none 0 0) (.slice none 0 0) (.slice none 0 0) 0 (.slice none 0 0) 0 (.slice none 0 0) 0 (.slice none 0 0) 0 0)) zr_api_State rfl hS ?_
   clear hS; intro b245 w hS
   refine o_storeW (vs := (cl_State vR0_0_221 vR0_1_225 vR0_2_229 r214.1.Taken vR0_4_233 r214.1.PC vR0_6_237 r214.1.Stop vR0_8_241 r214.1.Jump r214.1.Delay)) hS (by exact rfl) (Upd.here _) (by exact sz_api_State) (one_State (hR0_0_223).one (hR0_1_227).one (hR0_2_231).one (hR0_4_235).one (hR0_6_239).one (hR0_8_243).one) ?_
   clear hS; intro w hS
   refine oy hS y_assign <| n_thenN <| c_seq <| c_region <| oy hS y_move ?_
   refine oy hS (y_loadW (fun w hS => hS.own (mC (mB (mB (mB (mB (mB (mB (mH))))))))) underlying27 rfl (by exact sz_api_State)) ?_
   obtain ⟨r246, hr246, hF⟩ := ob hF
   refine o_call0 hS func27 rfl rfl (hc := (w_r5_Cycles (a0 := a0) (a1 := (⟨x105, x110, x115, x120, x121, x126, x127, x132, x133, x138, x139⟩ : T_State)) (a2 := 1) (a3 := false) (h0 := h0.plus) (h1 := ⟨_, _, _, _, _, _, rfl, (OwT.plus h107 hS (fun p hp => mC (mB (mB (mB (mB (mB (mB (mC (mA (hp))))))))))), (OwT.plus h112 hS (fun p hp => mC (mB (mB (mB (mB (mB (mB (mC (mB (mA (hp)))))))))))), (OwT.plus h117 hS (fun p hp => mC (mB (mB (mB (mB (mB (mB (mC (mB (mB (mA (hp))))))))))))), (OwT.plus h123 hS (fun p hp => mC (mB (mB (mB (mB (mB (mB (mC (mB (mB (mB (mA (hp)))))))))))))), (OwT.plus h129 hS (fun p hp => mC (mB (mB (mB (mB (mB (mB (mC (mB (mB (mB (mB (mA (hp))))))))))))))), (OwT.plus h135 hS (fun p hp => mC (mB (mB (mB (mB (mB (mB (mC (mB (mB (mB (mB (mB (mA (hp))))))))))))))))⟩) (hF := hr246))) (h := ?_)
   clear hS; intro v247 LY248 w hS hr249
   obtain ⟨v_0_250, LX_0_251, rfl, rfl, h_0_252⟩ := hr249
   obtain ⟨vR0_0_253, vR0_1_257, vR0_2_261, vR0_4_265, vR0_6_269, vR0_8_273, LXR0_0_254, LXR0_1_258, LXR0_2_262, LXR0_4_266, LXR0_6_270, LXR0_8_274, rfl, rfl, hR0_0_255, hR0_1_259, hR0_2_263, hR0_4_267, hR0_6_271, hR0_8_275⟩ := h_0_252
   simp only [aa, ac, al] at hS
   refine oy hS y_move ?_
   iterate 2 (refine oy hS (y_extract rfl) ?_)
   refine o_allocP (cl := (cl_State (.slice none 0 0) (.slice none 0 0) (.slice none 0 0) 0 (.slice none 0 0) 0 (.slice none 0 0) 0 (.slice none 0 0) 0 0)) zr_api_State rfl hS ?_
   clear hS; intro b277 w hS
   refine o_storeW (vs := (cl_State vR0_0_253 vR0_1_257 vR0_2_261 r246.1.Taken vR0_4_265 r246.1.PC vR0_6_269 r246.1.Stop vR0_8_273 r246.1.Jump r246.1.Delay)) hS (by exact rfl) (Upd.here _) (by exact sz_api_State) (one_State (hR0_0_255).one (hR0_1_259).one (hR0_2_263).one (hR0_4_267).one (hR0_6_271).one (hR0_8_275).one) ?_
   clear hS; intro w hS
   refine oy hS y_assign <| n_thenN ?_
   iterate 2 (refine c_seq ?_)
   refine c_region <| oy hS y_move ?_
   refine o_callS hS func21 rfl rfl (hc := (w_l6_num (a0 := r214.2))) (h := ?_)
   clear hS; intro w hS
   refine oy hS y_bin ?_
   refine o_split (ht := fun c278 => ?_) (hf := fun c278 => ?_)
   · replace hF := bt c278 hF
     iterate 4 (refine o_sk rfl rfl ?_)
     refine oy hS y_pickT <| n_thenN ?_
     refine c_if_true (h := ?_)
     refine c_seq <| c_region <| oy hS y_assign <| n_thenN ?_
     obtain rfl := osi hF
     obtain rfl : _ = r := hK210
     exact wp_ret (wr1 hS)
   replace hF := bf c278 hF
   refine o_gu rfl rfl rfl ?_
   refine oy hS (y_loadW (fun w hS => hS.own (mC (mB (mB (mB (mB (mB (mB (mH))))))))) underlying27 rfl (by exact sz_api_State)) ?_
   refine o_gu rfl rfl rfl ?_
   refine oy hS (y_loadW (fun w hS => hS.own (mH)) underlying27 rfl (by exact sz_api_State)) ?_
   refine o_gu rfl rfl rfl ?_
   obtain ⟨r279, hr279, hF⟩ := ob hF
   refine o_callS hS func28 rfl rfl (hc := (w_r0_EqState (a0 := r214.1) (a1 := r246.1) (h0 := ⟨_, _, _, _, _, _, rfl, (OwT.plus hR0_0_223 hS (fun p hp => mC (mB (mB (mB (mB (mB (mB (mC (mA (hp))))))))))), (OwT.plus hR0_1_227 hS (fun p hp => mC (mB (mB (mB (mB (mB (mB (mC (mB (mA (hp)))))))))))), (OwT.plus hR0_2_231 hS (fun p hp => mC (mB (mB (mB (mB (mB (mB (mC (mB (mB (mA (hp))))))))))))), (OwT.plus hR0_4_235 hS (fun p hp => mC (mB (mB (mB (mB (mB (mB (mC (mB (mB (mB (mA (hp)))))))))))))), (OwT.plus hR0_6_239 hS (fun p hp => mC (mB (mB (mB (mB (mB (mB (mC (mB (mB (mB (mB (mA (hp))))))))))))))), (OwT.plus hR0_8_243 hS (fun p hp => mC (mB (mB (mB (mB (mB (mB (mC (mB (mB (mB (mB (mB (mA (hp))))))))))))))))⟩) (h1 := ⟨_, _, _, _, _, _, rfl, (OwT.plus hR0_0_255 hS (fun p hp => mC (mA (hp)))), (OwT.plus hR0_1_259 hS (fun p hp => mC (mB (mA (hp))))), (OwT.plus hR0_2_263 hS (fun p hp => mC (mB (mB (mA (hp)))))), (OwT.plus hR0_4_267 hS (fun p hp => mC (mB (mB (mB (mA (hp))))))), (OwT.plus hR0_6_271 hS (fun p hp => mC (mB (mB (mB (mB (mA (hp)))))))), (OwT.plus hR0_8_275 hS (fun p hp => mC (mB (mB (mB (mB (mB (mA (hp)))))))))⟩) (hF := hr279))) (h := ?_)
   clear hS; intro w hS
   refine o_gu rfl rfl rfl <| oy hS y_not <| oy hS y_pickF <| n_thenN ?_
   refine c_if (ht := fun c280 => ?_) (hf := fun c280 => ?_)
   · replace hF := bt c280 hF
     refine c_seq <| c_region <| oy hS y_assign <| n_thenN ?_
     obtain rfl := osi hF
     obtain rfl : _ = r := hK210
     exact wp_ret (wr1 hS)
   replace hF := bf c280 hF
   refine wp_skip <| c_region ?_
   refine oy hS (y_loadW (fun w hS => hS.own (mC (mB (mB (mB (mB (mB (mB (mH))))))))) underlying27 rfl (by exact sz_api_State)) ?_
   have hS := hS.re (.b (.thereb _ (.there _ (.there _ (.there _ (.there _ (.there _ (.there _ (.thereb _ (.there _ (.there _ (.there _ (.there _ (.there _ (.there _ .hb)))))))))))))) (.b .hb (.t .h (.t .h (.t .h (.t .h (.t .h (.t .h (.b .hb (.t .h (.t .h (.t .h (.t .h (.t .h (.t .h (.t .h (.t .h (.t .h (.t .h (.t .h (.t .h .n)))))))))))))))))))))
   refine o_storeW (vs := (cl_State vR0_0_221 vR0_1_225 vR0_2_229 r214.1.Taken vR0_4_233 r214.1.PC vR0_6_237 r214.1.Stop vR0_8_241 r214.1.Jump r214.1.Delay)) hS (by exact rfl) (Upd.here _) (by exact sz_api_State) (one_State (hR0_0_223).one (hR0_1_227).one (hR0_2_231).one (hR0_4_235).one (hR0_6_239).one (hR0_8_243).one) ?_
   clear hS; intro w hS
   refine n_anyN ?_
   refine c_region <| oy hS y_move <| oy hS y_bin <| oy hS y_assign <| n_thenN ?_
   obtain rfl := osi hF
   exact ⟨_, hK210, vR0_0_221, vR0_1_225, vR0_2_229, vR0_4_233, vR0_6_237, vR0_8_241, LXR0_0_222, LXR0_1_226, LXR0_2_230, LXR0_4_234, LXR0_6_238, LXR0_8_242, hR0_0_223, hR0_1_227, hR0_2_231, hR0_4_235, hR0_6_239, hR0_8_243, mk_exF, (hS.re (.b .hb (.t (.thereb _ (.there _ (.there _ (.there _ (.there _ (.there _ (.there _ (.thereb _ .h)))))))) (.t (.thereb _ (.there _ (.there _ (.there _ (.there _ (.there _ (.there _ (.thereb _ .h)))))))) (.t (.thereb _ (.there _ (.there _ (.there _ (.there _ (.there _ (.there _ (.thereb _ .h)))))))) (.t (.thereb _ (.there _ (.there _ (.there _ (.there _ (.there _ (.there _ (.thereb _ .h)))))))) (.t (.thereb _ (.there _ (.there _ (.there _ (.there _ (.there _ (.there _ (.thereb _ .h)))))))) (.t (.thereb _ (.there _ (.there _ (.there _ (.there _ (.there _ (.there _ (.thereb _ .h)))))))) .n))))))))⟩
 replace hF := bf c213 hF
 refine wp_exit ?_
 refine c_seq <| c_region ?_
 obtain ⟨r281, hr281, hF⟩ := ob hF
 refine o_callS hS func17 rfl rfl (hc := (w_l6_wakes  (hF := hr281))) (h := ?_)
 clear hS; intro w hS
 refine oy hS y_assign <| n_thenN ?_
 obtain rfl := osi hF
 obtain rfl : _ = r := hK210
 exact wp_ret (wr1 hS)
theorem w_l6_runs {g : Frag} {a0 : (List (A4 T_Ins))} {v0_ : Value} {a1 : (List Int)} {v1_ : Value} {r : Bool} (h0 : SlT g enc_Bundle 24 a0 v0_) (h1 : SlT g enc_uint32 1 a1 v1_) (hF : l6_runs a0 a1 = some r) : LCs Tryz.prog 16 #[v0_, v1_] g (.bool r) := w_l6_runs_ h0 h1 hF

noncomputable def l0_StateWeight (a0 : T_State) : Option Int :=
  (quo' .i64 (a0.Regs.length : Int) 4).bind fun x2 => (quo' .i64 (a0.Mem.length : Int) 16).bind fun x3 => (quo' .i64 (a0.Out.length : Int) 4).bind fun x4 => some (IntKind.i64.wrap ((IntKind.i64.wrap ((IntKind.i64.wrap ((IntKind.i64.wrap ((IntKind.i64.wrap (x2 + x3)) + (a0.In_.length : Int))) + x4)) + (a0.Stack.length : Int))) + (a0.Fly.length : Int)))
theorem w_l0_StateWeight_ {g : Frag} {a0 : T_State} {v0_ : Value} {r : Int} (h0 : Rd_State g a0 v0_) (hF : l0_StateWeight a0 = some r) : LCs Tryz.prog 48 #[v0_] g (.int .i64 r) := by
 obtain ⟨v0_0_, v0_1_, v0_2_, v0_4_, v0_6_, v0_8_, rfl, h0_0_, h0_1_, h0_2_, h0_4_, h0_6_, h0_8_⟩ := h0
 unfold l0_StateWeight at hF
 refine lc_body (k := 29) (av := [.agg (cl_State v0_0_ v0_1_ v0_2_ a0.Taken v0_4_ a0.PC v0_6_ a0.Stop v0_8_ a0.Jump a0.Delay).toArray]) func48 rfl rfl (h := fun W hS => ?_)
 refine c_seq <| c_region ?_
 refine o_boxP (cl := (cl_State v0_0_ v0_1_ v0_2_ a0.Taken v0_4_ a0.PC v0_6_ a0.Stop v0_8_ a0.Jump a0.Delay)) rfl hS ?_
 clear hS; intro b1 w hS
 refine oy hS y_assign <| n_thenN <| c_seq <| c_region <| oy hS (y_field fa_api_State_0) <| oy hS (y_load (fun w hS => hS.own (mH)) underlying23 rfl rfl) <| oy hS (y_len h0_0_ underlying23) ?_
 obtain ⟨x2, hx2, hF⟩ := ob hF
 refine oy hS (y_quo hx2) <| oy hS (y_field fa_api_State_1) <| oy hS (y_load (fun w hS => hS.own (mH)) underlying23 rfl rfl) <| oy hS (y_len h0_1_ underlying23) ?_
 obtain ⟨x3, hx3, hF⟩ := ob hF
 refine oy hS (y_quo hx3) <| oy hS y_bin <| oy hS (y_field fa_api_State_2) <| oy hS (y_load (fun w hS => hS.own (mH)) underlying23 rfl rfl) <| oy hS (y_len h0_2_ underlying23) <| oy hS y_bin <| oy hS (y_field fa_api_State_4) <| oy hS (y_load (fun w hS => hS.own (mH)) underlying23 rfl rfl) ?_
 refine oy hS (y_len h0_4_ underlying23) ?_
 obtain ⟨x4, hx4, hF⟩ := ob hF
 refine oy hS (y_quo hx4) <| oy hS y_bin <| oy hS (y_field fa_api_State_6) <| oy hS (y_load (fun w hS => hS.own (mH)) underlying24 rfl rfl) <| oy hS (y_len h0_6_ underlying24) <| oy hS y_bin <| oy hS (y_field fa_api_State_8) <| oy hS (y_load (fun w hS => hS.own (mH)) underlying25 rfl rfl) ?_
 refine oy hS (y_len h0_8_ underlying25) <| oy hS y_bin <| oy hS y_assign <| n_thenN ?_
 obtain rfl := osi hF
 exact wp_ret (wr1 hS)
theorem w_l0_StateWeight {g : Frag} {a0 : T_State} {v0_ : Value} {r : Int} (h0 : Rd_State g a0 v0_) (hF : l0_StateWeight a0 = some r) : LCs Tryz.prog 48 #[v0_] g (.int .i64 r) := w_l0_StateWeight_ h0 hF

noncomputable def l0_CodesWeight_b1 (a0 : (List T_Ins)) : (Int × Int) → Option (Step (Int × Int) Int) := fun (x16, x17) => bif decide (x17 < (a0.length : Int)) then bif decide (x16 < 1048576) then (at' a0 x17).bind fun x39 => (quo' .i64 (x39.Sym.size : Int) 8).bind fun x51 => some (.next (IntKind.i64.wrap (x16 + x51), IntKind.i64.wrap (x17 + 1))) else some (.done (x16)) else some (.done (x16))
noncomputable def l0_CodesWeight (a0 : (List T_Ins)) : Option Int :=
  loop (σ := (Int × Int)) (l0_CodesWeight_b1 a0) ((a0.length : Int), 0)
theorem w_l0_CodesWeight_ {g : Frag} {a0 : (List T_Ins)} {v0_ : Value} {r : Int} (h0 : SlT g enc_Ins 6 a0 v0_) (hF : l0_CodesWeight a0 = some r) : LCs Tryz.prog 49 #[v0_] g (.int .i64 r) := by
 unfold l0_CodesWeight at hF
 refine lc_body (k := 27) (av := [v0_]) func49 rfl rfl (h := fun W hS => ?_)
 refine c_seq <| c_region <| oy hS y_assign <| n_thenN <| c_seq <| c_region <| oy hS y_move <| oy hS (y_len h0 underlying39) ?_
 refine oy hS y_assign <| n_thenN ?_
 iterate 2 (refine c_seq ?_)
 refine c_region <| oy hS y_assign <| n_thenN <| c_block ?_
 refine c_loopP hF (fun (q : (Int × Int)) a w' => (∃ s : Nat → Value, a = Ac ((((Fm.dead 27 s).upd 0 v0_).upd 3 (.int .i64 q.1)).upd 4 (.int .i64 q.2))) ∧ St W g [] [] w') ⟨mk_exF, (hS.re (.n))⟩ ?_
 clear hS hF
 intro n35 q a w hI hq
 obtain ⟨x16, x17⟩ := q
 obtain ⟨⟨s36, rfl⟩, hS⟩ := hq
 obtain ⟨z33, hF, hK34⟩ := iter_step hI
 clear hI
 dsimp only [l0_CodesWeight_b1] at hF
 iterate 2 (refine c_seq ?_)
 refine c_region ?_
 iterate 2 (refine oy hS y_move ?_)
 refine oy hS (y_len h0 underlying39) <| oy hS y_bin ?_
 refine o_split (ht := fun c37 => ?_) (hf := fun c37 => ?_)
 · replace hF := bt c37 hF
   refine o_gu rfl rfl rfl <| oy hS y_move <| o_gu rfl rfl rfl <| oy hS y_bin <| oy hS y_pickT <| n_thenN ?_
   refine c_if (ht := fun c38 => ?_) (hf := fun c38 => ?_)
   · replace hF := bt c38 hF
     refine wp_skip <| c_seq <| c_block <| c_region ?_
     iterate 3 (refine oy hS y_move ?_)
     obtain ⟨x39, hx39, hF⟩ := ob hF
     obtain ⟨b40, o41, c42, cs43, e44, fz45, hv46, ha47, hb48, hd49, hc50⟩ := SlT.at hx39 h0 enc_len_Ins
     refine oy hS (y_index hv46 ha47 hb48 underlying39 el_api_Ins.size) <| oy hS (y_field fa_api_Ins_5) <| oy hS (y_load (fun w hS => hS.block hd49) underlying9 rfl (hc50 5 _ rfl)) <| oy hS (y_lens underlying9) ?_
     obtain ⟨x51, hx51, hF⟩ := ob hF
     refine oy hS (y_quo hx51) <| oy hS y_bin <| oy hS y_assign ?_
     refine n_anyN ?_
     refine c_region <| oy hS y_move <| oy hS y_bin <| oy hS y_assign <| n_thenN ?_
     obtain rfl := osi hF
     exact ⟨_, hK34, mk_exF, (hS.re (.n))⟩
   replace hF := bf c38 hF
   refine wp_exit ?_
   refine c_seq <| c_region <| oy hS y_move <| oy hS y_assign <| n_thenN ?_
   obtain rfl := osi hF
   obtain rfl : _ = r := hK34
   exact wp_ret (wr1 hS)
 replace hF := bf c37 hF
 iterate 2 (refine o_sk rfl rfl ?_)
 refine oy hS y_pickF <| n_thenN ?_
 refine c_if_false (h := ?_)
 refine wp_exit ?_
 refine c_seq <| c_region <| oy hS y_move <| oy hS y_assign <| n_thenN ?_
 obtain rfl := osi hF
 obtain rfl : _ = r := hK34
 exact wp_ret (wr1 hS)
theorem w_l0_CodesWeight {g : Frag} {a0 : (List T_Ins)} {v0_ : Value} {r : Int} (h0 : SlT g enc_Ins 6 a0 v0_) (hF : l0_CodesWeight a0 = some r) : LCs Tryz.prog 49 #[v0_] g (.int .i64 r) := w_l0_CodesWeight_ h0 hF

noncomputable def l6_Heavy_b1 (a0 : T_Script) : (Int × Int) → Option (Step (Int × Int) Bool) := fun (x18, x19) => bif decide (x19 < (a0.C.length : Int)) then bif decide (x18 < 1048576) then (at' a0.C x19).bind fun x41 => (l0_CodesWeight ([x41.x0, x41.x1, x41.x2, x41.x3])).bind fun r53 => some (.next (IntKind.i64.wrap ((IntKind.i64.wrap (x18 + 4)) + r53), IntKind.i64.wrap (x19 + 1))) else some (.done (decide (1500 < x18))) else some (.done (decide (1500 < x18)))
noncomputable def l6_Heavy (a0 : T_Script) : Option Bool :=
  (l0_StateWeight a0.S).bind fun r2 => loop (σ := (Int × Int)) (l6_Heavy_b1 a0) (IntKind.i64.wrap (r2 + (a0.N.length : Int)), 0)
theorem w_l6_Heavy_ {g : Frag} {a0 : T_Script} {v0_ : Value} {r : Bool} (h0 : Rd_Script g a0 v0_) (hF : l6_Heavy a0 = some r) : LCs Tryz.prog 18 #[v0_] g (.bool r) := by
 obtain ⟨v0_0_, v0_1_, v0_2_, v0_3_, v0_5_, v0_7_, v0_9_, v0_12_, rfl, h0_0_, h0_1_, h0_2_, h0_3_, h0_5_, h0_7_, h0_9_, h0_12_⟩ := h0
 unfold l6_Heavy at hF
 refine lc_body (k := 34) (av := [.agg (cl_Script v0_0_ v0_1_ v0_2_ v0_3_ a0.S.Taken v0_5_ a0.S.PC v0_7_ a0.S.Stop v0_9_ a0.S.Jump a0.S.Delay v0_12_).toArray]) func18 rfl rfl (h := fun W hS => ?_)
 refine c_seq <| c_region ?_
 refine o_boxP (cl := (cl_Script v0_0_ v0_1_ v0_2_ v0_3_ a0.S.Taken v0_5_ a0.S.PC v0_7_ a0.S.Stop v0_9_ a0.S.Jump a0.S.Delay v0_12_)) rfl hS ?_
 clear hS; intro b1 w hS
 refine oy hS y_assign <| n_thenN <| c_seq ?_
 refine c_quiet (by kernel_rfl) (by kernel_rfl) hS ?_
 refine qy (y_field fa_sledgelaw6_Script_1) ?_
 refine qy (y_loadN (vs := (cl_State v0_1_ v0_2_ v0_3_ a0.S.Taken v0_5_ a0.S.PC v0_7_ a0.S.Stop v0_9_ a0.S.Jump a0.S.Delay)) (fun w hS => hS.own (mH)) underlying27 rfl (by exact sz_api_State) (subd (o := 0 + 1) (by exact rfl))) ?_
 obtain ⟨r2, hr2, hF⟩ := ob hF
 refine q_callS func48 rfl rfl (hc := (w_l0_StateWeight (a0 := a0.S) (h0 := ⟨_, _, _, _, _, _, rfl, h0_1_.plus, h0_2_.plus, h0_3_.plus, h0_5_.plus, h0_7_.plus, h0_9_.plus⟩) (hF := hr2))) (h := ?_)
 refine qy (y_field fa_sledgelaw6_Script_2) <| qy (y_load (fun w hS => hS.own (mH)) underlying24 rfl rfl) <| qy (y_len h0_12_ underlying24) <| qy y_bin <| qy y_assign ?_
 refine q_nilN (h := ?_)
 clear hS; intro w hS
 iterate 2 (refine c_seq ?_)
 refine c_region <| oy hS y_assign <| n_thenN <| c_block ?_
 refine c_loopP hF (fun (q : (Int × Int)) a w' => (∃ s : Nat → Value, a = Ac ((((Fm.dead 34 s).upd 1 (.pointer (some ⟨b1, 0, none⟩))).upd 3 (.int .i64 q.1)).upd 4 (.int .i64 q.2))) ∧ St W g [] ((b1, blk (cl_Script v0_0_ v0_1_ v0_2_ v0_3_ a0.S.Taken v0_5_ a0.S.PC v0_7_ a0.S.Stop v0_9_ a0.S.Jump a0.S.Delay v0_12_) 29) :: []) w') ⟨mk_exF, (hS.re (.b .hb .n))⟩ ?_
 clear hS hF
 intro n37 q a w hI hq
 obtain ⟨x18, x19⟩ := q
 obtain ⟨⟨s38, rfl⟩, hS⟩ := hq
 obtain ⟨z35, hF, hK36⟩ := iter_step hI
 clear hI
 dsimp only [l6_Heavy_b1] at hF
 iterate 2 (refine c_seq ?_)
 refine c_region <| oy hS y_move <| oy hS (y_field fa_sledgelaw6_Script_0) <| oy hS (y_load (fun w hS => hS.own (mH)) underlying22 rfl rfl) <| oy hS (y_len h0_0_ underlying22) <| oy hS y_bin ?_
 refine o_split (ht := fun c39 => ?_) (hf := fun c39 => ?_)
 · replace hF := bt c39 hF
   refine o_gu rfl rfl rfl <| oy hS y_move <| o_gu rfl rfl rfl <| oy hS y_bin <| oy hS y_pickT <| n_thenN ?_
   refine c_if (ht := fun c40 => ?_) (hf := fun c40 => ?_)
   · replace hF := bt c40 hF
     refine wp_skip <| c_seq <| c_block <| c_region <| oy hS y_move <| oy hS y_bin <| oy hS (y_field fa_sledgelaw6_Script_0) <| oy hS (y_load (fun w hS => hS.own (mH)) underlying22 rfl rfl) ?_
     refine oy hS y_move ?_
     obtain ⟨x41, hx41, hF⟩ := ob hF
     obtain ⟨b42, o43, c44, cs45, e46, fz47, hv48, ha49, hb50, hd51, hc52⟩ := SlT.at hx41 h0_0_ enc_len_Bundle
     refine oy hS (y_index hv48 ha49 hb50 underlying22 el_api_Bundle.size) ?_
     refine oy hS (y_slA (by decide) underlying34 (by exact sz_api_Ins)) ?_
     obtain ⟨r53, hr53, hF⟩ := ob hF
     refine o_callS hS func49 rfl rfl (hc := (w_l0_CodesWeight (a0 := ([x41.x0, x41.x1, x41.x2, x41.x3])) (h0 := (arr_sl (xs := [x41.x0, x41.x1, x41.x2, x41.x3]) hd51 hc52 (by exact rfl) rfl enc_len_Ins).plus) (hF := hr53))) (h := ?_)
     clear hS; intro w hS
     refine oy hS y_bin <| oy hS y_assign ?_
     refine n_anyN ?_
     refine c_region <| oy hS y_move <| oy hS y_bin <| oy hS y_assign <| n_thenN ?_
     obtain rfl := osi hF
     exact ⟨_, hK36, mk_exF, (hS.re (.b .hb .n))⟩
   replace hF := bf c40 hF
   refine wp_exit ?_
   refine c_seq <| c_region <| oy hS y_move <| oy hS y_bin <| oy hS y_assign <| n_thenN ?_
   obtain rfl := osi hF
   obtain rfl : _ = r := hK36
   exact wp_ret (wr1 hS)
 replace hF := bf c39 hF
 iterate 2 (refine o_sk rfl rfl ?_)
 refine oy hS y_pickF <| n_thenN ?_
 refine c_if_false (h := ?_)
 refine wp_exit ?_
 refine c_seq <| c_region <| oy hS y_move <| oy hS y_bin <| oy hS y_assign <| n_thenN ?_
 obtain rfl := osi hF
 obtain rfl : _ = r := hK36
 exact wp_ret (wr1 hS)
theorem w_l6_Heavy {g : Frag} {a0 : T_Script} {v0_ : Value} {r : Bool} (h0 : Rd_Script g a0 v0_) (hF : l6_Heavy a0 = some r) : LCs Tryz.prog 18 #[v0_] g (.bool r) := w_l6_Heavy_ h0 hF

noncomputable def r0_CopyBundles_b1 (a0 : (List (A4 T_Ins))) : ((List (A4 T_Ins)) × Int) → Option (Step ((List (A4 T_Ins)) × Int) (List (A4 T_Ins))) := fun (x24, x29) => bif decide (x29 < (a0.length : Int)) then (at' a0 x29).bind fun x57 => (app' x24 ([x57] : List (A4 T_Ins))).bind fun zs76 => some (.next (zs76, IntKind.i64.wrap (x29 + 1))) else some (.done (x24))
noncomputable def r0_CopyBundles (a0 : (List (A4 T_Ins))) : Option (List (A4 T_Ins)) :=
  loop (σ := ((List (A4 T_Ins)) × Int)) (r0_CopyBundles_b1 a0) ([], 0)
theorem w_r0_CopyBundles_ {g : Frag} {a0 : (List (A4 T_Ins))} {v0_ : Value} {r : (List (A4 T_Ins))} (h0 : SlT g enc_Bundle 24 a0 v0_) (hF : r0_CopyBundles a0 = some r) : LC Tryz.prog 20 #[v0_] g [] (fun v L => ∃ (u0 : Value) (M0 : Own), u0 = v ∧ L = (M0 ++ []) ∧ OwT 34 enc_Bundle 24 r u0 M0) := by
 unfold r0_CopyBundles at hF
 refine lc_body (k := 19) (av := [v0_]) func20 rfl rfl (h := fun W hS => ?_)
 refine c_seq <| c_region <| oy hS y_assign <| n_thenN <| c_seq <| c_region <| oy hS y_assign <| n_thenN ?_
 iterate 2 (refine c_seq ?_)
 refine c_region <| oy hS y_assign <| n_thenN <| c_block ?_
 refine c_loopP hF (fun (q : ((List (A4 T_Ins)) × Int)) a w' => ∃ (v25 : Value) (LX27 : Own), OwT 34 enc_Bundle 24 q.1 v25 LX27 ∧ (∃ s : Nat → Value, a = Ac ((((Fm.dead 19 s).upd 0 v0_).upd 3 v25).upd 4 (.int .i64 q.2))) ∧ St W g [] (LX27 ++ []) w') ⟨(.slice none 0 0), [], (OwT.nil _ _ _), mk_exF, (hS.re (.take (X := []) (.here [] _) .n))⟩ ?_
 clear hS hF
 intro n54 q a w hI hq
 obtain ⟨x24, x29⟩ := q
 obtain ⟨v25, LX27, h26, ⟨s55, rfl⟩, hS⟩ := hq
 replace h26 : OwT 34 enc_Bundle 24 x24 v25 LX27 := h26
 obtain ⟨z51, hF, hK52⟩ := iter_step hI
 clear hI
 dsimp only [r0_CopyBundles_b1] at hF
 iterate 2 (refine c_seq ?_)
 refine c_region ?_
 iterate 2 (refine oy hS y_move ?_)
 refine oy hS (y_len h0 underlying22) <| oy hS y_bin <| n_thenN ?_
 refine c_if (ht := fun c56 => ?_) (hf := fun c56 => ?_)
 · replace hF := bt c56 hF
   refine wp_skip <| c_seq <| c_block <| c_region ?_
   iterate 3 (refine oy hS y_move ?_)
   obtain ⟨x57, hx57, hF⟩ := ob hF
   obtain ⟨b58, o59, c60, cs61, e62, fz63, hv64, ha65, hb66, hd67, hc68⟩ := SlT.at hx57 h0 enc_len_Bundle
   refine oy hS (y_index hv64 ha65 hb66 underlying22 el_api_Bundle.size) ?_
   refine oy hS (y_loadN (vs := (enc_Bundle x57)) (fun w hS => hS.block hd67) underlying34 rfl (by exact sz_api_Bundle) (fun j u hj => hc68 j u hj)) ?_
   refine o_buildT val_Bundle ([x57] : List (A4 T_Ins)) hS el_api_Bundle (fun _ => rfl) enc_len_Bundle (by decide) rfl (by decide) (hp := rfl) (h := ?_)
   clear hS; intro b69 w hS h70
   have hS : St W g [] ([(b69, blk (([x57] : List (A4 T_Ins)).flatMap enc_Bundle) 34)] ++ (LX27 ++ [])) w := hS
   obtain ⟨zs76, hzs76, hF⟩ := ob hF
   refine o_appPn (ys := ([x57] : List (A4 T_Ins))) (LX := LX27) hzs76 hS el_api_Bundle h26 rfl enc_len_Bundle (enc_ones_Bundle _) (by decide) ?_
   clear hS; intro v72 LX73 w h74 hS
   refine oy hS y_assign ?_
   refine n_anyN ?_
   refine c_region <| oy hS y_move <| oy hS y_bin <| oy hS y_assign <| n_thenN ?_
   obtain rfl := osi hF
   exact ⟨_, hK52, v72, LX73, h74, mk_exF, (hS.re (.t .h .n))⟩
 replace hF := bf c56 hF
 refine wp_exit ?_
 refine c_seq <| c_region <| oy hS y_move <| oy hS y_assign <| n_thenN ?_
 obtain rfl := osi hF
 obtain rfl : _ = r := hK52
 refine wp_ret (r_ret (vs := [v25]) (hS.re (.t .h .n)) (rsC res_tmp rsN) rfl ⟨_, _, rfl, (by first | rfl | simp only [aa, ac, al, an]), h26⟩)
theorem w_r0_CopyBundles {g : Frag} {a0 : (List (A4 T_Ins))} {v0_ : Value} {r : (List (A4 T_Ins))} (h0 : SlT g enc_Bundle 24 a0 v0_) (hF : r0_CopyBundles a0 = some r) : LC Tryz.prog 20 #[v0_] g [] (fun v L => ∃ (u0 : Value) (M0 : Own), u0 = v ∧ L = (M0 ++ []) ∧ OwT 34 enc_Bundle 24 r u0 M0) := w_r0_CopyBundles_ h0 hF

noncomputable def pipe_Check (a0 : T_State) : Option Int :=
  (pipe_May a0).bind fun r2 => bif !r2 then some (1) else some (0)
theorem w_pipe_Check_ {g : Frag} {a0 : T_State} {v0_ : Value} {r : Int} (h0 : Rd_State g a0 v0_) (hF : pipe_Check a0 = some r) : LCs Tryz.prog 22 #[v0_] g (.int .i64 r) := by
 obtain ⟨v0_0_, v0_1_, v0_2_, v0_4_, v0_6_, v0_8_, rfl, h0_0_, h0_1_, h0_2_, h0_4_, h0_6_, h0_8_⟩ := h0
 unfold pipe_Check at hF
 refine lc_body (k := 6) (av := [.agg (cl_State v0_0_ v0_1_ v0_2_ a0.Taken v0_4_ a0.PC v0_6_ a0.Stop v0_8_ a0.Jump a0.Delay).toArray]) func22 rfl rfl (h := fun W hS => ?_)
 refine c_seq <| c_region ?_
 refine o_boxP (cl := (cl_State v0_0_ v0_1_ v0_2_ a0.Taken v0_4_ a0.PC v0_6_ a0.Stop v0_8_ a0.Jump a0.Delay)) rfl hS ?_
 clear hS; intro b1 w hS
 refine oy hS y_assign <| n_thenN ?_
 iterate 2 (refine c_seq ?_)
 refine c_region ?_
 refine oy hS (y_loadW (fun w hS => hS.own (mH)) underlying27 rfl (by exact sz_api_State)) ?_
 obtain ⟨r2, hr2, hF⟩ := ob hF
 refine o_callS hS func53 rfl rfl (hc := (w_pipe_May (a0 := a0) (h0 := ⟨_, _, _, _, _, _, rfl, h0_0_.plus, h0_1_.plus, h0_2_.plus, h0_4_.plus, h0_6_.plus, h0_8_.plus⟩) (hF := hr2))) (h := ?_)
 clear hS; intro w hS
 refine oy hS y_not <| n_thenN ?_
 refine c_if (ht := fun c3 => ?_) (hf := fun c3 => ?_)
 · replace hF := bt c3 hF
   refine c_seq <| c_region <| oy hS y_assign <| n_thenN ?_
   obtain rfl := osi hF
   exact wp_ret (wr1 hS)
 replace hF := bf c3 hF
 refine wp_skip <| c_seq <| c_region <| oy hS y_assign <| n_thenN ?_
 obtain rfl := osi hF
 exact wp_ret (wr1 hS)
theorem w_pipe_Check {g : Frag} {a0 : T_State} {v0_ : Value} {r : Int} (h0 : Rd_State g a0 v0_) (hF : pipe_Check a0 = some r) : LCs Tryz.prog 22 #[v0_] g (.int .i64 r) := w_pipe_Check_ h0 hF

noncomputable def r5_common_b2 (a0 : T_State) : Int → Option (Step Int Bool) := fun x31 => bif decide (x31 < (a0.Stack.length : Int)) then (at' a0.Stack x31).bind fun x51 => bif !(r0_Num x51 1024) then some (.done (false)) else some (.next (IntKind.i64.wrap (x31 + 1))) else some (.done (true))
noncomputable def r5_common_k1 (a0 : T_State) : Unit → Option Bool := fun _ => loop (σ := Int) (r5_common_b2 a0) 0
noncomputable def r5_common (a0 : T_State) : Option Bool :=
  cut (σ := Unit) (bif decide ((a0.Regs.length : Int) ≠ 16) then some (.done (false)) else bif decide ((a0.Mem.length : Int) ≠ 256) then some (.done (false)) else bif decide (100 < (a0.In_.length : Int)) then some (.done (false)) else bif !(r0_Num a0.Taken (a0.In_.length : Int)) then some (.done (false)) else bif !(r0_Num a0.PC 1024) then some (.done (false)) else bif decide (16 < (a0.Stack.length : Int)) then some (.done (false)) else some (.next ())) (r5_common_k1 a0)
theorem w_r5_common_ {g : Frag} {a0 : T_State} {v0_ : Value} {r : Bool} (h0 : Rd_State g a0 v0_) (hF : r5_common a0 = some r) : LCs Tryz.prog 54 #[v0_] g (.bool r) := by
 obtain ⟨v0_0_, v0_1_, v0_2_, v0_4_, v0_6_, v0_8_, rfl, h0_0_, h0_1_, h0_2_, h0_4_, h0_6_, h0_8_⟩ := h0
 unfold r5_common at hF
 refine lc_body (k := 55) (av := [.agg (cl_State v0_0_ v0_1_ v0_2_ a0.Taken v0_4_ a0.PC v0_6_ a0.Stop v0_8_ a0.Jump a0.Delay).toArray]) func54 rfl rfl (h := fun W hS => ?_)
 refine c_seq <| c_region ?_
 refine o_boxP (cl := (cl_State v0_0_ v0_1_ v0_2_ a0.Taken v0_4_ a0.PC v0_6_ a0.Stop v0_8_ a0.Jump a0.Delay)) rfl hS ?_
 clear hS; intro b1 w hS
 refine oy hS y_assign <| n_thenN ?_
 obtain ⟨z8, hF, hK9⟩ := cut_step hF
 refine c_cutP (fun a w' => r5_common_k1 a0 () = some r ∧ (∃ s : Nat → Value, a = Ac ((Fm.dead 55 s).upd 1 (.pointer (some ⟨b1, 0, none⟩)))) ∧ St W g [] ((b1, blk (cl_State v0_0_ v0_1_ v0_2_ a0.Taken v0_4_ a0.PC v0_6_ a0.Stop v0_8_ a0.Jump a0.Delay) 27) :: []) w') ?_ ?_
 · skip
   refine c_seq <| c_region <| oy hS (y_field fa_api_State_0) <| oy hS (y_load (fun w hS => hS.own (mH)) underlying23 rfl rfl) <| oy hS (y_len h0_0_ underlying23) <| oy hS y_bin ?_
   refine o_split (ht := fun c10 => ?_) (hf := fun c10 => ?_)
   · replace hF := bt c10 hF
     iterate 4 (refine o_sk rfl rfl ?_)
     refine oy hS y_pickT <| oy hS y_move ?_
     iterate 4 (refine o_sk rfl rfl ?_)
     refine oy hS y_pickT <| oy hS y_move ?_
     iterate 7 (refine o_sk rfl rfl ?_)
     refine oy hS y_pickT <| oy hS y_move ?_
     iterate 4 (refine o_sk rfl rfl ?_)
     refine oy hS y_pickT <| oy hS y_move ?_
     iterate 4 (refine o_sk rfl rfl ?_)
     refine oy hS y_pickT <| n_thenN ?_
     refine c_if_true (h := ?_)
     refine c_seq <| c_region <| oy hS y_assign <| n_thenN ?_
     obtain rfl := osi hF
     obtain rfl : _ = r := hK9
     exact wp_ret (wr1 hS)
   replace hF := bf c10 hF
   refine o_gu rfl rfl rfl <| oy hS (y_field fa_api_State_1) <| o_gu rfl rfl rfl <| oy hS (y_load (fun w hS => hS.own (mH)) underlying23 rfl rfl) <| o_gu rfl rfl rfl <| oy hS (y_len h0_1_ underlying23) <| o_gu rfl rfl rfl <| oy hS y_bin ?_
   refine oy hS y_pickF ?_
   refine o_split (ht := fun c11 => ?_) (hf := fun c11 => ?_)
   · replace hF := bt c11 hF
     iterate 4 (refine o_sk rfl rfl ?_)
     refine oy hS y_pickT <| oy hS y_move ?_
     iterate 7 (refine o_sk rfl rfl ?_)
     refine oy hS y_pickT <| oy hS y_move ?_
     iterate 4 (refine o_sk rfl rfl ?_)
     refine oy hS y_pickT <| oy hS y_move ?_
     iterate 4 (refine o_sk rfl rfl ?_)
     refine oy hS y_pickT <| n_thenN ?_
     refine c_if_true (h := ?_)
     refine c_seq <| c_region <| oy hS y_assign <| n_thenN ?_
     obtain rfl := osi hF
     obtain rfl : _ = r := hK9
     exact wp_ret (wr1 hS)
   replace hF := bf c11 hF
   refine o_gu rfl rfl rfl <| oy hS (y_field fa_api_State_2) <| o_gu rfl rfl rfl <| oy hS (y_load (fun w hS => hS.own (mH)) underlying23 rfl rfl) <| o_gu rfl rfl rfl <| oy hS (y_len h0_2_ underlying23) <| o_gu rfl rfl rfl <| oy hS y_bin ?_
   refine oy hS y_pickF ?_
   refine o_split (ht := fun c12 => ?_) (hf := fun c12 => ?_)
   · replace hF := bt c12 hF
     iterate 7 (refine o_sk rfl rfl ?_)
     refine oy hS y_pickT <| oy hS y_move ?_
     iterate 4 (refine o_sk rfl rfl ?_)
     refine oy hS y_pickT <| oy hS y_move ?_
     iterate 4 (refine o_sk rfl rfl ?_)
     refine oy hS y_pickT <| n_thenN ?_
     refine c_if_true (h := ?_)
     refine c_seq <| c_region <| oy hS y_assign <| n_thenN ?_
     obtain rfl := osi hF
     obtain rfl : _ = r := hK9
     exact wp_ret (wr1 hS)
   replace hF := bf c12 hF
   refine o_gu rfl rfl rfl <| oy hS (y_field fa_api_State_3) <| o_gu rfl rfl rfl <| oy hS (y_load (fun w hS => hS.own (mH)) underlying3 rfl rfl) <| o_gu rfl rfl rfl <| oy hS (y_field fa_api_State_2) <| o_gu rfl rfl rfl <| oy hS (y_load (fun w hS => hS.own (mH)) underlying23 rfl rfl) ?_
   refine o_gu rfl rfl rfl <| oy hS (y_len h0_2_ underlying23) <| o_gu rfl rfl rfl ?_
   refine o_callS hS func26 rfl rfl (hc := (w_r0_Num (a0 := a0.Taken) (a1 := (a0.In_.length : Int)))) (h := ?_)
   clear hS; intro w hS
   refine o_gu rfl rfl rfl <| oy hS y_not <| oy hS y_pickF ?_
   refine o_split (ht := fun c13 => ?_) (hf := fun c13 => ?_)
   · replace hF := bt c13 hF
     iterate 4 (refine o_sk rfl rfl ?_)
     refine oy hS y_pickT <| oy hS y_move ?_
     iterate 4 (refine o_sk rfl rfl ?_)
     refine oy hS y_pickT <| n_thenN ?_
     refine c_if_true (h := ?_)
     refine c_seq <| c_region <| oy hS y_assign <| n_thenN ?_
     obtain rfl := osi hF
     obtain rfl : _ = r := hK9
     exact wp_ret (wr1 hS)
   replace hF := bf c13 hF
   refine o_gu rfl rfl rfl <| oy hS (y_field fa_api_State_5) <| o_gu rfl rfl rfl <| oy hS (y_load (fun w hS => hS.own (mH)) underlying3 rfl rfl) <| o_gu rfl rfl rfl ?_
   refine o_callS hS func26 rfl rfl (hc := (w_r0_Num (a0 := a0.PC) (a1 := 1024))) (h := ?_)
   clear hS; intro w hS
   refine o_gu rfl rfl rfl <| oy hS y_not <| oy hS y_pickF ?_
   refine o_split (ht := fun c14 => ?_) (hf := fun c14 => ?_)
   · replace hF := bt c14 hF
     iterate 4 (refine o_sk rfl rfl ?_)
     refine oy hS y_pickT <| n_thenN ?_
     refine c_if_true (h := ?_)
     refine c_seq <| c_region <| oy hS y_assign <| n_thenN ?_
     obtain rfl := osi hF
     obtain rfl : _ = r := hK9
     exact wp_ret (wr1 hS)
   replace hF := bf c14 hF
   refine o_gu rfl rfl rfl <| oy hS (y_field fa_api_State_6) <| o_gu rfl rfl rfl <| oy hS (y_load (fun w hS => hS.own (mH)) underlying24 rfl rfl) <| o_gu rfl rfl rfl <| oy hS (y_len h0_6_ underlying24) <| o_gu rfl rfl rfl <| oy hS y_bin ?_
   refine oy hS y_pickF <| n_thenN ?_
   refine c_if (ht := fun c15 => ?_) (hf := fun c15 => ?_)
   · replace hF := bt c15 hF
     refine c_seq <| c_region <| oy hS y_assign <| n_thenN ?_
     obtain rfl := osi hF
     obtain rfl : _ = r := hK9
     exact wp_ret (wr1 hS)
   replace hF := bf c15 hF
   refine wp_skip ?_
   obtain rfl := osi hF
   change _ ∧ _
   exact ⟨hK9, mk_exF, (hS.re (.b .hb .n))⟩
 rintro a w ⟨hF, ⟨s16, rfl⟩, hS⟩
 dsimp only [r5_common_k1] at hF
 iterate 2 (refine c_seq ?_)
 refine c_region <| oy hS y_assign <| n_thenN <| c_block ?_
 refine c_loopP hF (fun (q : Int) a w' => (∃ s : Nat → Value, a = Ac (((Fm.dead 55 s).upd 1 (.pointer (some ⟨b1, 0, none⟩))).upd 3 (.int .i64 q))) ∧ St W g [] ((b1, blk (cl_State v0_0_ v0_1_ v0_2_ a0.Taken v0_4_ a0.PC v0_6_ a0.Stop v0_8_ a0.Jump a0.Delay) 27) :: []) w') ⟨mk_exF, (hS.re (.b .hb .n))⟩ ?_
 clear hS hF
 intro n48 q a w hI hq
 revert hq hI; revert q; intro x31 hI hq
 obtain ⟨⟨s49, rfl⟩, hS⟩ := hq
 obtain ⟨z46, hF, hK47⟩ := iter_step hI
 clear hI
 dsimp only [r5_common_b2] at hF
 iterate 2 (refine c_seq ?_)
 refine c_region <| oy hS y_move <| oy hS (y_field fa_api_State_6) <| oy hS (y_load (fun w hS => hS.own (mH)) underlying24 rfl rfl) <| oy hS (y_len h0_6_ underlying24) <| oy hS y_bin <| n_thenN ?_
 refine c_if (ht := fun c50 => ?_) (hf := fun c50 => ?_)
 · replace hF := bt c50 hF
   refine wp_skip <| c_seq <| c_block <| c_seq <| c_region <| oy hS (y_field fa_api_State_6) <| oy hS (y_load (fun w hS => hS.own (mH)) underlying24 rfl rfl) <| oy hS y_move ?_
   obtain ⟨x51, hx51, hF⟩ := ob hF
   obtain ⟨b52, o53, c54, cs55, e56, fz57, hv58, ha59, hb60, hd61, hc62⟩ := SlT.at hx51 h0_6_ enc_len_int
   refine oy hS (y_index hv58 ha59 hb60 underlying24 el_int.size) <| oy hS (y_load (fun w hS => hS.block hd61) underlying3 rfl (hc62 0 _ rfl)) ?_
   refine o_callS hS func26 rfl rfl (hc := (w_r0_Num (a0 := x51) (a1 := 1024))) (h := ?_)
   clear hS; intro w hS
   refine oy hS y_not <| n_thenN ?_
   refine c_if (ht := fun c63 => ?_) (hf := fun c63 => ?_)
   · replace hF := bt c63 hF
     refine c_seq <| c_region <| oy hS y_assign <| n_thenN ?_
     obtain rfl := osi hF
     obtain rfl : _ = r := hK47
     exact wp_ret (wr1 hS)
   replace hF := bf c63 hF
   refine wp_skip <| c_region <| oy hS y_move <| oy hS y_bin <| oy hS y_assign <| n_thenN ?_
   obtain rfl := osi hF
   exact ⟨_, hK47, mk_exF, (hS.re (.b .hb .n))⟩
 replace hF := bf c50 hF
 refine wp_exit ?_
 refine c_seq <| c_region <| oy hS y_assign <| n_thenN ?_
 obtain rfl := osi hF
 obtain rfl : _ = r := hK47
 exact wp_ret (wr1 hS)
theorem w_r5_common {g : Frag} {a0 : T_State} {v0_ : Value} {r : Bool} (h0 : Rd_State g a0 v0_) (hF : r5_common a0 = some r) : LCs Tryz.prog 54 #[v0_] g (.bool r) := w_r5_common_ h0 hF
end Go.Proofs.YthbpicnbkdbbmaaGreat
