/- Functions, lifted. Printed by lift.py. -/
import Derived.Test.YthbpicnbkdbbmaaGreatProg
import Derived.Test.YthbpicnbkdbbmaaGreatP9
import Derived.KernelRfl
namespace Go.Proofs.YthbpicnbkdbbmaaGreat
open Go Go.RowKit Fr
set_option linter.unusedVariables false
set_option linter.unusedSimpArgs false
set_option maxRecDepth 20000
open Tryz
set_option maxHeartbeats 2000000
noncomputable def r0_EqState (a0 : T_State) (a1 : T_State) : Option Bool :=
  (r0_EqWords a0.Regs a1.Regs).bind fun r3 => bif r3 then (r0_EqWords a0.Mem a1.Mem).bind fun r5 => bif r5 then (r0_EqWords a0.In_ a1.In_).bind fun r7 => bif r7 then bif decide (a0.Taken = a1.Taken) then (r0_EqWords a0.Out a1.Out).bind fun r10 => bif r10 then bif decide (a0.PC = a1.PC) then (r0_EqNumbers a0.Stack a1.Stack).bind fun r13 => bif r13 then bif decide (a0.Stop = a1.Stop) then (r0_EqFlies a0.Fly a1.Fly).bind fun r16 => bif r16 then bif decide (a0.Jump = a1.Jump) then some (decide (a0.Delay = a1.Delay)) else some (false) else some (false) else some (false) else some (false) else some (false) else some (false) else some (false) else some (false) else some (false) else some (false)
theorem w_r0_EqState_ {g : Frag} {a0 : T_State} {v0_ : Value} {a1 : T_State} {v1_ : Value} {r : Bool} (h0 : Rd_State g a0 v0_) (h1 : Rd_State g a1 v1_) (hF : r0_EqState a0 a1 = some r) : LCs Tryz.prog 28 #[v0_, v1_] g (.bool r) := by
 obtain ⟨v0_0_, v0_1_, v0_2_, v0_4_, v0_6_, v0_8_, rfl, h0_0_, h0_1_, h0_2_, h0_4_, h0_6_, h0_8_⟩ := h0
 obtain ⟨v1_0_, v1_1_, v1_2_, v1_4_, v1_6_, v1_8_, rfl, h1_0_, h1_1_, h1_2_, h1_4_, h1_6_, h1_8_⟩ := h1
 unfold r0_EqState at hF
 refine lc_body (k := 80) (av := [.agg (cl_State v0_0_ v0_1_ v0_2_ a0.Taken v0_4_ a0.PC v0_6_ a0.Stop v0_8_ a0.Jump a0.Delay).toArray, .agg (cl_State v1_0_ v1_1_ v1_2_ a1.Taken v1_4_ a1.PC v1_6_ a1.Stop v1_8_ a1.Jump a1.Delay).toArray]) func28 rfl rfl (h := fun W hS => ?_)
 refine c_seq <| c_region ?_
 refine o_boxP (cl := (cl_State v0_0_ v0_1_ v0_2_ a0.Taken v0_4_ a0.PC v0_6_ a0.Stop v0_8_ a0.Jump a0.Delay)) rfl hS ?_
 clear hS; intro b1 w hS
 refine o_boxP (cl := (cl_State v1_0_ v1_1_ v1_2_ a1.Taken v1_4_ a1.PC v1_6_ a1.Stop v1_8_ a1.Jump a1.Delay)) rfl hS ?_
 clear hS; intro b2 w hS
 refine oy hS y_assign <| n_thenN <| c_seq <| c_region <| oy hS (y_field fa_api_State_0) <| oy hS (y_load (fun w hS => hS.own (mC (mH))) underlying23 rfl rfl) <| oy hS (y_field fa_api_State_0) <| oy hS (y_load (fun w hS => hS.own (mH)) underlying23 rfl rfl) ?_
 obtain ⟨r3, hr3, hF⟩ := ob hF
 refine o_callS hS func45 rfl rfl (hc := (w_r0_EqWords (a0 := a0.Regs) (a1 := a1.Regs) (h0 := h0_0_.plus) (h1 := h1_0_.plus) (hF := hr3))) (h := ?_)
 clear hS; intro w hS
 refine o_split (ht := fun c4 => ?_) (hf := fun c4 => ?_)
 · replace hF := bt c4 hF
   refine o_gu rfl rfl rfl <| oy hS (y_field fa_api_State_1) <| o_gu rfl rfl rfl <| oy hS (y_load (fun w hS => hS.own (mC (mH))) underlying23 rfl rfl) <| o_gu rfl rfl rfl <| oy hS (y_field fa_api_State_1) <| o_gu rfl rfl rfl <| oy hS (y_load (fun w hS => hS.own (mH)) underlying23 rfl rfl) ?_
   refine o_gu rfl rfl rfl ?_
   obtain ⟨r5, hr5, hF⟩ := ob hF
   refine o_callS hS func45 rfl rfl (hc := (w_r0_EqWords (a0 := a0.Mem) (a1 := a1.Mem) (h0 := h0_1_.plus) (h1 := h1_1_.plus) (hF := hr5))) (h := ?_)
   clear hS; intro w hS
   refine oy hS y_pickT ?_
   refine o_split (ht := fun c6 => ?_) (hf := fun c6 => ?_)
   · replace hF := bt c6 hF
     refine o_gu rfl rfl rfl <| oy hS (y_field fa_api_State_2) <| o_gu rfl rfl rfl <| oy hS (y_load (fun w hS => hS.own (mC (mH))) underlying23 rfl rfl) <| o_gu rfl rfl rfl <| oy hS (y_field fa_api_State_2) <| o_gu rfl rfl rfl <| oy hS (y_load (fun w hS => hS.own (mH)) underlying23 rfl rfl) ?_
     refine o_gu rfl rfl rfl ?_
     obtain ⟨r7, hr7, hF⟩ := ob hF
     refine o_callS hS func45 rfl rfl (hc := (w_r0_EqWords (a0 := a0.In_) (a1 := a1.In_) (h0 := h0_2_.plus) (h1 := h1_2_.plus) (hF := hr7))) (h := ?_)
     clear hS; intro w hS
     refine oy hS y_pickT ?_
     refine o_split (ht := fun c8 => ?_) (hf := fun c8 => ?_)
     · replace hF := bt c8 hF
       refine o_gu rfl rfl rfl <| oy hS (y_field fa_api_State_3) <| o_gu rfl rfl rfl <| oy hS (y_load (fun w hS => hS.own (mC (mH))) underlying3 rfl rfl) <| o_gu rfl rfl rfl <| oy hS (y_field fa_api_State_3) <| o_gu rfl rfl rfl <| oy hS (y_load (fun w hS => hS.own (mH)) underlying3 rfl rfl) ?_
       refine o_gu rfl rfl rfl <| oy hS y_bin <| oy hS y_pickT ?_
       refine o_split (ht := fun c9 => ?_) (hf := fun c9 => ?_)
       · replace hF := bt c9 hF
         refine o_gu rfl rfl rfl <| oy hS (y_field fa_api_State_4) <| o_gu rfl rfl rfl <| oy hS (y_load (fun w hS => hS.own (mC (mH))) underlying23 rfl rfl) <| o_gu rfl rfl rfl <| oy hS (y_field fa_api_State_4) <| o_gu rfl rfl rfl <| oy hS (y_load (fun w hS => hS.own (mH)) underlying23 rfl rfl) ?_
         refine o_gu rfl rfl rfl ?_
         obtain ⟨r10, hr10, hF⟩ := ob hF
         refine o_callS hS func45 rfl rfl (hc := (w_r0_EqWords (a0 := a0.Out) (a1 := a1.Out) (h0 := h0_4_.plus) (h1 := h1_4_.plus) (hF := hr10))) (h := ?_)
         clear hS; intro w hS
         refine oy hS y_pickT ?_
         refine o_split (ht := fun c11 => ?_) (hf := fun c11 => ?_)
         · replace hF := bt c11 hF
           refine o_gu rfl rfl rfl <| oy hS (y_field fa_api_State_5) <| o_gu rfl rfl rfl <| oy hS (y_load (fun w hS => hS.own (mC (mH))) underlying3 rfl rfl) <| o_gu rfl rfl rfl <| oy hS (y_field fa_api_State_5) <| o_gu rfl rfl rfl <| oy hS (y_load (fun w hS => hS.own (mH)) underlying3 rfl rfl) ?_
           refine o_gu rfl rfl rfl <| oy hS y_bin <| oy hS y_pickT ?_
           refine o_split (ht := fun c12 => ?_) (hf := fun c12 => ?_)
           · replace hF := bt c12 hF
             refine o_gu rfl rfl rfl <| oy hS (y_field fa_api_State_6) <| o_gu rfl rfl rfl <| oy hS (y_load (fun w hS => hS.own (mC (mH))) underlying24 rfl rfl) <| o_gu rfl rfl rfl <| oy hS (y_field fa_api_State_6) <| o_gu rfl rfl rfl <| oy hS (y_load (fun w hS => hS.own (mH)) underlying24 rfl rfl) ?_
             refine o_gu rfl rfl rfl ?_
             obtain ⟨r13, hr13, hF⟩ := ob hF
             refine o_callS hS func62 rfl rfl (hc := (w_r0_EqNumbers (a0 := a0.Stack) (a1 := a1.Stack) (h0 := h0_6_.plus) (h1 := h1_6_.plus) (hF := hr13))) (h := ?_)
             clear hS; intro w hS
             refine oy hS y_pickT ?_
             refine o_split (ht := fun c14 => ?_) (hf := fun c14 => ?_)
             · replace hF := bt c14 hF
               refine o_gu rfl rfl rfl <| oy hS (y_field fa_api_State_7) <| o_gu rfl rfl rfl <| oy hS (y_load (fun w hS => hS.own (mC (mH))) underlying3 rfl rfl) <| o_gu rfl rfl rfl <| oy hS (y_field fa_api_State_7) <| o_gu rfl rfl rfl <| oy hS (y_load (fun w hS => hS.own (mH)) underlying3 rfl rfl) ?_
               refine o_gu rfl rfl rfl <| oy hS y_bin <| oy hS y_pickT ?_
               refine o_split (ht := fun c15 => ?_) (hf := fun c15 => ?_)
               · replace hF := bt c15 hF
                 refine o_gu rfl rfl rfl <| oy hS (y_field fa_api_State_8) <| o_gu rfl rfl rfl <| oy hS (y_load (fun w hS => hS.own (mC (mH))) underlying25 rfl rfl) <| o_gu rfl rfl rfl <| oy hS (y_field fa_api_State_8) <| o_gu rfl rfl rfl <| oy hS (y_load (fun w hS => hS.own (mH)) underlying25 rfl rfl) ?_
                 refine o_gu rfl rfl rfl ?_
                 obtain ⟨r16, hr16, hF⟩ := ob hF
                 refine o_callS hS func63 rfl rfl (hc := (w_r0_EqFlies (a0 := a0.Fly) (a1 := a1.Fly) (h0 := h0_8_.plus) (h1 := h1_8_.plus) (hF := hr16))) (h := ?_)
                 clear hS; intro w hS
                 refine oy hS y_pickT ?_
                 refine o_split (ht := fun c17 => ?_) (hf := fun c17 => ?_)
                 · replace hF := bt c17 hF
                   refine o_gu rfl rfl rfl <| oy hS (y_field fa_api_State_9) <| o_gu rfl rfl rfl <| oy hS (y_load (fun w hS => hS.own (mC (mH))) underlying3 rfl rfl) <| o_gu rfl rfl rfl <| oy hS (y_field fa_api_State_9) <| o_gu rfl rfl rfl <| oy hS (y_load (fun w hS => hS.own (mH)) underlying3 rfl rfl) ?_
                   refine o_gu rfl rfl rfl <| oy hS y_bin <| oy hS y_pickT ?_
                   refine o_split (ht := fun c18 => ?_) (hf := fun c18 => ?_)
                   · replace hF := bt c18 hF
                     refine o_gu rfl rfl rfl <| oy hS (y_field fa_api_State_10) <| o_gu rfl rfl rfl <| oy hS (y_load (fun w hS => hS.own (mC (mH))) underlying3 rfl rfl) <| o_gu rfl rfl rfl <| oy hS (y_field fa_api_State_10) <| o_gu rfl rfl rfl <| oy hS (y_load (fun w hS => hS.own (mH)) underlying3 rfl rfl) ?_
                     refine o_gu rfl rfl rfl <| oy hS y_bin <| oy hS y_pickT <| oy hS y_assign <| n_thenN ?_
                     obtain rfl := osi hF
                     exact wp_ret (wr1 hS)
                   replace hF := bf c18 hF
                   iterate 5 (refine o_sk rfl rfl ?_)
                   refine oy hS y_pickF <| oy hS y_assign <| n_thenN ?_
                   obtain rfl := osi hF
                   exact wp_ret (wr1 hS)
                 replace hF := bf c17 hF
                 iterate 5 (refine o_sk rfl rfl ?_)
                 refine oy hS y_pickF <| oy hS y_move ?_
                 iterate 5 (refine o_sk rfl rfl ?_)
                 refine oy hS y_pickF <| oy hS y_assign <| n_thenN ?_
                 obtain rfl := osi hF
                 exact wp_ret (wr1 hS)
               replace hF := bf c15 hF
               iterate 5 (refine o_sk rfl rfl ?_)
               refine oy hS y_pickF <| oy hS y_move ?_
               iterate 5 (refine o_sk rfl rfl ?_)
               refine oy hS y_pickF <| oy hS y_move ?_
               iterate 5 (refine o_sk rfl rfl ?_)
               refine oy hS y_pickF <| oy hS y_assign <| n_thenN ?_
               obtain rfl := osi hF
               exact wp_ret (wr1 hS)
             replace hF := bf c14 hF
             iterate 5 (refine o_sk rfl rfl ?_)
             refine oy hS y_pickF <| oy hS y_move ?_
             iterate 5 (refine o_sk rfl rfl ?_)
             refine oy hS y_pickF <| oy hS y_move ?_
             iterate 5 (refine o_sk rfl rfl ?_)
             refine oy hS y_pickF <| oy hS y_move ?_
             iterate 5 (refine o_sk rfl rfl ?_)
             refine oy hS y_pickF <| oy hS y_assign <| n_thenN ?_
             obtain rfl := osi hF
             exact wp_ret (wr1 hS)
           replace hF := bf c12 hF
           iterate 5 (refine o_sk rfl rfl ?_)
           refine oy hS y_pickF <| oy hS y_move ?_
           iterate 5 (refine o_sk rfl rfl ?_)
           refine oy hS y_pickF <| oy hS y_move ?_
           iterate 5 (refine o_sk rfl rfl ?_)
           refine oy hS y_pickF <| oy hS y_move ?_
           iterate 5 (refine o_sk rfl rfl ?_)
           refine oy hS y_pickF <| oy hS y_move ?_
           iterate 5 (refine o_sk rfl rfl ?_)
           refine oy hS y_pickF <| oy hS y_assign <| n_thenN ?_
           obtain rfl := osi hF
           exact wp_ret (wr1 hS)
         replace hF := bf c11 hF
         iterate 5 (refine o_sk rfl rfl ?_)
         refine oy hS y_pickF <| oy hS y_move ?_
         iterate 5 (refine o_sk rfl rfl ?_)
         refine oy hS y_pickF <| oy hS y_move ?_
         iterate 5 (refine o_sk rfl rfl ?_)
         refine oy hS y_pickF <| oy hS y_move ?_
         iterate 5 (refine o_sk rfl rfl ?_)
         refine oy hS y_pickF <| oy hS y_move ?_
         iterate 5 (refine o_sk rfl rfl ?_)
         refine oy hS y_pickF <| oy hS y_move ?_
         iterate 5 (refine o_sk rfl rfl ?_)
         refine oy hS y_pickF <| oy hS y_assign <| n_thenN ?_
         obtain rfl := osi hF
         exact wp_ret (wr1 hS)
       replace hF := bf c9 hF
       iterate 5 (refine o_sk rfl rfl ?_)
       refine oy hS y_pickF <| oy hS y_move ?_
       iterate 5 (refine o_sk rfl rfl ?_)
       refine oy hS y_pickF <| oy hS y_move ?_
       iterate 5 (refine o_sk rfl rfl ?_)
       refine oy hS y_pickF <| oy hS y_move ?_
       iterate 5 (refine o_sk rfl rfl ?_)
       refine oy hS y_pickF <| oy hS y_move ?_
       iterate 5 (refine o_sk rfl rfl ?_)
       refine oy hS y_pickF <| oy hS y_move ?_
       iterate 5 (refine o_sk rfl rfl ?_)
       refine oy hS y_pickF <| oy hS y_move ?_
       iterate 5 (refine o_sk rfl rfl ?_)
       refine oy hS y_pickF <| oy hS y_assign <| n_thenN ?_
       obtain rfl := osi hF
       exact wp_ret (wr1 hS)
     replace hF := bf c8 hF
     iterate 5 (refine o_sk rfl rfl ?_)
     refine oy hS y_pickF <| oy hS y_move ?_
     iterate 5 (refine o_sk rfl rfl ?_)
     refine oy hS y_pickF <| oy hS y_move ?_
     iterate 5 (refine o_sk rfl rfl ?_)
     refine oy hS y_pickF <| oy hS y_move ?_
     iterate 5 (refine o_sk rfl rfl ?_)
     refine oy hS y_pickF <| oy hS y_move ?_
     iterate 5 (refine o_sk rfl rfl ?_)
     refine oy hS y_pickF <| oy hS y_move ?_
     iterate 5 (refine o_sk rfl rfl ?_)
     refine oy hS y_pickF <| oy hS y_move ?_
     iterate 5 (refine o_sk rfl rfl ?_)
     refine oy hS y_pickF <| oy hS y_move ?_
     iterate 5 (refine o_sk rfl rfl ?_)
     refine oy hS y_pickF <| oy hS y_assign <| n_thenN ?_
     obtain rfl := osi hF
     exact wp_ret (wr1 hS)
   replace hF := bf c6 hF
   iterate 5 (refine o_sk rfl rfl ?_)
   refine oy hS y_pickF <| oy hS y_move ?_
   iterate 5 (refine o_sk rfl rfl ?_)
   refine oy hS y_pickF <| oy hS y_move ?_
   iterate 5 (refine o_sk rfl rfl ?_)
   refine oy hS y_pickF <| oy hS y_move ?_
   iterate 5 (refine o_sk rfl rfl ?_)
   refine oy hS y_pickF <| oy hS y_move ?_
   iterate 5 (refine o_sk rfl rfl ?_)
   refine oy hS y_pickF <| oy hS y_move ?_
   iterate 5 (refine o_sk rfl rfl ?_)
   refine oy hS y_pickF <| oy hS y_move ?_
   iterate 5 (refine o_sk rfl rfl ?_)
   refine oy hS y_pickF <| oy hS y_move ?_
   iterate 5 (refine o_sk rfl rfl ?_)
   refine oy hS y_pickF <| oy hS y_move ?_
   iterate 5 (refine o_sk rfl rfl ?_)
   refine oy hS y_pickF <| oy hS y_assign <| n_thenN ?_
   obtain rfl := osi hF
   exact wp_ret (wr1 hS)
 replace hF := bf c4 hF
 iterate 5 (refine o_sk rfl rfl ?_)
 refine oy hS y_pickF <| oy hS y_move ?_
 iterate 5 (refine o_sk rfl rfl ?_)
 refine oy hS y_pickF <| oy hS y_move ?_
 iterate 5 (refine o_sk rfl rfl ?_)
 refine oy hS y_pickF <| oy hS y_move ?_
 iterate 5 (refine o_sk rfl rfl ?_)
 refine oy hS y_pickF <| oy hS y_move ?_
 iterate 5 (refine o_sk rfl rfl ?_)
 refine oy hS y_pickF <| oy hS y_move ?_
 iterate 5 (refine o_sk rfl rfl ?_)
 refine oy hS y_pickF <| oy hS y_move ?_
 iterate 5 (refine o_sk rfl rfl ?_)
 refine oy hS y_pickF <| oy hS y_move ?_
 iterate 5 (refine o_sk rfl rfl ?_)
 refine oy hS y_pickF <| oy hS y_move ?_
 iterate 5 (refine o_sk rfl rfl ?_)
 refine oy hS y_pickF <| oy hS y_move ?_
 iterate 5 (refine o_sk rfl rfl ?_)
 refine oy hS y_pickF <| oy hS y_assign <| n_thenN ?_
 obtain rfl := osi hF
 exact wp_ret (wr1 hS)
theorem w_r0_EqState {g : Frag} {a0 : T_State} {v0_ : Value} {a1 : T_State} {v1_ : Value} {r : Bool} (h0 : Rd_State g a0 v0_) (h1 : Rd_State g a1 v1_) (hF : r0_EqState a0 a1 = some r) : LCs Tryz.prog 28 #[v0_, v1_] g (.bool r) := w_r0_EqState_ h0 h1 hF

noncomputable def l0_StateWeight (a0 : T_State) : Option Int :=
  (quo' .i64 (a0.Regs.length : Int) 4).bind fun x2 => (quo' .i64 (a0.Mem.length : Int) 16).bind fun x3 => (quo' .i64 (a0.Out.length : Int) 4).bind fun x4 => some (IntKind.i64.wrap ((IntKind.i64.wrap ((IntKind.i64.wrap ((IntKind.i64.wrap ((IntKind.i64.wrap (x2 + x3)) + (a0.In_.length : Int))) + x4)) + (a0.Stack.length : Int))) + (a0.Fly.length : Int)))
theorem w_l0_StateWeight_ {g : Frag} {a0 : T_State} {v0_ : Value} {r : Int} (h0 : Rd_State g a0 v0_) (hF : l0_StateWeight a0 = some r) : LCs Tryz.prog 48 #[v0_] g (.int .i64 r) := by
 obtain ⟨v0_0_, v0_1_, v0_2_, v0_4_, v0_6_, v0_8_, rfl, h0_0_, h0_1_, h0_2_, h0_4_, h0_6_, h0_8_⟩ := h0
 unfold l0_StateWeight at hF
 refine lc_body (k := 29) (av := [.agg (cl_State v0_0_ v0_1_ v0_2_ a0.Taken v0_4_ a0.PC v0_6_ a0.Stop v0_8_ a0.Jump a0.Delay).toArray]) func48 rfl rfl (h := fun W hS => ?_)
 refine c_seq <| c_region ?_
 refine o_boxP (cl := (cl_State v0_0_ v0_1_ v0_2_ a0.Taken v0_4_ a0.PC v0_6_ a0.Stop v0_8_ a0.Jump a0.Delay)) rfl hS ?_
 clear hS; intro b1 w hS
 refine oy hS y_assign <| n_thenN <| c_seq <| c_region <| oy hS (y_field fa_api_State_0) <| oy hS (y_load (fun w hS => hS.own (mH)) underlying23 rfl rfl) <| oy hS (y_len h0_0_ underlying23) ?_
 obtain ⟨x2, hx2, hF⟩ := ob hF
 refine oy hS (y_quo hx2) <| oy hS (y_field fa_api_State_1) <| oy hS (y_load (fun w hS => hS.own (mH)) underlying23 rfl rfl) <| oy hS (y_len h0_1_ underlying23) ?_
 obtain ⟨x3, hx3, hF⟩ := ob hF
 refine oy hS (y_quo hx3) <| oy hS y_bin <| oy hS (y_field fa_api_State_2) <| oy hS (y_load (fun w hS => hS.own (mH)) underlying23 rfl rfl) <| oy hS (y_len h0_2_ underlying23) <| oy hS y_bin <| oy hS (y_field fa_api_State_4) <| oy hS (y_load (fun w hS => hS.own (mH)) underlying23 rfl rfl) ?_
 refine oy hS (y_len h0_4_ underlying23) ?_
 obtain ⟨x4, hx4, hF⟩ := ob hF
 refine oy hS (y_quo hx4) <| oy hS y_bin <| oy hS (y_field fa_api_State_6) <| oy hS (y_load (fun w hS => hS.own (mH)) underlying24 rfl rfl) <| oy hS (y_len h0_6_ underlying24) <| oy hS y_bin <| oy hS (y_field fa_api_State_8) <| oy hS (y_load (fun w hS => hS.own (mH)) underlying25 rfl rfl) ?_
 refine oy hS (y_len h0_8_ underlying25) <| oy hS y_bin <| oy hS y_assign <| n_thenN ?_
 obtain rfl := osi hF
 exact wp_ret (wr1 hS)
theorem w_l0_StateWeight {g : Frag} {a0 : T_State} {v0_ : Value} {r : Int} (h0 : Rd_State g a0 v0_) (hF : l0_StateWeight a0 = some r) : LCs Tryz.prog 48 #[v0_] g (.int .i64 r) := w_l0_StateWeight_ h0 hF

noncomputable def l0_CodesWeight_b1 (a0 : (List T_Ins)) : (Int × Int) → Option (Step (Int × Int) Int) := fun (x16, x17) => bif decide (x17 < (a0.length : Int)) then bif decide (x16 < 1048576) then (at' a0 x17).bind fun x39 => (quo' .i64 (x39.Sym.size : Int) 8).bind fun x51 => some (.next (IntKind.i64.wrap (x16 + x51), IntKind.i64.wrap (x17 + 1))) else some (.done (x16)) else some (.done (x16))
noncomputable def l0_CodesWeight (a0 : (List T_Ins)) : Option Int :=
  loop (σ := (Int × Int)) (l0_CodesWeight_b1 a0) ((a0.length : Int), 0)
theorem w_l0_CodesWeight_ {g : Frag} {a0 : (List T_Ins)} {v0_ : Value} {r : Int} (h0 : SlT g enc_Ins 6 a0 v0_) (hF : l0_CodesWeight a0 = some r) : LCs Tryz.prog 49 #[v0_] g (.int .i64 r) := by
 unfold l0_CodesWeight at hF
 refine lc_body (k := 27) (av := [v0_]) func49 rfl rfl (h := fun W hS => ?_)
 refine c_seq <| c_region <| oy hS y_assign <| n_thenN <| c_seq <| c_region <| oy hS y_move <| oy hS (y_len h0 underlying39) ?_
 refine oy hS y_assign <| n_thenN ?_
 iterate 2 (refine c_seq ?_)
 refine c_region <| oy hS y_assign <| n_thenN <| c_block ?_
 refine c_loopP hF (fun (q : (Int × Int)) a w' => (∃ s : Nat → Value, a = Ac ((((Fm.dead 27 s).upd 0 v0_).upd 3 (.int .i64 q.1)).upd 4 (.int .i64 q.2))) ∧ St W g [] [] w') ⟨mk_exF, (hS.re (.n))⟩ ?_
 clear hS hF
 intro n35 q a w hI hq
 obtain ⟨x16, x17⟩ := q
 obtain ⟨⟨s36, rfl⟩, hS⟩ := hq
 obtain ⟨z33, hF, hK34⟩ := iter_step hI
 clear hI
 dsimp only [l0_CodesWeight_b1] at hF
 iterate 2 (refine c_seq ?_)
 refine c_region ?_
 iterate 2 (refine oy hS y_move ?_)
 refine oy hS (y_len h0 underlying39) <| oy hS y_bin ?_
 refine o_split (ht := fun c37 => ?_) (hf := fun c37 => ?_)
 · replace hF := bt c37 hF
   refine o_gu rfl rfl rfl <| oy hS y_move <| o_gu rfl rfl rfl <| oy hS y_bin <| oy hS y_pickT <| n_thenN ?_
   refine c_if (ht := fun c38 => ?_) (hf := fun c38 => ?_)
   · replace hF := bt c38 hF
     refine wp_skip <| c_seq <| c_block <| c_region ?_
     iterate 3 (refine oy hS y_move ?_)
     obtain ⟨x39, hx39, hF⟩ := ob hF
     obtain ⟨b40, o41, c42, cs43, e44, fz45, hv46, ha47, hb48, hd49, hc50⟩ := SlT.at hx39 h0 enc_len_Ins
     refine oy hS (y_index hv46 ha47 hb48 underlying39 el_api_Ins.size) <| oy hS (y_field fa_api_Ins_5) <| oy hS (y_load (fun w hS => hS.block hd49) underlying9 rfl (hc50 5 _ rfl)) <| oy hS (y_lens underlying9) ?_
     obtain ⟨x51, hx51, hF⟩ := ob hF
     refine oy hS (y_quo hx51) <| oy hS y_bin <| oy hS y_assign ?_
     refine n_anyN ?_
     refine c_region <| oy hS y_move <| oy hS y_bin <| oy hS y_assign <| n_thenN ?_
     obtain rfl := osi hF
     exact ⟨_, hK34, mk_exF, (hS.re (.n))⟩
   replace hF := bf c38 hF
   refine wp_exit ?_
   refine c_seq <| c_region <| oy hS y_move <| oy hS y_assign <| n_thenN ?_
   obtain rfl := osi hF
   obtain rfl : _ = r := hK34
   exact wp_ret (wr1 hS)
 replace hF := bf c37 hF
 iterate 2 (refine o_sk rfl rfl ?_)
 refine oy hS y_pickF <| n_thenN ?_
 refine c_if_false (h := ?_)
 refine wp_exit ?_
 refine c_seq <| c_region <| oy hS y_move <| oy hS y_assign <| n_thenN ?_
 obtain rfl := osi hF
 obtain rfl : _ = r := hK34
 exact wp_ret (wr1 hS)
theorem w_l0_CodesWeight {g : Frag} {a0 : (List T_Ins)} {v0_ : Value} {r : Int} (h0 : SlT g enc_Ins 6 a0 v0_) (hF : l0_CodesWeight a0 = some r) : LCs Tryz.prog 49 #[v0_] g (.int .i64 r) := w_l0_CodesWeight_ h0 hF

noncomputable def l6_Heavy_b1 (a0 : T_Script) : (Int × Int) → Option (Step (Int × Int) Bool) := fun (x18, x19) => bif decide (x19 < (a0.C.length : Int)) then bif decide (x18 < 1048576) then (at' a0.C x19).bind fun x41 => (l0_CodesWeight ([x41.x0, x41.x1, x41.x2, x41.x3])).bind fun r53 => some (.next (IntKind.i64.wrap ((IntKind.i64.wrap (x18 + 4)) + r53), IntKind.i64.wrap (x19 + 1))) else some (.done (decide (1500 < x18))) else some (.done (decide (1500 < x18)))
noncomputable def l6_Heavy (a0 : T_Script) : Option Bool :=
  (l0_StateWeight a0.S).bind fun r2 => loop (σ := (Int × Int)) (l6_Heavy_b1 a0) (IntKind.i64.wrap (r2 + (a0.N.length : Int)), 0)
theorem w_l6_Heavy_ {g : Frag} {a0 : T_Script} {v0_ : Value} {r : Bool} (h0 : Rd_Script g a0 v0_) (hF : l6_Heavy a0 = some r) : LCs Tryz.prog 18 #[v0_] g (.bool r) := by
 obtain ⟨v0_0_, v0_1_, v0_2_, v0_3_, v0_5_, v0_7_, v0_9_, v0_12_, rfl, h0_0_, h0_1_, h0_2_, h0_3_, h0_5_, h0_7_, h0_9_, h0_12_⟩ := h0
 unfold l6_Heavy at hF
 refine lc_body (k := 34) (av := [.agg (cl_Script v0_0_ v0_1_ v0_2_ v0_3_ a0.S.Taken v0_5_ a0.S.PC v0_7_ a0.S.Stop v0_9_ a0.S.Jump a0.S.Delay v0_12_).toArray]) func18 rfl rfl (h := fun W hS => ?_)
 refine c_seq <| c_region ?_
 refine o_boxP (cl := (cl_Script v0_0_ v0_1_ v0_2_ v0_3_ a0.S.Taken v0_5_ a0.S.PC v0_7_ a0.S.Stop v0_9_ a0.S.Jump a0.S.Delay v0_12_)) rfl hS ?_
 clear hS; intro b1 w hS
 refine oy hS y_assign <| n_thenN <| c_seq ?_
 refine c_quiet (by kernel_rfl) (by kernel_rfl) hS ?_
 refine qy (y_field fa_sledgelaw6_Script_1) ?_
 refine qy (y_loadN (vs := (cl_State v0_1_ v0_2_ v0_3_ a0.S.Taken v0_5_ a0.S.PC v0_7_ a0.S.Stop v0_9_ a0.S.Jump a0.S.Delay)) (fun w hS => hS.own (mH)) underlying27 rfl (by exact sz_api_State) (subd (o := 0 + 1) (by exact rfl))) ?_
 obtain ⟨r2, hr2, hF⟩ := ob hF
 refine q_callS func48 rfl rfl (hc := (w_l0_StateWeight (a0 := a0.S) (h0 := ⟨_, _, _, _, _, _, rfl, h0_1_.plus, h0_2_.plus, h0_3_.plus, h0_5_.plus, h0_7_.plus, h0_9_.plus⟩) (hF := hr2))) (h := ?_)
 refine qy (y_field fa_sledgelaw6_Script_2) <| qy (y_load (fun w hS => hS.own (mH)) underlying24 rfl rfl) <| qy (y_len h0_12_ underlying24) <| qy y_bin <| qy y_assign ?_
 refine q_nilN (h := ?_)
 clear hS; intro w hS
 iterate 2 (refine c_seq ?_)
 refine c_region <| oy hS y_assign <| n_thenN <| c_block ?_
 refine c_loopP hF (fun (q : (Int × Int)) a w' => (∃ s : Nat → Value, a = Ac ((((Fm.dead 34 s).upd 1 (.pointer (some ⟨b1, 0, none⟩))).upd 3 (.int .i64 q.1)).upd 4 (.int .i64 q.2))) ∧ St W g [] ((b1, blk (cl_Script v0_0_ v0_1_ v0_2_ v0_3_ a0.S.Taken v0_5_ a0.S.PC v0_7_ a0.S.Stop v0_9_ a0.S.Jump a0.S.Delay v0_12_) 29) :: []) w') ⟨mk_exF, (hS.re (.b .hb .n))⟩ ?_
 clear hS hF
 intro n37 q a w hI hq
 obtain ⟨x18, x19⟩ := q
 obtain ⟨⟨s38, rfl⟩, hS⟩ := hq
 obtain ⟨z35, hF, hK36⟩ := iter_step hI
 clear hI
 dsimp only [l6_Heavy_b1] at hF
 iterate 2 (refine c_seq ?_)
 refine c_region <| oy hS y_move <| oy hS (y_field fa_sledgelaw6_Script_0) <| oy hS (y_load (fun w hS => hS.own (mH)) underlying22 rfl rfl) <| oy hS (y_len h0_0_ underlying22) <| oy hS y_bin ?_
 refine o_split (ht := fun c39 => ?_) (hf := fun c39 => ?_)
 · replace hF := bt c39 hF
   refine o_gu rfl rfl rfl <| oy hS y_move <| o_gu rfl rfl rfl <| oy hS y_bin <| oy hS y_pickT <| n_thenN ?_
   refine c_if (ht := fun c40 => ?_) (hf := fun c40 => ?_)
   · replace hF := bt c40 hF
     refine wp_skip <| c_seq <| c_block <| c_region <| oy hS y_move <| oy hS y_bin <| oy hS (y_field fa_sledgelaw6_Script_0) <| oy hS (y_load (fun w hS => hS.own (mH)) underlying22 rfl rfl) ?_
     refine oy hS y_move ?_
     obtain ⟨x41, hx41, hF⟩ := ob hF
     obtain ⟨b42, o43, c44, cs45, e46, fz47, hv48, ha49, hb50, hd51, hc52⟩ := SlT.at hx41 h0_0_ enc_len_Bundle
     refine oy hS (y_index hv48 ha49 hb50 underlying22 el_api_Bundle.size) ?_
     refine oy hS (y_slA (by decide) underlying34 (by exact sz_api_Ins)) ?_
     obtain ⟨r53, hr53, hF⟩ := ob hF
     refine o_callS hS func49 rfl rfl (hc := (w_l0_CodesWeight (a0 := ([x41.x0, x41.x1, x41.x2, x41.x3])) (h0 := (arr_sl (xs := [x41.x0, x41.x1, x41.x2, x41.x3]) hd51 hc52 (by exact rfl) rfl enc_len_Ins).plus) (hF := hr53))) (h := ?_)
     clear hS; intro w hS
     refine oy hS y_bin <| oy hS y_assign ?_
     refine n_anyN ?_
     refine c_region <| oy hS y_move <| oy hS y_bin <| oy hS y_assign <| n_thenN ?_
     obtain rfl := osi hF
     exact ⟨_, hK36, mk_exF, (hS.re (.b .hb .n))⟩
   replace hF := bf c40 hF
   refine wp_exit ?_
   refine c_seq <| c_region <| oy hS y_move <| oy hS y_bin <| oy hS y_assign <| n_thenN ?_
   obtain rfl := osi hF
   obtain rfl : _ = r := hK36
   exact wp_ret (wr1 hS)
 replace hF := bf c39 hF
 iterate 2 (refine o_sk rfl rfl ?_)
 refine oy hS y_pickF <| n_thenN ?_
 refine c_if_false (h := ?_)
 refine wp_exit ?_
 refine c_seq <| c_region <| oy hS y_move <| oy hS y_bin <| oy hS y_assign <| n_thenN ?_
 obtain rfl := osi hF
 obtain rfl : _ = r := hK36
 exact wp_ret (wr1 hS)
theorem w_l6_Heavy {g : Frag} {a0 : T_Script} {v0_ : Value} {r : Bool} (h0 : Rd_Script g a0 v0_) (hF : l6_Heavy a0 = some r) : LCs Tryz.prog 18 #[v0_] g (.bool r) := w_l6_Heavy_ h0 hF

noncomputable def r0_CopyBundles_b1 (a0 : (List (A4 T_Ins))) : ((List (A4 T_Ins)) × Int) → Option (Step ((List (A4 T_Ins)) × Int) (List (A4 T_Ins))) := fun (x24, x29) => bif decide (x29 < (a0.length : Int)) then (at' a0 x29).bind fun x57 => (app' x24 ([x57] : List (A4 T_Ins))).bind fun zs76 => some (.next (zs76, IntKind.i64.wrap (x29 + 1))) else some (.done (x24))
noncomputable def r0_CopyBundles (a0 : (List (A4 T_Ins))) : Option (List (A4 T_Ins)) :=
  loop (σ := ((List (A4 T_Ins)) × Int)) (r0_CopyBundles_b1 a0) ([], 0)
theorem w_r0_CopyBundles_ {g : Frag} {a0 : (List (A4 T_Ins))} {v0_ : Value} {r : (List (A4 T_Ins))} (h0 : SlT g enc_Bundle 24 a0 v0_) (hF : r0_CopyBundles a0 = some r) : LC Tryz.prog 20 #[v0_] g [] (fun v L => ∃ (u0 : Value) (M0 : Own), u0 = v ∧ L = (M0 ++ []) ∧ OwT 34 enc_Bundle 24 r u0 M0) := by
 unfold r0_CopyBundles at hF
 refine lc_body (k := 19) (av := [v0_]) func20 rfl rfl (h := fun W hS => ?_)
 refine c_seq <| c_region <| oy hS y_assign <| n_thenN <| c_seq <| c_region <| oy hS y_assign <| n_thenN ?_
 iterate 2 (refine c_seq ?_)
 refine c_region <| oy hS y_assign <| n_thenN <| c_block ?_
 refine c_loopP hF (fun (q : ((List (A4 T_Ins)) × Int)) a w' => ∃ (v25 : Value) (LX27 : Own), OwT 34 enc_Bundle 24 q.1 v25 LX27 ∧ (∃ s : Nat → Value, a = Ac ((((Fm.dead 19 s).upd 0 v0_).upd 3 v25).upd 4 (.int .i64 q.2))) ∧ St W g [] (LX27 ++ []) w') ⟨(.slice none 0 0), [], (OwT.nil _ _ _), mk_exF, (hS.re (.take (X := []) (.here [] _) .n))⟩ ?_
 clear hS hF
 intro n54 q a w hI hq
 obtain ⟨x24, x29⟩ := q
 obtain ⟨v25, LX27, h26, ⟨s55, rfl⟩, hS⟩ := hq
 replace h26 : OwT 34 enc_Bundle 24 x24 v25 LX27 := h26
 obtain ⟨z51, hF, hK52⟩ := iter_step hI
 clear hI
 dsimp only [r0_CopyBundles_b1] at hF
 iterate 2 (refine c_seq ?_)
 refine c_region ?_
 iterate 2 (refine oy hS y_move ?_)
 refine oy hS (y_len h0 underlying22) <| oy hS y_bin <| n_thenN ?_
 refine c_if (ht := fun c56 => ?_) (hf := fun c56 => ?_)
 · replace hF := bt c56 hF
   refine wp_skip <| c_seq <| c_block <| c_region ?_
   iterate 3 (refine oy hS y_move ?_)
   obtain ⟨x57, hx57, hF⟩ := ob hF
   obtain ⟨b58, o59, c60, cs61, e62, fz63, hv64, ha65, hb66, hd67, hc68⟩ := SlT.at hx57 h0 enc_len_Bundle
   refine oy hS (y_index hv64 ha65 hb66 underlying22 el_api_Bundle.size) ?_
   refine oy hS (y_loadN (vs := (enc_Bundle x57)) (fun w hS => hS.block hd67) underlying34 rfl (by exact sz_api_Bundle) (fun j u hj => hc68 j u hj)) ?_
   refine o_buildT val_Bundle ([x57] : List (A4 T_Ins)) hS el_api_Bundle (fun _ => rfl) enc_len_Bundle (by decide) rfl (by decide) (hp := rfl) (h := ?_)
   clear hS; intro b69 w hS h70
   have hS : St W g [] ([(b69, blk (([x57] : List (A4 T_Ins)).flatMap enc_Bundle) 34)] ++ (LX27 ++ [])) w := hS
   obtain ⟨zs76, hzs76, hF⟩ := ob hF
   refine o_appPn (ys := ([x57] : List (A4 T_Ins))) (LX := LX27) hzs76 hS el_api_Bundle h26 rfl enc_len_Bundle (enc_ones_Bundle _) (by decide) ?_
   clear hS; intro v72 LX73 w h74 hS
   refine oy hS y_assign ?_
   refine n_anyN ?_
   refine c_region <| oy hS y_move <| oy hS y_bin <| oy hS y_assign <| n_thenN ?_
   obtain rfl := osi hF
   exact ⟨_, hK52, v72, LX73, h74, mk_exF, (hS.re (.t .h .n))⟩
 replace hF := bf c56 hF
 refine wp_exit ?_
 refine c_seq <| c_region <| oy hS y_move <| oy hS y_assign <| n_thenN ?_
 obtain rfl := osi hF
 obtain rfl : _ = r := hK52
 refine wp_ret (r_ret (vs := [v25]) (hS.re (.t .h .n)) (rsC res_tmp rsN) rfl ⟨_, _, rfl, (by first | rfl | simp only [aa, ac, al, an]), h26⟩)
theorem w_r0_CopyBundles {g : Frag} {a0 : (List (A4 T_Ins))} {v0_ : Value} {r : (List (A4 T_Ins))} (h0 : SlT g enc_Bundle 24 a0 v0_) (hF : r0_CopyBundles a0 = some r) : LC Tryz.prog 20 #[v0_] g [] (fun v L => ∃ (u0 : Value) (M0 : Own), u0 = v ∧ L = (M0 ++ []) ∧ OwT 34 enc_Bundle 24 r u0 M0) := w_r0_CopyBundles_ h0 hF

noncomputable def pipe_Check (a0 : T_State) : Option Int :=
  (pipe_May a0).bind fun r2 => bif !r2 then some (1) else some (0)
theorem w_pipe_Check_ {g : Frag} {a0 : T_State} {v0_ : Value} {r : Int} (h0 : Rd_State g a0 v0_) (hF : pipe_Check a0 = some r) : LCs Tryz.prog 22 #[v0_] g (.int .i64 r) := by
 obtain ⟨v0_0_, v0_1_, v0_2_, v0_4_, v0_6_, v0_8_, rfl, h0_0_, h0_1_, h0_2_, h0_4_, h0_6_, h0_8_⟩ := h0
 unfold pipe_Check at hF
 refine lc_body (k := 6) (av := [.agg (cl_State v0_0_ v0_1_ v0_2_ a0.Taken v0_4_ a0.PC v0_6_ a0.Stop v0_8_ a0.Jump a0.Delay).toArray]) func22 rfl rfl (h := fun W hS => ?_)
 refine c_seq <| c_region ?_
 refine o_boxP (cl := (cl_State v0_0_ v0_1_ v0_2_ a0.Taken v0_4_ a0.PC v0_6_ a0.Stop v0_8_ a0.Jump a0.Delay)) rfl hS ?_
 clear hS; intro b1 w hS
 refine oy hS y_assign <| n_thenN ?_
 iterate 2 (refine c_seq ?_)
 refine c_region ?_
 refine oy hS (y_loadW (fun w hS => hS.own (mH)) underlying27 rfl (by exact sz_api_State)) ?_
 obtain ⟨r2, hr2, hF⟩ := ob hF
 refine o_callS hS func53 rfl rfl (hc := (w_pipe_May (a0 := a0) (h0 := ⟨_, _, _, _, _, _, rfl, h0_0_.plus, h0_1_.plus, h0_2_.plus, h0_4_.plus, h0_6_.plus, h0_8_.plus⟩) (hF := hr2))) (h := ?_)
 clear hS; intro w hS
 refine oy hS y_not <| n_thenN ?_
 refine c_if (ht := fun c3 => ?_) (hf := fun c3 => ?_)
 · replace hF := bt c3 hF
   refine c_seq <| c_region <| oy hS y_assign <| n_thenN ?_
   obtain rfl := osi hF
   exact wp_ret (wr1 hS)
 replace hF := bf c3 hF
 refine wp_skip <| c_seq <| c_region <| oy hS y_assign <| n_thenN ?_
 obtain rfl := osi hF
 exact wp_ret (wr1 hS)
theorem w_pipe_Check {g : Frag} {a0 : T_State} {v0_ : Value} {r : Int} (h0 : Rd_State g a0 v0_) (hF : pipe_Check a0 = some r) : LCs Tryz.prog 22 #[v0_] g (.int .i64 r) := w_pipe_Check_ h0 hF

noncomputable def r5_common_b2 (a0 : T_State) : Int → Option (Step Int Bool) := fun x31 => bif decide (x31 < (a0.Stack.length : Int)) then (at' a0.Stack x31).bind fun x51 => bif !(r0_Num x51 1024) then some (.done (false)) else some (.next (IntKind.i64.wrap (x31 + 1))) else some (.done (true))
noncomputable def r5_common_k1 (a0 : T_State) : Unit → Option Bool := fun _ => loop (σ := Int) (r5_common_b2 a0) 0
noncomputable def r5_common (a0 : T_State) : Option Bool :=
  cut (σ := Unit) (bif decide ((a0.Regs.length : Int) ≠ 16) then some (.done (false)) else bif decide ((a0.Mem.length : Int) ≠ 256) then some (.done (false)) else bif decide (100 < (a0.In_.length : Int)) then some (.done (false)) else bif !(r0_Num a0.Taken (a0.In_.length : Int)) then some (.done (false)) else bif !(r0_Num a0.PC 1024) then some (.done (false)) else bif decide (16 < (a0.Stack.length : Int)) then some (.done (false)) else some (.next ())) (r5_common_k1 a0)
theorem w_r5_common_ {g : Frag} {a0 : T_State} {v0_ : Value} {r : Bool} (h0 : Rd_State g a0 v0_) (hF : r5_common a0 = some r) : LCs Tryz.prog 54 #[v0_] g (.bool r) := by
 obtain ⟨v0_0_, v0_1_, v0_2_, v0_4_, v0_6_, v0_8_, rfl, h0_0_, h0_1_, h0_2_, h0_4_, h0_6_, h0_8_⟩ := h0
 unfold r5_common at hF
 refine lc_body (k := 55) (av := [.agg (cl_State v0_0_ v0_1_ v0_2_ a0.Taken v0_4_ a0.PC v0_6_ a0.Stop v0_8_ a0.Jump a0.Delay).toArray]) func54 rfl rfl (h := fun W hS => ?_)
 refine c_seq <| c_region ?_
 refine o_boxP (cl := (cl_State v0_0_ v0_1_ v0_2_ a0.Taken v0_4_ a0.PC v0_6_ a0.Stop v0_8_ a0.Jump a0.Delay)) rfl hS ?_
 clear hS; intro b1 w hS
 refine oy hS y_assign <| n_thenN ?_
 obtain ⟨z8, hF, hK9⟩ := cut_step hF
 refine c_cutP (fun a w' => r5_common_k1 a0 () = some r ∧ (∃ s : Nat → Value, a = Ac ((Fm.dead 55 s).upd 1 (.pointer (some ⟨b1, 0, none⟩)))) ∧ St W g [] ((b1, blk (cl_State v0_0_ v0_1_ v0_2_ a0.Taken v0_4_ a0.PC v0_6_ a0.Stop v0_8_ a0.Jump a0.Delay) 27) :: []) w') ?_ ?_
 · skip
   refine c_seq <| c_region <| oy hS (y_field fa_api_State_0) <| oy hS (y_load (fun w hS => hS.own (mH)) underlying23 rfl rfl) <| oy hS (y_len h0_0_ underlying23) <| oy hS y_bin ?_
   refine o_split (ht := fun c10 => ?_) (hf := fun c10 => ?_)
   · replace hF := bt c10 hF
     iterate 4 (refine o_sk rfl rfl ?_)
     refine oy hS y_pickT <| oy hS y_move ?_
     iterate 4 (refine o_sk rfl rfl ?_)
     refine oy hS y_pickT <| oy hS y_move ?_
     iterate 7 (refine o_sk rfl rfl ?_)
     refine oy hS y_pickT <| oy hS y_move ?_
     iterate 4 (refine o_sk rfl rfl ?_)
     refine oy hS y_pickT <| oy hS y_move ?_
     iterate 4 (refine o_sk rfl rfl ?_)
     refine oy hS y_pickT <| n_thenN ?_
     refine c_if_true (h := ?_)
     refine c_seq <| c_region <| oy hS y_assign <| n_thenN ?_
     obtain rfl := osi hF
     obtain rfl : _ = r := hK9
     exact wp_ret (wr1 hS)
   replace hF := bf c10 hF
   refine o_gu rfl rfl rfl <| oy hS (y_field fa_api_State_1) <| o_gu rfl rfl rfl <| oy hS (y_load (fun w hS => hS.own (mH)) underlying23 rfl rfl) <| o_gu rfl rfl rfl <| oy hS (y_len h0_1_ underlying23) <| o_gu rfl rfl rfl <| oy hS y_bin ?_
   refine oy hS y_pickF ?_
   refine o_split (ht := fun c11 => ?_) (hf := fun c11 => ?_)
   · replace hF := bt c11 hF
     iterate 4 (refine o_sk rfl rfl ?_)
     refine oy hS y_pickT <| oy hS y_move ?_
     iterate 7 (refine o_sk rfl rfl ?_)
     refine oy hS y_pickT <| oy hS y_move ?_
     iterate 4 (refine o_sk rfl rfl ?_)
     refine oy hS y_pickT <| oy hS y_move ?_
     iterate 4 (refine o_sk rfl rfl ?_)
     refine oy hS y_pickT <| n_thenN ?_
     refine c_if_true (h := ?_)
     refine c_seq <| c_region <| oy hS y_assign <| n_thenN ?_
     obtain rfl := osi hF
     obtain rfl : _ = r := hK9
     exact wp_ret (wr1 hS)
   replace hF := bf c11 hF
   refine o_gu rfl rfl rfl <| oy hS (y_field fa_api_State_2) <| o_gu rfl rfl rfl <| oy hS (y_load (fun w hS => hS.own (mH)) underlying23 rfl rfl) <| o_gu rfl rfl rfl <| oy hS (y_len h0_2_ underlying23) <| o_gu rfl rfl rfl <| oy hS y_bin ?_
   refine oy hS y_pickF ?_
   refine o_split (ht := fun c12 => ?_) (hf := fun c12 => ?_)
   · replace hF := bt c12 hF
     iterate 7 (refine o_sk rfl rfl ?_)
     refine oy hS y_pickT <| oy hS y_move ?_
     iterate 4 (refine o_sk rfl rfl ?_)
     refine oy hS y_pickT <| oy hS y_move ?_
     iterate 4 (refine o_sk rfl rfl ?_)
     refine oy hS y_pickT <| n_thenN ?_
     refine c_if_true (h := ?_)
     refine c_seq <| c_region <| oy hS y_assign <| n_thenN ?_
     obtain rfl := osi hF
     obtain rfl : _ = r := hK9
     exact wp_ret (wr1 hS)
   replace hF := bf c12 hF
   refine o_gu rfl rfl rfl <| oy hS (y_field fa_api_State_3) <| o_gu rfl rfl rfl <| oy hS (y_load (fun w hS => hS.own (mH)) underlying3 rfl rfl) <| o_gu rfl rfl rfl <| oy hS (y_field fa_api_State_2) <| o_gu rfl rfl rfl <| oy hS (y_load (fun w hS => hS.own (mH)) underlying23 rfl rfl) ?_
   refine o_gu rfl rfl rfl <| oy hS (y_len h0_2_ underlying23) <| o_gu rfl rfl rfl ?_
   refine o_callS hS func26 rfl rfl (hc := (w_r0_Num (a0 := a0.Taken) (a1 := (a0.In_.length : Int)))) (h := ?_)
   clear hS; intro w hS
   refine o_gu rfl rfl rfl <| oy hS y_not <| oy hS y_pickF ?_
   refine o_split (ht := fun c13 => ?_) (hf := fun c13 => ?_)
   · replace hF := bt c13 hF
     iterate 4 (refine o_sk rfl rfl ?_)
     refine oy hS y_pickT <| oy hS y_move ?_
     iterate 4 (refine o_sk rfl rfl ?_)
     refine oy hS y_pickT <| n_thenN ?_
     refine c_if_true (h := ?_)
     refine c_seq <| c_region <| oy hS y_assign <| n_thenN ?_
     obtain rfl := osi hF
     obtain rfl : _ = r := hK9
     exact wp_ret (wr1 hS)
   replace hF := bf c13 hF
   refine o_gu rfl rfl rfl <| oy hS (y_field fa_api_State_5) <| o_gu rfl rfl rfl <| oy hS (y_load (fun w hS => hS.own (mH)) underlying3 rfl rfl) <| o_gu rfl rfl rfl ?_
   refine o_callS hS func26 rfl rfl (hc := (w_r0_Num (a0 := a0.PC) (a1 := 1024))) (h := ?_)
   clear hS; intro w hS
   refine o_gu rfl rfl rfl <| oy hS y_not <| oy hS y_pickF ?_
   refine o_split (ht := fun c14 => ?_) (hf := fun c14 => ?_)
   · replace hF := bt c14 hF
     iterate 4 (refine o_sk rfl rfl ?_)
     refine oy hS y_pickT <| n_thenN ?_
     refine c_if_true (h := ?_)
     refine c_seq <| c_region <| oy hS y_assign <| n_thenN ?_
     obtain rfl := osi hF
     obtain rfl : _ = r := hK9
     exact wp_ret (wr1 hS)
   replace hF := bf c14 hF
   refine o_gu rfl rfl rfl <| oy hS (y_field fa_api_State_6) <| o_gu rfl rfl rfl <| oy hS (y_load (fun w hS => hS.own (mH)) underlying24 rfl rfl) <| o_gu rfl rfl rfl <| oy hS (y_len h0_6_ underlying24) <| o_gu rfl rfl rfl <| oy hS y_bin ?_
   refine oy hS y_pickF <| n_thenN ?_
   refine c_if (ht := fun c15 => ?_) (hf := fun c15 => ?_)
   · replace hF := bt c15 hF
     refine c_seq <| c_region <| oy hS y_assign <| n_thenN ?_
     obtain rfl := osi hF
     obtain rfl : _ = r := hK9
     exact wp_ret (wr1 hS)
   replace hF := bf c15 hF
   refine wp_skip ?_
   obtain rfl := osi hF
   change _ ∧ _
   exact ⟨hK9, mk_exF, (hS.re (.b .hb .n))⟩
 rintro a w ⟨hF, ⟨s16, rfl⟩, hS⟩
 dsimp only [r5_common_k1] at hF
 iterate 2 (refine c_seq ?_)
 refine c_region <| oy hS y_assign <| n_thenN <| c_block ?_
 refine c_loopP hF (fun (q : Int) a w' => (∃ s : Nat → Value, a = Ac (((Fm.dead 55 s).upd 1 (.pointer (some ⟨b1, 0, none⟩))).upd 3 (.int .i64 q))) ∧ St W g [] ((b1, blk (cl_State v0_0_ v0_1_ v0_2_ a0.Taken v0_4_ a0.PC v0_6_ a0.Stop v0_8_ a0.Jump a0.Delay) 27) :: []) w') ⟨mk_exF, (hS.re (.b .hb .n))⟩ ?_
 clear hS hF
 intro n48 q a w hI hq
 revert hq hI; revert q; intro x31 hI hq
 obtain ⟨⟨s49, rfl⟩, hS⟩ := hq
 obtain ⟨z46, hF, hK47⟩ := iter_step hI
 clear hI
 dsimp only [r5_common_b2] at hF
 iterate 2 (refine c_seq ?_)
 refine c_region <| oy hS y_move <| oy hS (y_field fa_api_State_6) <| oy hS (y_load (fun w hS => hS.own (mH)) underlying24 rfl rfl) <| oy hS (y_len h0_6_ underlying24) <| oy hS y_bin <| n_thenN ?_
 refine c_if (ht := fun c50 => ?_) (hf := fun c50 => ?_)
 · replace hF := bt c50 hF
   refine wp_skip <| c_seq <| c_block <| c_seq <| c_region <| oy hS (y_field fa_api_State_6) <| oy hS (y_load (fun w hS => hS.own (mH)) underlying24 rfl rfl) <| oy hS y_move ?_
   obtain ⟨x51, hx51, hF⟩ := ob hF
   obtain ⟨b52, o53, c54, cs55, e56, fz57, hv58, ha59, hb60, hd61, hc62⟩ := SlT.at hx51 h0_6_ enc_len_int
   refine oy hS (y_index hv58 ha59 hb60 underlying24 el_int.size) <| oy hS (y_load (fun w hS => hS.block hd61) underlying3 rfl (hc62 0 _ rfl)) ?_
   refine o_callS hS func26 rfl rfl (hc := (w_r0_Num (a0 := x51) (a1 := 1024))) (h := ?_)
   clear hS; intro w hS
   refine oy hS y_not <| n_thenN ?_
   refine c_if (ht := fun c63 => ?_) (hf := fun c63 => ?_)
   · replace hF := bt c63 hF
     refine c_seq <| c_region <| oy hS y_assign <| n_thenN ?_
     obtain rfl := osi hF
     obtain rfl : _ = r := hK47
     exact wp_ret (wr1 hS)
   replace hF := bf c63 hF
   refine wp_skip <| c_region <| oy hS y_move <| oy hS y_bin <| oy hS y_assign <| n_thenN ?_
   obtain rfl := osi hF
   exact ⟨_, hK47, mk_exF, (hS.re (.b .hb .n))⟩
 replace hF := bf c50 hF
 refine wp_exit ?_
 refine c_seq <| c_region <| oy hS y_assign <| n_thenN ?_
 obtain rfl := osi hF
 obtain rfl : _ = r := hK47
 exact wp_ret (wr1 hS)
theorem w_r5_common {g : Frag} {a0 : T_State} {v0_ : Value} {r : Bool} (h0 : Rd_State g a0 v0_) (hF : r5_common a0 = some r) : LCs Tryz.prog 54 #[v0_] g (.bool r) := w_r5_common_ h0 hF

noncomputable def r5_Pipe_b3 (a0 : T_State) : Int → Option (Step Int (Step Unit Bool)) := fun x130 => bif decide (x130 < (a0.Fly.length : Int)) then (at' a0.Fly x130).bind fun x163 => bif !(r0_Num x163.Reg 15) then some (.done (.done (false))) else (at' a0.Fly x130).bind fun x176 => bif !(r0_Num x176.Left 4) then some (.done (.done (false))) else some (.next (IntKind.i64.wrap (x130 + 1))) else some (.done (.next ()))
noncomputable def r5_Pipe_b6 (a0 : T_State) (x292 : Int) : (Int × Int) → Option (Step (Int × Int) (Step Int (Step Int Bool))) := fun (x465, x466) => bif decide (x466 < (a0.Fly.length : Int)) then (at' a0.Fly x466).bind fun x486 => bif decide (x292 ≤ x486.Left) then some (.next (IntKind.i64.wrap (x465 + 1), IntKind.i64.wrap (x466 + 1))) else some (.next (x465, IntKind.i64.wrap (x466 + 1))) else some (.done (.next x465))
noncomputable def r5_Pipe_k5 (x292 : Int) : Int → Option (Step Int Bool) := fun x448 => bif decide ((IntKind.i64.wrap (4 * (IntKind.i64.wrap (5 - x292)))) < x448) then some (.done (false)) else some (.next (IntKind.i64.wrap (x292 + 1)))
noncomputable def r5_Pipe_b4 (a0 : T_State) : Int → Option (Step Int Bool) := fun x292 => bif decide (x292 ≤ 4) then cut (σ := Int) (loop (σ := (Int × Int)) (r5_Pipe_b6 a0 x292) (0, 0)) (r5_Pipe_k5 x292) else some (.done (true))
noncomputable def r5_Pipe_k2 (a0 : T_State) : Unit → Option Bool := fun _ => loop (σ := Int) (r5_Pipe_b4 a0) 0
noncomputable def r5_Pipe_k1 (a0 : T_State) : Unit → Option Bool := fun _ => cut (σ := Unit) (loop (σ := Int) (r5_Pipe_b3 a0) 0) (r5_Pipe_k2 a0)
noncomputable def r5_Pipe (a0 : T_State) : Option Bool :=
  cut (σ := Unit) ((r5_common a0).bind fun r9 => bif !r9 then some (.done (false)) else bif !(r0_Num a0.Stop 6) then some (.done (false)) else bif !(r0_Num a0.Jump 1024) then some (.done (false)) else bif !(r0_Num a0.Delay 2) then some (.done (false)) else some (.next ())) (r5_Pipe_k1 a0)
theorem w_r5_Pipe_ {g : Frag} {a0 : T_State} {v0_ : Value} {r : Bool} (h0 : Rd_State g a0 v0_) (hF : r5_Pipe a0 = some r) : LCs Tryz.prog 23 #[v0_] g (.bool r) := by
 obtain ⟨v0_0_, v0_1_, v0_2_, v0_4_, v0_6_, v0_8_, rfl, h0_0_, h0_1_, h0_2_, h0_4_, h0_6_, h0_8_⟩ := h0
 unfold r5_Pipe at hF
 refine lc_body (k := 79) (av := [.agg (cl_State v0_0_ v0_1_ v0_2_ a0.Taken v0_4_ a0.PC v0_6_ a0.Stop v0_8_ a0.Jump a0.Delay).toArray]) func23 rfl rfl (h := fun W hS => ?_)
 refine c_seq <| c_region ?_
 refine o_boxP (cl := (cl_State v0_0_ v0_1_ v0_2_ a0.Taken v0_4_ a0.PC v0_6_ a0.Stop v0_8_ a0.Jump a0.Delay)) rfl hS ?_
 clear hS; intro b1 w hS
 refine oy hS y_assign <| n_thenN ?_
 obtain ⟨z7, hF, hK8⟩ := cut_step hF
 refine c_cutP (fun a w' => r5_Pipe_k1 a0 () = some r ∧ (∃ s : Nat → Value, a = Ac ((Fm.dead 79 s).upd 1 (.pointer (some ⟨b1, 0, none⟩)))) ∧ St W g [] ((b1, blk (cl_State v0_0_ v0_1_ v0_2_ a0.Taken v0_4_ a0.PC v0_6_ a0.Stop v0_8_ a0.Jump a0.Delay) 27) :: []) w') ?_ ?_
 · skip
   refine c_seq <| c_region ?_
   refine oy hS (y_loadW (fun w hS => hS.own (mH)) underlying27 rfl (by exact sz_api_State)) ?_
   obtain ⟨r9, hr9, hF⟩ := ob hF
   refine o_callS hS func54 rfl rfl (hc := (w_r5_common (a0 := a0) (h0 := ⟨_, _, _, _, _, _, rfl, h0_0_.plus, h0_1_.plus, h0_2_.plus, h0_4_.plus, h0_6_.plus, h0_8_.plus⟩) (hF := hr9))) (h := ?_)
   clear hS; intro w hS
   refine oy hS y_not ?_
   refine o_split (ht := fun c10 => ?_) (hf := fun c10 => ?_)
   · replace hF := bt c10 hF
     iterate 4 (refine o_sk rfl rfl ?_)
     refine oy hS y_pickT <| oy hS y_move ?_
     iterate 4 (refine o_sk rfl rfl ?_)
     refine oy hS y_pickT <| oy hS y_move ?_
     iterate 4 (refine o_sk rfl rfl ?_)
     refine oy hS y_pickT <| n_thenN ?_
     refine c_if_true (h := ?_)
     refine c_seq <| c_region <| oy hS y_assign <| n_thenN ?_
     obtain rfl := osi hF
     obtain rfl : _ = r := hK8
     exact wp_ret (wr1 hS)
   replace hF := bf c10 hF
   refine o_gu rfl rfl rfl <| oy hS (y_field fa_api_State_7) <| o_gu rfl rfl rfl <| oy hS (y_load (fun w hS => hS.own (mH)) underlying3 rfl rfl) <| o_gu rfl rfl rfl ?_
   refine o_callS hS func26 rfl rfl (hc := (w_r0_Num (a0 := a0.Stop) (a1 := 6))) (h := ?_)
   clear hS; intro w hS
   refine o_gu rfl rfl rfl <| oy hS y_not <| oy hS y_pickF ?_
   refine o_split (ht := fun c11 => ?_) (hf := fun c11 => ?_)
   · replace hF := bt c11 hF
     iterate 4 (refine o_sk rfl rfl ?_)
     refine oy hS y_pickT <| oy hS y_move ?_
     iterate 4 (refine o_sk rfl rfl ?_)
     refine oy hS y_pickT <| n_thenN ?_
     refine c_if_true (h := ?_)
     refine c_seq <| c_region <| oy hS y_assign <| n_thenN ?_
     obtain rfl := osi hF
     obtain rfl : _ = r := hK8
     exact wp_ret (wr1 hS)
   replace hF := bf c11 hF
   refine o_gu rfl rfl rfl <| oy hS (y_field fa_api_State_9) <| o_gu rfl rfl rfl <| oy hS (y_load (fun w hS => hS.own (mH)) underlying3 rfl rfl) <| o_gu rfl rfl rfl ?_
   refine o_callS hS func26 rfl rfl (hc := (w_r0_Num (a0 := a0.Jump) (a1 := 1024))) (h := ?_)
   clear hS; intro w hS
   refine o_gu rfl rfl rfl <| oy hS y_not <| oy hS y_pickF ?_
   refine o_split (ht := fun c12 => ?_) (hf := fun c12 => ?_)
   · replace hF := bt c12 hF
     iterate 4 (refine o_sk rfl rfl ?_)
     refine oy hS y_pickT <| n_thenN ?_
     refine c_if_true (h := ?_)
     refine c_seq <| c_region <| oy hS y_assign <| n_thenN ?_
     obtain rfl := osi hF
     obtain rfl : _ = r := hK8
     exact wp_ret (wr1 hS)
   replace hF := bf c12 hF
   refine o_gu rfl rfl rfl <| oy hS (y_field fa_api_State_10) <| o_gu rfl rfl rfl <| oy hS (y_load (fun w hS => hS.own (mH)) underlying3 rfl rfl) <| o_gu rfl rfl rfl ?_
   refine o_callS hS func26 rfl rfl (hc := (w_r0_Num (a0 := a0.Delay) (a1 := 2))) (h := ?_)
   clear hS; intro w hS
   refine o_gu rfl rfl rfl <| oy hS y_not <| oy hS y_pickF <| n_thenN ?_
   refine c_if (ht := fun c13 => ?_) (hf := fun c13 => ?_)
   · replace hF := bt c13 hF
     refine c_seq <| c_region <| oy hS y_assign <| n_thenN ?_
     obtain rfl := osi hF
     obtain rfl : _ = r := hK8
     exact wp_ret (wr1 hS)
   replace hF := bf c13 hF
   refine wp_skip ?_
   obtain rfl := osi hF
   change _ ∧ _
   exact ⟨hK8, mk_exF, (hS.re (.b .hb .n))⟩
 rintro a w ⟨hF, ⟨s14, rfl⟩, hS⟩
 dsimp only [r5_Pipe_k1] at hF
 obtain ⟨z101, hF, hK102⟩ := cut_step hF
 refine c_cutP (fun a w' => r5_Pipe_k2 a0 () = some r ∧ (∃ s : Nat → Value, a = Ac ((Fm.dead 79 s).upd 1 (.pointer (some ⟨b1, 0, none⟩)))) ∧ St W g [] ((b1, blk (cl_State v0_0_ v0_1_ v0_2_ a0.Taken v0_4_ a0.PC v0_6_ a0.Stop v0_8_ a0.Jump a0.Delay) 27) :: []) w') ?_ ?_
 · skip
   refine c_seq <| c_region <| oy hS y_assign <| n_thenN <| c_block ?_
   refine c_loopP hF (fun (q : Int) a w' => (∃ s : Nat → Value, a = Ac (((Fm.dead 79 s).upd 1 (.pointer (some ⟨b1, 0, none⟩))).upd 3 (.int .i64 q))) ∧ St W g [] ((b1, blk (cl_State v0_0_ v0_1_ v0_2_ a0.Taken v0_4_ a0.PC v0_6_ a0.Stop v0_8_ a0.Jump a0.Delay) 27) :: []) w') ⟨mk_exF, (hS.re (.b .hb .n))⟩ ?_
   clear hS hF
   intro n160 q a w hI hq
   revert hq hI; revert q; intro x130 hI hq
   obtain ⟨⟨s161, rfl⟩, hS⟩ := hq
   obtain ⟨z158, hF, hK159⟩ := iter_step hI
   clear hI
   dsimp only [r5_Pipe_b3] at hF
   iterate 2 (refine c_seq ?_)
   refine c_region <| oy hS y_move <| oy hS (y_field fa_api_State_8) <| oy hS (y_load (fun w hS => hS.own (mH)) underlying25 rfl rfl) <| oy hS (y_len h0_8_ underlying25) <| oy hS y_bin <| n_thenN ?_
   refine c_if (ht := fun c162 => ?_) (hf := fun c162 => ?_)
   · replace hF := bt c162 hF
     refine wp_skip <| c_seq <| c_block <| c_seq <| c_region <| oy hS (y_field fa_api_State_8) <| oy hS (y_load (fun w hS => hS.own (mH)) underlying25 rfl rfl) <| oy hS y_move ?_
     obtain ⟨x163, hx163, hF⟩ := ob hF
     obtain ⟨b164, o165, c166, cs167, e168, fz169, hv170, ha171, hb172, hd173, hc174⟩ := SlT.at hx163 h0_8_ enc_len_Write
     refine oy hS (y_index hv170 ha171 hb172 underlying25 el_api_Write.size) <| oy hS (y_field fa_api_Write_0) <| oy hS (y_load (fun w hS => hS.block hd173) underlying3 rfl (hc174 0 _ rfl)) ?_
     refine o_callS hS func26 rfl rfl (hc := (w_r0_Num (a0 := x163.Reg) (a1 := 15))) (h := ?_)
     clear hS; intro w hS
     refine oy hS y_not ?_
     refine o_split (ht := fun c175 => ?_) (hf := fun c175 => ?_)
     · replace hF := bt c175 hF
       iterate 8 (refine o_sk rfl rfl ?_)
       refine oy hS y_pickT <| n_thenN ?_
       refine c_if_true (h := ?_)
       refine c_seq <| c_region <| oy hS y_assign <| n_thenN ?_
       obtain rfl := osi hF
       obtain rfl : _ = z101 := hK159
       obtain rfl : _ = r := hK102
       exact wp_ret (wr1 hS)
     replace hF := bf c175 hF
     refine o_gu rfl rfl rfl <| oy hS (y_field fa_api_State_8) <| o_gu rfl rfl rfl <| oy hS (y_load (fun w hS => hS.own (mH)) underlying25 rfl rfl) <| o_gu rfl rfl rfl <| oy hS y_move <| o_gu rfl rfl rfl ?_
     obtain ⟨x176, hx176, hF⟩ := ob hF
     obtain ⟨b177, o178, c179, cs180, e181, fz182, hv183, ha184, hb185, hd186, hc187⟩ := SlT.at hx176 h0_8_ enc_len_Write
     refine oy hS (y_index hv183 ha184 hb185 underlying25 el_api_Write.size) <| o_gu rfl rfl rfl <| oy hS (y_field fa_api_Write_2) <| o_gu rfl rfl rfl <| oy hS (y_load (fun w hS => hS.block hd186) underlying3 rfl (hc187 2 _ rfl)) <| o_gu rfl rfl rfl ?_
     refine o_callS hS func26 rfl rfl (hc := (w_r0_Num (a0 := x176.Left) (a1 := 4))) (h := ?_)
     clear hS; intro w hS
     refine o_gu rfl rfl rfl <| oy hS y_not <| oy hS y_pickF <| n_thenN ?_
     refine c_if (ht := fun c188 => ?_) (hf := fun c188 => ?_)
     · replace hF := bt c188 hF
       refine c_seq <| c_region <| oy hS y_assign <| n_thenN ?_
       obtain rfl := osi hF
       obtain rfl : _ = z101 := hK159
       obtain rfl : _ = r := hK102
       exact wp_ret (wr1 hS)
     replace hF := bf c188 hF
     refine wp_skip <| c_region <| oy hS y_move <| oy hS y_bin <| oy hS y_assign <| n_thenN ?_
     obtain rfl := osi hF
     exact ⟨_, hK159, mk_exF, (hS.re (.b .hb .n))⟩
   replace hF := bf c162 hF
   refine wp_exit ?_
   obtain rfl := osi hF
   obtain rfl : _ = z101 := hK159
   change _ ∧ _
   exact ⟨hK102, mk_exF, (hS.re (.b .hb .n))⟩
 rintro a w ⟨hF, ⟨s189, rfl⟩, hS⟩
 dsimp only [r5_Pipe_k2] at hF
 iterate 2 (refine c_seq ?_)
 refine c_region <| oy hS y_assign <| n_thenN <| c_block ?_
 refine c_loopP hF (fun (q : Int) a w' => (∃ s : Nat → Value, a = Ac (((Fm.dead 79 s).upd 1 (.pointer (some ⟨b1, 0, none⟩))).upd 4 (.int .i64 q))) ∧ St W g [] ((b1, blk (cl_State v0_0_ v0_1_ v0_2_ a0.Taken v0_4_ a0.PC v0_6_ a0.Stop v0_8_ a0.Jump a0.Delay) 27) :: []) w') ⟨mk_exF, (hS.re (.b .hb .n))⟩ ?_
 clear hS hF
 intro n397 q a w hI hq
 revert hq hI; revert q; intro x292 hI hq
 obtain ⟨⟨s398, rfl⟩, hS⟩ := hq
 obtain ⟨z395, hF, hK396⟩ := iter_step hI
 clear hI
 dsimp only [r5_Pipe_b4] at hF
 iterate 2 (refine c_seq ?_)
 refine c_region <| oy hS y_move <| oy hS y_bin <| n_thenN ?_
 refine c_if (ht := fun c399 => ?_) (hf := fun c399 => ?_)
 · replace hF := bt c399 hF
   refine wp_skip <| c_seq <| c_block <| c_seq <| c_region <| oy hS y_assign <| n_thenN ?_
   obtain ⟨z449, hF, hK450⟩ := cut_step hF
   refine c_cutP (fun a w' => ∃ (x448 : Int), r5_Pipe_k5 x292 x448 = some z395 ∧ (∃ s : Nat → Value, a = Ac ((((Fm.dead 79 s).upd 1 (.pointer (some ⟨b1, 0, none⟩))).upd 4 (.int .i64 x292)).upd 5 (.int .i64 x448))) ∧ St W g [] ((b1, blk (cl_State v0_0_ v0_1_ v0_2_ a0.Taken v0_4_ a0.PC v0_6_ a0.Stop v0_8_ a0.Jump a0.Delay) 27) :: []) w') ?_ ?_
   · skip
     refine c_seq <| c_region <| oy hS y_assign <| n_thenN <| c_block ?_
     refine c_loopP hF (fun (q : (Int × Int)) a w' => (∃ s : Nat → Value, a = Ac (((((Fm.dead 79 s).upd 1 (.pointer (some ⟨b1, 0, none⟩))).upd 4 (.int .i64 x292)).upd 5 (.int .i64 q.1)).upd 6 (.int .i64 q.2))) ∧ St W g [] ((b1, blk (cl_State v0_0_ v0_1_ v0_2_ a0.Taken v0_4_ a0.PC v0_6_ a0.Stop v0_8_ a0.Jump a0.Delay) 27) :: []) w') ⟨mk_exF, (hS.re (.b .hb .n))⟩ ?_
     clear hS hF
     intro n483 q a w hI hq
     obtain ⟨x465, x466⟩ := q
     obtain ⟨⟨s484, rfl⟩, hS⟩ := hq
     obtain ⟨z481, hF, hK482⟩ := iter_step hI
     clear hI
     dsimp only [r5_Pipe_b6] at hF
     iterate 2 (refine c_seq ?_)
     refine c_region <| oy hS y_move <| oy hS (y_field fa_api_State_8) <| oy hS (y_load (fun w hS => hS.own (mH)) underlying25 rfl rfl) <| oy hS (y_len h0_8_ underlying25) <| oy hS y_bin <| n_thenN ?_
     refine c_if (ht := fun c485 => ?_) (hf := fun c485 => ?_)
     · replace hF := bt c485 hF
       refine wp_skip <| c_seq <| c_block <| c_seq <| c_region <| oy hS (y_field fa_api_State_8) <| oy hS (y_load (fun w hS => hS.own (mH)) underlying25 rfl rfl) <| oy hS y_move ?_
       obtain ⟨x486, hx486, hF⟩ := ob hF
       obtain ⟨b487, o488, c489, cs490, e491, fz492, hv493, ha494, hb495, hd496, hc497⟩ := SlT.at hx486 h0_8_ enc_len_Write
       refine oy hS (y_index hv493 ha494 hb495 underlying25 el_api_Write.size) <| oy hS (y_field fa_api_Write_2) <| oy hS (y_load (fun w hS => hS.block hd496) underlying3 rfl (hc497 2 _ rfl)) <| oy hS y_move <| oy hS y_bin <| n_thenN ?_
       refine c_if (ht := fun c498 => ?_) (hf := fun c498 => ?_)
       · replace hF := bt c498 hF
         refine c_region <| oy hS y_move <| oy hS y_bin <| oy hS y_assign ?_
         refine n_anyN ?_
         refine c_region <| oy hS y_move <| oy hS y_bin <| oy hS y_assign <| n_thenN ?_
         obtain rfl := osi hF
         exact ⟨_, hK482, mk_exF, (hS.re (.b .hb .n))⟩
       replace hF := bf c498 hF
       refine wp_skip <| c_region <| oy hS y_move <| oy hS y_bin <| oy hS y_assign <| n_thenN ?_
       obtain rfl := osi hF
       exact ⟨_, hK482, mk_exF, (hS.re (.b .hb .n))⟩
     replace hF := bf c485 hF
     refine wp_exit ?_
     obtain rfl := osi hF
     obtain rfl : _ = z449 := hK482
     change ∃ _, _
     exact ⟨x465, hK450, mk_exF, (hS.re (.b .hb .n))⟩
   rintro a w ⟨x448, hF, ⟨s499, rfl⟩, hS⟩
   dsimp only [r5_Pipe_k5] at hF
   refine c_seq <| c_region ?_
   iterate 2 (refine oy hS y_move ?_)
   iterate 3 (refine oy hS y_bin ?_)
   refine n_thenN ?_
   refine c_if (ht := fun c500 => ?_) (hf := fun c500 => ?_)
   · replace hF := bt c500 hF
     refine c_seq <| c_region <| oy hS y_assign <| n_thenN ?_
     obtain rfl := osi hF
     obtain rfl : _ = r := hK396
     exact wp_ret (wr1 hS)
   replace hF := bf c500 hF
   refine wp_skip <| c_region <| oy hS y_move <| oy hS y_bin <| oy hS y_assign <| n_thenN ?_
   obtain rfl := osi hF
   exact ⟨_, hK396, mk_exF, (hS.re (.b .hb .n))⟩
 replace hF := bf c399 hF
 refine wp_exit ?_
 refine c_seq <| c_region <| oy hS y_assign <| n_thenN ?_
 obtain rfl := osi hF
 obtain rfl : _ = r := hK396
 exact wp_ret (wr1 hS)
theorem w_r5_Pipe {g : Frag} {a0 : T_State} {v0_ : Value} {r : Bool} (h0 : Rd_State g a0 v0_) (hF : r5_Pipe a0 = some r) : LCs Tryz.prog 23 #[v0_] g (.bool r) := w_r5_Pipe_ h0 hF

noncomputable def l6_May (a0 : T_Script) : Option Bool :=
  (r3_Code a0.C).bind fun r2 => bif r2 then (r5_Pipe a0.S).bind fun r4 => some (r4) else some (false)
theorem w_l6_May_ {g : Frag} {a0 : T_Script} {v0_ : Value} {r : Bool} (h0 : Rd_Script g a0 v0_) (hF : l6_May a0 = some r) : LCs Tryz.prog 25 #[v0_] g (.bool r) := by
 obtain ⟨v0_0_, v0_1_, v0_2_, v0_3_, v0_5_, v0_7_, v0_9_, v0_12_, rfl, h0_0_, h0_1_, h0_2_, h0_3_, h0_5_, h0_7_, h0_9_, h0_12_⟩ := h0
 unfold l6_May at hF
 refine lc_body (k := 11) (av := [.agg (cl_Script v0_0_ v0_1_ v0_2_ v0_3_ a0.S.Taken v0_5_ a0.S.PC v0_7_ a0.S.Stop v0_9_ a0.S.Jump a0.S.Delay v0_12_).toArray]) func25 rfl rfl (h := fun W hS => ?_)
 refine c_seq <| c_region ?_
 refine o_boxP (cl := (cl_Script v0_0_ v0_1_ v0_2_ v0_3_ a0.S.Taken v0_5_ a0.S.PC v0_7_ a0.S.Stop v0_9_ a0.S.Jump a0.S.Delay v0_12_)) rfl hS ?_
 clear hS; intro b1 w hS
 refine oy hS y_assign <| n_thenN <| c_seq <| c_region <| oy hS (y_field fa_sledgelaw6_Script_0) <| oy hS (y_load (fun w hS => hS.own (mH)) underlying22 rfl rfl) ?_
 obtain ⟨r2, hr2, hF⟩ := ob hF
 refine o_callS hS func47 rfl rfl (hc := (w_r3_Code (a0 := a0.C) (h0 := h0_0_.plus) (hF := hr2))) (h := ?_)
 clear hS; intro w hS
 refine o_split (ht := fun c3 => ?_) (hf := fun c3 => ?_)
 · replace hF := bt c3 hF
   refine o_gu rfl rfl rfl <| oy hS (y_field fa_sledgelaw6_Script_1) <| o_gu rfl rfl rfl ?_
   refine oy hS (y_loadN (vs := (cl_State v0_1_ v0_2_ v0_3_ a0.S.Taken v0_5_ a0.S.PC v0_7_ a0.S.Stop v0_9_ a0.S.Jump a0.S.Delay)) (fun w hS => hS.own (mH)) underlying27 rfl (by exact sz_api_State) (subd (o := 0 + 1) (by exact rfl))) ?_
   refine o_gu rfl rfl rfl ?_
   obtain ⟨r4, hr4, hF⟩ := ob hF
   refine o_callS hS func23 rfl rfl (hc := (w_r5_Pipe (a0 := a0.S) (h0 := ⟨_, _, _, _, _, _, rfl, h0_1_.plus, h0_2_.plus, h0_3_.plus, h0_5_.plus, h0_7_.plus, h0_9_.plus⟩) (hF := hr4))) (h := ?_)
   clear hS; intro w hS
   refine oy hS y_pickT <| oy hS y_assign <| n_thenN ?_
   obtain rfl := osi hF
   exact wp_ret (wr1 hS)
 replace hF := bf c3 hF
 iterate 3 (refine o_sk rfl rfl ?_)
 refine oy hS y_pickF <| oy hS y_assign <| n_thenN ?_
 obtain rfl := osi hF
 exact wp_ret (wr1 hS)
theorem w_l6_May {g : Frag} {a0 : T_Script} {v0_ : Value} {r : Bool} (h0 : Rd_Script g a0 v0_) (hF : l6_May a0 = some r) : LCs Tryz.prog 25 #[v0_] g (.bool r) := w_l6_May_ h0 hF

noncomputable def r0_EqBundles_b1 (a0 : (List (A4 T_Ins))) (a1 : (List (A4 T_Ins))) : Int → Option (Step Int Bool) := fun x28 => bif decide (x28 < (a0.length : Int)) then (at' a0 x28).bind fun x60 => (at' a1 x28).bind fun x72 => bif !(eqb_Bundle x60 x72) then some (.done (false)) else some (.next (IntKind.i64.wrap (x28 + 1))) else some (.done (true))
noncomputable def r0_EqBundles (a0 : (List (A4 T_Ins))) (a1 : (List (A4 T_Ins))) : Option Bool :=
  bif decide ((a0.length : Int) ≠ (a1.length : Int)) then some (false) else loop (σ := Int) (r0_EqBundles_b1 a0 a1) 0
theorem w_r0_EqBundles_ {g : Frag} {a0 : (List (A4 T_Ins))} {v0_ : Value} {a1 : (List (A4 T_Ins))} {v1_ : Value} {r : Bool} (h0 : SlT g enc_Bundle 24 a0 v0_) (h1 : SlT g enc_Bundle 24 a1 v1_) (hF : r0_EqBundles a0 a1 = some r) : LCs Tryz.prog 29 #[v0_, v1_] g (.bool r) := by
 unfold r0_EqBundles at hF
 refine lc_body (k := 26) (av := [v0_, v1_]) func29 rfl rfl (h := fun W hS => ?_)
 refine c_seq <| c_region <| oy hS y_assign <| n_thenN ?_
 iterate 2 (refine c_seq ?_)
 refine c_region <| oy hS y_move <| oy hS (y_len h0 underlying22) <| oy hS y_move <| oy hS (y_len h1 underlying22) <| oy hS y_bin <| n_thenN ?_
 refine c_if (ht := fun c1 => ?_) (hf := fun c1 => ?_)
 · replace hF := bt c1 hF
   refine c_seq <| c_region <| oy hS y_assign <| n_thenN ?_
   obtain rfl := osi hF
   exact wp_ret (wr1 hS)
 replace hF := bf c1 hF
 refine wp_skip ?_
 iterate 2 (refine c_seq ?_)
 refine c_region <| oy hS y_assign <| n_thenN <| c_block ?_
 refine c_loopP hF (fun (q : Int) a w' => (∃ s : Nat → Value, a = Ac ((((Fm.dead 26 s).upd 0 v0_).upd 1 v1_).upd 5 (.int .i64 q))) ∧ St W g [] [] w') ⟨mk_exF, (hS.re (.n))⟩ ?_
 clear hS hF
 intro n57 q a w hI hq
 revert hq hI; revert q; intro x28 hI hq
 obtain ⟨⟨s58, rfl⟩, hS⟩ := hq
 obtain ⟨z55, hF, hK56⟩ := iter_step hI
 clear hI
 dsimp only [r0_EqBundles_b1] at hF
 iterate 2 (refine c_seq ?_)
 refine c_region ?_
 iterate 2 (refine oy hS y_move ?_)
 refine oy hS (y_len h0 underlying22) <| oy hS y_bin <| n_thenN ?_
 refine c_if (ht := fun c59 => ?_) (hf := fun c59 => ?_)
 · replace hF := bt c59 hF
   refine wp_skip <| c_seq <| c_block <| c_seq ?_
   refine c_quiet (by kernel_rfl) (by kernel_rfl) hS ?_
   iterate 2 (refine qy y_move ?_)
   obtain ⟨x60, hx60, hF⟩ := ob hF
   obtain ⟨b61, o62, c63, cs64, e65, fz66, hv67, ha68, hb69, hd70, hc71⟩ := SlT.at hx60 h0 enc_len_Bundle
   refine qy (y_index hv67 ha68 hb69 underlying22 el_api_Bundle.size) ?_
   refine qy (y_loadN (vs := (enc_Bundle x60)) (fun w hS => hS.block hd70) underlying34 rfl (by exact sz_api_Bundle) (fun j u hj => hc71 j u hj)) ?_
   iterate 2 (refine qy y_move ?_)
   obtain ⟨x72, hx72, hF⟩ := ob hF
   obtain ⟨b73, o74, c75, cs76, e77, fz78, hv79, ha80, hb81, hd82, hc83⟩ := SlT.at hx72 h1 enc_len_Bundle
   refine qy (y_index hv79 ha80 hb81 underlying22 el_api_Bundle.size) ?_
   refine qy (y_loadN (vs := (enc_Bundle x72)) (fun w hS => hS.block hd82) underlying34 rfl (by exact sz_api_Bundle) (fun j u hj => hc83 j u hj)) ?_
   refine qy (y_neq_Bundle) ?_
   refine q_nilN (h := ?_)
   clear hS; intro w hS
   refine c_if (ht := fun c84 => ?_) (hf := fun c84 => ?_)
   · replace hF := bt c84 hF
     refine c_seq <| c_region <| oy hS y_assign <| n_thenN ?_
     obtain rfl := osi hF
     obtain rfl : _ = r := hK56
     exact wp_ret (wr1 hS)
   replace hF := bf c84 hF
   refine wp_skip <| c_region <| oy hS y_move <| oy hS y_bin <| oy hS y_assign <| n_thenN ?_
   obtain rfl := osi hF
   exact ⟨_, hK56, mk_exF, (hS.re (.n))⟩
 replace hF := bf c59 hF
 refine wp_exit ?_
 refine c_seq <| c_region <| oy hS y_assign <| n_thenN ?_
 obtain rfl := osi hF
 obtain rfl : _ = r := hK56
 exact wp_ret (wr1 hS)
theorem w_r0_EqBundles {g : Frag} {a0 : (List (A4 T_Ins))} {v0_ : Value} {a1 : (List (A4 T_Ins))} {v1_ : Value} {r : Bool} (h0 : SlT g enc_Bundle 24 a0 v0_) (h1 : SlT g enc_Bundle 24 a1 v1_) (hF : r0_EqBundles a0 a1 = some r) : LCs Tryz.prog 29 #[v0_, v1_] g (.bool r) := w_r0_EqBundles_ h0 h1 hF

noncomputable def l0_Words_b1  : ((List Int) × Int) → Option (Step ((List Int) × Int) Unit) := fun (x13, x17) => bif decide (x17 < (x13.length : Int)) then (set' x13 x17 3735928559).bind fun zs42 => some (.next (zs42, IntKind.i64.wrap (x17 + 1))) else some (.done (()))
noncomputable def l0_Words (a0 : (List Int)) : Option Unit :=
  loop (σ := ((List Int) × Int)) (l0_Words_b1) (a0, 0)
theorem w_l0_Words_ {g : Frag} {a0 : (List Int)} {v0_ : Value} {LB0_ : Own} {r : Unit} (h0 : OwT 40 enc_uint32 1 a0 v0_ LB0_) (hF : l0_Words a0 = some r) : LC Tryz.prog 64 #[v0_] g (LB0_ ++ []) (fun v L => v = .tuple #[] ∧ L = []) := by
 unfold l0_Words at hF
 refine lc_body (k := 12) (av := [v0_]) func64 rfl rfl (h := fun W hS => ?_)
 refine c_seq <| c_region <| oy hS y_assign <| n_thenN <| c_block ?_
 refine c_loopP hF (fun (q : ((List Int) × Int)) a w' => ∃ (LX15 : Own), OwT 40 enc_uint32 1 q.1 v0_ LX15 ∧ (∃ s : Nat → Value, a = Ac (((Fm.dead 12 s).upd 0 v0_).upd 2 (.int .i64 q.2))) ∧ St W g ((LB0_ ++ [])) (LX15 ++ []) w') ⟨LB0_, h0, mk_exF, (hS.re (.t .h .n))⟩ ?_
 clear hS hF
 intro n32 q a w hI hq
 obtain ⟨x13, x17⟩ := q
 obtain ⟨LX15, h14, ⟨s33, rfl⟩, hS⟩ := hq
 replace h14 : OwT 40 enc_uint32 1 x13 v0_ LX15 := h14
 obtain ⟨z30, hF, hK31⟩ := iter_step hI
 clear hI
 dsimp only [l0_Words_b1] at hF
 iterate 2 (refine c_seq ?_)
 refine c_region ?_
 iterate 2 (refine oy hS y_move ?_)
 refine oy hS (y_lenO h14 underlying23) <| oy hS y_bin <| n_thenN ?_
 refine c_if (ht := fun c34 => ?_) (hf := fun c34 => ?_)
 · replace hF := bt c34 hF
   refine wp_skip <| c_seq <| c_block <| c_region ?_
   iterate 2 (refine oy hS y_move ?_)
   obtain ⟨zs42, hzs42, hF⟩ := ob hF
   obtain ⟨b35, c36, cl37, hv38, ha39, hb40, hl41⟩ := OwT.at_set hzs42 h14 enc_len_uint32
   refine oy hS (y_index hv38 ha39 hb40 underlying23 el_uint32.size) ?_
   refine o_storeO (L' := fun X => (X ++ [])) hzs42 hS h14 hl41 (fun X => .here _) enc_len_uint32 rfl (by exact sz_uint32) rfl rfl ?_
   clear hS; intro LX43 w h44 hS
   refine n_anyN ?_
   refine c_region <| oy hS y_move <| oy hS y_bin <| oy hS y_assign <| n_thenN ?_
   obtain rfl := osi hF
   exact ⟨_, hK31, LX43, h44, mk_exF, (hS.re (.t .h .n))⟩
 replace hF := bf c34 hF
 refine wp_exit ?_
 obtain rfl := osi hF
 obtain rfl : _ = r := hK31
 refine (r_end (vs := []) (hS.re (.nil _)) rsN rfl ⟨rfl, rfl⟩)
theorem w_l0_Words {g : Frag} {a0 : (List Int)} {v0_ : Value} {LB0_ : Own} {r : Unit} (h0 : OwT 40 enc_uint32 1 a0 v0_ LB0_) (hF : l0_Words a0 = some r) : LC Tryz.prog 64 #[v0_] g (LB0_ ++ []) (fun v L => v = .tuple #[] ∧ L = []) := w_l0_Words_ h0 hF

noncomputable def l0_State_b2 (a0 : T_State) : (Int × (List Int)) → Option (Step (Int × (List Int)) (Step ((List Int) × (List T_Write)) Unit)) := fun (x86, x87) => bif decide (x86 < (x87.length : Int)) then (set' x87 x86 (-9)).bind fun zs115 => some (.next (IntKind.i64.wrap (x86 + 1), zs115)) else some (.done (.next (x87, a0.Fly)))
noncomputable def l0_State_b3  : (Int × (List T_Write)) → Option (Step (Int × (List T_Write)) Unit) := fun (x132, x133) => bif decide (x132 < (x133.length : Int)) then (set' x133 x132 (⟨(-9), 0, 0⟩ : T_Write)).bind fun zs161 => some (.next (IntKind.i64.wrap (x132 + 1), zs161)) else some (.done (()))
noncomputable def l0_State_k1  : ((List Int) × (List T_Write)) → Option Unit := fun (x63, x67) => loop (σ := (Int × (List T_Write))) (l0_State_b3) (0, x67)
noncomputable def l0_State (a0 : T_State) : Option Unit :=
  (l0_Words a0.Regs).bind fun r2 => (l0_Words a0.Mem).bind fun r6 => (l0_Words a0.In_).bind fun r10 => (l0_Words a0.Out).bind fun r14 => cut (σ := ((List Int) × (List T_Write))) (loop (σ := (Int × (List Int))) (l0_State_b2 a0) (0, a0.Stack)) (l0_State_k1)
theorem w_l0_State_ {g : Frag} {a0 : T_State} {v0_ : Value} {LB0_ : Own} {r : Unit} (h0 : Ow_State a0 v0_ LB0_) (hF : l0_State a0 = some r) : LC Tryz.prog 31 #[v0_] g LB0_ (fun v L => v = .tuple #[] ∧ L = []) := by
 obtain ⟨vP0_0_1, vP0_1_5, vP0_2_9, vP0_4_13, vP0_6_17, vP0_8_21, LXP0_0_2, LXP0_1_6, LXP0_2_10, LXP0_4_14, LXP0_6_18, LXP0_8_22, rfl, rfl, hP0_0_3, hP0_1_7, hP0_2_11, hP0_4_15, hP0_6_19, hP0_8_23⟩ := h0
 unfold l0_State at hF
 refine lc_body (k := 39) (av := [.agg (cl_State vP0_0_1 vP0_1_5 vP0_2_9 a0.Taken vP0_4_13 a0.PC vP0_6_17 a0.Stop vP0_8_21 a0.Jump a0.Delay).toArray]) func31 rfl rfl (h := fun W hS => ?_)
 refine c_seq <| c_region ?_
 refine o_boxP (cl := (cl_State vP0_0_1 vP0_1_5 vP0_2_9 a0.Taken vP0_4_13 a0.PC vP0_6_17 a0.Stop vP0_8_21 a0.Jump a0.Delay)) rfl hS ?_
 clear hS; intro b1 w hS
 refine n_thenN <| c_seq <| c_region <| oy hS (y_field fa_api_State_0) <| oy hS (y_load (fun w hS => hS.own (mH)) underlying23 rfl rfl) ?_
 have hS := hS.re (.t (.thereb _ .h) (.b .hb (.t .h (.t .h (.t .h (.t .h (.t .h .n)))))))
 have hS2 := hS.spl (.app _ (.nil _))
 obtain ⟨r2, hr2, hF⟩ := ob hF
 refine o_call hS2 func64 rfl rfl (hc := (w_l0_Words (a0 := a0.Regs) (h0 := hP0_0_3) (hF := hr2))) (h := ?_)
 clear hS; intro v3 LY4 w hS hr5
 clear hS2
 obtain ⟨rfl, rfl⟩ := hr5
 refine n_thenN <| c_seq <| c_region <| oy hS (y_field fa_api_State_1) <| oy hS (y_load (fun w hS => hS.own (mH)) underlying23 rfl rfl) ?_
 have hS := hS.re (.t (.thereb _ .h) (.b .hb (.t .h (.t .h (.t .h (.t .h .n))))))
 have hS2 := hS.spl (.app _ (.nil _))
 obtain ⟨r6, hr6, hF⟩ := ob hF
 refine o_call hS2 func64 rfl rfl (hc := (w_l0_Words (a0 := a0.Mem) (h0 := hP0_1_7) (hF := hr6))) (h := ?_)
 clear hS; intro v7 LY8 w hS hr9
 clear hS2
 obtain ⟨rfl, rfl⟩ := hr9
 refine n_thenN <| c_seq <| c_region <| oy hS (y_field fa_api_State_2) <| oy hS (y_load (fun w hS => hS.own (mH)) underlying23 rfl rfl) ?_
 have hS := hS.re (.t (.thereb _ .h) (.b .hb (.t .h (.t .h (.t .h .n)))))
 have hS2 := hS.spl (.app _ (.nil _))
 obtain ⟨r10, hr10, hF⟩ := ob hF
 refine o_call hS2 func64 rfl rfl (hc := (w_l0_Words (a0 := a0.In_) (h0 := hP0_2_11) (hF := hr10))) (h := ?_)
 clear hS; intro v11 LY12 w hS hr13
 clear hS2
 obtain ⟨rfl, rfl⟩ := hr13
 refine n_thenN <| c_seq <| c_region <| oy hS (y_field fa_api_State_4) <| oy hS (y_load (fun w hS => hS.own (mH)) underlying23 rfl rfl) ?_
 have hS := hS.re (.t (.thereb _ .h) (.b .hb (.t .h (.t .h .n))))
 have hS2 := hS.spl (.app _ (.nil _))
 obtain ⟨r14, hr14, hF⟩ := ob hF
 refine o_call hS2 func64 rfl rfl (hc := (w_l0_Words (a0 := a0.Out) (h0 := hP0_4_15) (hF := hr14))) (h := ?_)
 clear hS; intro v15 LY16 w hS hr17
 clear hS2
 obtain ⟨rfl, rfl⟩ := hr17
 refine n_thenN ?_
 obtain ⟨z72, hF, hK73⟩ := cut_step hF
 refine c_cutP (fun a w' => ∃ (x63 : (List Int)) (x67 : (List T_Write)) (v68 : Value) (LX65 : Own) (LX70 : Own), l0_State_k1 (x63, x67) = some r ∧ OwT 3 enc_int 1 x63 vP0_6_17 LX65 ∧ OwT 73 enc_Write 3 x67 v68 LX70 ∧ (∃ s : Nat → Value, a = Ac ((Fm.dead 39 s).upd 1 (.pointer (some ⟨b1, 0, none⟩)))) ∧ St W g ((LXP0_0_2 ++ (LXP0_1_6 ++ (LXP0_2_10 ++ (LXP0_4_14 ++ (LXP0_6_18 ++ (LXP0_8_22 ++ []))))))) ((b1, blk (cl_State vP0_0_1 vP0_1_5 vP0_2_9 a0.Taken vP0_4_13 a0.PC vP0_6_17 a0.Stop v68 a0.Jump a0.Delay) 27) :: (LX65 ++ (LX70 ++ []))) w') ?_ ?_
 · skip
   refine c_seq <| c_region <| oy hS y_assign <| n_thenN <| c_block ?_
   refine c_loopP hF (fun (q : (Int × (List Int))) a w' => ∃ (LX89 : Own), OwT 3 enc_int 1 q.2 vP0_6_17 LX89 ∧ (∃ s : Nat → Value, a = Ac (((Fm.dead 39 s).upd 1 (.pointer (some ⟨b1, 0, none⟩))).upd 2 (.int .i64 q.1))) ∧ St W g ((LXP0_0_2 ++ (LXP0_1_6 ++ (LXP0_2_10 ++ (LXP0_4_14 ++ (LXP0_6_18 ++ (LXP0_8_22 ++ []))))))) ((b1, blk (cl_State vP0_0_1 vP0_1_5 vP0_2_9 a0.Taken vP0_4_13 a0.PC vP0_6_17 a0.Stop vP0_8_21 a0.Jump a0.Delay) 27) :: (LX89 ++ (LXP0_8_22 ++ []))) w') ⟨LXP0_6_18, hP0_6_19, mk_exF, (hS.re (.b .hb (.t .h (.t .h .n))))⟩ ?_
   clear hS hF
   intro n105 q a w hI hq
   obtain ⟨x86, x87⟩ := q
   obtain ⟨LX89, h88, ⟨s106, rfl⟩, hS⟩ := hq
   replace h88 : OwT 3 enc_int 1 x87 vP0_6_17 LX89 := h88
   obtain ⟨z103, hF, hK104⟩ := iter_step hI
   clear hI
   dsimp only [l0_State_b2] at hF
   iterate 2 (refine c_seq ?_)
   refine c_region <| oy hS y_move <| oy hS (y_field fa_api_State_6) <| oy hS (y_load (fun w hS => hS.own (mH)) underlying24 rfl rfl) <| oy hS (y_lenO h88 underlying24) <| oy hS y_bin <| n_thenN ?_
   refine c_if (ht := fun c107 => ?_) (hf := fun c107 => ?_)
   · replace hF := bt c107 hF
     refine wp_skip <| c_seq <| c_block <| c_region <| oy hS (y_field fa_api_State_6) <| oy hS (y_load (fun w hS => hS.own (mH)) underlying24 rfl rfl) <| oy hS y_move ?_
     obtain ⟨zs115, hzs115, hF⟩ := ob hF
     obtain ⟨b108, c109, cl110, hv111, ha112, hb113, hl114⟩ := OwT.at_set hzs115 h88 enc_len_int
     refine oy hS (y_index hv111 ha112 hb113 underlying24 el_int.size) ?_
     refine o_storeO (L' := fun X => ((b1, blk (cl_State vP0_0_1 vP0_1_5 vP0_2_9 a0.Taken vP0_4_13 a0.PC vP0_6_17 a0.Stop vP0_8_21 a0.Jump a0.Delay) 27) :: (X ++ (LXP0_8_22 ++ [])))) hzs115 hS h88 hl114 (fun X => .thereb _ (.here _)) enc_len_int rfl (by exact sz_int) rfl rfl ?_
     clear hS; intro LX116 w h117 hS
     refine n_anyN ?_
     refine c_region <| oy hS y_move <| oy hS y_bin <| oy hS y_assign <| n_thenN ?_
     obtain rfl := osi hF
     exact ⟨_, hK104, LX116, h117, mk_exF, (hS.re (.b .hb (.t .h (.t .h .n))))⟩
   replace hF := bf c107 hF
   refine wp_exit ?_
   obtain rfl := osi hF
   obtain rfl : _ = z72 := hK104
   change ∃ _, _
   exact ⟨x87, a0.Fly, vP0_8_21, LX89, LXP0_8_22, hK73, h88, hP0_8_23, mk_exF, (hS.re (.b .hb (.t .h (.t .h .n))))⟩
 rintro a w ⟨x63, x67, v68, LX65, LX70, hF, h64, h69, ⟨s119, rfl⟩, hS⟩
 dsimp only [l0_State_k1] at hF
 refine c_seq <| c_region <| oy hS y_assign <| n_thenN <| c_block ?_
 refine c_loopP hF (fun (q : (Int × (List T_Write))) a w' => ∃ (LX135 : Own), OwT 73 enc_Write 3 q.2 v68 LX135 ∧ (∃ s : Nat → Value, a = Ac (((Fm.dead 39 s).upd 1 (.pointer (some ⟨b1, 0, none⟩))).upd 3 (.int .i64 q.1))) ∧ St W g ((LXP0_0_2 ++ (LXP0_1_6 ++ (LXP0_2_10 ++ (LXP0_4_14 ++ (LXP0_6_18 ++ (LXP0_8_22 ++ []))))))) ((b1, blk (cl_State vP0_0_1 vP0_1_5 vP0_2_9 a0.Taken vP0_4_13 a0.PC vP0_6_17 a0.Stop v68 a0.Jump a0.Delay) 27) :: (LX65 ++ (LX135 ++ []))) w') ⟨LX70, h69, mk_exF, (hS.re (.b .hb (.t .h (.t .h .n))))⟩ ?_
 clear hS hF
 intro n151 q a w hI hq
 obtain ⟨x132, x133⟩ := q
 obtain ⟨LX135, h134, ⟨s152, rfl⟩, hS⟩ := hq
 replace h134 : OwT 73 enc_Write 3 x133 v68 LX135 := h134
 obtain ⟨z149, hF, hK150⟩ := iter_step hI
 clear hI
 dsimp only [l0_State_b3] at hF
 iterate 2 (refine c_seq ?_)
 refine c_region <| oy hS y_move <| oy hS (y_field fa_api_State_8) <| oy hS (y_load (fun w hS => hS.own (mH)) underlying25 rfl rfl) <| oy hS (y_lenO h134 underlying25) <| oy hS y_bin <| n_thenN ?_
 refine c_if (ht := fun c153 => ?_) (hf := fun c153 => ?_)
 · replace hF := bt c153 hF
   refine wp_skip <| c_seq <| c_block <| c_region <| oy hS (y_field fa_api_State_8) <| oy hS (y_load (fun w hS => hS.own (mH)) underlying25 rfl rfl) <| oy hS y_move ?_
   refine oy hS (y_build (cl := (enc_Write ⟨(-9), 0, 0⟩)) bt_api_Write rfl (by kernel_rfl)) ?_
   obtain ⟨zs161, hzs161, hF⟩ := ob hF
   obtain ⟨b154, c155, cl156, hv157, ha158, hb159, hl160⟩ := OwT.at_set hzs161 h134 enc_len_Write
   refine oy hS (y_index hv157 ha158 hb159 underlying25 el_api_Write.size) ?_
   refine o_storeON (L' := fun X => ((b1, blk (cl_State vP0_0_1 vP0_1_5 vP0_2_9 a0.Taken vP0_4_13 a0.PC vP0_6_17 a0.Stop v68 a0.Jump a0.Delay) 27) :: (LX65 ++ (X ++ [])))) hzs161 hS h134 hl160 (fun X => .thereb _ (.there _ (.here _))) enc_len_Write (by exact sz_api_Write) (enc_one_Write _) ?_
   clear hS; intro LX162 w h163 hS
   refine n_anyN ?_
   refine c_region <| oy hS y_move <| oy hS y_bin <| oy hS y_assign <| n_thenN ?_
   obtain rfl := osi hF
   exact ⟨_, hK150, LX162, h163, mk_exF, (hS.re (.b .hb (.t .h (.t .h .n))))⟩
 replace hF := bf c153 hF
 refine wp_exit ?_
 obtain rfl := osi hF
 obtain rfl : _ = r := hK150
 refine (r_end (vs := []) (hS.re (.nil _)) rsN rfl ⟨rfl, rfl⟩)
theorem w_l0_State {g : Frag} {a0 : T_State} {v0_ : Value} {LB0_ : Own} {r : Unit} (h0 : Ow_State a0 v0_ LB0_) (hF : l0_State a0 = some r) : LC Tryz.prog 31 #[v0_] g LB0_ (fun v L => v = .tuple #[] ∧ L = []) := w_l0_State_ h0 hF

def hazard_first_1_1 (a0 : T_Write) (a1 : Int) : Bool :=
  decide (a0.Reg = a1)
theorem w_hazard_first_1_1_ {g : Frag} {a0 : T_Write} {a1 : Int} {c1_ : Nat} {r : Bool} (h1 : g c1_ = some (blk [.int .i64 a1] 3)) (hF : hazard_first_1_1 a0 a1 = r) : LCs Tryz.prog 88 #[.agg (enc_Write a0).toArray, .pointer (some ⟨c1_, 0, none⟩)] g (.bool r) := by
 unfold hazard_first_1_1 at hF
 refine lc_body (k := 8) (av := [.agg (enc_Write a0).toArray, .pointer (some ⟨c1_, 0, none⟩)]) func88 rfl rfl (h := fun W hS => ?_)
 refine c_seq <| c_region ?_
 refine o_boxP (cl := (enc_Write a0)) rfl hS ?_
 clear hS; intro b1 w hS
 refine oy hS y_assign <| n_thenN <| c_seq <| c_region <| oy hS (y_field fa_api_Write_0) <| oy hS (y_load (fun w hS => hS.own (mH)) underlying3 rfl rfl) <| oy hS (y_load (fun w hS => hS.block h1) underlying3 rfl rfl) <| oy hS y_bin ?_
 refine oy hS y_assign <| n_thenN ?_
 subst hF
 exact wp_ret (wr1 hS)
theorem w_hazard_first_1_1 {g : Frag} {a0 : T_Write} {a1 : Int} {c1_ : Nat} (h1 : g c1_ = some (blk [.int .i64 a1] 3)) : LCs Tryz.prog 88 #[.agg (enc_Write a0).toArray, .pointer (some ⟨c1_, 0, none⟩)] g (.bool (hazard_first_1_1 a0 a1)) := w_hazard_first_1_1_ h1 rfl
end Go.Proofs.YthbpicnbkdbbmaaGreat
