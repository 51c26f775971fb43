/- Functions, lifted. Printed by lift.py. -/
import Derived.Test.YthbpicnbkdbbmaaProg
import Derived.Test.YthbpicnbkdbbmaaP8
import Derived.KernelRfl
namespace Go.Proofs.Ythbpicnbkdbbmaa
open Go Go.RowKit Fr
set_option linter.unusedVariables false
set_option linter.unusedSimpArgs false
set_option maxRecDepth 20000
open Try
set_option maxHeartbeats 2000000
noncomputable def r0_EqState (a0 : T_State) (a1 : T_State) : Option Bool :=
  (r0_EqWords a0.Regs a1.Regs).bind fun r3 => bif r3 then (r0_EqWords a0.Mem a1.Mem).bind fun r5 => bif r5 then (r0_EqWords a0.In_ a1.In_).bind fun r7 => bif r7 then bif decide (a0.Taken = a1.Taken) then (r0_EqWords a0.Out a1.Out).bind fun r10 => bif r10 then bif decide (a0.PC = a1.PC) then (r0_EqNumbers a0.Stack a1.Stack).bind fun r13 => bif r13 then bif decide (a0.Stop = a1.Stop) then (r0_EqFlies a0.Fly a1.Fly).bind fun r16 => bif r16 then bif decide (a0.Jump = a1.Jump) then some (decide (a0.Delay = a1.Delay)) else some (false) else some (false) else some (false) else some (false) else some (false) else some (false) else some (false) else some (false) else some (false) else some (false)
theorem w_r0_EqState_ {g : Frag} {a0 : T_State} {v0_ : Value} {a1 : T_State} {v1_ : Value} {r : Bool} (h0 : Rd_State g a0 v0_) (h1 : Rd_State g a1 v1_) (hF : r0_EqState a0 a1 = some r) : LCs Try.prog 13 #[v0_, v1_] g (.bool r) := by
 obtain ⟨v0_0_, v0_1_, v0_2_, v0_4_, v0_6_, v0_8_, rfl, h0_0_, h0_1_, h0_2_, h0_4_, h0_6_, h0_8_⟩ := h0
 obtain ⟨v1_0_, v1_1_, v1_2_, v1_4_, v1_6_, v1_8_, rfl, h1_0_, h1_1_, h1_2_, h1_4_, h1_6_, h1_8_⟩ := h1
 unfold r0_EqState at hF
 refine lc_body (k := 80) (av := [.agg (cl_State v0_0_ v0_1_ v0_2_ a0.Taken v0_4_ a0.PC v0_6_ a0.Stop v0_8_ a0.Jump a0.Delay).toArray, .agg (cl_State v1_0_ v1_1_ v1_2_ a1.Taken v1_4_ a1.PC v1_6_ a1.Stop v1_8_ a1.Jump a1.Delay).toArray]) func13 rfl rfl (h := fun W hS => ?_)
 refine c_seq <| c_region ?_
 refine o_boxP (cl := (cl_State v0_0_ v0_1_ v0_2_ a0.Taken v0_4_ a0.PC v0_6_ a0.Stop v0_8_ a0.Jump a0.Delay)) rfl hS ?_
 clear hS; intro b1 w hS
 refine o_boxP (cl := (cl_State v1_0_ v1_1_ v1_2_ a1.Taken v1_4_ a1.PC v1_6_ a1.Stop v1_8_ a1.Jump a1.Delay)) rfl hS ?_
 clear hS; intro b2 w hS
 refine oy hS y_assign <| n_thenN <| c_seq <| c_region <| oy hS (y_field fa_api_State_0) <| oy hS (y_load (fun w hS => hS.own (mC (mH))) underlying23 rfl rfl) <| oy hS (y_field fa_api_State_0) <| oy hS (y_load (fun w hS => hS.own (mH)) underlying23 rfl rfl) ?_
 obtain ⟨r3, hr3, hF⟩ := ob hF
 refine o_callS hS func33 rfl rfl (hc := (w_r0_EqWords (a0 := a0.Regs) (a1 := a1.Regs) (h0 := h0_0_.plus) (h1 := h1_0_.plus) (hF := hr3))) (h := ?_)
 clear hS; intro w hS
 refine o_split (ht := fun c4 => ?_) (hf := fun c4 => ?_)
 · replace hF := bt c4 hF
   refine o_gu rfl rfl rfl <| oy hS (y_field fa_api_State_1) <| o_gu rfl rfl rfl <| oy hS (y_load (fun w hS => hS.own (mC (mH))) underlying23 rfl rfl) <| o_gu rfl rfl rfl <| oy hS (y_field fa_api_State_1) <| o_gu rfl rfl rfl <| oy hS (y_load (fun w hS => hS.own (mH)) underlying23 rfl rfl) ?_
   refine o_gu rfl rfl rfl ?_
   obtain ⟨r5, hr5, hF⟩ := ob hF
   refine o_callS hS func33 rfl rfl (hc := (w_r0_EqWords (a0 := a0.Mem) (a1 := a1.Mem) (h0 := h0_1_.plus) (h1 := h1_1_.plus) (hF := hr5))) (h := ?_)
   clear hS; intro w hS
   refine oy hS y_pickT ?_
   refine o_split (ht := fun c6 => ?_) (hf := fun c6 => ?_)
   · replace hF := bt c6 hF
     refine o_gu rfl rfl rfl <| oy hS (y_field fa_api_State_2) <| o_gu rfl rfl rfl <| oy hS (y_load (fun w hS => hS.own (mC (mH))) underlying23 rfl rfl) <| o_gu rfl rfl rfl <| oy hS (y_field fa_api_State_2) <| o_gu rfl rfl rfl <| oy hS (y_load (fun w hS => hS.own (mH)) underlying23 rfl rfl) ?_
     refine o_gu rfl rfl rfl ?_
     obtain ⟨r7, hr7, hF⟩ := ob hF
     refine o_callS hS func33 rfl rfl (hc := (w_r0_EqWords (a0 := a0.In_) (a1 := a1.In_) (h0 := h0_2_.plus) (h1 := h1_2_.plus) (hF := hr7))) (h := ?_)
     clear hS; intro w hS
     refine oy hS y_pickT ?_
     refine o_split (ht := fun c8 => ?_) (hf := fun c8 => ?_)
     · replace hF := bt c8 hF
       refine o_gu rfl rfl rfl <| oy hS (y_field fa_api_State_3) <| o_gu rfl rfl rfl <| oy hS (y_load (fun w hS => hS.own (mC (mH))) underlying3 rfl rfl) <| o_gu rfl rfl rfl <| oy hS (y_field fa_api_State_3) <| o_gu rfl rfl rfl <| oy hS (y_load (fun w hS => hS.own (mH)) underlying3 rfl rfl) ?_
       refine o_gu rfl rfl rfl <| oy hS y_bin <| oy hS y_pickT ?_
       refine o_split (ht := fun c9 => ?_) (hf := fun c9 => ?_)
       · replace hF := bt c9 hF
         refine o_gu rfl rfl rfl <| oy hS (y_field fa_api_State_4) <| o_gu rfl rfl rfl <| oy hS (y_load (fun w hS => hS.own (mC (mH))) underlying23 rfl rfl) <| o_gu rfl rfl rfl <| oy hS (y_field fa_api_State_4) <| o_gu rfl rfl rfl <| oy hS (y_load (fun w hS => hS.own (mH)) underlying23 rfl rfl) ?_
         refine o_gu rfl rfl rfl ?_
         obtain ⟨r10, hr10, hF⟩ := ob hF
         refine o_callS hS func33 rfl rfl (hc := (w_r0_EqWords (a0 := a0.Out) (a1 := a1.Out) (h0 := h0_4_.plus) (h1 := h1_4_.plus) (hF := hr10))) (h := ?_)
         clear hS; intro w hS
         refine oy hS y_pickT ?_
         refine o_split (ht := fun c11 => ?_) (hf := fun c11 => ?_)
         · replace hF := bt c11 hF
           refine o_gu rfl rfl rfl <| oy hS (y_field fa_api_State_5) <| o_gu rfl rfl rfl <| oy hS (y_load (fun w hS => hS.own (mC (mH))) underlying3 rfl rfl) <| o_gu rfl rfl rfl <| oy hS (y_field fa_api_State_5) <| o_gu rfl rfl rfl <| oy hS (y_load (fun w hS => hS.own (mH)) underlying3 rfl rfl) ?_
           refine o_gu rfl rfl rfl <| oy hS y_bin <| oy hS y_pickT ?_
           refine o_split (ht := fun c12 => ?_) (hf := fun c12 => ?_)
           · replace hF := bt c12 hF
             refine o_gu rfl rfl rfl <| oy hS (y_field fa_api_State_6) <| o_gu rfl rfl rfl <| oy hS (y_load (fun w hS => hS.own (mC (mH))) underlying24 rfl rfl) <| o_gu rfl rfl rfl <| oy hS (y_field fa_api_State_6) <| o_gu rfl rfl rfl <| oy hS (y_load (fun w hS => hS.own (mH)) underlying24 rfl rfl) ?_
             refine o_gu rfl rfl rfl ?_
             obtain ⟨r13, hr13, hF⟩ := ob hF
             refine o_callS hS func34 rfl rfl (hc := (w_r0_EqNumbers (a0 := a0.Stack) (a1 := a1.Stack) (h0 := h0_6_.plus) (h1 := h1_6_.plus) (hF := hr13))) (h := ?_)
             clear hS; intro w hS
             refine oy hS y_pickT ?_
             refine o_split (ht := fun c14 => ?_) (hf := fun c14 => ?_)
             · replace hF := bt c14 hF
               refine o_gu rfl rfl rfl <| oy hS (y_field fa_api_State_7) <| o_gu rfl rfl rfl <| oy hS (y_load (fun w hS => hS.own (mC (mH))) underlying3 rfl rfl) <| o_gu rfl rfl rfl <| oy hS (y_field fa_api_State_7) <| o_gu rfl rfl rfl <| oy hS (y_load (fun w hS => hS.own (mH)) underlying3 rfl rfl) ?_
               refine o_gu rfl rfl rfl <| oy hS y_bin <| oy hS y_pickT ?_
               refine o_split (ht := fun c15 => ?_) (hf := fun c15 => ?_)
               · replace hF := bt c15 hF
                 refine o_gu rfl rfl rfl <| oy hS (y_field fa_api_State_8) <| o_gu rfl rfl rfl <| oy hS (y_load (fun w hS => hS.own (mC (mH))) underlying25 rfl rfl) <| o_gu rfl rfl rfl <| oy hS (y_field fa_api_State_8) <| o_gu rfl rfl rfl <| oy hS (y_load (fun w hS => hS.own (mH)) underlying25 rfl rfl) ?_
                 refine o_gu rfl rfl rfl ?_
                 obtain ⟨r16, hr16, hF⟩ := ob hF
                 refine o_callS hS func35 rfl rfl (hc := (w_r0_EqFlies (a0 := a0.Fly) (a1 := a1.Fly) (h0 := h0_8_.plus) (h1 := h1_8_.plus) (hF := hr16))) (h := ?_)
                 clear hS; intro w hS
                 refine oy hS y_pickT ?_
                 refine o_split (ht := fun c17 => ?_) (hf := fun c17 => ?_)
                 · replace hF := bt c17 hF
                   refine o_gu rfl rfl rfl <| oy hS (y_field fa_api_State_9) <| o_gu rfl rfl rfl <| oy hS (y_load (fun w hS => hS.own (mC (mH))) underlying3 rfl rfl) <| o_gu rfl rfl rfl <| oy hS (y_field fa_api_State_9) <| o_gu rfl rfl rfl <| oy hS (y_load (fun w hS => hS.own (mH)) underlying3 rfl rfl) ?_
                   refine o_gu rfl rfl rfl <| oy hS y_bin <| oy hS y_pickT ?_
                   refine o_split (ht := fun c18 => ?_) (hf := fun c18 => ?_)
                   · replace hF := bt c18 hF
                     refine o_gu rfl rfl rfl <| oy hS (y_field fa_api_State_10) <| o_gu rfl rfl rfl <| oy hS (y_load (fun w hS => hS.own (mC (mH))) underlying3 rfl rfl) <| o_gu rfl rfl rfl <| oy hS (y_field fa_api_State_10) <| o_gu rfl rfl rfl <| oy hS (y_load (fun w hS => hS.own (mH)) underlying3 rfl rfl) ?_
                     refine o_gu rfl rfl rfl <| oy hS y_bin <| oy hS y_pickT <| oy hS y_assign <| n_thenN ?_
                     obtain rfl := osi hF
                     exact wp_ret (wr1 hS)
                   replace hF := bf c18 hF
                   iterate 5 (refine o_sk rfl rfl ?_)
                   refine oy hS y_pickF <| oy hS y_assign <| n_thenN ?_
                   obtain rfl := osi hF
                   exact wp_ret (wr1 hS)
                 replace hF := bf c17 hF
                 iterate 5 (refine o_sk rfl rfl ?_)
                 refine oy hS y_pickF <| oy hS y_move ?_
                 iterate 5 (refine o_sk rfl rfl ?_)
                 refine oy hS y_pickF <| oy hS y_assign <| n_thenN ?_
                 obtain rfl := osi hF
                 exact wp_ret (wr1 hS)
               replace hF := bf c15 hF
               iterate 5 (refine o_sk rfl rfl ?_)
               refine oy hS y_pickF <| oy hS y_move ?_
               iterate 5 (refine o_sk rfl rfl ?_)
               refine oy hS y_pickF <| oy hS y_move ?_
               iterate 5 (refine o_sk rfl rfl ?_)
               refine oy hS y_pickF <| oy hS y_assign <| n_thenN ?_
               obtain rfl := osi hF
               exact wp_ret (wr1 hS)
             replace hF := bf c14 hF
             iterate 5 (refine o_sk rfl rfl ?_)
             refine oy hS y_pickF <| oy hS y_move ?_
             iterate 5 (refine o_sk rfl rfl ?_)
             refine oy hS y_pickF <| oy hS y_move ?_
             iterate 5 (refine o_sk rfl rfl ?_)
             refine oy hS y_pickF <| oy hS y_move ?_
             iterate 5 (refine o_sk rfl rfl ?_)
             refine oy hS y_pickF <| oy hS y_assign <| n_thenN ?_
             obtain rfl := osi hF
             exact wp_ret (wr1 hS)
           replace hF := bf c12 hF
           iterate 5 (refine o_sk rfl rfl ?_)
           refine oy hS y_pickF <| oy hS y_move ?_
           iterate 5 (refine o_sk rfl rfl ?_)
           refine oy hS y_pickF <| oy hS y_move ?_
           iterate 5 (refine o_sk rfl rfl ?_)
           refine oy hS y_pickF <| oy hS y_move ?_
           iterate 5 (refine o_sk rfl rfl ?_)
           refine oy hS y_pickF <| oy hS y_move ?_
           iterate 5 (refine o_sk rfl rfl ?_)
           refine oy hS y_pickF <| oy hS y_assign <| n_thenN ?_
           obtain rfl := osi hF
           exact wp_ret (wr1 hS)
         replace hF := bf c11 hF
         iterate 5 (refine o_sk rfl rfl ?_)
         refine oy hS y_pickF <| oy hS y_move ?_
         iterate 5 (refine o_sk rfl rfl ?_)
         refine oy hS y_pickF <| oy hS y_move ?_
         iterate 5 (refine o_sk rfl rfl ?_)
         refine oy hS y_pickF <| oy hS y_move ?_
         iterate 5 (refine o_sk rfl rfl ?_)
         refine oy hS y_pickF <| oy hS y_move ?_
         iterate 5 (refine o_sk rfl rfl ?_)
         refine oy hS y_pickF <| oy hS y_move ?_
         iterate 5 (refine o_sk rfl rfl ?_)
         refine oy hS y_pickF <| oy hS y_assign <| n_thenN ?_
         obtain rfl := osi hF
         exact wp_ret (wr1 hS)
       replace hF := bf c9 hF
       iterate 5 (refine o_sk rfl rfl ?_)
       refine oy hS y_pickF <| oy hS y_move ?_
       iterate 5 (refine o_sk rfl rfl ?_)
       refine oy hS y_pickF <| oy hS y_move ?_
       iterate 5 (refine o_sk rfl rfl ?_)
       refine oy hS y_pickF <| oy hS y_move ?_
       iterate 5 (refine o_sk rfl rfl ?_)
       refine oy hS y_pickF <| oy hS y_move ?_
       iterate 5 (refine o_sk rfl rfl ?_)
       refine oy hS y_pickF <| oy hS y_move ?_
       iterate 5 (refine o_sk rfl rfl ?_)
       refine oy hS y_pickF <| oy hS y_move ?_
       iterate 5 (refine o_sk rfl rfl ?_)
       refine oy hS y_pickF <| oy hS y_assign <| n_thenN ?_
       obtain rfl := osi hF
       exact wp_ret (wr1 hS)
     replace hF := bf c8 hF
     iterate 5 (refine o_sk rfl rfl ?_)
     refine oy hS y_pickF <| oy hS y_move ?_
     iterate 5 (refine o_sk rfl rfl ?_)
     refine oy hS y_pickF <| oy hS y_move ?_
     iterate 5 (refine o_sk rfl rfl ?_)
     refine oy hS y_pickF <| oy hS y_move ?_
     iterate 5 (refine o_sk rfl rfl ?_)
     refine oy hS y_pickF <| oy hS y_move ?_
     iterate 5 (refine o_sk rfl rfl ?_)
     refine oy hS y_pickF <| oy hS y_move ?_
     iterate 5 (refine o_sk rfl rfl ?_)
     refine oy hS y_pickF <| oy hS y_move ?_
     iterate 5 (refine o_sk rfl rfl ?_)
     refine oy hS y_pickF <| oy hS y_move ?_
     iterate 5 (refine o_sk rfl rfl ?_)
     refine oy hS y_pickF <| oy hS y_assign <| n_thenN ?_
     obtain rfl := osi hF
     exact wp_ret (wr1 hS)
   replace hF := bf c6 hF
   iterate 5 (refine o_sk rfl rfl ?_)
   refine oy hS y_pickF <| oy hS y_move ?_
   iterate 5 (refine o_sk rfl rfl ?_)
   refine oy hS y_pickF <| oy hS y_move ?_
   iterate 5 (refine o_sk rfl rfl ?_)
   refine oy hS y_pickF <| oy hS y_move ?_
   iterate 5 (refine o_sk rfl rfl ?_)
   refine oy hS y_pickF <| oy hS y_move ?_
   iterate 5 (refine o_sk rfl rfl ?_)
   refine oy hS y_pickF <| oy hS y_move ?_
   iterate 5 (refine o_sk rfl rfl ?_)
   refine oy hS y_pickF <| oy hS y_move ?_
   iterate 5 (refine o_sk rfl rfl ?_)
   refine oy hS y_pickF <| oy hS y_move ?_
   iterate 5 (refine o_sk rfl rfl ?_)
   refine oy hS y_pickF <| oy hS y_move ?_
   iterate 5 (refine o_sk rfl rfl ?_)
   refine oy hS y_pickF <| oy hS y_assign <| n_thenN ?_
   obtain rfl := osi hF
   exact wp_ret (wr1 hS)
 replace hF := bf c4 hF
 iterate 5 (refine o_sk rfl rfl ?_)
 refine oy hS y_pickF <| oy hS y_move ?_
 iterate 5 (refine o_sk rfl rfl ?_)
 refine oy hS y_pickF <| oy hS y_move ?_
 iterate 5 (refine o_sk rfl rfl ?_)
 refine oy hS y_pickF <| oy hS y_move ?_
 iterate 5 (refine o_sk rfl rfl ?_)
 refine oy hS y_pickF <| oy hS y_move ?_
 iterate 5 (refine o_sk rfl rfl ?_)
 refine oy hS y_pickF <| oy hS y_move ?_
 iterate 5 (refine o_sk rfl rfl ?_)
 refine oy hS y_pickF <| oy hS y_move ?_
 iterate 5 (refine o_sk rfl rfl ?_)
 refine oy hS y_pickF <| oy hS y_move ?_
 iterate 5 (refine o_sk rfl rfl ?_)
 refine oy hS y_pickF <| oy hS y_move ?_
 iterate 5 (refine o_sk rfl rfl ?_)
 refine oy hS y_pickF <| oy hS y_move ?_
 iterate 5 (refine o_sk rfl rfl ?_)
 refine oy hS y_pickF <| oy hS y_assign <| n_thenN ?_
 obtain rfl := osi hF
 exact wp_ret (wr1 hS)
theorem w_r0_EqState {g : Frag} {a0 : T_State} {v0_ : Value} {a1 : T_State} {v1_ : Value} {r : Bool} (h0 : Rd_State g a0 v0_) (h1 : Rd_State g a1 v1_) (hF : r0_EqState a0 a1 = some r) : LCs Try.prog 13 #[v0_, v1_] g (.bool r) := w_r0_EqState_ h0 h1 hF

noncomputable def l0_StateWeight (a0 : T_State) : Option Int :=
  (quo' .i64 (a0.Regs.length : Int) 4).bind fun x2 => (quo' .i64 (a0.Mem.length : Int) 16).bind fun x3 => (quo' .i64 (a0.Out.length : Int) 4).bind fun x4 => some (IntKind.i64.wrap ((IntKind.i64.wrap ((IntKind.i64.wrap ((IntKind.i64.wrap ((IntKind.i64.wrap (x2 + x3)) + (a0.In_.length : Int))) + x4)) + (a0.Stack.length : Int))) + (a0.Fly.length : Int)))
theorem w_l0_StateWeight_ {g : Frag} {a0 : T_State} {v0_ : Value} {r : Int} (h0 : Rd_State g a0 v0_) (hF : l0_StateWeight a0 = some r) : LCs Try.prog 36 #[v0_] g (.int .i64 r) := by
 obtain ⟨v0_0_, v0_1_, v0_2_, v0_4_, v0_6_, v0_8_, rfl, h0_0_, h0_1_, h0_2_, h0_4_, h0_6_, h0_8_⟩ := h0
 unfold l0_StateWeight at hF
 refine lc_body (k := 29) (av := [.agg (cl_State v0_0_ v0_1_ v0_2_ a0.Taken v0_4_ a0.PC v0_6_ a0.Stop v0_8_ a0.Jump a0.Delay).toArray]) func36 rfl rfl (h := fun W hS => ?_)
 refine c_seq <| c_region ?_
 refine o_boxP (cl := (cl_State v0_0_ v0_1_ v0_2_ a0.Taken v0_4_ a0.PC v0_6_ a0.Stop v0_8_ a0.Jump a0.Delay)) rfl hS ?_
 clear hS; intro b1 w hS
 refine oy hS y_assign <| n_thenN <| c_seq <| c_region <| oy hS (y_field fa_api_State_0) <| oy hS (y_load (fun w hS => hS.own (mH)) underlying23 rfl rfl) <| oy hS (y_len h0_0_ underlying23) ?_
 obtain ⟨x2, hx2, hF⟩ := ob hF
 refine oy hS (y_quo hx2) <| oy hS (y_field fa_api_State_1) <| oy hS (y_load (fun w hS => hS.own (mH)) underlying23 rfl rfl) <| oy hS (y_len h0_1_ underlying23) ?_
 obtain ⟨x3, hx3, hF⟩ := ob hF
 refine oy hS (y_quo hx3) <| oy hS y_bin <| oy hS (y_field fa_api_State_2) <| oy hS (y_load (fun w hS => hS.own (mH)) underlying23 rfl rfl) <| oy hS (y_len h0_2_ underlying23) <| oy hS y_bin <| oy hS (y_field fa_api_State_4) <| oy hS (y_load (fun w hS => hS.own (mH)) underlying23 rfl rfl) ?_
 refine oy hS (y_len h0_4_ underlying23) ?_
 obtain ⟨x4, hx4, hF⟩ := ob hF
 refine oy hS (y_quo hx4) <| oy hS y_bin <| oy hS (y_field fa_api_State_6) <| oy hS (y_load (fun w hS => hS.own (mH)) underlying24 rfl rfl) <| oy hS (y_len h0_6_ underlying24) <| oy hS y_bin <| oy hS (y_field fa_api_State_8) <| oy hS (y_load (fun w hS => hS.own (mH)) underlying25 rfl rfl) ?_
 refine oy hS (y_len h0_8_ underlying25) <| oy hS y_bin <| oy hS y_assign <| n_thenN ?_
 obtain rfl := osi hF
 exact wp_ret (wr1 hS)
theorem w_l0_StateWeight {g : Frag} {a0 : T_State} {v0_ : Value} {r : Int} (h0 : Rd_State g a0 v0_) (hF : l0_StateWeight a0 = some r) : LCs Try.prog 36 #[v0_] g (.int .i64 r) := w_l0_StateWeight_ h0 hF

noncomputable def l0_CodesWeight_b1 (a0 : (List T_Ins)) : (Int × Int) → Option (Step (Int × Int) Int) := fun (x16, x17) => bif decide (x17 < (a0.length : Int)) then bif decide (x16 < 1048576) then (at' a0 x17).bind fun x39 => (quo' .i64 (x39.Sym.size : Int) 8).bind fun x51 => some (.next (IntKind.i64.wrap (x16 + x51), IntKind.i64.wrap (x17 + 1))) else some (.done (x16)) else some (.done (x16))
noncomputable def l0_CodesWeight (a0 : (List T_Ins)) : Option Int :=
  loop (σ := (Int × Int)) (l0_CodesWeight_b1 a0) ((a0.length : Int), 0)
theorem w_l0_CodesWeight_ {g : Frag} {a0 : (List T_Ins)} {v0_ : Value} {r : Int} (h0 : SlT g enc_Ins 6 a0 v0_) (hF : l0_CodesWeight a0 = some r) : LCs Try.prog 37 #[v0_] g (.int .i64 r) := by
 unfold l0_CodesWeight at hF
 refine lc_body (k := 27) (av := [v0_]) func37 rfl rfl (h := fun W hS => ?_)
 refine c_seq <| c_region <| oy hS y_assign <| n_thenN <| c_seq <| c_region <| oy hS y_move <| oy hS (y_len h0 underlying52) ?_
 refine oy hS y_assign <| n_thenN ?_
 iterate 2 (refine c_seq ?_)
 refine c_region <| oy hS y_assign <| n_thenN <| c_block ?_
 refine c_loopP hF (fun (q : (Int × Int)) a w' => (∃ s : Nat → Value, a = Ac ((((Fm.dead 27 s).upd 0 v0_).upd 3 (.int .i64 q.1)).upd 4 (.int .i64 q.2))) ∧ St W g [] [] w') ⟨mk_exF, (hS.re (.n))⟩ ?_
 clear hS hF
 intro n35 q a w hI hq
 obtain ⟨x16, x17⟩ := q
 obtain ⟨⟨s36, rfl⟩, hS⟩ := hq
 obtain ⟨z33, hF, hK34⟩ := iter_step hI
 clear hI
 dsimp only [l0_CodesWeight_b1] at hF
 iterate 2 (refine c_seq ?_)
 refine c_region ?_
 iterate 2 (refine oy hS y_move ?_)
 refine oy hS (y_len h0 underlying52) <| oy hS y_bin ?_
 refine o_split (ht := fun c37 => ?_) (hf := fun c37 => ?_)
 · replace hF := bt c37 hF
   refine o_gu rfl rfl rfl <| oy hS y_move <| o_gu rfl rfl rfl <| oy hS y_bin <| oy hS y_pickT <| n_thenN ?_
   refine c_if (ht := fun c38 => ?_) (hf := fun c38 => ?_)
   · replace hF := bt c38 hF
     refine wp_skip <| c_seq <| c_block <| c_region ?_
     iterate 3 (refine oy hS y_move ?_)
     obtain ⟨x39, hx39, hF⟩ := ob hF
     obtain ⟨b40, o41, c42, cs43, e44, fz45, hv46, ha47, hb48, hd49, hc50⟩ := SlT.at hx39 h0 enc_len_Ins
     refine oy hS (y_index hv46 ha47 hb48 underlying52 el_api_Ins.size) <| oy hS (y_field fa_api_Ins_5) <| oy hS (y_load (fun w hS => hS.block hd49) underlying9 rfl (hc50 5 _ rfl)) <| oy hS (y_lens underlying9) ?_
     obtain ⟨x51, hx51, hF⟩ := ob hF
     refine oy hS (y_quo hx51) <| oy hS y_bin <| oy hS y_assign ?_
     refine n_anyN ?_
     refine c_region <| oy hS y_move <| oy hS y_bin <| oy hS y_assign <| n_thenN ?_
     obtain rfl := osi hF
     exact ⟨_, hK34, mk_exF, (hS.re (.n))⟩
   replace hF := bf c38 hF
   refine wp_exit ?_
   refine c_seq <| c_region <| oy hS y_move <| oy hS y_assign <| n_thenN ?_
   obtain rfl := osi hF
   obtain rfl : _ = r := hK34
   exact wp_ret (wr1 hS)
 replace hF := bf c37 hF
 iterate 2 (refine o_sk rfl rfl ?_)
 refine oy hS y_pickF <| n_thenN ?_
 refine c_if_false (h := ?_)
 refine wp_exit ?_
 refine c_seq <| c_region <| oy hS y_move <| oy hS y_assign <| n_thenN ?_
 obtain rfl := osi hF
 obtain rfl : _ = r := hK34
 exact wp_ret (wr1 hS)
theorem w_l0_CodesWeight {g : Frag} {a0 : (List T_Ins)} {v0_ : Value} {r : Int} (h0 : SlT g enc_Ins 6 a0 v0_) (hF : l0_CodesWeight a0 = some r) : LCs Try.prog 37 #[v0_] g (.int .i64 r) := w_l0_CodesWeight_ h0 hF

noncomputable def l6_Heavy_b1 (a0 : T_Script) : (Int × Int) → Option (Step (Int × Int) Bool) := fun (x18, x19) => bif decide (x19 < (a0.C.length : Int)) then bif decide (x18 < 1048576) then (at' a0.C x19).bind fun x41 => (l0_CodesWeight ([x41.x0, x41.x1, x41.x2, x41.x3])).bind fun r53 => some (.next (IntKind.i64.wrap ((IntKind.i64.wrap (x18 + 4)) + r53), IntKind.i64.wrap (x19 + 1))) else some (.done (decide (1500 < x18))) else some (.done (decide (1500 < x18)))
noncomputable def l6_Heavy (a0 : T_Script) : Option Bool :=
  (l0_StateWeight a0.S).bind fun r2 => loop (σ := (Int × Int)) (l6_Heavy_b1 a0) (IntKind.i64.wrap (r2 + (a0.N.length : Int)), 0)
theorem w_l6_Heavy_ {g : Frag} {a0 : T_Script} {v0_ : Value} {r : Bool} (h0 : Rd_Script g a0 v0_) (hF : l6_Heavy a0 = some r) : LCs Try.prog 16 #[v0_] g (.bool r) := by
 obtain ⟨v0_0_, v0_1_, v0_2_, v0_3_, v0_5_, v0_7_, v0_9_, v0_12_, rfl, h0_0_, h0_1_, h0_2_, h0_3_, h0_5_, h0_7_, h0_9_, h0_12_⟩ := h0
 unfold l6_Heavy at hF
 refine lc_body (k := 34) (av := [.agg (cl_Script v0_0_ v0_1_ v0_2_ v0_3_ a0.S.Taken v0_5_ a0.S.PC v0_7_ a0.S.Stop v0_9_ a0.S.Jump a0.S.Delay v0_12_).toArray]) func16 rfl rfl (h := fun W hS => ?_)
 refine c_seq <| c_region ?_
 refine o_boxP (cl := (cl_Script v0_0_ v0_1_ v0_2_ v0_3_ a0.S.Taken v0_5_ a0.S.PC v0_7_ a0.S.Stop v0_9_ a0.S.Jump a0.S.Delay v0_12_)) rfl hS ?_
 clear hS; intro b1 w hS
 refine oy hS y_assign <| n_thenN <| c_seq ?_
 refine c_quiet (by kernel_rfl) (by kernel_rfl) hS ?_
 refine qy (y_field fa_sledgelaw6_Script_1) ?_
 refine qy (y_loadN (vs := (cl_State v0_1_ v0_2_ v0_3_ a0.S.Taken v0_5_ a0.S.PC v0_7_ a0.S.Stop v0_9_ a0.S.Jump a0.S.Delay)) (fun w hS => hS.own (mH)) underlying27 rfl (by exact sz_api_State) (subd (o := 0 + 1) (by exact rfl))) ?_
 obtain ⟨r2, hr2, hF⟩ := ob hF
 refine q_callS func36 rfl rfl (hc := (w_l0_StateWeight (a0 := a0.S) (h0 := ⟨_, _, _, _, _, _, rfl, h0_1_.plus, h0_2_.plus, h0_3_.plus, h0_5_.plus, h0_7_.plus, h0_9_.plus⟩) (hF := hr2))) (h := ?_)
 refine qy (y_field fa_sledgelaw6_Script_2) <| qy (y_load (fun w hS => hS.own (mH)) underlying24 rfl rfl) <| qy (y_len h0_12_ underlying24) <| qy y_bin <| qy y_assign ?_
 refine q_nilN (h := ?_)
 clear hS; intro w hS
 iterate 2 (refine c_seq ?_)
 refine c_region <| oy hS y_assign <| n_thenN <| c_block ?_
 refine c_loopP hF (fun (q : (Int × Int)) a w' => (∃ s : Nat → Value, a = Ac ((((Fm.dead 34 s).upd 1 (.pointer (some ⟨b1, 0, none⟩))).upd 3 (.int .i64 q.1)).upd 4 (.int .i64 q.2))) ∧ St W g [] ((b1, blk (cl_Script v0_0_ v0_1_ v0_2_ v0_3_ a0.S.Taken v0_5_ a0.S.PC v0_7_ a0.S.Stop v0_9_ a0.S.Jump a0.S.Delay v0_12_) 29) :: []) w') ⟨mk_exF, (hS.re (.b .hb .n))⟩ ?_
 clear hS hF
 intro n37 q a w hI hq
 obtain ⟨x18, x19⟩ := q
 obtain ⟨⟨s38, rfl⟩, hS⟩ := hq
 obtain ⟨z35, hF, hK36⟩ := iter_step hI
 clear hI
 dsimp only [l6_Heavy_b1] at hF
 iterate 2 (refine c_seq ?_)
 refine c_region <| oy hS y_move <| oy hS (y_field fa_sledgelaw6_Script_0) <| oy hS (y_load (fun w hS => hS.own (mH)) underlying22 rfl rfl) <| oy hS (y_len h0_0_ underlying22) <| oy hS y_bin ?_
 refine o_split (ht := fun c39 => ?_) (hf := fun c39 => ?_)
 · replace hF := bt c39 hF
   refine o_gu rfl rfl rfl <| oy hS y_move <| o_gu rfl rfl rfl <| oy hS y_bin <| oy hS y_pickT <| n_thenN ?_
   refine c_if (ht := fun c40 => ?_) (hf := fun c40 => ?_)
   · replace hF := bt c40 hF
     refine wp_skip <| c_seq <| c_block <| c_region <| oy hS y_move <| oy hS y_bin <| oy hS (y_field fa_sledgelaw6_Script_0) <| oy hS (y_load (fun w hS => hS.own (mH)) underlying22 rfl rfl) ?_
     refine oy hS y_move ?_
     obtain ⟨x41, hx41, hF⟩ := ob hF
     obtain ⟨b42, o43, c44, cs45, e46, fz47, hv48, ha49, hb50, hd51, hc52⟩ := SlT.at hx41 h0_0_ enc_len_Bundle
     refine oy hS (y_index hv48 ha49 hb50 underlying22 el_api_Bundle.size) ?_
     refine oy hS (y_slA (by decide) underlying37 (by exact sz_api_Ins)) ?_
     obtain ⟨r53, hr53, hF⟩ := ob hF
     refine o_callS hS func37 rfl rfl (hc := (w_l0_CodesWeight (a0 := ([x41.x0, x41.x1, x41.x2, x41.x3])) (h0 := (arr_sl (xs := [x41.x0, x41.x1, x41.x2, x41.x3]) hd51 hc52 (by exact rfl) rfl enc_len_Ins).plus) (hF := hr53))) (h := ?_)
     clear hS; intro w hS
     refine oy hS y_bin <| oy hS y_assign ?_
     refine n_anyN ?_
     refine c_region <| oy hS y_move <| oy hS y_bin <| oy hS y_assign <| n_thenN ?_
     obtain rfl := osi hF
     exact ⟨_, hK36, mk_exF, (hS.re (.b .hb .n))⟩
   replace hF := bf c40 hF
   refine wp_exit ?_
   refine c_seq <| c_region <| oy hS y_move <| oy hS y_bin <| oy hS y_assign <| n_thenN ?_
   obtain rfl := osi hF
   obtain rfl : _ = r := hK36
   exact wp_ret (wr1 hS)
 replace hF := bf c39 hF
 iterate 2 (refine o_sk rfl rfl ?_)
 refine oy hS y_pickF <| n_thenN ?_
 refine c_if_false (h := ?_)
 refine wp_exit ?_
 refine c_seq <| c_region <| oy hS y_move <| oy hS y_bin <| oy hS y_assign <| n_thenN ?_
 obtain rfl := osi hF
 obtain rfl : _ = r := hK36
 exact wp_ret (wr1 hS)
theorem w_l6_Heavy {g : Frag} {a0 : T_Script} {v0_ : Value} {r : Bool} (h0 : Rd_Script g a0 v0_) (hF : l6_Heavy a0 = some r) : LCs Try.prog 16 #[v0_] g (.bool r) := w_l6_Heavy_ h0 hF

def r3_Valid (a0 : Int) : Bool :=
  (r0_Between a0 0 33)
theorem w_r3_Valid_ {g : Frag} {a0 : Int} {r : Bool}  (hF : r3_Valid a0 = r) : LCs Try.prog 90 #[.int .i64 a0] g (.bool r) := by
 unfold r3_Valid at hF
 refine lc_body (k := 5) (av := [.int .i64 a0]) func90 rfl rfl (h := fun W hS => ?_)
 refine c_seq <| c_region <| oy hS y_assign <| n_thenN <| c_seq <| c_region <| oy hS y_move ?_
 refine o_callS hS func22 rfl rfl (hc := (w_r0_Between (a0 := a0) (a1 := 0) (a2 := 33))) (h := ?_)
 clear hS; intro w hS
 refine oy hS y_assign <| n_thenN ?_
 subst hF
 exact wp_ret (wr1 hS)
theorem w_r3_Valid {g : Frag} {a0 : Int}  : LCs Try.prog 90 #[.int .i64 a0] g (.bool (r3_Valid a0)) := w_r3_Valid_  rfl

def r0_Num (a0 : Int) (a1 : Int) : Bool :=
  bif decide (0 ≤ a0) then decide (a0 ≤ a1) else false
theorem w_r0_Num_ {g : Frag} {a0 : Int} {a1 : Int} {r : Bool}  (hF : r0_Num a0 a1 = r) : LCs Try.prog 40 #[.int .i64 a0, .int .i64 a1] g (.bool r) := by
 unfold r0_Num at hF
 refine lc_body (k := 12) (av := [.int .i64 a0, .int .i64 a1]) func40 rfl rfl (h := fun W hS => ?_)
 refine c_seq <| c_region <| oy hS y_assign <| n_thenN <| c_seq <| c_region <| oy hS y_move <| oy hS y_bin ?_
 refine o_split (ht := fun c1 => ?_) (hf := fun c1 => ?_)
 · replace hF := bt c1 hF
   refine o_gu rfl rfl rfl <| oy hS y_move <| o_gu rfl rfl rfl <| oy hS y_move <| o_gu rfl rfl rfl <| oy hS y_bin <| oy hS y_pickT <| oy hS y_assign ?_
   refine n_thenN ?_
   subst hF
   exact wp_ret (wr1 hS)
 replace hF := bf c1 hF
 iterate 3 (refine o_sk rfl rfl ?_)
 refine oy hS y_pickF <| oy hS y_assign <| n_thenN ?_
 subst hF
 exact wp_ret (wr1 hS)
theorem w_r0_Num {g : Frag} {a0 : Int} {a1 : Int}  : LCs Try.prog 40 #[.int .i64 a0, .int .i64 a1] g (.bool (r0_Num a0 a1)) := w_r0_Num_  rfl

def r3_reg (a0 : Int) (a1 : Bool) : Bool :=
  bif a1 then (r0_Num a0 15) else decide (a0 = 0)
theorem w_r3_reg_ {g : Frag} {a0 : Int} {a1 : Bool} {r : Bool}  (hF : r3_reg a0 a1 = r) : LCs Try.prog 91 #[.int .i64 a0, .bool a1] g (.bool r) := by
 unfold r3_reg at hF
 refine lc_body (k := 10) (av := [.int .i64 a0, .bool a1]) func91 rfl rfl (h := fun W hS => ?_)
 refine c_seq <| c_region <| oy hS y_assign <| n_thenN ?_
 iterate 2 (refine c_seq ?_)
 refine c_region <| oy hS y_move <| n_thenN ?_
 refine c_if (ht := fun c1 => ?_) (hf := fun c1 => ?_)
 · replace hF := bt c1 hF
   refine c_seq <| c_region <| oy hS y_move ?_
   refine o_callS hS func40 rfl rfl (hc := (w_r0_Num (a0 := a0) (a1 := 15))) (h := ?_)
   clear hS; intro w hS
   refine oy hS y_assign <| n_thenN ?_
   subst hF
   exact wp_ret (wr1 hS)
 replace hF := bf c1 hF
 refine wp_skip <| c_seq <| c_region <| oy hS y_move <| oy hS y_bin <| oy hS y_assign <| n_thenN ?_
 subst hF
 exact wp_ret (wr1 hS)
theorem w_r3_reg {g : Frag} {a0 : Int} {a1 : Bool}  : LCs Try.prog 91 #[.int .i64 a0, .bool a1] g (.bool (r3_reg a0 a1)) := w_r3_reg_  rfl

noncomputable def r3_Name_b2 (a0 : ByteArray) : Int → Option (Step Int Bool) := fun x38 => bif decide (x38 < (a0.size : Int)) then (byte' a0 x38).bind fun x66 => bif decide (97 ≤ x66) then (byte' a0 x38).bind fun x68 => bif decide (x68 ≤ 122) then bif !true then some (.done (false)) else some (.next (IntKind.i64.wrap (x38 + 1))) else (byte' a0 x38).bind fun x71 => bif decide (x71 = 95) then bif !true then some (.done (false)) else some (.next (IntKind.i64.wrap (x38 + 1))) else (byte' a0 x38).bind fun x74 => bif decide (48 ≤ x74) then (byte' a0 x38).bind fun x76 => bif !(decide (x76 ≤ 57)) then some (.done (false)) else some (.next (IntKind.i64.wrap (x38 + 1))) else bif !false then some (.done (false)) else some (.next (IntKind.i64.wrap (x38 + 1))) else (byte' a0 x38).bind fun x79 => bif decide (x79 = 95) then bif !true then some (.done (false)) else some (.next (IntKind.i64.wrap (x38 + 1))) else (byte' a0 x38).bind fun x82 => bif decide (48 ≤ x82) then (byte' a0 x38).bind fun x84 => bif !(decide (x84 ≤ 57)) then some (.done (false)) else some (.next (IntKind.i64.wrap (x38 + 1))) else bif !false then some (.done (false)) else some (.next (IntKind.i64.wrap (x38 + 1))) else some (.done (true))
noncomputable def r3_Name_k1 (a0 : ByteArray) : Unit → Option Bool := fun _ => loop (σ := Int) (r3_Name_b2 a0) 0
noncomputable def r3_Name (a0 : ByteArray) : Option Bool :=
  cut (σ := Unit) (bif decide ((a0.size : Int) = 0) then some (.done (false)) else bif decide (12 < (a0.size : Int)) then some (.done (false)) else (byte' a0 0).bind fun x11 => bif decide (48 ≤ x11) then (byte' a0 0).bind fun x13 => bif decide (x13 ≤ 57) then some (.done (false)) else some (.next ()) else some (.next ())) (r3_Name_k1 a0)
theorem w_r3_Name_ {g : Frag} {a0 : ByteArray} {r : Bool}  (hF : r3_Name a0 = some r) : LCs Try.prog 92 #[.string a0] g (.bool r) := by
 unfold r3_Name at hF
 refine lc_body (k := 57) (av := [.string a0]) func92 rfl rfl (h := fun W hS => ?_)
 refine c_seq <| c_region <| oy hS y_assign <| n_thenN ?_
 obtain ⟨z7, hF, hK8⟩ := cut_step hF
 refine c_cutP (fun a w' => r3_Name_k1 a0 () = some r ∧ (∃ s : Nat → Value, a = Ac ((Fm.dead 57 s).upd 0 (.string a0))) ∧ St W g [] [] w') ?_ ?_
 · skip
   refine c_seq <| c_region <| oy hS y_move <| oy hS (y_lens underlying9) <| oy hS y_bin ?_
   refine o_split (ht := fun c9 => ?_) (hf := fun c9 => ?_)
   · replace hF := bt c9 hF
     iterate 3 (refine o_sk rfl rfl ?_)
     refine oy hS y_pickT <| oy hS y_move ?_
     iterate 4 (refine o_sk rfl rfl ?_)
     iterate 3 (refine o_sku rfl rfl ?_)
     refine o_sk rfl rfl ?_
     refine oy hS y_pickT <| n_thenN ?_
     refine c_if_true (h := ?_)
     refine c_seq <| c_region <| oy hS y_assign <| n_thenN ?_
     obtain rfl := osi hF
     obtain rfl : _ = r := hK8
     exact wp_ret (wr1 hS)
   replace hF := bf c9 hF
   refine o_gu rfl rfl rfl <| oy hS y_move <| o_gu rfl rfl rfl <| oy hS (y_lens underlying9) <| o_gu rfl rfl rfl <| oy hS y_bin <| oy hS y_pickF ?_
   refine o_split (ht := fun c10 => ?_) (hf := fun c10 => ?_)
   · replace hF := bt c10 hF
     iterate 4 (refine o_sk rfl rfl ?_)
     iterate 3 (refine o_sku rfl rfl ?_)
     refine o_sk rfl rfl ?_
     refine oy hS y_pickT <| n_thenN ?_
     refine c_if_true (h := ?_)
     refine c_seq <| c_region <| oy hS y_assign <| n_thenN ?_
     obtain rfl := osi hF
     obtain rfl : _ = r := hK8
     exact wp_ret (wr1 hS)
   replace hF := bf c10 hF
   refine o_gu rfl rfl rfl <| oy hS y_move <| o_gu rfl rfl rfl ?_
   obtain ⟨x11, hx11, hF⟩ := ob hF
   refine oy hS (y_byte hx11 underlying9) <| o_gu rfl rfl rfl <| oy hS y_bin <| o_gu rfl rfl rfl ?_
   refine o_split (ht := fun c12 => ?_) (hf := fun c12 => ?_)
   · replace hF := bt c12 hF
     refine o_gu rfl rfl rfl <| oy hS y_move <| o_gu rfl rfl rfl ?_
     obtain ⟨x13, hx13, hF⟩ := ob hF
     refine oy hS (y_byte hx13 underlying9) <| o_gu rfl rfl rfl <| oy hS y_bin <| o_gu rfl rfl rfl <| oy hS y_pickT <| oy hS y_pickF <| n_thenN ?_
     refine c_if (ht := fun c14 => ?_) (hf := fun c14 => ?_)
     · replace hF := bt c14 hF
       refine c_seq <| c_region <| oy hS y_assign <| n_thenN ?_
       obtain rfl := osi hF
       obtain rfl : _ = r := hK8
       exact wp_ret (wr1 hS)
     replace hF := bf c14 hF
     refine wp_skip ?_
     obtain rfl := osi hF
     change _ ∧ _
     exact ⟨hK8, mk_exF, (hS.re (.n))⟩
   replace hF := bf c12 hF
   iterate 3 (refine o_sk rfl rfl ?_)
   refine o_gu rfl rfl rfl ?_
   iterate 2 (refine oy hS y_pickF ?_)
   refine n_thenN ?_
   refine c_if_false (h := ?_)
   refine wp_skip ?_
   obtain rfl := osi hF
   change _ ∧ _
   exact ⟨hK8, mk_exF, (hS.re (.n))⟩
 rintro a w ⟨hF, ⟨s15, rfl⟩, hS⟩
 dsimp only [r3_Name_k1] at hF
 iterate 2 (refine c_seq ?_)
 refine c_region <| oy hS y_assign <| n_thenN <| c_block ?_
 refine c_loopP hF (fun (q : Int) a w' => (∃ s : Nat → Value, a = Ac (((Fm.dead 57 s).upd 0 (.string a0)).upd 3 (.int .i64 q))) ∧ St W g [] [] w') ⟨mk_exF, (hS.re (.n))⟩ ?_
 clear hS hF
 intro n63 q a w hI hq
 revert hq hI; revert q; intro x38 hI hq
 obtain ⟨⟨s64, rfl⟩, hS⟩ := hq
 obtain ⟨z61, hF, hK62⟩ := iter_step hI
 clear hI
 dsimp only [r3_Name_b2] at hF
 iterate 2 (refine c_seq ?_)
 refine c_region ?_
 iterate 2 (refine oy hS y_move ?_)
 refine oy hS (y_lens underlying9) <| oy hS y_bin <| n_thenN ?_
 refine c_if (ht := fun c65 => ?_) (hf := fun c65 => ?_)
 · replace hF := bt c65 hF
   refine wp_skip <| c_seq <| c_block <| c_seq <| c_region ?_
   iterate 2 (refine oy hS y_move ?_)
   obtain ⟨x66, hx66, hF⟩ := ob hF
   refine oy hS (y_byte hx66 underlying9) <| oy hS y_bin ?_
   refine o_split (ht := fun c67 => ?_) (hf := fun c67 => ?_)
   · replace hF := bt c67 hF
     refine o_gu rfl rfl rfl <| oy hS y_move <| o_gu rfl rfl rfl <| oy hS y_move <| o_gu rfl rfl rfl ?_
     obtain ⟨x68, hx68, hF⟩ := ob hF
     refine oy hS (y_byte hx68 underlying9) <| o_gu rfl rfl rfl <| oy hS y_bin <| oy hS y_pickT ?_
     refine o_split (ht := fun c69 => ?_) (hf := fun c69 => ?_)
     · replace hF := bt c69 hF
       iterate 4 (refine o_sk rfl rfl ?_)
       refine oy hS y_pickT <| oy hS y_move ?_
       iterate 5 (refine o_sk rfl rfl ?_)
       iterate 4 (refine o_sku rfl rfl ?_)
       refine o_sk rfl rfl ?_
       refine oy hS y_pickT <| oy hS y_not <| n_thenN ?_
       refine c_if (ht := fun c70 => ?_) (hf := fun c70 => ?_)
       · replace hF := bt c70 hF
         refine c_seq <| c_region <| oy hS y_assign <| n_thenN ?_
         obtain rfl := osi hF
         obtain rfl : _ = r := hK62
         exact wp_ret (wr1 hS)
       replace hF := bf c70 hF
       refine wp_skip <| c_region <| oy hS y_move <| oy hS y_bin <| oy hS y_assign <| n_thenN ?_
       obtain rfl := osi hF
       exact ⟨_, hK62, mk_exF, (hS.re (.n))⟩
     replace hF := bf c69 hF
     refine o_gu rfl rfl rfl <| oy hS y_move <| o_gu rfl rfl rfl <| oy hS y_move <| o_gu rfl rfl rfl ?_
     obtain ⟨x71, hx71, hF⟩ := ob hF
     refine oy hS (y_byte hx71 underlying9) <| o_gu rfl rfl rfl <| oy hS y_bin <| oy hS y_pickF ?_
     refine o_split (ht := fun c72 => ?_) (hf := fun c72 => ?_)
     · replace hF := bt c72 hF
       iterate 5 (refine o_sk rfl rfl ?_)
       iterate 4 (refine o_sku rfl rfl ?_)
       refine o_sk rfl rfl ?_
       refine oy hS y_pickT <| oy hS y_not <| n_thenN ?_
       refine c_if (ht := fun c73 => ?_) (hf := fun c73 => ?_)
       · replace hF := bt c73 hF
         refine c_seq <| c_region <| oy hS y_assign <| n_thenN ?_
         obtain rfl := osi hF
         obtain rfl : _ = r := hK62
         exact wp_ret (wr1 hS)
       replace hF := bf c73 hF
       refine wp_skip <| c_region <| oy hS y_move <| oy hS y_bin <| oy hS y_assign <| n_thenN ?_
       obtain rfl := osi hF
       exact ⟨_, hK62, mk_exF, (hS.re (.n))⟩
     replace hF := bf c72 hF
     refine o_gu rfl rfl rfl <| oy hS y_move <| o_gu rfl rfl rfl <| oy hS y_move <| o_gu rfl rfl rfl ?_
     obtain ⟨x74, hx74, hF⟩ := ob hF
     refine oy hS (y_byte hx74 underlying9) <| o_gu rfl rfl rfl <| oy hS y_bin <| o_gu rfl rfl rfl ?_
     refine o_split (ht := fun c75 => ?_) (hf := fun c75 => ?_)
     · replace hF := bt c75 hF
       refine o_gu rfl rfl rfl <| oy hS y_move <| o_gu rfl rfl rfl <| oy hS y_move <| o_gu rfl rfl rfl ?_
       obtain ⟨x76, hx76, hF⟩ := ob hF
       refine oy hS (y_byte hx76 underlying9) <| o_gu rfl rfl rfl <| oy hS y_bin <| o_gu rfl rfl rfl <| oy hS y_pickT <| oy hS y_pickF <| oy hS y_not <| n_thenN ?_
       refine c_if (ht := fun c77 => ?_) (hf := fun c77 => ?_)
       · replace hF := bt c77 hF
         refine c_seq <| c_region <| oy hS y_assign <| n_thenN ?_
         obtain rfl := osi hF
         obtain rfl : _ = r := hK62
         exact wp_ret (wr1 hS)
       replace hF := bf c77 hF
       refine wp_skip <| c_region <| oy hS y_move <| oy hS y_bin <| oy hS y_assign <| n_thenN ?_
       obtain rfl := osi hF
       exact ⟨_, hK62, mk_exF, (hS.re (.n))⟩
     replace hF := bf c75 hF
     iterate 4 (refine o_sk rfl rfl ?_)
     refine o_gu rfl rfl rfl ?_
     iterate 2 (refine oy hS y_pickF ?_)
     refine oy hS y_not <| n_thenN ?_
     refine c_if (ht := fun c78 => ?_) (hf := fun c78 => ?_)
     · replace hF := bt c78 hF
       refine c_seq <| c_region <| oy hS y_assign <| n_thenN ?_
       obtain rfl := osi hF
       obtain rfl : _ = r := hK62
       exact wp_ret (wr1 hS)
     replace hF := bf c78 hF
     refine wp_skip <| c_region <| oy hS y_move <| oy hS y_bin <| oy hS y_assign <| n_thenN ?_
     obtain rfl := osi hF
     exact ⟨_, hK62, mk_exF, (hS.re (.n))⟩
   replace hF := bf c67 hF
   iterate 4 (refine o_sk rfl rfl ?_)
   refine oy hS y_pickF <| oy hS y_move <| o_gu rfl rfl rfl <| oy hS y_move <| o_gu rfl rfl rfl <| oy hS y_move <| o_gu rfl rfl rfl ?_
   obtain ⟨x79, hx79, hF⟩ := ob hF
   refine oy hS (y_byte hx79 underlying9) <| o_gu rfl rfl rfl <| oy hS y_bin <| oy hS y_pickF ?_
   refine o_split (ht := fun c80 => ?_) (hf := fun c80 => ?_)
   · replace hF := bt c80 hF
     iterate 5 (refine o_sk rfl rfl ?_)
     iterate 4 (refine o_sku rfl rfl ?_)
     refine o_sk rfl rfl ?_
     refine oy hS y_pickT <| oy hS y_not <| n_thenN ?_
     refine c_if (ht := fun c81 => ?_) (hf := fun c81 => ?_)
     · replace hF := bt c81 hF
       refine c_seq <| c_region <| oy hS y_assign <| n_thenN ?_
       obtain rfl := osi hF
       obtain rfl : _ = r := hK62
       exact wp_ret (wr1 hS)
     replace hF := bf c81 hF
     refine wp_skip <| c_region <| oy hS y_move <| oy hS y_bin <| oy hS y_assign <| n_thenN ?_
     obtain rfl := osi hF
     exact ⟨_, hK62, mk_exF, (hS.re (.n))⟩
   replace hF := bf c80 hF
   refine o_gu rfl rfl rfl <| oy hS y_move <| o_gu rfl rfl rfl <| oy hS y_move <| o_gu rfl rfl rfl ?_
   obtain ⟨x82, hx82, hF⟩ := ob hF
   refine oy hS (y_byte hx82 underlying9) <| o_gu rfl rfl rfl <| oy hS y_bin <| o_gu rfl rfl rfl ?_
   refine o_split (ht := fun c83 => ?_) (hf := fun c83 => ?_)
   · replace hF := bt c83 hF
     refine o_gu rfl rfl rfl <| oy hS y_move <| o_gu rfl rfl rfl <| oy hS y_move <| o_gu rfl rfl rfl ?_
     obtain ⟨x84, hx84, hF⟩ := ob hF
     refine oy hS (y_byte hx84 underlying9) <| o_gu rfl rfl rfl <| oy hS y_bin <| o_gu rfl rfl rfl <| oy hS y_pickT <| oy hS y_pickF <| oy hS y_not <| n_thenN ?_
     refine c_if (ht := fun c85 => ?_) (hf := fun c85 => ?_)
     · replace hF := bt c85 hF
       refine c_seq <| c_region <| oy hS y_assign <| n_thenN ?_
       obtain rfl := osi hF
       obtain rfl : _ = r := hK62
       exact wp_ret (wr1 hS)
     replace hF := bf c85 hF
     refine wp_skip <| c_region <| oy hS y_move <| oy hS y_bin <| oy hS y_assign <| n_thenN ?_
     obtain rfl := osi hF
     exact ⟨_, hK62, mk_exF, (hS.re (.n))⟩
   replace hF := bf c83 hF
   iterate 4 (refine o_sk rfl rfl ?_)
   refine o_gu rfl rfl rfl ?_
   iterate 2 (refine oy hS y_pickF ?_)
   refine oy hS y_not <| n_thenN ?_
   refine c_if (ht := fun c86 => ?_) (hf := fun c86 => ?_)
   · replace hF := bt c86 hF
     refine c_seq <| c_region <| oy hS y_assign <| n_thenN ?_
     obtain rfl := osi hF
     obtain rfl : _ = r := hK62
     exact wp_ret (wr1 hS)
   replace hF := bf c86 hF
   refine wp_skip <| c_region <| oy hS y_move <| oy hS y_bin <| oy hS y_assign <| n_thenN ?_
   obtain rfl := osi hF
   exact ⟨_, hK62, mk_exF, (hS.re (.n))⟩
 replace hF := bf c65 hF
 refine wp_exit ?_
 refine c_seq <| c_region <| oy hS y_assign <| n_thenN ?_
 obtain rfl := osi hF
 obtain rfl : _ = r := hK62
 exact wp_ret (wr1 hS)
theorem w_r3_Name {g : Frag} {a0 : ByteArray} {r : Bool}  (hF : r3_Name a0 = some r) : LCs Try.prog 92 #[.string a0] g (.bool r) := w_r3_Name_  hF

noncomputable def r1_Fits (a0 : Int) (a1 : Int) : Option Bool :=
  (shl' .i64 1 (IntKind.i64.wrap (a1 - 1))).bind fun x1 => bif decide ((IntKind.i64.wrap (0 - x1)) ≤ a0) then some (decide (a0 < x1)) else some (false)
theorem w_r1_Fits_ {g : Frag} {a0 : Int} {a1 : Int} {r : Bool}  (hF : r1_Fits a0 a1 = some r) : LCs Try.prog 93 #[.int .i64 a0, .int .i64 a1] g (.bool r) := by
 unfold r1_Fits at hF
 refine lc_body (k := 18) (av := [.int .i64 a0, .int .i64 a1]) func93 rfl rfl (h := fun W hS => ?_)
 refine c_seq <| c_region <| oy hS y_assign <| n_thenN <| c_seq <| c_region <| oy hS y_move <| oy hS y_bin ?_
 obtain ⟨x1, hx1, hF⟩ := ob hF
 refine oy hS (y_shl hx1) <| oy hS y_assign <| n_thenN <| c_seq <| c_region ?_
 iterate 2 (refine oy hS y_move ?_)
 refine oy hS y_neg <| oy hS y_bin ?_
 refine o_split (ht := fun c2 => ?_) (hf := fun c2 => ?_)
 · replace hF := bt c2 hF
   refine o_gu rfl rfl rfl <| oy hS y_move <| o_gu rfl rfl rfl <| oy hS y_move <| o_gu rfl rfl rfl <| oy hS y_bin <| oy hS y_pickT <| oy hS y_assign ?_
   refine n_thenN ?_
   obtain rfl := osi hF
   exact wp_ret (wr1 hS)
 replace hF := bf c2 hF
 iterate 3 (refine o_sk rfl rfl ?_)
 refine oy hS y_pickF <| oy hS y_assign <| n_thenN ?_
 obtain rfl := osi hF
 exact wp_ret (wr1 hS)
theorem w_r1_Fits {g : Frag} {a0 : Int} {a1 : Int} {r : Bool}  (hF : r1_Fits a0 a1 = some r) : LCs Try.prog 93 #[.int .i64 a0, .int .i64 a1] g (.bool r) := w_r1_Fits_  hF

def r3_Target (a0 : Int) : Bool :=
  bif decide (a0 = 8) then true else decide (a0 = 9)
theorem w_r3_Target_ {g : Frag} {a0 : Int} {r : Bool}  (hF : r3_Target a0 = r) : LCs Try.prog 94 #[.int .i64 a0] g (.bool r) := by
 unfold r3_Target at hF
 refine lc_body (k := 9) (av := [.int .i64 a0]) func94 rfl rfl (h := fun W hS => ?_)
 refine c_seq <| c_region <| oy hS y_assign <| n_thenN <| c_seq <| c_region <| oy hS y_move <| oy hS y_bin ?_
 refine o_split (ht := fun c1 => ?_) (hf := fun c1 => ?_)
 · replace hF := bt c1 hF
   iterate 2 (refine o_sk rfl rfl ?_)
   refine oy hS y_pickT <| oy hS y_assign <| n_thenN ?_
   subst hF
   exact wp_ret (wr1 hS)
 replace hF := bf c1 hF
 refine o_gu rfl rfl rfl <| oy hS y_move <| o_gu rfl rfl rfl <| oy hS y_bin <| oy hS y_pickF <| oy hS y_assign <| n_thenN ?_
 subst hF
 exact wp_ret (wr1 hS)
theorem w_r3_Target {g : Frag} {a0 : Int}  : LCs Try.prog 94 #[.int .i64 a0] g (.bool (r3_Target a0)) := w_r3_Target_  rfl

def r3_Bits (a0 : Int) : Int :=
  bif decide (a0 = 3) then 14 else bif decide (a0 = 5) then 14 else bif decide (a0 = 9) then 14 else bif decide (a0 = 4) then 18 else bif decide (a0 = 8) then 18 else 0
theorem w_r3_Bits_ {g : Frag} {a0 : Int} {r : Int}  (hF : r3_Bits a0 = r) : LCs Try.prog 95 #[.int .i64 a0] g (.int .i64 r) := by
 unfold r3_Bits at hF
 refine lc_body (k := 11) (av := [.int .i64 a0]) func95 rfl rfl (h := fun W hS => ?_)
 refine c_seq <| c_region <| oy hS y_assign <| n_thenN ?_
 iterate 2 (refine c_seq ?_)
 refine c_region <| oy hS y_move <| n_thenN <| c_block ?_
 iterate 2 (refine c_seq ?_)
 refine c_region <| oy hS y_bin <| oy hS y_assign <| n_thenN ?_
 refine c_if (ht := fun c1 => ?_) (hf := fun c1 => ?_)
 · replace hF := bt c1 hF
   refine wp_skip ?_
   refine c_ifT c1 ?_
   refine c_seq <| c_region <| oy hS y_assign <| n_thenN ?_
   subst hF
   exact wp_ret (wr1 hS)
 replace hF := bf c1 hF
 refine c_seq <| c_region <| oy hS y_bin <| oy hS y_assign <| n_thenN ?_
 refine c_if (ht := fun c2 => ?_) (hf := fun c2 => ?_)
 · replace hF := bt c2 hF
   refine wp_skip ?_
   refine c_ifT c2 ?_
   refine c_seq <| c_region <| oy hS y_assign <| n_thenN ?_
   subst hF
   exact wp_ret (wr1 hS)
 replace hF := bf c2 hF
 refine c_region <| oy hS y_bin <| oy hS y_assign <| n_thenN ?_
 refine c_if (ht := fun c3 => ?_) (hf := fun c3 => ?_)
 · replace hF := bt c3 hF
   refine c_seq <| c_region <| oy hS y_assign <| n_thenN ?_
   subst hF
   exact wp_ret (wr1 hS)
 replace hF := bf c3 hF
 iterate 2 (refine c_seq ?_)
 refine c_region <| oy hS y_bin <| oy hS y_assign <| n_thenN ?_
 refine c_if (ht := fun c4 => ?_) (hf := fun c4 => ?_)
 · replace hF := bt c4 hF
   refine wp_skip ?_
   refine c_ifT c4 ?_
   refine c_seq <| c_region <| oy hS y_assign <| n_thenN ?_
   subst hF
   exact wp_ret (wr1 hS)
 replace hF := bf c4 hF
 refine c_region <| oy hS y_bin <| oy hS y_assign <| n_thenN ?_
 refine c_if (ht := fun c5 => ?_) (hf := fun c5 => ?_)
 · replace hF := bt c5 hF
   refine c_seq <| c_region <| oy hS y_assign <| n_thenN ?_
   subst hF
   exact wp_ret (wr1 hS)
 replace hF := bf c5 hF
 refine wp_skip <| c_seq <| c_region <| oy hS y_assign <| n_thenN ?_
 subst hF
 exact wp_ret (wr1 hS)
theorem w_r3_Bits {g : Frag} {a0 : Int}  : LCs Try.prog 95 #[.int .i64 a0] g (.int .i64 (r3_Bits a0)) := w_r3_Bits_  rfl

noncomputable def r3_Ins_k1 (a0 : T_Ins) (r3 : Int) : Unit → Option Bool := fun _ => bif !(decide (a0.Sym = (ByteArray.mk #[]))) then (r3_Name a0.Sym).bind fun r14 => bif r14 then bif decide (a0.Op = 23) then (r1_Fits a0.Imm 18).bind fun r17 => bif r17 then some (true) else bif (r3_Target r3) then some (decide (a0.Imm = 0)) else some (false) else bif (r3_Target r3) then some (decide (a0.Imm = 0)) else some (false) else some (false) else bif (r3_Target r3) then some (r0_Num a0.Imm 1023) else bif decide (0 < (r3_Bits r3)) then (r1_Fits a0.Imm (r3_Bits r3)).bind fun r23 => some (r23) else some (decide (a0.Imm = 0))
noncomputable def r3_Ins (a0 : T_Ins) : Option Bool :=
  bif !(r3_Valid a0.Op) then some (false) else (r3_Form a0.Op).bind fun r3 => cut (σ := Unit) (bif !(r3_reg a0.D (r3_HasD r3)) then some (.done (false)) else bif !(r3_reg a0.A (r3_HasA r3)) then some (.done (false)) else bif !(r3_reg a0.B (r3_HasB r3)) then some (.done (false)) else some (.next ())) (r3_Ins_k1 a0 r3)
theorem w_r3_Ins_ {g : Frag} {a0 : T_Ins} {r : Bool}  (hF : r3_Ins a0 = some r) : LCs Try.prog 75 #[.agg (enc_Ins a0).toArray] g (.bool r) := by
 unfold r3_Ins at hF
 refine lc_body (k := 76) (av := [.agg (enc_Ins a0).toArray]) func75 rfl rfl (h := fun W hS => ?_)
 refine c_seq <| c_region ?_
 refine o_boxP (cl := (enc_Ins a0)) rfl hS ?_
 clear hS; intro b1 w hS
 refine oy hS y_assign <| n_thenN ?_
 iterate 2 (refine c_seq ?_)
 refine c_region <| oy hS (y_field fa_api_Ins_0) <| oy hS (y_load (fun w hS => hS.own (mH)) underlying3 rfl rfl) ?_
 refine o_callS hS func90 rfl rfl (hc := (w_r3_Valid (a0 := a0.Op))) (h := ?_)
 clear hS; intro w hS
 refine oy hS y_not <| n_thenN ?_
 refine c_if (ht := fun c2 => ?_) (hf := fun c2 => ?_)
 · replace hF := bt c2 hF
   refine c_seq <| c_region <| oy hS y_assign <| n_thenN ?_
   obtain rfl := osi hF
   exact wp_ret (wr1 hS)
 replace hF := bf c2 hF
 refine wp_skip <| c_seq <| c_region <| oy hS (y_field fa_api_Ins_0) <| oy hS (y_load (fun w hS => hS.own (mH)) underlying3 rfl rfl) ?_
 obtain ⟨r3, hr3, hF⟩ := ob hF
 refine o_callS hS func6 rfl rfl (hc := (w_r3_Form (a0 := a0.Op) (hF := hr3))) (h := ?_)
 clear hS; intro w hS
 refine oy hS y_assign <| n_thenN ?_
 obtain ⟨z7, hF, hK8⟩ := cut_step hF
 refine c_cutP (fun a w' => r3_Ins_k1 a0 r3 () = some r ∧ (∃ s : Nat → Value, a = Ac (((Fm.dead 76 s).upd 1 (.pointer (some ⟨b1, 0, none⟩))).upd 3 (.int .i64 r3))) ∧ St W g [] ((b1, blk (enc_Ins a0) 31) :: []) w') ?_ ?_
 · skip
   refine c_seq ?_
   refine c_quiet (by kernel_rfl) (by kernel_rfl) hS ?_
   refine qy (y_field fa_api_Ins_1) <| qy (y_load (fun w hS => hS.own (mH)) underlying3 rfl rfl) <| qy y_move ?_
   refine q_callS func5 rfl rfl (hc := (w_r3_HasD (a0 := r3))) (h := ?_)
   refine q_callS func91 rfl rfl (hc := (w_r3_reg (a0 := a0.D) (a1 := (r3_HasD r3)))) (h := ?_)
   refine qy y_not ?_
   refine q_split (ht := fun c9 => ?_) (hf := fun c9 => ?_)
   · replace hF := bt c9 hF
     iterate 6 (refine q_sk rfl rfl ?_)
     refine qy y_pickT <| qy y_move ?_
     iterate 6 (refine q_sk rfl rfl ?_)
     refine qy y_pickT ?_
     refine q_nilN (h := ?_)
     clear hS; intro w hS
     refine c_if_true (h := ?_)
     refine c_seq <| c_region <| oy hS y_assign <| n_thenN ?_
     obtain rfl := osi hF
     obtain rfl : _ = r := hK8
     exact wp_ret (wr1 hS)
   replace hF := bf c9 hF
   refine q_gu rfl rfl rfl ?_
   refine qy (y_field fa_api_Ins_2) ?_
   refine q_gu rfl rfl rfl ?_
   refine qy (y_load (fun w hS => hS.own (mH)) underlying3 rfl rfl) ?_
   refine q_gu rfl rfl rfl ?_
   refine qy y_move ?_
   refine q_gu rfl rfl rfl ?_
   refine q_callS func7 rfl rfl (hc := (w_r3_HasA (a0 := r3))) (h := ?_)
   refine q_gu rfl rfl rfl ?_
   refine q_callS func91 rfl rfl (hc := (w_r3_reg (a0 := a0.A) (a1 := (r3_HasA r3)))) (h := ?_)
   refine q_gu rfl rfl rfl ?_
   refine qy y_not <| qy y_pickF ?_
   refine q_split (ht := fun c10 => ?_) (hf := fun c10 => ?_)
   · replace hF := bt c10 hF
     iterate 6 (refine q_sk rfl rfl ?_)
     refine qy y_pickT ?_
     refine q_nilN (h := ?_)
     clear hS; intro w hS
     refine c_if_true (h := ?_)
     refine c_seq <| c_region <| oy hS y_assign <| n_thenN ?_
     obtain rfl := osi hF
     obtain rfl : _ = r := hK8
     exact wp_ret (wr1 hS)
   replace hF := bf c10 hF
   refine q_gu rfl rfl rfl ?_
   refine qy (y_field fa_api_Ins_3) ?_
   refine q_gu rfl rfl rfl ?_
   refine qy (y_load (fun w hS => hS.own (mH)) underlying3 rfl rfl) ?_
   refine q_gu rfl rfl rfl ?_
   refine qy y_move ?_
   refine q_gu rfl rfl rfl ?_
   refine q_callS func70 rfl rfl (hc := (w_r3_HasB (a0 := r3))) (h := ?_)
   refine q_gu rfl rfl rfl ?_
   refine q_callS func91 rfl rfl (hc := (w_r3_reg (a0 := a0.B) (a1 := (r3_HasB r3)))) (h := ?_)
   refine q_gu rfl rfl rfl ?_
   refine qy y_not <| qy y_pickF ?_
   refine q_nilN (h := ?_)
   clear hS; intro w hS
   refine c_if (ht := fun c11 => ?_) (hf := fun c11 => ?_)
   · replace hF := bt c11 hF
     refine c_seq <| c_region <| oy hS y_assign <| n_thenN ?_
     obtain rfl := osi hF
     obtain rfl : _ = r := hK8
     exact wp_ret (wr1 hS)
   replace hF := bf c11 hF
   refine wp_skip ?_
   obtain rfl := osi hF
   change _ ∧ _
   exact ⟨hK8, mk_exF, (hS.re (.b .hb .n))⟩
 rintro a w ⟨hF, ⟨s12, rfl⟩, hS⟩
 dsimp only [r3_Ins_k1] at hF
 iterate 2 (refine c_seq ?_)
 refine c_region <| oy hS (y_field fa_api_Ins_5) <| oy hS (y_load (fun w hS => hS.own (mH)) underlying9 rfl rfl) <| oy hS y_sneq <| n_thenN ?_
 refine c_if (ht := fun c13 => ?_) (hf := fun c13 => ?_)
 · replace hF := bt c13 hF
   refine c_seq <| c_region <| oy hS (y_field fa_api_Ins_5) <| oy hS (y_load (fun w hS => hS.own (mH)) underlying9 rfl rfl) ?_
   obtain ⟨r14, hr14, hF⟩ := ob hF
   refine o_callS hS func92 rfl rfl (hc := (w_r3_Name (a0 := a0.Sym) (hF := hr14))) (h := ?_)
   clear hS; intro w hS
   refine o_split (ht := fun c15 => ?_) (hf := fun c15 => ?_)
   · replace hF := bt c15 hF
     refine o_gu rfl rfl rfl <| oy hS (y_field fa_api_Ins_0) <| o_gu rfl rfl rfl <| oy hS (y_load (fun w hS => hS.own (mH)) underlying3 rfl rfl) <| o_gu rfl rfl rfl <| oy hS y_bin <| o_gu rfl rfl rfl ?_
     refine o_split (ht := fun c16 => ?_) (hf := fun c16 => ?_)
     · replace hF := bt c16 hF
       refine o_gu rfl rfl rfl <| oy hS (y_field fa_api_Ins_4) <| o_gu rfl rfl rfl <| oy hS (y_load (fun w hS => hS.own (mH)) underlying3 rfl rfl) <| o_gu rfl rfl rfl ?_
       obtain ⟨r17, hr17, hF⟩ := ob hF
       refine o_callS hS func93 rfl rfl (hc := (w_r1_Fits (a0 := a0.Imm) (a1 := 18) (hF := hr17))) (h := ?_)
       clear hS; intro w hS
       refine o_gu rfl rfl rfl <| oy hS y_pickT <| o_gu rfl rfl rfl ?_
       refine o_split (ht := fun c18 => ?_) (hf := fun c18 => ?_)
       · replace hF := bt c18 hF
         iterate 3 (refine o_sk rfl rfl ?_)
         iterate 3 (refine o_sku rfl rfl ?_)
         refine o_sk rfl rfl ?_
         refine o_gu rfl rfl rfl ?_
         iterate 2 (refine oy hS y_pickT ?_)
         refine oy hS y_assign <| n_thenN ?_
         obtain rfl := osi hF
         exact wp_ret (wr1 hS)
       replace hF := bf c18 hF
       refine o_gu rfl rfl rfl <| oy hS y_move <| o_gu rfl rfl rfl ?_
       refine o_callS hS func94 rfl rfl (hc := (w_r3_Target (a0 := r3))) (h := ?_)
       clear hS; intro w hS
       refine o_gu rfl rfl rfl ?_
       refine o_split (ht := fun c19 => ?_) (hf := fun c19 => ?_)
       · replace hF := bt c19 hF
         refine o_gu rfl rfl rfl <| oy hS (y_field fa_api_Ins_4) <| o_gu rfl rfl rfl <| oy hS (y_load (fun w hS => hS.own (mH)) underlying3 rfl rfl) <| o_gu rfl rfl rfl <| oy hS y_bin <| o_gu rfl rfl rfl <| oy hS y_pickT ?_
         refine o_gu rfl rfl rfl <| oy hS y_pickF <| oy hS y_pickT <| oy hS y_assign <| n_thenN ?_
         obtain rfl := osi hF
         exact wp_ret (wr1 hS)
       replace hF := bf c19 hF
       iterate 3 (refine o_sk rfl rfl ?_)
       refine o_gu rfl rfl rfl <| oy hS y_pickF <| o_gu rfl rfl rfl <| oy hS y_pickF <| oy hS y_pickT <| oy hS y_assign <| n_thenN ?_
       obtain rfl := osi hF
       exact wp_ret (wr1 hS)
     replace hF := bf c16 hF
     iterate 3 (refine o_sk rfl rfl ?_)
     refine o_gu rfl rfl rfl <| oy hS y_pickF <| o_gu rfl rfl rfl <| oy hS y_move <| o_gu rfl rfl rfl <| oy hS y_move <| o_gu rfl rfl rfl ?_
     refine o_callS hS func94 rfl rfl (hc := (w_r3_Target (a0 := r3))) (h := ?_)
     clear hS; intro w hS
     refine o_gu rfl rfl rfl ?_
     refine o_split (ht := fun c20 => ?_) (hf := fun c20 => ?_)
     · replace hF := bt c20 hF
       refine o_gu rfl rfl rfl <| oy hS (y_field fa_api_Ins_4) <| o_gu rfl rfl rfl <| oy hS (y_load (fun w hS => hS.own (mH)) underlying3 rfl rfl) <| o_gu rfl rfl rfl <| oy hS y_bin <| o_gu rfl rfl rfl <| oy hS y_pickT ?_
       refine o_gu rfl rfl rfl <| oy hS y_pickF <| oy hS y_pickT <| oy hS y_assign <| n_thenN ?_
       obtain rfl := osi hF
       exact wp_ret (wr1 hS)
     replace hF := bf c20 hF
     iterate 3 (refine o_sk rfl rfl ?_)
     refine o_gu rfl rfl rfl <| oy hS y_pickF <| o_gu rfl rfl rfl <| oy hS y_pickF <| oy hS y_pickT <| oy hS y_assign <| n_thenN ?_
     obtain rfl := osi hF
     exact wp_ret (wr1 hS)
   replace hF := bf c15 hF
   iterate 4 (refine o_sk rfl rfl ?_)
   iterate 3 (refine o_sku rfl rfl ?_)
   iterate 2 (refine o_sk rfl rfl ?_)
   iterate 7 (refine o_sku rfl rfl ?_)
   refine o_sk rfl rfl ?_
   refine oy hS y_pickF <| oy hS y_assign <| n_thenN ?_
   obtain rfl := osi hF
   exact wp_ret (wr1 hS)
 replace hF := bf c13 hF
 refine wp_skip <| c_seq <| c_block <| c_seq <| c_region <| oy hS y_move ?_
 refine o_callS hS func94 rfl rfl (hc := (w_r3_Target (a0 := r3))) (h := ?_)
 clear hS; intro w hS
 refine oy hS y_assign <| n_thenN ?_
 refine c_if (ht := fun c21 => ?_) (hf := fun c21 => ?_)
 · replace hF := bt c21 hF
   refine c_seq <| c_region <| oy hS (y_field fa_api_Ins_4) <| oy hS (y_load (fun w hS => hS.own (mH)) underlying3 rfl rfl) ?_
   refine o_callS hS func40 rfl rfl (hc := (w_r0_Num (a0 := a0.Imm) (a1 := 1023))) (h := ?_)
   clear hS; intro w hS
   refine oy hS y_assign <| n_thenN ?_
   obtain rfl := osi hF
   exact wp_ret (wr1 hS)
 replace hF := bf c21 hF
 refine c_seq <| c_region <| oy hS y_move ?_
 refine o_callS hS func95 rfl rfl (hc := (w_r3_Bits (a0 := r3))) (h := ?_)
 clear hS; intro w hS
 refine oy hS y_bin <| oy hS y_assign <| n_thenN ?_
 refine c_if (ht := fun c22 => ?_) (hf := fun c22 => ?_)
 · replace hF := bt c22 hF
   refine c_seq ?_
   refine c_quiet (by kernel_rfl) (by kernel_rfl) hS ?_
   refine qy (y_field fa_api_Ins_4) <| qy (y_load (fun w hS => hS.own (mH)) underlying3 rfl rfl) <| qy y_move ?_
   refine q_callS func95 rfl rfl (hc := (w_r3_Bits (a0 := r3))) (h := ?_)
   obtain ⟨r23, hr23, hF⟩ := ob hF
   refine q_callS func93 rfl rfl (hc := (w_r1_Fits (a0 := a0.Imm) (a1 := (r3_Bits r3)) (hF := hr23))) (h := ?_)
   refine qy y_assign ?_
   refine q_nilN (h := ?_)
   clear hS; intro w hS
   obtain rfl := osi hF
   exact wp_ret (wr1 hS)
 replace hF := bf c22 hF
 refine wp_skip <| c_seq <| c_region <| oy hS (y_field fa_api_Ins_4) <| oy hS (y_load (fun w hS => hS.own (mH)) underlying3 rfl rfl) <| oy hS y_bin <| oy hS y_assign <| n_thenN ?_
 obtain rfl := osi hF
 exact wp_ret (wr1 hS)
theorem w_r3_Ins {g : Frag} {a0 : T_Ins} {r : Bool}  (hF : r3_Ins a0 = some r) : LCs Try.prog 75 #[.agg (enc_Ins a0).toArray] g (.bool r) := w_r3_Ins_  hF

noncomputable def r3_May (a0 : Int) (a1 : Int) : Option Bool :=
  bif (r3_Valid a0) then (r0_In (r3_Slots a0) a1).bind fun r9 => some (decide (0 ≤ r9)) else some (false)
theorem w_r3_May_ {g : Frag} {a0 : Int} {a1 : Int} {r : Bool}  (hF : r3_May a0 a1 = some r) : LCs Try.prog 76 #[.int .i64 a0, .int .i64 a1] g (.bool r) := by
 unfold r3_May at hF
 refine lc_body (k := 14) (av := [.int .i64 a0, .int .i64 a1]) func76 rfl rfl (h := fun W hS => ?_)
 refine c_seq <| c_region <| oy hS y_assign <| n_thenN <| c_seq <| c_region <| oy hS y_move ?_
 refine o_callS hS func90 rfl rfl (hc := (w_r3_Valid (a0 := a0))) (h := ?_)
 clear hS; intro w hS
 refine o_split (ht := fun c1 => ?_) (hf := fun c1 => ?_)
 · replace hF := bt c1 hF
   refine o_gu rfl rfl rfl <| oy hS y_move <| o_gu rfl rfl rfl ?_
   refine o_call0 hS func24 rfl rfl (hc := (w_r3_Slots (a0 := a0))) (h := ?_)
   clear hS; intro v2 LY3 w hS hr4
   obtain ⟨v_0_5, LX_0_6, rfl, rfl, h_0_7⟩ := hr4
   simp only [aa, ac, al] at hS
   refine o_gu rfl rfl rfl <| oy hS y_move <| o_gu rfl rfl rfl ?_
   obtain ⟨r9, hr9, hF⟩ := ob hF
   refine o_callS hS func50 rfl rfl (hc := (w_r0_In (a0 := (r3_Slots a0)) (a1 := a1) (h0 := (OwT.plus h_0_7 hS (fun p hp => mA (hp)))) (hF := hr9))) (h := ?_)
   clear hS; intro w hS
   refine o_gu rfl rfl rfl <| oy hS y_bin <| oy hS y_pickT <| oy hS y_assign <| n_thenN ?_
   obtain rfl := osi hF
   exact wp_ret (wr1 hS)
 replace hF := bf c1 hF
 iterate 5 (refine o_sk rfl rfl ?_)
 refine oy hS y_pickF <| oy hS y_assign <| n_thenN ?_
 obtain rfl := osi hF
 exact wp_ret (wr1 hS)
theorem w_r3_May {g : Frag} {a0 : Int} {a1 : Int} {r : Bool}  (hF : r3_May a0 a1 = some r) : LCs Try.prog 76 #[.int .i64 a0, .int .i64 a1] g (.bool r) := w_r3_May_  hF

noncomputable def r3_Bundle_b1 (a0 : (A4 T_Ins)) (a1 : Bool) : Int → Option (Step Int Bool) := fun x9 => bif decide (x9 < 4) then (at' [a0.x0, a0.x1, a0.x2, a0.x3] x9).bind fun x25 => (r3_Ins x25).bind fun r26 => bif !r26 then some (.done (false)) else (at' [a0.x0, a0.x1, a0.x2, a0.x3] x9).bind fun x28 => (r3_May x28.Op x9).bind fun r29 => bif !r29 then some (.done (false)) else bif a1 then (at' [a0.x0, a0.x1, a0.x2, a0.x3] x9).bind fun x32 => bif !(decide (x32.Sym = (ByteArray.mk #[]))) then some (.done (false)) else some (.next (IntKind.i64.wrap (x9 + 1))) else some (.next (IntKind.i64.wrap (x9 + 1))) else some (.done (true))
noncomputable def r3_Bundle (a0 : (A4 T_Ins)) (a1 : Bool) : Option Bool :=
  loop (σ := Int) (r3_Bundle_b1 a0 a1) 0
theorem w_r3_Bundle_ {g : Frag} {a0 : (A4 T_Ins)} {a1 : Bool} {r : Bool}  (hF : r3_Bundle a0 a1 = some r) : LCs Try.prog 53 #[.agg (enc_Bundle a0).toArray, .bool a1] g (.bool r) := by
 unfold r3_Bundle at hF
 refine lc_body (k := 34) (av := [.agg (enc_Bundle a0).toArray, .bool a1]) func53 rfl rfl (h := fun W hS => ?_)
 refine c_seq <| c_region ?_
 refine o_boxP (cl := (enc_Bundle a0)) rfl hS ?_
 clear hS; intro b1 w hS
 refine oy hS y_assign <| n_thenN ?_
 iterate 2 (refine c_seq ?_)
 refine c_region <| oy hS y_assign <| n_thenN <| c_block ?_
 refine c_loopP hF (fun (q : Int) a w' => (∃ s : Nat → Value, a = Ac ((((Fm.dead 34 s).upd 1 (.bool a1)).upd 2 (.pointer (some ⟨b1, 0, none⟩))).upd 5 (.int .i64 q))) ∧ St W g [] ((b1, blk (enc_Bundle a0) 37) :: []) w') ⟨mk_exF, (hS.re (.b .hb .n))⟩ ?_
 clear hS hF
 intro n22 q a w hI hq
 revert hq hI; revert q; intro x9 hI hq
 obtain ⟨⟨s23, rfl⟩, hS⟩ := hq
 obtain ⟨z20, hF, hK21⟩ := iter_step hI
 clear hI
 dsimp only [r3_Bundle_b1] at hF
 iterate 2 (refine c_seq ?_)
 refine c_region <| oy hS y_move <| oy hS y_bin <| n_thenN ?_
 refine c_if (ht := fun c24 => ?_) (hf := fun c24 => ?_)
 · replace hF := bt c24 hF
   refine wp_skip <| c_seq <| c_block <| c_seq <| c_region <| oy hS y_move ?_
   obtain ⟨x25, hx25, hF⟩ := ob hF
   refine oy hS (y_indexA (at'_bnd hx25 rfl).1 (at'_bnd hx25 (n := 4) rfl).2 underlying37 (by exact sz_api_Ins)) ?_
   refine oy hS (y_loadN (vs := (enc_Ins x25)) (fun w hS => hS.own (mH)) underlying31 rfl (by exact sz_api_Ins) (arr_box (o := 0) (xs := [a0.x0, a0.x1, a0.x2, a0.x3]) (pre := []) (post := []) hx25 enc_len_Ins (by exact rfl) rfl)) ?_
   obtain ⟨r26, hr26, hF⟩ := ob hF
   refine o_callS hS func75 rfl rfl (hc := (w_r3_Ins (a0 := x25) (hF := hr26))) (h := ?_)
   clear hS; intro w hS
   refine oy hS y_not ?_
   refine o_split (ht := fun c27 => ?_) (hf := fun c27 => ?_)
   · replace hF := bt c27 hF
     iterate 7 (refine o_sk rfl rfl ?_)
     refine oy hS y_pickT <| oy hS y_move ?_
     iterate 2 (refine o_sk rfl rfl ?_)
     iterate 5 (refine o_sku rfl rfl ?_)
     refine o_sk rfl rfl ?_
     refine oy hS y_pickT <| n_thenN ?_
     refine c_if_true (h := ?_)
     refine c_seq <| c_region <| oy hS y_assign <| n_thenN ?_
     obtain rfl := osi hF
     obtain rfl : _ = r := hK21
     exact wp_ret (wr1 hS)
   replace hF := bf c27 hF
   refine o_gu rfl rfl rfl <| oy hS y_move <| o_gu rfl rfl rfl ?_
   obtain ⟨x28, hx28, hF⟩ := ob hF
   refine oy hS (y_indexA (at'_bnd hx28 rfl).1 (at'_bnd hx28 (n := 4) rfl).2 underlying37 (by exact sz_api_Ins)) ?_
   refine o_gu rfl rfl rfl <| oy hS (y_field fa_api_Ins_0) <| o_gu rfl rfl rfl ?_
   refine oy hS (y_load (fun w hS => hS.own (mH)) underlying3 rfl ((arr_box (o := 0) (xs := [a0.x0, a0.x1, a0.x2, a0.x3]) (pre := []) (post := []) hx28 enc_len_Ins (by exact rfl) rfl) 0 _ rfl)) ?_
   refine o_gu rfl rfl rfl <| oy hS y_move <| o_gu rfl rfl rfl ?_
   obtain ⟨r29, hr29, hF⟩ := ob hF
   refine o_callS hS func76 rfl rfl (hc := (w_r3_May (a0 := x28.Op) (a1 := x9) (hF := hr29))) (h := ?_)
   clear hS; intro w hS
   refine o_gu rfl rfl rfl <| oy hS y_not <| oy hS y_pickF ?_
   refine o_split (ht := fun c30 => ?_) (hf := fun c30 => ?_)
   · replace hF := bt c30 hF
     iterate 2 (refine o_sk rfl rfl ?_)
     iterate 5 (refine o_sku rfl rfl ?_)
     refine o_sk rfl rfl ?_
     refine oy hS y_pickT <| n_thenN ?_
     refine c_if_true (h := ?_)
     refine c_seq <| c_region <| oy hS y_assign <| n_thenN ?_
     obtain rfl := osi hF
     obtain rfl : _ = r := hK21
     exact wp_ret (wr1 hS)
   replace hF := bf c30 hF
   refine o_gu rfl rfl rfl <| oy hS y_move <| o_gu rfl rfl rfl ?_
   refine o_split (ht := fun c31 => ?_) (hf := fun c31 => ?_)
   · replace hF := bt c31 hF
     refine o_gu rfl rfl rfl <| oy hS y_move <| o_gu rfl rfl rfl ?_
     obtain ⟨x32, hx32, hF⟩ := ob hF
     refine oy hS (y_indexA (at'_bnd hx32 rfl).1 (at'_bnd hx32 (n := 4) rfl).2 underlying37 (by exact sz_api_Ins)) ?_
     refine o_gu rfl rfl rfl <| oy hS (y_field fa_api_Ins_5) <| o_gu rfl rfl rfl ?_
     refine oy hS (y_load (fun w hS => hS.own (mH)) underlying9 rfl ((arr_box (o := 0) (xs := [a0.x0, a0.x1, a0.x2, a0.x3]) (pre := []) (post := []) hx32 enc_len_Ins (by exact rfl) rfl) 5 _ rfl)) ?_
     refine o_gu rfl rfl rfl <| oy hS y_sneq <| o_gu rfl rfl rfl <| oy hS y_pickT <| oy hS y_pickF <| n_thenN ?_
     refine c_if (ht := fun c33 => ?_) (hf := fun c33 => ?_)
     · replace hF := bt c33 hF
       refine c_seq <| c_region <| oy hS y_assign <| n_thenN ?_
       obtain rfl := osi hF
       obtain rfl : _ = r := hK21
       exact wp_ret (wr1 hS)
     replace hF := bf c33 hF
     refine wp_skip <| c_region <| oy hS y_move <| oy hS y_bin <| oy hS y_assign <| n_thenN ?_
     obtain rfl := osi hF
     exact ⟨_, hK21, mk_exF, (hS.re (.b .hb .n))⟩
   replace hF := bf c31 hF
   iterate 5 (refine o_sk rfl rfl ?_)
   refine o_gu rfl rfl rfl ?_
   iterate 2 (refine oy hS y_pickF ?_)
   refine n_thenN ?_
   refine c_if_false (h := ?_)
   refine wp_skip <| c_region <| oy hS y_move <| oy hS y_bin <| oy hS y_assign <| n_thenN ?_
   obtain rfl := osi hF
   exact ⟨_, hK21, mk_exF, (hS.re (.b .hb .n))⟩
 replace hF := bf c24 hF
 refine wp_exit ?_
 refine c_seq <| c_region <| oy hS y_assign <| n_thenN ?_
 obtain rfl := osi hF
 obtain rfl : _ = r := hK21
 exact wp_ret (wr1 hS)
theorem w_r3_Bundle {g : Frag} {a0 : (A4 T_Ins)} {a1 : Bool} {r : Bool}  (hF : r3_Bundle a0 a1 = some r) : LCs Try.prog 53 #[.agg (enc_Bundle a0).toArray, .bool a1] g (.bool r) := w_r3_Bundle_  hF

noncomputable def r3_Code_b1 (a0 : (List (A4 T_Ins))) : Int → Option (Step Int Bool) := fun x17 => bif decide (x17 < (a0.length : Int)) then bif decide (x17 ≤ 1024) then (at' a0 x17).bind fun x40 => (r3_Bundle x40 true).bind fun r52 => bif !r52 then some (.done (false)) else some (.next (IntKind.i64.wrap (x17 + 1))) else some (.done (decide ((a0.length : Int) ≤ 1024))) else some (.done (decide ((a0.length : Int) ≤ 1024)))
noncomputable def r3_Code (a0 : (List (A4 T_Ins))) : Option Bool :=
  loop (σ := Int) (r3_Code_b1 a0) 0
theorem w_r3_Code_ {g : Frag} {a0 : (List (A4 T_Ins))} {v0_ : Value} {r : Bool} (h0 : SlT g enc_Bundle 24 a0 v0_) (hF : r3_Code a0 = some r) : LCs Try.prog 38 #[v0_] g (.bool r) := by
 unfold r3_Code at hF
 refine lc_body (k := 23) (av := [v0_]) func38 rfl rfl (h := fun W hS => ?_)
 refine c_seq <| c_region <| oy hS y_assign <| n_thenN ?_
 iterate 2 (refine c_seq ?_)
 refine c_region <| oy hS y_assign <| n_thenN <| c_block ?_
 refine c_loopP hF (fun (q : Int) a w' => (∃ s : Nat → Value, a = Ac (((Fm.dead 23 s).upd 0 v0_).upd 3 (.int .i64 q))) ∧ St W g [] [] w') ⟨mk_exF, (hS.re (.n))⟩ ?_
 clear hS hF
 intro n36 q a w hI hq
 revert hq hI; revert q; intro x17 hI hq
 obtain ⟨⟨s37, rfl⟩, hS⟩ := hq
 obtain ⟨z34, hF, hK35⟩ := iter_step hI
 clear hI
 dsimp only [r3_Code_b1] at hF
 iterate 2 (refine c_seq ?_)
 refine c_region ?_
 iterate 2 (refine oy hS y_move ?_)
 refine oy hS (y_len h0 underlying22) <| oy hS y_bin ?_
 refine o_split (ht := fun c38 => ?_) (hf := fun c38 => ?_)
 · replace hF := bt c38 hF
   refine o_gu rfl rfl rfl <| oy hS y_move <| o_gu rfl rfl rfl <| oy hS y_bin <| oy hS y_pickT <| n_thenN ?_
   refine c_if (ht := fun c39 => ?_) (hf := fun c39 => ?_)
   · replace hF := bt c39 hF
     refine wp_skip <| c_seq <| c_block <| c_seq <| c_region ?_
     iterate 2 (refine oy hS y_move ?_)
     obtain ⟨x40, hx40, hF⟩ := ob hF
     obtain ⟨b41, o42, c43, cs44, e45, fz46, hv47, ha48, hb49, hd50, hc51⟩ := SlT.at hx40 h0 enc_len_Bundle
     refine oy hS (y_index hv47 ha48 hb49 underlying22 el_api_Bundle.size) ?_
     refine oy hS (y_loadN (vs := (enc_Bundle x40)) (fun w hS => hS.block hd50) underlying37 rfl (by exact sz_api_Bundle) (fun j u hj => hc51 j u hj)) ?_
     obtain ⟨r52, hr52, hF⟩ := ob hF
     refine o_callS hS func53 rfl rfl (hc := (w_r3_Bundle (a0 := x40) (a1 := true) (hF := hr52))) (h := ?_)
     clear hS; intro w hS
     refine oy hS y_not <| n_thenN ?_
     refine c_if (ht := fun c53 => ?_) (hf := fun c53 => ?_)
     · replace hF := bt c53 hF
       refine c_seq <| c_region <| oy hS y_assign <| n_thenN ?_
       obtain rfl := osi hF
       obtain rfl : _ = r := hK35
       exact wp_ret (wr1 hS)
     replace hF := bf c53 hF
     refine wp_skip <| c_region <| oy hS y_move <| oy hS y_bin <| oy hS y_assign <| n_thenN ?_
     obtain rfl := osi hF
     exact ⟨_, hK35, mk_exF, (hS.re (.n))⟩
   replace hF := bf c39 hF
   refine wp_exit ?_
   refine c_seq <| c_region <| oy hS y_move <| oy hS (y_len h0 underlying22) <| oy hS y_bin <| oy hS y_assign <| n_thenN ?_
   obtain rfl := osi hF
   obtain rfl : _ = r := hK35
   exact wp_ret (wr1 hS)
 replace hF := bf c38 hF
 iterate 2 (refine o_sk rfl rfl ?_)
 refine oy hS y_pickF <| n_thenN ?_
 refine c_if_false (h := ?_)
 refine wp_exit ?_
 refine c_seq <| c_region <| oy hS y_move <| oy hS (y_len h0 underlying22) <| oy hS y_bin <| oy hS y_assign <| n_thenN ?_
 obtain rfl := osi hF
 obtain rfl : _ = r := hK35
 exact wp_ret (wr1 hS)
theorem w_r3_Code {g : Frag} {a0 : (List (A4 T_Ins))} {v0_ : Value} {r : Bool} (h0 : SlT g enc_Bundle 24 a0 v0_) (hF : r3_Code a0 = some r) : LCs Try.prog 38 #[v0_] g (.bool r) := w_r3_Code_ h0 hF
end Go.Proofs.Ythbpicnbkdbbmaa
