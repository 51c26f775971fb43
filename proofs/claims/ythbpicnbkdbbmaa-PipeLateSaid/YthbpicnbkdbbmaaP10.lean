/- Functions, lifted. Printed by lift.py. -/
import Derived.Test.YthbpicnbkdbbmaaProg
import Derived.Test.YthbpicnbkdbbmaaP9
import Derived.KernelRfl
namespace Go.Proofs.Ythbpicnbkdbbmaa
open Go Go.RowKit Fr
set_option linter.unusedVariables false
set_option linter.unusedSimpArgs false
set_option maxRecDepth 20000
open Try
set_option maxHeartbeats 2000000
noncomputable def r5_common_b2 (a0 : T_State) : Int → Option (Step Int Bool) := fun x31 => bif decide (x31 < (a0.Stack.length : Int)) then (at' a0.Stack x31).bind fun x51 => bif !(r0_Num x51 1024) then some (.done (false)) else some (.next (IntKind.i64.wrap (x31 + 1))) else some (.done (true))
noncomputable def r5_common_k1 (a0 : T_State) : Unit → Option Bool := fun _ => loop (σ := Int) (r5_common_b2 a0) 0
noncomputable def r5_common (a0 : T_State) : Option Bool :=
  cut (σ := Unit) (bif decide ((a0.Regs.length : Int) ≠ 16) then some (.done (false)) else bif decide ((a0.Mem.length : Int) ≠ 256) then some (.done (false)) else bif decide (100 < (a0.In_.length : Int)) then some (.done (false)) else bif !(r0_Num a0.Taken (a0.In_.length : Int)) then some (.done (false)) else bif !(r0_Num a0.PC 1024) then some (.done (false)) else bif decide (16 < (a0.Stack.length : Int)) then some (.done (false)) else some (.next ())) (r5_common_k1 a0)
theorem w_r5_common_ {g : Frag} {a0 : T_State} {v0_ : Value} {r : Bool} (h0 : Rd_State g a0 v0_) (hF : r5_common a0 = some r) : LCs Try.prog 39 #[v0_] g (.bool r) := by
 obtain ⟨v0_0_, v0_1_, v0_2_, v0_4_, v0_6_, v0_8_, rfl, h0_0_, h0_1_, h0_2_, h0_4_, h0_6_, h0_8_⟩ := h0
 unfold r5_common at hF
 refine lc_body (k := 55) (av := [.agg (cl_State v0_0_ v0_1_ v0_2_ a0.Taken v0_4_ a0.PC v0_6_ a0.Stop v0_8_ a0.Jump a0.Delay).toArray]) func39 rfl rfl (h := fun W hS => ?_)
 refine c_seq <| c_region ?_
 refine o_boxP (cl := (cl_State v0_0_ v0_1_ v0_2_ a0.Taken v0_4_ a0.PC v0_6_ a0.Stop v0_8_ a0.Jump a0.Delay)) rfl hS ?_
 clear hS; intro b1 w hS
 refine oy hS y_assign <| n_thenN ?_
 obtain ⟨z8, hF, hK9⟩ := cut_step hF
 refine c_cutP (fun a w' => r5_common_k1 a0 () = some r ∧ (∃ s : Nat → Value, a = Ac ((Fm.dead 55 s).upd 1 (.pointer (some ⟨b1, 0, none⟩)))) ∧ St W g [] ((b1, blk (cl_State v0_0_ v0_1_ v0_2_ a0.Taken v0_4_ a0.PC v0_6_ a0.Stop v0_8_ a0.Jump a0.Delay) 27) :: []) w') ?_ ?_
 · skip
   refine c_seq <| c_region <| oy hS (y_field fa_api_State_0) <| oy hS (y_load (fun w hS => hS.own (mH)) underlying23 rfl rfl) <| oy hS (y_len h0_0_ underlying23) <| oy hS y_bin ?_
   refine o_split (ht := fun c10 => ?_) (hf := fun c10 => ?_)
   · replace hF := bt c10 hF
     iterate 4 (refine o_sk rfl rfl ?_)
     refine oy hS y_pickT <| oy hS y_move ?_
     iterate 4 (refine o_sk rfl rfl ?_)
     refine oy hS y_pickT <| oy hS y_move ?_
     iterate 7 (refine o_sk rfl rfl ?_)
     refine oy hS y_pickT <| oy hS y_move ?_
     iterate 4 (refine o_sk rfl rfl ?_)
     refine oy hS y_pickT <| oy hS y_move ?_
     iterate 4 (refine o_sk rfl rfl ?_)
     refine oy hS y_pickT <| n_thenN ?_
     refine c_if_true (h := ?_)
     refine c_seq <| c_region <| oy hS y_assign <| n_thenN ?_
     obtain rfl := osi hF
     obtain rfl : _ = r := hK9
     exact wp_ret (wr1 hS)
   replace hF := bf c10 hF
   refine o_gu rfl rfl rfl <| oy hS (y_field fa_api_State_1) <| o_gu rfl rfl rfl <| oy hS (y_load (fun w hS => hS.own (mH)) underlying23 rfl rfl) <| o_gu rfl rfl rfl <| oy hS (y_len h0_1_ underlying23) <| o_gu rfl rfl rfl <| oy hS y_bin ?_
   refine oy hS y_pickF ?_
   refine o_split (ht := fun c11 => ?_) (hf := fun c11 => ?_)
   · replace hF := bt c11 hF
     iterate 4 (refine o_sk rfl rfl ?_)
     refine oy hS y_pickT <| oy hS y_move ?_
     iterate 7 (refine o_sk rfl rfl ?_)
     refine oy hS y_pickT <| oy hS y_move ?_
     iterate 4 (refine o_sk rfl rfl ?_)
     refine oy hS y_pickT <| oy hS y_move ?_
     iterate 4 (refine o_sk rfl rfl ?_)
     refine oy hS y_pickT <| n_thenN ?_
     refine c_if_true (h := ?_)
     refine c_seq <| c_region <| oy hS y_assign <| n_thenN ?_
     obtain rfl := osi hF
     obtain rfl : _ = r := hK9
     exact wp_ret (wr1 hS)
   replace hF := bf c11 hF
   refine o_gu rfl rfl rfl <| oy hS (y_field fa_api_State_2) <| o_gu rfl rfl rfl <| oy hS (y_load (fun w hS => hS.own (mH)) underlying23 rfl rfl) <| o_gu rfl rfl rfl <| oy hS (y_len h0_2_ underlying23) <| o_gu rfl rfl rfl <| oy hS y_bin ?_
   refine oy hS y_pickF ?_
   refine o_split (ht := fun c12 => ?_) (hf := fun c12 => ?_)
   · replace hF := bt c12 hF
     iterate 7 (refine o_sk rfl rfl ?_)
     refine oy hS y_pickT <| oy hS y_move ?_
     iterate 4 (refine o_sk rfl rfl ?_)
     refine oy hS y_pickT <| oy hS y_move ?_
     iterate 4 (refine o_sk rfl rfl ?_)
     refine oy hS y_pickT <| n_thenN ?_
     refine c_if_true (h := ?_)
     refine c_seq <| c_region <| oy hS y_assign <| n_thenN ?_
     obtain rfl := osi hF
     obtain rfl : _ = r := hK9
     exact wp_ret (wr1 hS)
   replace hF := bf c12 hF
   refine o_gu rfl rfl rfl <| oy hS (y_field fa_api_State_3) <| o_gu rfl rfl rfl <| oy hS (y_load (fun w hS => hS.own (mH)) underlying3 rfl rfl) <| o_gu rfl rfl rfl <| oy hS (y_field fa_api_State_2) <| o_gu rfl rfl rfl <| oy hS (y_load (fun w hS => hS.own (mH)) underlying23 rfl rfl) ?_
   refine o_gu rfl rfl rfl <| oy hS (y_len h0_2_ underlying23) <| o_gu rfl rfl rfl ?_
   refine o_callS hS func40 rfl rfl (hc := (w_r0_Num (a0 := a0.Taken) (a1 := (a0.In_.length : Int)))) (h := ?_)
   clear hS; intro w hS
   refine o_gu rfl rfl rfl <| oy hS y_not <| oy hS y_pickF ?_
   refine o_split (ht := fun c13 => ?_) (hf := fun c13 => ?_)
   · replace hF := bt c13 hF
     iterate 4 (refine o_sk rfl rfl ?_)
     refine oy hS y_pickT <| oy hS y_move ?_
     iterate 4 (refine o_sk rfl rfl ?_)
     refine oy hS y_pickT <| n_thenN ?_
     refine c_if_true (h := ?_)
     refine c_seq <| c_region <| oy hS y_assign <| n_thenN ?_
     obtain rfl := osi hF
     obtain rfl : _ = r := hK9
     exact wp_ret (wr1 hS)
   replace hF := bf c13 hF
   refine o_gu rfl rfl rfl <| oy hS (y_field fa_api_State_5) <| o_gu rfl rfl rfl <| oy hS (y_load (fun w hS => hS.own (mH)) underlying3 rfl rfl) <| o_gu rfl rfl rfl ?_
   refine o_callS hS func40 rfl rfl (hc := (w_r0_Num (a0 := a0.PC) (a1 := 1024))) (h := ?_)
   clear hS; intro w hS
   refine o_gu rfl rfl rfl <| oy hS y_not <| oy hS y_pickF ?_
   refine o_split (ht := fun c14 => ?_) (hf := fun c14 => ?_)
   · replace hF := bt c14 hF
     iterate 4 (refine o_sk rfl rfl ?_)
     refine oy hS y_pickT <| n_thenN ?_
     refine c_if_true (h := ?_)
     refine c_seq <| c_region <| oy hS y_assign <| n_thenN ?_
     obtain rfl := osi hF
     obtain rfl : _ = r := hK9
     exact wp_ret (wr1 hS)
   replace hF := bf c14 hF
   refine o_gu rfl rfl rfl <| oy hS (y_field fa_api_State_6) <| o_gu rfl rfl rfl <| oy hS (y_load (fun w hS => hS.own (mH)) underlying24 rfl rfl) <| o_gu rfl rfl rfl <| oy hS (y_len h0_6_ underlying24) <| o_gu rfl rfl rfl <| oy hS y_bin ?_
   refine oy hS y_pickF <| n_thenN ?_
   refine c_if (ht := fun c15 => ?_) (hf := fun c15 => ?_)
   · replace hF := bt c15 hF
     refine c_seq <| c_region <| oy hS y_assign <| n_thenN ?_
     obtain rfl := osi hF
     obtain rfl : _ = r := hK9
     exact wp_ret (wr1 hS)
   replace hF := bf c15 hF
   refine wp_skip ?_
   obtain rfl := osi hF
   change _ ∧ _
   exact ⟨hK9, mk_exF, (hS.re (.b .hb .n))⟩
 rintro a w ⟨hF, ⟨s16, rfl⟩, hS⟩
 dsimp only [r5_common_k1] at hF
 iterate 2 (refine c_seq ?_)
 refine c_region <| oy hS y_assign <| n_thenN <| c_block ?_
 refine c_loopP hF (fun (q : Int) a w' => (∃ s : Nat → Value, a = Ac (((Fm.dead 55 s).upd 1 (.pointer (some ⟨b1, 0, none⟩))).upd 3 (.int .i64 q))) ∧ St W g [] ((b1, blk (cl_State v0_0_ v0_1_ v0_2_ a0.Taken v0_4_ a0.PC v0_6_ a0.Stop v0_8_ a0.Jump a0.Delay) 27) :: []) w') ⟨mk_exF, (hS.re (.b .hb .n))⟩ ?_
 clear hS hF
 intro n48 q a w hI hq
 revert hq hI; revert q; intro x31 hI hq
 obtain ⟨⟨s49, rfl⟩, hS⟩ := hq
 obtain ⟨z46, hF, hK47⟩ := iter_step hI
 clear hI
 dsimp only [r5_common_b2] at hF
 iterate 2 (refine c_seq ?_)
 refine c_region <| oy hS y_move <| oy hS (y_field fa_api_State_6) <| oy hS (y_load (fun w hS => hS.own (mH)) underlying24 rfl rfl) <| oy hS (y_len h0_6_ underlying24) <| oy hS y_bin <| n_thenN ?_
 refine c_if (ht := fun c50 => ?_) (hf := fun c50 => ?_)
 · replace hF := bt c50 hF
   refine wp_skip <| c_seq <| c_block <| c_seq <| c_region <| oy hS (y_field fa_api_State_6) <| oy hS (y_load (fun w hS => hS.own (mH)) underlying24 rfl rfl) <| oy hS y_move ?_
   obtain ⟨x51, hx51, hF⟩ := ob hF
   obtain ⟨b52, o53, c54, cs55, e56, fz57, hv58, ha59, hb60, hd61, hc62⟩ := SlT.at hx51 h0_6_ enc_len_int
   refine oy hS (y_index hv58 ha59 hb60 underlying24 el_int.size) <| oy hS (y_load (fun w hS => hS.block hd61) underlying3 rfl (hc62 0 _ rfl)) ?_
   refine o_callS hS func40 rfl rfl (hc := (w_r0_Num (a0 := x51) (a1 := 1024))) (h := ?_)
   clear hS; intro w hS
   refine oy hS y_not <| n_thenN ?_
   refine c_if (ht := fun c63 => ?_) (hf := fun c63 => ?_)
   · replace hF := bt c63 hF
     refine c_seq <| c_region <| oy hS y_assign <| n_thenN ?_
     obtain rfl := osi hF
     obtain rfl : _ = r := hK47
     exact wp_ret (wr1 hS)
   replace hF := bf c63 hF
   refine wp_skip <| c_region <| oy hS y_move <| oy hS y_bin <| oy hS y_assign <| n_thenN ?_
   obtain rfl := osi hF
   exact ⟨_, hK47, mk_exF, (hS.re (.b .hb .n))⟩
 replace hF := bf c50 hF
 refine wp_exit ?_
 refine c_seq <| c_region <| oy hS y_assign <| n_thenN ?_
 obtain rfl := osi hF
 obtain rfl : _ = r := hK47
 exact wp_ret (wr1 hS)
theorem w_r5_common {g : Frag} {a0 : T_State} {v0_ : Value} {r : Bool} (h0 : Rd_State g a0 v0_) (hF : r5_common a0 = some r) : LCs Try.prog 39 #[v0_] g (.bool r) := w_r5_common_ h0 hF

noncomputable def r5_Pipe_b3 (a0 : T_State) : Int → Option (Step Int (Step Unit Bool)) := fun x130 => bif decide (x130 < (a0.Fly.length : Int)) then (at' a0.Fly x130).bind fun x163 => bif !(r0_Num x163.Reg 15) then some (.done (.done (false))) else (at' a0.Fly x130).bind fun x176 => bif !(r0_Num x176.Left 4) then some (.done (.done (false))) else some (.next (IntKind.i64.wrap (x130 + 1))) else some (.done (.next ()))
noncomputable def r5_Pipe_b6 (a0 : T_State) (x292 : Int) : (Int × Int) → Option (Step (Int × Int) (Step Int (Step Int Bool))) := fun (x465, x466) => bif decide (x466 < (a0.Fly.length : Int)) then (at' a0.Fly x466).bind fun x486 => bif decide (x292 ≤ x486.Left) then some (.next (IntKind.i64.wrap (x465 + 1), IntKind.i64.wrap (x466 + 1))) else some (.next (x465, IntKind.i64.wrap (x466 + 1))) else some (.done (.next x465))
noncomputable def r5_Pipe_k5 (x292 : Int) : Int → Option (Step Int Bool) := fun x448 => bif decide ((IntKind.i64.wrap (4 * (IntKind.i64.wrap (5 - x292)))) < x448) then some (.done (false)) else some (.next (IntKind.i64.wrap (x292 + 1)))
noncomputable def r5_Pipe_b4 (a0 : T_State) : Int → Option (Step Int Bool) := fun x292 => bif decide (x292 ≤ 4) then cut (σ := Int) (loop (σ := (Int × Int)) (r5_Pipe_b6 a0 x292) (0, 0)) (r5_Pipe_k5 x292) else some (.done (true))
noncomputable def r5_Pipe_k2 (a0 : T_State) : Unit → Option Bool := fun _ => loop (σ := Int) (r5_Pipe_b4 a0) 0
noncomputable def r5_Pipe_k1 (a0 : T_State) : Unit → Option Bool := fun _ => cut (σ := Unit) (loop (σ := Int) (r5_Pipe_b3 a0) 0) (r5_Pipe_k2 a0)
noncomputable def r5_Pipe (a0 : T_State) : Option Bool :=
  cut (σ := Unit) ((r5_common a0).bind fun r9 => bif !r9 then some (.done (false)) else bif !(r0_Num a0.Stop 6) then some (.done (false)) else bif !(r0_Num a0.Jump 1024) then some (.done (false)) else bif !(r0_Num a0.Delay 2) then some (.done (false)) else some (.next ())) (r5_Pipe_k1 a0)
theorem w_r5_Pipe_ {g : Frag} {a0 : T_State} {v0_ : Value} {r : Bool} (h0 : Rd_State g a0 v0_) (hF : r5_Pipe a0 = some r) : LCs Try.prog 19 #[v0_] g (.bool r) := by
 obtain ⟨v0_0_, v0_1_, v0_2_, v0_4_, v0_6_, v0_8_, rfl, h0_0_, h0_1_, h0_2_, h0_4_, h0_6_, h0_8_⟩ := h0
 unfold r5_Pipe at hF
 refine lc_body (k := 79) (av := [.agg (cl_State v0_0_ v0_1_ v0_2_ a0.Taken v0_4_ a0.PC v0_6_ a0.Stop v0_8_ a0.Jump a0.Delay).toArray]) func19 rfl rfl (h := fun W hS => ?_)
 refine c_seq <| c_region ?_
 refine o_boxP (cl := (cl_State v0_0_ v0_1_ v0_2_ a0.Taken v0_4_ a0.PC v0_6_ a0.Stop v0_8_ a0.Jump a0.Delay)) rfl hS ?_
 clear hS; intro b1 w hS
 refine oy hS y_assign <| n_thenN ?_
 obtain ⟨z7, hF, hK8⟩ := cut_step hF
 refine c_cutP (fun a w' => r5_Pipe_k1 a0 () = some r ∧ (∃ s : Nat → Value, a = Ac ((Fm.dead 79 s).upd 1 (.pointer (some ⟨b1, 0, none⟩)))) ∧ St W g [] ((b1, blk (cl_State v0_0_ v0_1_ v0_2_ a0.Taken v0_4_ a0.PC v0_6_ a0.Stop v0_8_ a0.Jump a0.Delay) 27) :: []) w') ?_ ?_
 · skip
   refine c_seq <| c_region ?_
   refine oy hS (y_loadW (fun w hS => hS.own (mH)) underlying27 rfl (by exact sz_api_State)) ?_
   obtain ⟨r9, hr9, hF⟩ := ob hF
   refine o_callS hS func39 rfl rfl (hc := (w_r5_common (a0 := a0) (h0 := ⟨_, _, _, _, _, _, rfl, h0_0_.plus, h0_1_.plus, h0_2_.plus, h0_4_.plus, h0_6_.plus, h0_8_.plus⟩) (hF := hr9))) (h := ?_)
   clear hS; intro w hS
   refine oy hS y_not ?_
   refine o_split (ht := fun c10 => ?_) (hf := fun c10 => ?_)
   · replace hF := bt c10 hF
     iterate 4 (refine o_sk rfl rfl ?_)
     refine oy hS y_pickT <| oy hS y_move ?_
     iterate 4 (refine o_sk rfl rfl ?_)
     refine oy hS y_pickT <| oy hS y_move ?_
     iterate 4 (refine o_sk rfl rfl ?_)
     refine oy hS y_pickT <| n_thenN ?_
     refine c_if_true (h := ?_)
     refine c_seq <| c_region <| oy hS y_assign <| n_thenN ?_
     obtain rfl := osi hF
     obtain rfl : _ = r := hK8
     exact wp_ret (wr1 hS)
   replace hF := bf c10 hF
   refine o_gu rfl rfl rfl <| oy hS (y_field fa_api_State_7) <| o_gu rfl rfl rfl <| oy hS (y_load (fun w hS => hS.own (mH)) underlying3 rfl rfl) <| o_gu rfl rfl rfl ?_
   refine o_callS hS func40 rfl rfl (hc := (w_r0_Num (a0 := a0.Stop) (a1 := 6))) (h := ?_)
   clear hS; intro w hS
   refine o_gu rfl rfl rfl <| oy hS y_not <| oy hS y_pickF ?_
   refine o_split (ht := fun c11 => ?_) (hf := fun c11 => ?_)
   · replace hF := bt c11 hF
     iterate 4 (refine o_sk rfl rfl ?_)
     refine oy hS y_pickT <| oy hS y_move ?_
     iterate 4 (refine o_sk rfl rfl ?_)
     refine oy hS y_pickT <| n_thenN ?_
     refine c_if_true (h := ?_)
     refine c_seq <| c_region <| oy hS y_assign <| n_thenN ?_
     obtain rfl := osi hF
     obtain rfl : _ = r := hK8
     exact wp_ret (wr1 hS)
   replace hF := bf c11 hF
   refine o_gu rfl rfl rfl <| oy hS (y_field fa_api_State_9) <| o_gu rfl rfl rfl <| oy hS (y_load (fun w hS => hS.own (mH)) underlying3 rfl rfl) <| o_gu rfl rfl rfl ?_
   refine o_callS hS func40 rfl rfl (hc := (w_r0_Num (a0 := a0.Jump) (a1 := 1024))) (h := ?_)
   clear hS; intro w hS
   refine o_gu rfl rfl rfl <| oy hS y_not <| oy hS y_pickF ?_
   refine o_split (ht := fun c12 => ?_) (hf := fun c12 => ?_)
   · replace hF := bt c12 hF
     iterate 4 (refine o_sk rfl rfl ?_)
     refine oy hS y_pickT <| n_thenN ?_
     refine c_if_true (h := ?_)
     refine c_seq <| c_region <| oy hS y_assign <| n_thenN ?_
     obtain rfl := osi hF
     obtain rfl : _ = r := hK8
     exact wp_ret (wr1 hS)
   replace hF := bf c12 hF
   refine o_gu rfl rfl rfl <| oy hS (y_field fa_api_State_10) <| o_gu rfl rfl rfl <| oy hS (y_load (fun w hS => hS.own (mH)) underlying3 rfl rfl) <| o_gu rfl rfl rfl ?_
   refine o_callS hS func40 rfl rfl (hc := (w_r0_Num (a0 := a0.Delay) (a1 := 2))) (h := ?_)
   clear hS; intro w hS
   refine o_gu rfl rfl rfl <| oy hS y_not <| oy hS y_pickF <| n_thenN ?_
   refine c_if (ht := fun c13 => ?_) (hf := fun c13 => ?_)
   · replace hF := bt c13 hF
     refine c_seq <| c_region <| oy hS y_assign <| n_thenN ?_
     obtain rfl := osi hF
     obtain rfl : _ = r := hK8
     exact wp_ret (wr1 hS)
   replace hF := bf c13 hF
   refine wp_skip ?_
   obtain rfl := osi hF
   change _ ∧ _
   exact ⟨hK8, mk_exF, (hS.re (.b .hb .n))⟩
 rintro a w ⟨hF, ⟨s14, rfl⟩, hS⟩
 dsimp only [r5_Pipe_k1] at hF
 obtain ⟨z101, hF, hK102⟩ := cut_step hF
 refine c_cutP (fun a w' => r5_Pipe_k2 a0 () = some r ∧ (∃ s : Nat → Value, a = Ac ((Fm.dead 79 s).upd 1 (.pointer (some ⟨b1, 0, none⟩)))) ∧ St W g [] ((b1, blk (cl_State v0_0_ v0_1_ v0_2_ a0.Taken v0_4_ a0.PC v0_6_ a0.Stop v0_8_ a0.Jump a0.Delay) 27) :: []) w') ?_ ?_
 · skip
   refine c_seq <| c_region <| oy hS y_assign <| n_thenN <| c_block ?_
   refine c_loopP hF (fun (q : Int) a w' => (∃ s : Nat → Value, a = Ac (((Fm.dead 79 s).upd 1 (.pointer (some ⟨b1, 0, none⟩))).upd 3 (.int .i64 q))) ∧ St W g [] ((b1, blk (cl_State v0_0_ v0_1_ v0_2_ a0.Taken v0_4_ a0.PC v0_6_ a0.Stop v0_8_ a0.Jump a0.Delay) 27) :: []) w') ⟨mk_exF, (hS.re (.b .hb .n))⟩ ?_
   clear hS hF
   intro n160 q a w hI hq
   revert hq hI; revert q; intro x130 hI hq
   obtain ⟨⟨s161, rfl⟩, hS⟩ := hq
   obtain ⟨z158, hF, hK159⟩ := iter_step hI
   clear hI
   dsimp only [r5_Pipe_b3] at hF
   iterate 2 (refine c_seq ?_)
   refine c_region <| oy hS y_move <| oy hS (y_field fa_api_State_8) <| oy hS (y_load (fun w hS => hS.own (mH)) underlying25 rfl rfl) <| oy hS (y_len h0_8_ underlying25) <| oy hS y_bin <| n_thenN ?_
   refine c_if (ht := fun c162 => ?_) (hf := fun c162 => ?_)
   · replace hF := bt c162 hF
     refine wp_skip <| c_seq <| c_block <| c_seq <| c_region <| oy hS (y_field fa_api_State_8) <| oy hS (y_load (fun w hS => hS.own (mH)) underlying25 rfl rfl) <| oy hS y_move ?_
     obtain ⟨x163, hx163, hF⟩ := ob hF
     obtain ⟨b164, o165, c166, cs167, e168, fz169, hv170, ha171, hb172, hd173, hc174⟩ := SlT.at hx163 h0_8_ enc_len_Write
     refine oy hS (y_index hv170 ha171 hb172 underlying25 el_api_Write.size) <| oy hS (y_field fa_api_Write_0) <| oy hS (y_load (fun w hS => hS.block hd173) underlying3 rfl (hc174 0 _ rfl)) ?_
     refine o_callS hS func40 rfl rfl (hc := (w_r0_Num (a0 := x163.Reg) (a1 := 15))) (h := ?_)
     clear hS; intro w hS
     refine oy hS y_not ?_
     refine o_split (ht := fun c175 => ?_) (hf := fun c175 => ?_)
     · replace hF := bt c175 hF
       iterate 8 (refine o_sk rfl rfl ?_)
       refine oy hS y_pickT <| n_thenN ?_
       refine c_if_true (h := ?_)
       refine c_seq <| c_region <| oy hS y_assign <| n_thenN ?_
       obtain rfl := osi hF
       obtain rfl : _ = z101 := hK159
       obtain rfl : _ = r := hK102
       exact wp_ret (wr1 hS)
     replace hF := bf c175 hF
     refine o_gu rfl rfl rfl <| oy hS (y_field fa_api_State_8) <| o_gu rfl rfl rfl <| oy hS (y_load (fun w hS => hS.own (mH)) underlying25 rfl rfl) <| o_gu rfl rfl rfl <| oy hS y_move <| o_gu rfl rfl rfl ?_
     obtain ⟨x176, hx176, hF⟩ := ob hF
     obtain ⟨b177, o178, c179, cs180, e181, fz182, hv183, ha184, hb185, hd186, hc187⟩ := SlT.at hx176 h0_8_ enc_len_Write
     refine oy hS (y_index hv183 ha184 hb185 underlying25 el_api_Write.size) <| o_gu rfl rfl rfl <| oy hS (y_field fa_api_Write_2) <| o_gu rfl rfl rfl <| oy hS (y_load (fun w hS => hS.block hd186) underlying3 rfl (hc187 2 _ rfl)) <| o_gu rfl rfl rfl ?_
     refine o_callS hS func40 rfl rfl (hc := (w_r0_Num (a0 := x176.Left) (a1 := 4))) (h := ?_)
     clear hS; intro w hS
     refine o_gu rfl rfl rfl <| oy hS y_not <| oy hS y_pickF <| n_thenN ?_
     refine c_if (ht := fun c188 => ?_) (hf := fun c188 => ?_)
     · replace hF := bt c188 hF
       refine c_seq <| c_region <| oy hS y_assign <| n_thenN ?_
       obtain rfl := osi hF
       obtain rfl : _ = z101 := hK159
       obtain rfl : _ = r := hK102
       exact wp_ret (wr1 hS)
     replace hF := bf c188 hF
     refine wp_skip <| c_region <| oy hS y_move <| oy hS y_bin <| oy hS y_assign <| n_thenN ?_
     obtain rfl := osi hF
     exact ⟨_, hK159, mk_exF, (hS.re (.b .hb .n))⟩
   replace hF := bf c162 hF
   refine wp_exit ?_
   obtain rfl := osi hF
   obtain rfl : _ = z101 := hK159
   change _ ∧ _
   exact ⟨hK102, mk_exF, (hS.re (.b .hb .n))⟩
 rintro a w ⟨hF, ⟨s189, rfl⟩, hS⟩
 dsimp only [r5_Pipe_k2] at hF
 iterate 2 (refine c_seq ?_)
 refine c_region <| oy hS y_assign <| n_thenN <| c_block ?_
 refine c_loopP hF (fun (q : Int) a w' => (∃ s : Nat → Value, a = Ac (((Fm.dead 79 s).upd 1 (.pointer (some ⟨b1, 0, none⟩))).upd 4 (.int .i64 q))) ∧ St W g [] ((b1, blk (cl_State v0_0_ v0_1_ v0_2_ a0.Taken v0_4_ a0.PC v0_6_ a0.Stop v0_8_ a0.Jump a0.Delay) 27) :: []) w') ⟨mk_exF, (hS.re (.b .hb .n))⟩ ?_
 clear hS hF
 intro n397 q a w hI hq
 revert hq hI; revert q; intro x292 hI hq
 obtain ⟨⟨s398, rfl⟩, hS⟩ := hq
 obtain ⟨z395, hF, hK396⟩ := iter_step hI
 clear hI
 dsimp only [r5_Pipe_b4] at hF
 iterate 2 (refine c_seq ?_)
 refine c_region <| oy hS y_move <| oy hS y_bin <| n_thenN ?_
 refine c_if (ht := fun c399 => ?_) (hf := fun c399 => ?_)
 · replace hF := bt c399 hF
   refine wp_skip <| c_seq <| c_block <| c_seq <| c_region <| oy hS y_assign <| n_thenN ?_
   obtain ⟨z449, hF, hK450⟩ := cut_step hF
   refine c_cutP (fun a w' => ∃ (x448 : Int), r5_Pipe_k5 x292 x448 = some z395 ∧ (∃ s : Nat → Value, a = Ac ((((Fm.dead 79 s).upd 1 (.pointer (some ⟨b1, 0, none⟩))).upd 4 (.int .i64 x292)).upd 5 (.int .i64 x448))) ∧ St W g [] ((b1, blk (cl_State v0_0_ v0_1_ v0_2_ a0.Taken v0_4_ a0.PC v0_6_ a0.Stop v0_8_ a0.Jump a0.Delay) 27) :: []) w') ?_ ?_
   · skip
     refine c_seq <| c_region <| oy hS y_assign <| n_thenN <| c_block ?_
     refine c_loopP hF (fun (q : (Int × Int)) a w' => (∃ s : Nat → Value, a = Ac (((((Fm.dead 79 s).upd 1 (.pointer (some ⟨b1, 0, none⟩))).upd 4 (.int .i64 x292)).upd 5 (.int .i64 q.1)).upd 6 (.int .i64 q.2))) ∧ St W g [] ((b1, blk (cl_State v0_0_ v0_1_ v0_2_ a0.Taken v0_4_ a0.PC v0_6_ a0.Stop v0_8_ a0.Jump a0.Delay) 27) :: []) w') ⟨mk_exF, (hS.re (.b .hb .n))⟩ ?_
     clear hS hF
     intro n483 q a w hI hq
     obtain ⟨x465, x466⟩ := q
     obtain ⟨⟨s484, rfl⟩, hS⟩ := hq
     obtain ⟨z481, hF, hK482⟩ := iter_step hI
     clear hI
     dsimp only [r5_Pipe_b6] at hF
     iterate 2 (refine c_seq ?_)
     refine c_region <| oy hS y_move <| oy hS (y_field fa_api_State_8) <| oy hS (y_load (fun w hS => hS.own (mH)) underlying25 rfl rfl) <| oy hS (y_len h0_8_ underlying25) <| oy hS y_bin <| n_thenN ?_
     refine c_if (ht := fun c485 => ?_) (hf := fun c485 => ?_)
     · replace hF := bt c485 hF
       refine wp_skip <| c_seq <| c_block <| c_seq <| c_region <| oy hS (y_field fa_api_State_8) <| oy hS (y_load (fun w hS => hS.own (mH)) underlying25 rfl rfl) <| oy hS y_move ?_
       obtain ⟨x486, hx486, hF⟩ := ob hF
       obtain ⟨b487, o488, c489, cs490, e491, fz492, hv493, ha494, hb495, hd496, hc497⟩ := SlT.at hx486 h0_8_ enc_len_Write
       refine oy hS (y_index hv493 ha494 hb495 underlying25 el_api_Write.size) <| oy hS (y_field fa_api_Write_2) <| oy hS (y_load (fun w hS => hS.block hd496) underlying3 rfl (hc497 2 _ rfl)) <| oy hS y_move <| oy hS y_bin <| n_thenN ?_
       refine c_if (ht := fun c498 => ?_) (hf := fun c498 => ?_)
       · replace hF := bt c498 hF
         refine c_region <| oy hS y_move <| oy hS y_bin <| oy hS y_assign ?_
         refine n_anyN ?_
         refine c_region <| oy hS y_move <| oy hS y_bin <| oy hS y_assign <| n_thenN ?_
         obtain rfl := osi hF
         exact ⟨_, hK482, mk_exF, (hS.re (.b .hb .n))⟩
       replace hF := bf c498 hF
       refine wp_skip <| c_region <| oy hS y_move <| oy hS y_bin <| oy hS y_assign <| n_thenN ?_
       obtain rfl := osi hF
       exact ⟨_, hK482, mk_exF, (hS.re (.b .hb .n))⟩
     replace hF := bf c485 hF
     refine wp_exit ?_
     obtain rfl := osi hF
     obtain rfl : _ = z449 := hK482
     change ∃ _, _
     exact ⟨x465, hK450, mk_exF, (hS.re (.b .hb .n))⟩
   rintro a w ⟨x448, hF, ⟨s499, rfl⟩, hS⟩
   dsimp only [r5_Pipe_k5] at hF
   refine c_seq <| c_region ?_
   iterate 2 (refine oy hS y_move ?_)
   iterate 3 (refine oy hS y_bin ?_)
   refine n_thenN ?_
   refine c_if (ht := fun c500 => ?_) (hf := fun c500 => ?_)
   · replace hF := bt c500 hF
     refine c_seq <| c_region <| oy hS y_assign <| n_thenN ?_
     obtain rfl := osi hF
     obtain rfl : _ = r := hK396
     exact wp_ret (wr1 hS)
   replace hF := bf c500 hF
   refine wp_skip <| c_region <| oy hS y_move <| oy hS y_bin <| oy hS y_assign <| n_thenN ?_
   obtain rfl := osi hF
   exact ⟨_, hK396, mk_exF, (hS.re (.b .hb .n))⟩
 replace hF := bf c399 hF
 refine wp_exit ?_
 refine c_seq <| c_region <| oy hS y_assign <| n_thenN ?_
 obtain rfl := osi hF
 obtain rfl : _ = r := hK396
 exact wp_ret (wr1 hS)
theorem w_r5_Pipe {g : Frag} {a0 : T_State} {v0_ : Value} {r : Bool} (h0 : Rd_State g a0 v0_) (hF : r5_Pipe a0 = some r) : LCs Try.prog 19 #[v0_] g (.bool r) := w_r5_Pipe_ h0 hF

noncomputable def l6_May (a0 : T_Script) : Option Bool :=
  (r3_Code a0.C).bind fun r2 => bif r2 then (r5_Pipe a0.S).bind fun r4 => some (r4) else some (false)
theorem w_l6_May_ {g : Frag} {a0 : T_Script} {v0_ : Value} {r : Bool} (h0 : Rd_Script g a0 v0_) (hF : l6_May a0 = some r) : LCs Try.prog 17 #[v0_] g (.bool r) := by
 obtain ⟨v0_0_, v0_1_, v0_2_, v0_3_, v0_5_, v0_7_, v0_9_, v0_12_, rfl, h0_0_, h0_1_, h0_2_, h0_3_, h0_5_, h0_7_, h0_9_, h0_12_⟩ := h0
 unfold l6_May at hF
 refine lc_body (k := 11) (av := [.agg (cl_Script v0_0_ v0_1_ v0_2_ v0_3_ a0.S.Taken v0_5_ a0.S.PC v0_7_ a0.S.Stop v0_9_ a0.S.Jump a0.S.Delay v0_12_).toArray]) func17 rfl rfl (h := fun W hS => ?_)
 refine c_seq <| c_region ?_
 refine o_boxP (cl := (cl_Script v0_0_ v0_1_ v0_2_ v0_3_ a0.S.Taken v0_5_ a0.S.PC v0_7_ a0.S.Stop v0_9_ a0.S.Jump a0.S.Delay v0_12_)) rfl hS ?_
 clear hS; intro b1 w hS
 refine oy hS y_assign <| n_thenN <| c_seq <| c_region <| oy hS (y_field fa_sledgelaw6_Script_0) <| oy hS (y_load (fun w hS => hS.own (mH)) underlying22 rfl rfl) ?_
 obtain ⟨r2, hr2, hF⟩ := ob hF
 refine o_callS hS func38 rfl rfl (hc := (w_r3_Code (a0 := a0.C) (h0 := h0_0_.plus) (hF := hr2))) (h := ?_)
 clear hS; intro w hS
 refine o_split (ht := fun c3 => ?_) (hf := fun c3 => ?_)
 · replace hF := bt c3 hF
   refine o_gu rfl rfl rfl <| oy hS (y_field fa_sledgelaw6_Script_1) <| o_gu rfl rfl rfl ?_
   refine oy hS (y_loadN (vs := (cl_State v0_1_ v0_2_ v0_3_ a0.S.Taken v0_5_ a0.S.PC v0_7_ a0.S.Stop v0_9_ a0.S.Jump a0.S.Delay)) (fun w hS => hS.own (mH)) underlying27 rfl (by exact sz_api_State) (subd (o := 0 + 1) (by exact rfl))) ?_
   refine o_gu rfl rfl rfl ?_
   obtain ⟨r4, hr4, hF⟩ := ob hF
   refine o_callS hS func19 rfl rfl (hc := (w_r5_Pipe (a0 := a0.S) (h0 := ⟨_, _, _, _, _, _, rfl, h0_1_.plus, h0_2_.plus, h0_3_.plus, h0_5_.plus, h0_7_.plus, h0_9_.plus⟩) (hF := hr4))) (h := ?_)
   clear hS; intro w hS
   refine oy hS y_pickT <| oy hS y_assign <| n_thenN ?_
   obtain rfl := osi hF
   exact wp_ret (wr1 hS)
 replace hF := bf c3 hF
 iterate 3 (refine o_sk rfl rfl ?_)
 refine oy hS y_pickF <| oy hS y_assign <| n_thenN ?_
 obtain rfl := osi hF
 exact wp_ret (wr1 hS)
theorem w_l6_May {g : Frag} {a0 : T_Script} {v0_ : Value} {r : Bool} (h0 : Rd_Script g a0 v0_) (hF : l6_May a0 = some r) : LCs Try.prog 17 #[v0_] g (.bool r) := w_l6_May_ h0 hF

noncomputable def r0_Begins (a0 : (List Int)) (a1 : (List Int)) : Option Bool :=
  bif decide ((a1.length : Int) ≤ (a0.length : Int)) then (sub' a0 0 (a1.length : Int)).bind fun zs2 => (r0_EqWords zs2 a1).bind fun r3 => some (r3) else some (false)
theorem w_r0_Begins_ {g : Frag} {a0 : (List Int)} {v0_ : Value} {a1 : (List Int)} {v1_ : Value} {r : Bool} (h0 : SlT g enc_uint32 1 a0 v0_) (h1 : SlT g enc_uint32 1 a1 v1_) (hF : r0_Begins a0 a1 = some r) : LCs Try.prog 18 #[v0_, v1_] g (.bool r) := by
 unfold r0_Begins at hF
 refine lc_body (k := 18) (av := [v0_, v1_]) func18 rfl rfl (h := fun W hS => ?_)
 refine c_seq <| c_region <| oy hS y_assign <| n_thenN <| c_seq <| c_region <| oy hS y_move <| oy hS (y_len h1 underlying23) ?_
 refine oy hS y_move <| oy hS (y_len h0 underlying23) <| oy hS y_bin ?_
 refine o_split (ht := fun c1 => ?_) (hf := fun c1 => ?_)
 · replace hF := bt c1 hF
   refine o_gu rfl rfl rfl <| oy hS y_move <| o_gu rfl rfl rfl <| oy hS y_move <| o_gu rfl rfl rfl <| oy hS (y_len h1 underlying23) <| o_gu rfl rfl rfl ?_
   obtain ⟨zs2, hzs2, hF⟩ := ob hF
   refine oy hS (y_slU hzs2 h0 underlying23 el_uint32.size) <| o_gu rfl rfl rfl <| oy hS y_move <| o_gu rfl rfl rfl ?_
   obtain ⟨r3, hr3, hF⟩ := ob hF
   refine o_callS hS func33 rfl rfl (hc := (w_r0_EqWords (a0 := zs2) (a1 := a1) (h0 := (SlT.sub hzs2 h0 enc_len_uint32).plus) (h1 := h1.plus) (hF := hr3))) (h := ?_)
   clear hS; intro w hS
   refine oy hS y_pickT <| oy hS y_assign <| n_thenN ?_
   obtain rfl := osi hF
   exact wp_ret (wr1 hS)
 replace hF := bf c1 hF
 iterate 6 (refine o_sk rfl rfl ?_)
 refine oy hS y_pickF <| oy hS y_assign <| n_thenN ?_
 obtain rfl := osi hF
 exact wp_ret (wr1 hS)
theorem w_r0_Begins {g : Frag} {a0 : (List Int)} {v0_ : Value} {a1 : (List Int)} {v1_ : Value} {r : Bool} (h0 : SlT g enc_uint32 1 a0 v0_) (h1 : SlT g enc_uint32 1 a1 v1_) (hF : r0_Begins a0 a1 = some r) : LCs Try.prog 18 #[v0_, v1_] g (.bool r) := w_r0_Begins_ h0 h1 hF

noncomputable def pipe_Check (a0 : T_State) : Option Int :=
  (pipe_May a0).bind fun r2 => bif !r2 then some (1) else some (0)
theorem w_pipe_Check_ {g : Frag} {a0 : T_State} {v0_ : Value} {r : Int} (h0 : Rd_State g a0 v0_) (hF : pipe_Check a0 = some r) : LCs Try.prog 20 #[v0_] g (.int .i64 r) := by
 obtain ⟨v0_0_, v0_1_, v0_2_, v0_4_, v0_6_, v0_8_, rfl, h0_0_, h0_1_, h0_2_, h0_4_, h0_6_, h0_8_⟩ := h0
 unfold pipe_Check at hF
 refine lc_body (k := 6) (av := [.agg (cl_State v0_0_ v0_1_ v0_2_ a0.Taken v0_4_ a0.PC v0_6_ a0.Stop v0_8_ a0.Jump a0.Delay).toArray]) func20 rfl rfl (h := fun W hS => ?_)
 refine c_seq <| c_region ?_
 refine o_boxP (cl := (cl_State v0_0_ v0_1_ v0_2_ a0.Taken v0_4_ a0.PC v0_6_ a0.Stop v0_8_ a0.Jump a0.Delay)) rfl hS ?_
 clear hS; intro b1 w hS
 refine oy hS y_assign <| n_thenN ?_
 iterate 2 (refine c_seq ?_)
 refine c_region ?_
 refine oy hS (y_loadW (fun w hS => hS.own (mH)) underlying27 rfl (by exact sz_api_State)) ?_
 obtain ⟨r2, hr2, hF⟩ := ob hF
 refine o_callS hS func41 rfl rfl (hc := (w_pipe_May (a0 := a0) (h0 := ⟨_, _, _, _, _, _, rfl, h0_0_.plus, h0_1_.plus, h0_2_.plus, h0_4_.plus, h0_6_.plus, h0_8_.plus⟩) (hF := hr2))) (h := ?_)
 clear hS; intro w hS
 refine oy hS y_not <| n_thenN ?_
 refine c_if (ht := fun c3 => ?_) (hf := fun c3 => ?_)
 · replace hF := bt c3 hF
   refine c_seq <| c_region <| oy hS y_assign <| n_thenN ?_
   obtain rfl := osi hF
   exact wp_ret (wr1 hS)
 replace hF := bf c3 hF
 refine wp_skip <| c_seq <| c_region <| oy hS y_assign <| n_thenN ?_
 obtain rfl := osi hF
 exact wp_ret (wr1 hS)
theorem w_pipe_Check {g : Frag} {a0 : T_State} {v0_ : Value} {r : Int} (h0 : Rd_State g a0 v0_) (hF : pipe_Check a0 = some r) : LCs Try.prog 20 #[v0_] g (.int .i64 r) := w_pipe_Check_ h0 hF

noncomputable def l5_Heavy (a0 : T_Script5) : Option Bool :=
  (l0_CodesWeight a0.P).bind fun r2 => (l0_StateWeight a0.S).bind fun r3 => some (decide (700 < (IntKind.i64.wrap ((IntKind.i64.wrap ((IntKind.i64.wrap (r2 + r3)) + (a0.In_.length : Int))) + (a0.N.length : Int)))))
theorem w_l5_Heavy_ {g : Frag} {a0 : T_Script5} {v0_ : Value} {r : Bool} (h0 : Rd_Script5 g a0 v0_) (hF : l5_Heavy a0 = some r) : LCs Try.prog 21 #[v0_] g (.bool r) := by
 obtain ⟨v0_0_, v0_1_, v0_2_, v0_3_, v0_5_, v0_7_, v0_9_, v0_12_, v0_13_, rfl, h0_0_, h0_1_, h0_2_, h0_3_, h0_5_, h0_7_, h0_9_, h0_12_, h0_13_⟩ := h0
 unfold l5_Heavy at hF
 refine lc_body (k := 19) (av := [.agg (cl_Script5 v0_0_ v0_1_ v0_2_ v0_3_ a0.S.Taken v0_5_ a0.S.PC v0_7_ a0.S.Stop v0_9_ a0.S.Jump a0.S.Delay v0_12_ v0_13_).toArray]) func21 rfl rfl (h := fun W hS => ?_)
 refine c_seq <| c_region ?_
 refine o_boxP (cl := (cl_Script5 v0_0_ v0_1_ v0_2_ v0_3_ a0.S.Taken v0_5_ a0.S.PC v0_7_ a0.S.Stop v0_9_ a0.S.Jump a0.S.Delay v0_12_ v0_13_)) rfl hS ?_
 clear hS; intro b1 w hS
 refine oy hS y_assign <| n_thenN <| c_seq ?_
 refine c_quiet (by kernel_rfl) (by kernel_rfl) hS ?_
 refine qy (y_field fa_sledgelaw5_Script5_0) <| qy (y_load (fun w hS => hS.own (mH)) underlying52 rfl rfl) ?_
 obtain ⟨r2, hr2, hF⟩ := ob hF
 refine q_callS func37 rfl rfl (hc := (w_l0_CodesWeight (a0 := a0.P) (h0 := h0_0_.plus) (hF := hr2))) (h := ?_)
 refine qy (y_field fa_sledgelaw5_Script5_1) ?_
 refine qy (y_loadN (vs := (cl_State v0_1_ v0_2_ v0_3_ a0.S.Taken v0_5_ a0.S.PC v0_7_ a0.S.Stop v0_9_ a0.S.Jump a0.S.Delay)) (fun w hS => hS.own (mH)) underlying27 rfl (by exact sz_api_State) (subd (o := 0 + 1) (by exact rfl))) ?_
 obtain ⟨r3, hr3, hF⟩ := ob hF
 refine q_callS func36 rfl rfl (hc := (w_l0_StateWeight (a0 := a0.S) (h0 := ⟨_, _, _, _, _, _, rfl, h0_1_.plus, h0_2_.plus, h0_3_.plus, h0_5_.plus, h0_7_.plus, h0_9_.plus⟩) (hF := hr3))) (h := ?_)
 refine qy y_bin <| qy (y_field fa_sledgelaw5_Script5_2) <| qy (y_load (fun w hS => hS.own (mH)) underlying23 rfl rfl) <| qy (y_len h0_12_ underlying23) <| qy y_bin <| qy (y_field fa_sledgelaw5_Script5_3) <| qy (y_load (fun w hS => hS.own (mH)) underlying24 rfl rfl) <| qy (y_len h0_13_ underlying24) ?_
 iterate 2 (refine qy y_bin ?_)
 refine qy y_assign ?_
 refine q_nilN (h := ?_)
 clear hS; intro w hS
 obtain rfl := osi hF
 exact wp_ret (wr1 hS)
theorem w_l5_Heavy {g : Frag} {a0 : T_Script5} {v0_ : Value} {r : Bool} (h0 : Rd_Script5 g a0 v0_) (hF : l5_Heavy a0 = some r) : LCs Try.prog 21 #[v0_] g (.bool r) := w_l5_Heavy_ h0 hF
end Go.Proofs.Ythbpicnbkdbbmaa
