/- The law HazardSame, lifted. Printed by lift.py. -/
import Derived.Test.YthbpicnbkdbbmaaGreatProg
import Derived.Test.YthbpicnbkdbbmaaGreatP11
import Derived.KernelRfl
namespace Go.Proofs.YthbpicnbkdbbmaaGreat
open Go Go.RowKit Fr
set_option linter.unusedVariables false
set_option linter.unusedSimpArgs false
set_option maxRecDepth 20000
open Tryz
set_option maxHeartbeats 2000000
noncomputable def l7_HazardSame_k4 (r608 : (Int × Int)) (r609 : (T_State × Int)) (r641 : (T_State × Int)) (x493 : Int) (x477 : (List Int)) (x488 : (List Int)) (x471 : Int) : Unit → Option (Step (Int × (List Int) × (List Int) × (List Int) × Int × (List Int) × Int × (List Int) × Int × (List T_Write) × Int × Int) (Step Unit Bool)) := fun _ => bif decide (r608.1 < 0) then (r0_EqState r609.1 r641.1).bind fun r687 => bif !r687 then some (.done (.done (false))) else bif decide (0 ≤ r608.1) then bif decide (r609.1.Stop ≠ 6) then some (.done (.done (false))) else bif decide (r609.1.PC ≠ x493) then some (.done (.done (false))) else (r0_EqWords r609.1.Mem x477).bind fun r692 => bif !r692 then some (.done (.done (false))) else (r0_EqWords r609.1.Out x488).bind fun r694 => bif !r694 then some (.done (.done (false))) else some (.next (IntKind.i64.wrap (x471 + 1), r641.1.Regs, r641.1.Mem, r641.1.In_, r641.1.Taken, r641.1.Out, r641.1.PC, r641.1.Stack, r641.1.Stop, r641.1.Fly, r641.1.Jump, r641.1.Delay)) else some (.next (IntKind.i64.wrap (x471 + 1), r641.1.Regs, r641.1.Mem, r641.1.In_, r641.1.Taken, r641.1.Out, r641.1.PC, r641.1.Stack, r641.1.Stop, r641.1.Fly, r641.1.Jump, r641.1.Delay)) else bif decide (0 ≤ r608.1) then bif decide (r609.1.Stop ≠ 6) then some (.done (.done (false))) else bif decide (r609.1.PC ≠ x493) then some (.done (.done (false))) else (r0_EqWords r609.1.Mem x477).bind fun r699 => bif !r699 then some (.done (.done (false))) else (r0_EqWords r609.1.Out x488).bind fun r701 => bif !r701 then some (.done (.done (false))) else some (.next (IntKind.i64.wrap (x471 + 1), r641.1.Regs, r641.1.Mem, r641.1.In_, r641.1.Taken, r641.1.Out, r641.1.PC, r641.1.Stack, r641.1.Stop, r641.1.Fly, r641.1.Jump, r641.1.Delay)) else some (.next (IntKind.i64.wrap (x471 + 1), r641.1.Regs, r641.1.Mem, r641.1.In_, r641.1.Taken, r641.1.Out, r641.1.PC, r641.1.Stack, r641.1.Stop, r641.1.Fly, r641.1.Jump, r641.1.Delay))
noncomputable def l7_HazardSame_b3 (a0 : T_Script) : (Int × (List Int) × (List Int) × (List Int) × Int × (List Int) × Int × (List Int) × Int × (List T_Write) × Int × Int) → Option (Step (Int × (List Int) × (List Int) × (List Int) × Int × (List Int) × Int × (List Int) × Int × (List T_Write) × Int × Int) (Step Unit Bool)) := fun (x471, x472, x477, x482, x487, x488, x493, x494, x499, x500, x505, x506) => bif decide (x471 < 40) then (hazard_Find a0.C (⟨x472, x477, x482, x487, x488, x493, x494, x499, x500, x505, x506⟩ : T_State)).bind fun r608 => (hazard_Cycle a0.C (⟨x472, x477, x482, x487, x488, x493, x494, x499, x500, x505, x506⟩ : T_State)).bind fun r609 => (pipe_Cycle a0.C (⟨x472, x477, x482, x487, x488, x493, x494, x499, x500, x505, x506⟩ : T_State)).bind fun r641 => cut (σ := Unit) (bif decide ((l7_num r608.2) ≠ 0) then some (.done (.done (.done (false)))) else bif decide ((l7_num r609.2) ≠ 0) then some (.done (.done (.done (false)))) else bif decide ((l7_num r641.2) ≠ 0) then some (.done (.done (.done (false)))) else bif decide (r608.1 < (-1)) then some (.done (.done (.done (false)))) else bif decide (3 < r608.1) then some (.done (.done (.done (false)))) else some (.next ())) (l7_HazardSame_k4 r608 r609 r641 x493 x477 x488 x471) else some (.done (.next ()))
noncomputable def l7_HazardSame_k2  : Unit → Option Bool := fun _ => bif (r3_Valid 0) then (l7_wakes).bind fun r705 => some (r705) else some (false)
noncomputable def l7_HazardSame_k1 (a0 : T_Script) : Unit → Option Bool := fun _ => (r0_CopyState a0.S).bind fun r13 => cut (σ := Unit) (loop (σ := (Int × (List Int) × (List Int) × (List Int) × Int × (List Int) × Int × (List Int) × Int × (List T_Write) × Int × Int)) (l7_HazardSame_b3 a0) (0, r13.Regs, r13.Mem, r13.In_, r13.Taken, r13.Out, r13.PC, r13.Stack, r13.Stop, r13.Fly, r13.Jump, r13.Delay)) (l7_HazardSame_k2)
noncomputable def l7_HazardSame (a0 : T_Script) : Option Bool :=
  cut (σ := Unit) ((l6_Heavy a0).bind fun r8 => bif r8 then some (.done (true)) else (l6_May a0).bind fun r10 => bif !r10 then some (.done (true)) else some (.next ())) (l7_HazardSame_k1 a0)
theorem w_l7_HazardSame_ {g : Frag} {a0 : T_Script} {v0_ : Value} {r : Bool} (h0 : Rd_Script g a0 v0_) (hF : l7_HazardSame a0 = some r) : LCs Tryz.prog 13 #[v0_] g (.bool r) := by
 obtain ⟨v0_0_, v0_1_, v0_2_, v0_3_, v0_5_, v0_7_, v0_9_, v0_12_, rfl, h0_0_, h0_1_, h0_2_, h0_3_, h0_5_, h0_7_, h0_9_, h0_12_⟩ := h0
 unfold l7_HazardSame at hF
 refine lc_body (k := 112) (av := [.agg (cl_Script v0_0_ v0_1_ v0_2_ v0_3_ a0.S.Taken v0_5_ a0.S.PC v0_7_ a0.S.Stop v0_9_ a0.S.Jump a0.S.Delay v0_12_).toArray]) func13 rfl rfl (h := fun W hS => ?_)
 refine c_seq <| c_region ?_
 refine o_boxP (cl := (cl_Script v0_0_ v0_1_ v0_2_ v0_3_ a0.S.Taken v0_5_ a0.S.PC v0_7_ a0.S.Stop v0_9_ a0.S.Jump a0.S.Delay v0_12_)) rfl hS ?_
 clear hS; intro b1 w hS
 refine oy hS y_assign <| n_thenN ?_
 obtain ⟨z6, hF, hK7⟩ := cut_step hF
 refine c_cutP (fun a w' => l7_HazardSame_k1 a0 () = some r ∧ (∃ s : Nat → Value, a = Ac ((Fm.dead 112 s).upd 1 (.pointer (some ⟨b1, 0, none⟩)))) ∧ St W g [] ((b1, blk (cl_Script v0_0_ v0_1_ v0_2_ v0_3_ a0.S.Taken v0_5_ a0.S.PC v0_7_ a0.S.Stop v0_9_ a0.S.Jump a0.S.Delay v0_12_) 29) :: []) w') ?_ ?_
 · skip
   refine c_seq <| c_region ?_
   refine oy hS (y_loadW (fun w hS => hS.own (mH)) underlying29 rfl (by exact sz_sledgelaw6_Script)) ?_
   obtain ⟨r8, hr8, hF⟩ := ob hF
   refine o_callS hS func18 rfl rfl (hc := (w_l6_Heavy (a0 := a0) (h0 := ⟨_, _, _, _, _, _, _, _, rfl, h0_0_.plus, h0_1_.plus, h0_2_.plus, h0_3_.plus, h0_5_.plus, h0_7_.plus, h0_9_.plus, h0_12_.plus⟩) (hF := hr8))) (h := ?_)
   clear hS; intro w hS
   refine o_split (ht := fun c9 => ?_) (hf := fun c9 => ?_)
   · replace hF := bt c9 hF
     iterate 3 (refine o_sk rfl rfl ?_)
     refine oy hS y_pickT <| n_thenN ?_
     refine c_if_true (h := ?_)
     refine c_seq <| c_region <| oy hS y_assign <| n_thenN ?_
     obtain rfl := osi hF
     obtain rfl : _ = r := hK7
     exact wp_ret (wr1 hS)
   replace hF := bf c9 hF
   refine o_gu rfl rfl rfl ?_
   refine oy hS (y_loadW (fun w hS => hS.own (mH)) underlying29 rfl (by exact sz_sledgelaw6_Script)) ?_
   refine o_gu rfl rfl rfl ?_
   obtain ⟨r10, hr10, hF⟩ := ob hF
   refine o_callS hS func25 rfl rfl (hc := (w_l6_May (a0 := a0) (h0 := ⟨_, _, _, _, _, _, _, _, rfl, h0_0_.plus, h0_1_.plus, h0_2_.plus, h0_3_.plus, h0_5_.plus, h0_7_.plus, h0_9_.plus, h0_12_.plus⟩) (hF := hr10))) (h := ?_)
   clear hS; intro w hS
   refine o_gu rfl rfl rfl <| oy hS y_not <| oy hS y_pickF <| n_thenN ?_
   refine c_if (ht := fun c11 => ?_) (hf := fun c11 => ?_)
   · replace hF := bt c11 hF
     refine c_seq <| c_region <| oy hS y_assign <| n_thenN ?_
     obtain rfl := osi hF
     obtain rfl : _ = r := hK7
     exact wp_ret (wr1 hS)
   replace hF := bf c11 hF
   refine wp_skip ?_
   obtain rfl := osi hF
   change _ ∧ _
   exact ⟨hK7, mk_exF, (hS.re (.b .hb .n))⟩
 rintro a w ⟨hF, ⟨s12, rfl⟩, hS⟩
 dsimp only [l7_HazardSame_k1] at hF
 refine c_seq <| c_region <| oy hS (y_field fa_sledgelaw6_Script_1) ?_
 refine oy hS (y_loadN (vs := (cl_State v0_1_ v0_2_ v0_3_ a0.S.Taken v0_5_ a0.S.PC v0_7_ a0.S.Stop v0_9_ a0.S.Jump a0.S.Delay)) (fun w hS => hS.own (mH)) underlying27 rfl (by exact sz_api_State) (subd (o := 0 + 1) (by exact rfl))) ?_
 obtain ⟨r13, hr13, hF⟩ := ob hF
 refine o_call0 hS func19 rfl rfl (hc := (w_r0_CopyState (a0 := a0.S) (h0 := ⟨_, _, _, _, _, _, rfl, h0_1_.plus, h0_2_.plus, h0_3_.plus, h0_5_.plus, h0_7_.plus, h0_9_.plus⟩) (hF := hr13))) (h := ?_)
 clear hS; intro v14 LY15 w hS hr16
 obtain ⟨v_0_17, LX_0_18, rfl, rfl, h_0_19⟩ := hr16
 obtain ⟨vR0_0_20, vR0_1_24, vR0_2_28, vR0_4_32, vR0_6_36, vR0_8_40, LXR0_0_21, LXR0_1_25, LXR0_2_29, LXR0_4_33, LXR0_6_37, LXR0_8_41, rfl, rfl, hR0_0_22, hR0_1_26, hR0_2_30, hR0_4_34, hR0_6_38, hR0_8_42⟩ := h_0_19
 simp only [aa, ac, al] at hS
 refine o_allocP (cl := (cl_State (.slice none 0 0) (.slice none 0 0) (.slice none 0 0) 0 (.slice none 0 0) 0 (.slice none 0 0) 0 (.slice none 0 0) 0 0)) zr_api_State rfl hS ?_
 clear hS; intro b44 w hS
 refine o_storeW (vs := (cl_State vR0_0_20 vR0_1_24 vR0_2_28 r13.Taken vR0_4_32 r13.PC vR0_6_36 r13.Stop vR0_8_40 r13.Jump r13.Delay)) hS (by exact rfl) (Upd.here _) (by exact sz_api_State) (one_State (hR0_0_22).one (hR0_1_26).one (hR0_2_30).one (hR0_4_34).one (hR0_6_38).one (hR0_8_42).one) ?_
 clear hS; intro w hS
 refine n_thenN ?_
 obtain ⟨z373, hF, hK374⟩ := cut_step hF
 refine c_cutP (fun a w' => l7_HazardSame_k2 () = some r ∧ (∃ s : Nat → Value, a = Ac (Fm.dead 112 s)) ∧ St W g [] [] w') ?_ ?_
 · skip
   refine c_seq <| c_region <| oy hS y_assign <| n_thenN <| c_block ?_
   refine c_loopP hF (fun (q : (Int × (List Int) × (List Int) × (List Int) × Int × (List Int) × Int × (List Int) × Int × (List T_Write) × Int × Int)) a w' => ∃ (v473 : Value) (v478 : Value) (v483 : Value) (v489 : Value) (v495 : Value) (v501 : Value) (LX475 : Own) (LX480 : Own) (LX485 : Own) (LX491 : Own) (LX497 : Own) (LX503 : Own), OwT 40 enc_uint32 1 q.2.1 v473 LX475 ∧ OwT 40 enc_uint32 1 q.2.2.1 v478 LX480 ∧ OwT 40 enc_uint32 1 q.2.2.2.1 v483 LX485 ∧ OwT 40 enc_uint32 1 q.2.2.2.2.2.1 v489 LX491 ∧ OwT 3 enc_int 1 q.2.2.2.2.2.2.2.1 v495 LX497 ∧ OwT 73 enc_Write 3 q.2.2.2.2.2.2.2.2.2.1 v501 LX503 ∧ (∃ s : Nat → Value, a = Ac ((((Fm.dead 112 s).upd 1 (.pointer (some ⟨b1, 0, none⟩))).upd 3 (.pointer (some ⟨b44, 0, none⟩))).upd 4 (.int .i64 q.1))) ∧ St W g [] ((b1, blk (cl_Script v0_0_ v0_1_ v0_2_ v0_3_ a0.S.Taken v0_5_ a0.S.PC v0_7_ a0.S.Stop v0_9_ a0.S.Jump a0.S.Delay v0_12_) 29) :: ((b44, blk (cl_State v473 v478 v483 q.2.2.2.2.1 v489 q.2.2.2.2.2.2.1 v495 q.2.2.2.2.2.2.2.2.1 v501 q.2.2.2.2.2.2.2.2.2.2.1 q.2.2.2.2.2.2.2.2.2.2.2) 27) :: (LX475 ++ (LX480 ++ (LX485 ++ (LX491 ++ (LX497 ++ (LX503 ++ [])))))))) w') ⟨vR0_0_20, vR0_1_24, vR0_2_28, vR0_4_32, vR0_6_36, vR0_8_40, LXR0_0_21, LXR0_1_25, LXR0_2_29, LXR0_4_33, LXR0_6_37, LXR0_8_41, hR0_0_22, hR0_1_26, hR0_2_30, hR0_4_34, hR0_6_38, hR0_8_42, mk_exF, (hS.re (.b (.thereb _ (.there _ (.there _ (.there _ (.there _ (.there _ (.there _ .hb))))))) (.b .hb (.t .h (.t .h (.t .h (.t .h (.t .h (.t .h .n)))))))))⟩ ?_
   clear hS hF
   intro n605 q a w hI hq
   obtain ⟨x471, x472, x477, x482, x487, x488, x493, x494, x499, x500, x505, x506⟩ := q
   obtain ⟨v473, v478, v483, v489, v495, v501, LX475, LX480, LX485, LX491, LX497, LX503, h474, h479, h484, h490, h496, h502, ⟨s606, rfl⟩, hS⟩ := hq
   replace h474 : OwT 40 enc_uint32 1 x472 v473 LX475 := h474
   replace h479 : OwT 40 enc_uint32 1 x477 v478 LX480 := h479
   replace h484 : OwT 40 enc_uint32 1 x482 v483 LX485 := h484
   replace h490 : OwT 40 enc_uint32 1 x488 v489 LX491 := h490
   replace h496 : OwT 3 enc_int 1 x494 v495 LX497 := h496
   replace h502 : OwT 73 enc_Write 3 x500 v501 LX503 := h502
   obtain ⟨z603, hF, hK604⟩ := iter_step hI
   clear hI
   dsimp only [l7_HazardSame_b3] at hF
   iterate 2 (refine c_seq ?_)
   refine c_region <| oy hS y_move <| oy hS y_bin <| n_thenN ?_
   refine c_if (ht := fun c607 => ?_) (hf := fun c607 => ?_)
   · replace hF := bt c607 hF
     refine wp_skip <| c_seq <| c_block <| c_seq <| c_region <| oy hS (y_field fa_sledgelaw6_Script_0) <| oy hS (y_load (fun w hS => hS.own (mH)) underlying22 rfl rfl) ?_
     refine oy hS (y_loadW (fun w hS => hS.own (mC (mH))) underlying27 rfl (by exact sz_api_State)) ?_
     obtain ⟨r608, hr608, hF⟩ := ob hF
     refine o_callS hS func34 rfl rfl (hc := (w_hazard_Find (a0 := a0.C) (a1 := (⟨x472, x477, x482, x487, x488, x493, x494, x499, x500, x505, x506⟩ : T_State)) (h0 := h0_0_.plus) (h1 := ⟨_, _, _, _, _, _, rfl, (OwT.plus h474 hS (fun p hp => mC (mC (mA (hp))))), (OwT.plus h479 hS (fun p hp => mC (mC (mB (mA (hp)))))), (OwT.plus h484 hS (fun p hp => mC (mC (mB (mB (mA (hp))))))), (OwT.plus h490 hS (fun p hp => mC (mC (mB (mB (mB (mA (hp)))))))), (OwT.plus h496 hS (fun p hp => mC (mC (mB (mB (mB (mB (mA (hp))))))))), (OwT.plus h502 hS (fun p hp => mC (mC (mB (mB (mB (mB (mB (mA (hp))))))))))⟩) (hF := hr608))) (h := ?_)
     clear hS; intro w hS
     refine oy hS y_move ?_
     iterate 2 (refine oy hS (y_extract rfl) ?_)
     iterate 2 (refine oy hS y_assign ?_)
     refine n_thenN <| c_seq <| c_region <| oy hS (y_field fa_sledgelaw6_Script_0) <| oy hS (y_load (fun w hS => hS.own (mH)) underlying22 rfl rfl) ?_
     refine oy hS (y_loadW (fun w hS => hS.own (mC (mH))) underlying27 rfl (by exact sz_api_State)) ?_
     obtain ⟨r609, hr609, hF⟩ := ob hF
     refine o_call0 hS func35 rfl rfl (hc := (w_hazard_Cycle (a0 := a0.C) (a1 := (⟨x472, x477, x482, x487, x488, x493, x494, x499, x500, x505, x506⟩ : T_State)) (h0 := h0_0_.plus) (h1 := ⟨_, _, _, _, _, _, rfl, (OwT.plus h474 hS (fun p hp => mC (mC (mA (hp))))), (OwT.plus h479 hS (fun p hp => mC (mC (mB (mA (hp)))))), (OwT.plus h484 hS (fun p hp => mC (mC (mB (mB (mA (hp))))))), (OwT.plus h490 hS (fun p hp => mC (mC (mB (mB (mB (mA (hp)))))))), (OwT.plus h496 hS (fun p hp => mC (mC (mB (mB (mB (mB (mA (hp))))))))), (OwT.plus h502 hS (fun p hp => mC (mC (mB (mB (mB (mB (mB (mA (hp))))))))))⟩) (hF := hr609))) (h := ?_)
     clear hS; intro v610 LY611 w hS hr612
     obtain ⟨v_0_613, LX_0_614, rfl, rfl, h_0_615⟩ := hr612
     obtain ⟨vR0_0_616, vR0_1_620, vR0_2_624, vR0_4_628, vR0_6_632, vR0_8_636, LXR0_0_617, LXR0_1_621, LXR0_2_625, LXR0_4_629, LXR0_6_633, LXR0_8_637, rfl, rfl, hR0_0_618, hR0_1_622, hR0_2_626, hR0_4_630, hR0_6_634, hR0_8_638⟩ := h_0_615
     simp only [aa, ac, al] at hS
     refine oy hS y_move ?_
     iterate 2 (refine oy hS (y_extract rfl) ?_)
     refine o_allocP (cl := (cl_State (.slice none 0 0) (.slice none 0 0) (.slice none 0 0) 0 (.slice none 0 0) 0 (.slice none 0 0) 0 (.slice none 0 0) 0 0)) zr_api_State rfl hS ?_
     clear hS; intro b640 w hS
     refine o_storeW (vs := (cl_State vR0_0_616 vR0_1_620 vR0_2_624 r609.1.Taken vR0_4_628 r609.1.PC vR0_6_632 r609.1.Stop vR0_8_636 r609.1.Jump r609.1.Delay)) hS (by exact rfl) (Upd.here _) (by exact sz_api_State) (one_State (hR0_0_618).one (hR0_1_622).one (hR0_2_626).one (hR0_4_630).one (hR0_6_634).one (hR0_8_638).one) ?_
     clear hS; intro w hS
     refine oy hS y_assign <| n_thenN <| c_seq <| c_region <| oy hS (y_field fa_sledgelaw6_Script_0) <| oy hS (y_load (fun w hS => hS.own (mC (mB (mB (mB (mB (mB (mB (mH))))))))) underlying22 rfl rfl) ?_
     refine oy hS (y_loadW (fun w hS => hS.own (mC (mB (mB (mB (mB (mB (mB (mC (mH)))))))))) underlying27 rfl (by exact sz_api_State)) ?_
     obtain ⟨r641, hr641, hF⟩ := ob hF
     refine o_call0 hS func30 rfl rfl (hc := (w_pipe_Cycle (a0 := a0.C) (a1 := (⟨x472, x477, x482, x487, x488, x493, x494, x499, x500, x505, x506⟩ : T_State)) (h0 := h0_0_.plus) (h1 := ⟨_, _, _, _, _, _, rfl, (OwT.plus h474 hS (fun p hp => mC (mB (mB (mB (mB (mB (mB (mC (mC (mA (hp)))))))))))), (OwT.plus h479 hS (fun p hp => mC (mB (mB (mB (mB (mB (mB (mC (mC (mB (mA (hp))))))))))))), (OwT.plus h484 hS (fun p hp => mC (mB (mB (mB (mB (mB (mB (mC (mC (mB (mB (mA (hp)))))))))))))), (OwT.plus h490 hS (fun p hp => mC (mB (mB (mB (mB (mB (mB (mC (mC (mB (mB (mB (mA (hp))))))))))))))), (OwT.plus h496 hS (fun p hp => mC (mB (mB (mB (mB (mB (mB (mC (mC (mB (mB (mB (mB (mA (hp)))))))))))))))), (OwT.plus h502 hS (fun p hp => mC (mB (mB (mB (mB (mB (mB (mC (mC (mB (mB (mB (mB (mB (mA (hp)))))))))))))))))⟩) (hF := hr641))) (h := ?_)
     clear hS; intro v642 LY643 w hS hr644
     obtain ⟨v_0_645, LX_0_646, rfl, rfl, h_0_647⟩ := hr644
     obtain ⟨vR0_0_648, vR0_1_652, vR0_2_656, vR0_4_660, vR0_6_664, vR0_8_668, LXR0_0_649, LXR0_1_653, LXR0_2_657, LXR0_4_661, LXR0_6_665, LXR0_8_669, rfl, rfl, hR0_0_650, hR0_1_654, hR0_2_658, hR0_4_662, hR0_6_666, hR0_8_670⟩ := h_0_647
     simp only [aa, ac, al] at hS
     refine oy hS y_move ?_
     iterate 2 (refine oy hS (y_extract rfl) ?_)
     refine o_allocP (cl := (cl_State (.slice none 0 0) (.slice none 0 0) (.slice none 0 0) 0 (.slice none 0 0) 0 (.slice none 0 0) 0 (.slice none 0 0) 0 0)) zr_api_State rfl hS ?_
     clear hS; intro b672 w hS
     refine o_storeW (vs := (cl_State vR0_0_648 vR0_1_652 vR0_2_656 r641.1.Taken vR0_4_660 r641.1.PC vR0_6_664 r641.1.Stop vR0_8_668 r641.1.Jump r641.1.Delay)) hS (by exact rfl) (Upd.here _) (by exact sz_api_State) (one_State (hR0_0_650).one (hR0_1_654).one (hR0_2_658).one (hR0_4_662).one (hR0_6_666).one (hR0_8_670).one) ?_
     clear hS; intro w hS
     refine oy hS y_assign <| n_thenN ?_
     obtain ⟨z678, hF, hK679⟩ := cut_step hF
     refine c_cutP (fun a w' => l7_HazardSame_k4 r608 r609 r641 x493 x477 x488 x471 () = some z603 ∧ (∃ s : Nat → Value, a = Ac (((((((Fm.dead 112 s).upd 1 (.pointer (some ⟨b1, 0, none⟩))).upd 3 (.pointer (some ⟨b44, 0, none⟩))).upd 4 (.int .i64 x471)).upd 5 (.int .i64 r608.1)).upd 7 (.pointer (some ⟨b640, 0, none⟩))).upd 9 (.pointer (some ⟨b672, 0, none⟩)))) ∧ St W g [] ((b1, blk (cl_Script v0_0_ v0_1_ v0_2_ v0_3_ a0.S.Taken v0_5_ a0.S.PC v0_7_ a0.S.Stop v0_9_ a0.S.Jump a0.S.Delay v0_12_) 29) :: ((b44, blk (cl_State v473 v478 v483 x487 v489 x493 v495 x499 v501 x505 x506) 27) :: ((b640, blk (cl_State vR0_0_616 vR0_1_620 vR0_2_624 r609.1.Taken vR0_4_628 r609.1.PC vR0_6_632 r609.1.Stop vR0_8_636 r609.1.Jump r609.1.Delay) 27) :: ((b672, blk (cl_State vR0_0_648 vR0_1_652 vR0_2_656 r641.1.Taken vR0_4_660 r641.1.PC vR0_6_664 r641.1.Stop vR0_8_668 r641.1.Jump r641.1.Delay) 27) :: (LX475 ++ (LX480 ++ (LX485 ++ (LX491 ++ (LX497 ++ (LX503 ++ (LXR0_0_617 ++ (LXR0_1_621 ++ (LXR0_2_625 ++ (LXR0_4_629 ++ (LXR0_6_633 ++ (LXR0_8_637 ++ (LXR0_0_649 ++ (LXR0_1_653 ++ (LXR0_2_657 ++ (LXR0_4_661 ++ (LXR0_6_665 ++ (LXR0_8_669 ++ [])))))))))))))))))))))) w') ?_ ?_
     · skip
       refine c_seq <| c_region <| oy hS y_move ?_
       refine o_callS hS func33 rfl rfl (hc := (w_l7_num (a0 := r608.2))) (h := ?_)
       clear hS; intro w hS
       refine oy hS y_bin ?_
       refine o_split (ht := fun c680 => ?_) (hf := fun c680 => ?_)
       · replace hF := bt c680 hF
         iterate 3 (refine o_sk rfl rfl ?_)
         refine oy hS y_pickT <| oy hS y_move ?_
         iterate 3 (refine o_sk rfl rfl ?_)
         refine oy hS y_pickT <| oy hS y_move ?_
         iterate 2 (refine o_sk rfl rfl ?_)
         refine oy hS y_pickT <| oy hS y_move ?_
         iterate 2 (refine o_sk rfl rfl ?_)
         refine oy hS y_pickT <| n_thenN ?_
         refine c_if_true (h := ?_)
         refine c_seq <| c_region <| oy hS y_assign <| n_thenN ?_
         obtain rfl := osi hF
         obtain rfl : _ = z603 := hK679
         obtain rfl : _ = z373 := hK604
         obtain rfl : _ = r := hK374
         exact wp_ret (wr1 hS)
       replace hF := bf c680 hF
       refine o_gu rfl rfl rfl <| oy hS y_move <| o_gu rfl rfl rfl ?_
       refine o_callS hS func33 rfl rfl (hc := (w_l7_num (a0 := r609.2))) (h := ?_)
       clear hS; intro w hS
       refine o_gu rfl rfl rfl <| oy hS y_bin <| oy hS y_pickF ?_
       refine o_split (ht := fun c681 => ?_) (hf := fun c681 => ?_)
       · replace hF := bt c681 hF
         iterate 3 (refine o_sk rfl rfl ?_)
         refine oy hS y_pickT <| oy hS y_move ?_
         iterate 2 (refine o_sk rfl rfl ?_)
         refine oy hS y_pickT <| oy hS y_move ?_
         iterate 2 (refine o_sk rfl rfl ?_)
         refine oy hS y_pickT <| n_thenN ?_
         refine c_if_true (h := ?_)
         refine c_seq <| c_region <| oy hS y_assign <| n_thenN ?_
         obtain rfl := osi hF
         obtain rfl : _ = z603 := hK679
         obtain rfl : _ = z373 := hK604
         obtain rfl : _ = r := hK374
         exact wp_ret (wr1 hS)
       replace hF := bf c681 hF
       refine o_gu rfl rfl rfl <| oy hS y_move <| o_gu rfl rfl rfl ?_
       refine o_callS hS func33 rfl rfl (hc := (w_l7_num (a0 := r641.2))) (h := ?_)
       clear hS; intro w hS
       refine o_gu rfl rfl rfl <| oy hS y_bin <| oy hS y_pickF ?_
       refine o_split (ht := fun c682 => ?_) (hf := fun c682 => ?_)
       · replace hF := bt c682 hF
         iterate 2 (refine o_sk rfl rfl ?_)
         refine oy hS y_pickT <| oy hS y_move ?_
         iterate 2 (refine o_sk rfl rfl ?_)
         refine oy hS y_pickT <| n_thenN ?_
         refine c_if_true (h := ?_)
         refine c_seq <| c_region <| oy hS y_assign <| n_thenN ?_
         obtain rfl := osi hF
         obtain rfl : _ = z603 := hK679
         obtain rfl : _ = z373 := hK604
         obtain rfl : _ = r := hK374
         exact wp_ret (wr1 hS)
       replace hF := bf c682 hF
       refine o_gu rfl rfl rfl <| oy hS y_move <| o_gu rfl rfl rfl <| oy hS y_bin <| oy hS y_pickF ?_
       refine o_split (ht := fun c683 => ?_) (hf := fun c683 => ?_)
       · replace hF := bt c683 hF
         iterate 2 (refine o_sk rfl rfl ?_)
         refine oy hS y_pickT <| n_thenN ?_
         refine c_if_true (h := ?_)
         refine c_seq <| c_region <| oy hS y_assign <| n_thenN ?_
         obtain rfl := osi hF
         obtain rfl : _ = z603 := hK679
         obtain rfl : _ = z373 := hK604
         obtain rfl : _ = r := hK374
         exact wp_ret (wr1 hS)
       replace hF := bf c683 hF
       refine o_gu rfl rfl rfl <| oy hS y_move <| o_gu rfl rfl rfl <| oy hS y_bin <| oy hS y_pickF <| n_thenN ?_
       refine c_if (ht := fun c684 => ?_) (hf := fun c684 => ?_)
       · replace hF := bt c684 hF
         refine c_seq <| c_region <| oy hS y_assign <| n_thenN ?_
         obtain rfl := osi hF
         obtain rfl : _ = z603 := hK679
         obtain rfl : _ = z373 := hK604
         obtain rfl : _ = r := hK374
         exact wp_ret (wr1 hS)
       replace hF := bf c684 hF
       refine wp_skip ?_
       obtain rfl := osi hF
       change _ ∧ _
       exact ⟨hK679, mk_exF, (hS.re (.b (.thereb _ (.there _ (.there _ (.there _ (.there _ (.there _ (.there _ (.thereb _ (.there _ (.there _ (.there _ (.there _ (.there _ (.there _ .hb)))))))))))))) (.b (.thereb _ (.there _ (.there _ (.there _ (.there _ (.there _ (.there _ (.thereb _ (.there _ (.there _ (.there _ (.there _ (.there _ (.there _ .hb)))))))))))))) (.b (.thereb _ (.there _ (.there _ (.there _ (.there _ (.there _ (.there _ .hb))))))) (.b .hb (.t (.there _ (.there _ (.there _ (.there _ (.there _ (.there _ (.there _ (.there _ (.there _ (.there _ (.there _ (.there _ .h)))))))))))) (.t (.there _ (.there _ (.there _ (.there _ (.there _ (.there _ (.there _ (.there _ (.there _ (.there _ (.there _ (.there _ .h)))))))))))) (.t (.there _ (.there _ (.there _ (.there _ (.there _ (.there _ (.there _ (.there _ (.there _ (.there _ (.there _ (.there _ .h)))))))))))) (.t (.there _ (.there _ (.there _ (.there _ (.there _ (.there _ (.there _ (.there _ (.there _ (.there _ (.there _ (.there _ .h)))))))))))) (.t (.there _ (.there _ (.there _ (.there _ (.there _ (.there _ (.there _ (.there _ (.there _ (.there _ (.there _ (.there _ .h)))))))))))) (.t (.there _ (.there _ (.there _ (.there _ (.there _ (.there _ (.there _ (.there _ (.there _ (.there _ (.there _ (.there _ .h)))))))))))) (.t (.there _ (.there _ (.there _ (.there _ (.there _ (.there _ .h)))))) (.t (.there _ (.there _ (.there _ (.there _ (.there _ (.there _ .h)))))) (.t (.there _ (.there _ (.there _ (.there _ (.there _ (.there _ .h)))))) (.t (.there _ (.there _ (.there _ (.there _ (.there _ (.there _ .h)))))) (.t (.there _ (.there _ (.there _ (.there _ (.there _ (.there _ .h)))))) (.t (.there _ (.there _ (.there _ (.there _ (.there _ (.there _ .h)))))) (.t .h (.t .h (.t .h (.t .h (.t .h (.t .h .n)))))))))))))))))))))))⟩
     rintro a w ⟨hF, ⟨s685, rfl⟩, hS⟩
     dsimp only [l7_HazardSame_k4] at hF
     iterate 2 (refine c_seq ?_)
     refine c_region <| oy hS y_move <| oy hS y_bin ?_
     refine o_split (ht := fun c686 => ?_) (hf := fun c686 => ?_)
     · replace hF := bt c686 hF
       refine o_gu rfl rfl rfl ?_
       refine oy hS (y_loadW (fun w hS => hS.own (mC (mC (mH)))) underlying27 rfl (by exact sz_api_State)) ?_
       refine o_gu rfl rfl rfl ?_
       refine oy hS (y_loadW (fun w hS => hS.own (mC (mC (mC (mH))))) underlying27 rfl (by exact sz_api_State)) ?_
       refine o_gu rfl rfl rfl ?_
       obtain ⟨r687, hr687, hF⟩ := ob hF
       refine o_callS hS func28 rfl rfl (hc := (w_r0_EqState (a0 := r609.1) (a1 := r641.1) (h0 := ⟨_, _, _, _, _, _, rfl, (OwT.plus hR0_0_618 hS (fun p hp => mC (mC (mC (mC (mB (mB (mB (mB (mB (mB (mA (hp))))))))))))), (OwT.plus hR0_1_622 hS (fun p hp => mC (mC (mC (mC (mB (mB (mB (mB (mB (mB (mB (mA (hp)))))))))))))), (OwT.plus hR0_2_626 hS (fun p hp => mC (mC (mC (mC (mB (mB (mB (mB (mB (mB (mB (mB (mA (hp))))))))))))))), (OwT.plus hR0_4_630 hS (fun p hp => mC (mC (mC (mC (mB (mB (mB (mB (mB (mB (mB (mB (mB (mA (hp)))))))))))))))), (OwT.plus hR0_6_634 hS (fun p hp => mC (mC (mC (mC (mB (mB (mB (mB (mB (mB (mB (mB (mB (mB (mA (hp))))))))))))))))), (OwT.plus hR0_8_638 hS (fun p hp => mC (mC (mC (mC (mB (mB (mB (mB (mB (mB (mB (mB (mB (mB (mB (mA (hp))))))))))))))))))⟩) (h1 := ⟨_, _, _, _, _, _, rfl, (OwT.plus hR0_0_650 hS (fun p hp => mC (mC (mC (mC (mB (mB (mB (mB (mB (mB (mB (mB (mB (mB (mB (mB (mA (hp))))))))))))))))))), (OwT.plus hR0_1_654 hS (fun p hp => mC (mC (mC (mC (mB (mB (mB (mB (mB (mB (mB (mB (mB (mB (mB (mB (mB (mA (hp)))))))))))))))))))), (OwT.plus hR0_2_658 hS (fun p hp => mC (mC (mC (mC (mB (mB (mB (mB (mB (mB (mB (mB (mB (mB (mB (mB (mB (mB (mA (hp))))))))))))))))))))), (OwT.plus hR0_4_662 hS (fun p hp => mC (mC (mC (mC (mB (mB (mB (mB (mB (mB (mB (mB (mB (mB (mB (mB (mB (mB (mB (mA (hp)))))))))))))))))))))), (OwT.plus hR0_6_666 hS (fun p hp => mC (mC (mC (mC (mB (mB (mB (mB (mB (mB (mB (mB (mB (mB (mB (mB (mB (mB (mB (mB (mA (hp))))))))))))))))))))))), (OwT.plus hR0_8_670 hS (fun p hp => mC (mC (mC (mC (mB (mB (mB (mB (mB (mB (mB (mB (mB (mB (mB (mB (mB (mB (mB (mB (mB (mA (hp))))))))))))))))))))))))⟩) (hF := hr687))) (h := ?_)
       clear hS; intro w hS
       refine o_gu rfl rfl rfl <| oy hS y_not <| oy hS y_pickT ?_
       refine o_split (ht := fun c688 => ?_) (hf := fun c688 => ?_)
       · replace hF := bt c688 hF
         iterate 3 (refine o_sk rfl rfl ?_)
         iterate 26 (refine o_sku rfl rfl ?_)
         refine o_sk rfl rfl ?_
         refine oy hS y_pickT <| n_thenN ?_
         refine c_if_true (h := ?_)
         refine c_seq <| c_region <| oy hS y_assign <| n_thenN ?_
         obtain rfl := osi hF
         obtain rfl : _ = z373 := hK604
         obtain rfl : _ = r := hK374
         exact wp_ret (wr1 hS)
       replace hF := bf c688 hF
       refine o_gu rfl rfl rfl <| oy hS y_move <| o_gu rfl rfl rfl <| oy hS y_bin <| o_gu rfl rfl rfl ?_
       refine o_split (ht := fun c689 => ?_) (hf := fun c689 => ?_)
       · replace hF := bt c689 hF
         refine o_gu rfl rfl rfl <| oy hS (y_field fa_api_State_7) <| o_gu rfl rfl rfl <| oy hS (y_load (fun w hS => hS.own (mC (mC (mH)))) underlying3 rfl rfl) <| o_gu rfl rfl rfl <| oy hS y_bin <| o_gu rfl rfl rfl ?_
         refine o_split (ht := fun c690 => ?_) (hf := fun c690 => ?_)
         · replace hF := bt c690 hF
           iterate 5 (refine o_sk rfl rfl ?_)
           refine o_gu rfl rfl rfl <| oy hS y_pickT <| o_gu rfl rfl rfl <| oy hS y_move ?_
           iterate 6 (refine o_sk rfl rfl ?_)
           refine o_gu rfl rfl rfl <| oy hS y_pickT <| o_gu rfl rfl rfl <| oy hS y_move ?_
           iterate 6 (refine o_sk rfl rfl ?_)
           refine o_gu rfl rfl rfl <| oy hS y_pickT <| o_gu rfl rfl rfl <| oy hS y_pickT <| oy hS y_pickF <| n_thenN ?_
           refine c_if_true (h := ?_)
           refine c_seq <| c_region <| oy hS y_assign <| n_thenN ?_
           obtain rfl := osi hF
           obtain rfl : _ = z373 := hK604
           obtain rfl : _ = r := hK374
           exact wp_ret (wr1 hS)
         replace hF := bf c690 hF
         refine o_gu rfl rfl rfl <| oy hS (y_field fa_api_State_5) <| o_gu rfl rfl rfl <| oy hS (y_load (fun w hS => hS.own (mC (mC (mH)))) underlying3 rfl rfl) <| o_gu rfl rfl rfl <| oy hS (y_field fa_api_State_5) <| o_gu rfl rfl rfl <| oy hS (y_load (fun w hS => hS.own (mC (mH))) underlying3 rfl rfl) ?_
         refine o_gu rfl rfl rfl <| oy hS y_bin <| o_gu rfl rfl rfl <| oy hS y_pickF <| o_gu rfl rfl rfl ?_
         refine o_split (ht := fun c691 => ?_) (hf := fun c691 => ?_)
         · replace hF := bt c691 hF
           iterate 6 (refine o_sk rfl rfl ?_)
           refine o_gu rfl rfl rfl <| oy hS y_pickT <| o_gu rfl rfl rfl <| oy hS y_move ?_
           iterate 6 (refine o_sk rfl rfl ?_)
           refine o_gu rfl rfl rfl <| oy hS y_pickT <| o_gu rfl rfl rfl <| oy hS y_pickT <| oy hS y_pickF <| n_thenN ?_
           refine c_if_true (h := ?_)
           refine c_seq <| c_region <| oy hS y_assign <| n_thenN ?_
           obtain rfl := osi hF
           obtain rfl : _ = z373 := hK604
           obtain rfl : _ = r := hK374
           exact wp_ret (wr1 hS)
         replace hF := bf c691 hF
         refine o_gu rfl rfl rfl <| oy hS (y_field fa_api_State_1) <| o_gu rfl rfl rfl <| oy hS (y_load (fun w hS => hS.own (mC (mC (mH)))) underlying23 rfl rfl) <| o_gu rfl rfl rfl <| oy hS (y_field fa_api_State_1) <| o_gu rfl rfl rfl <| oy hS (y_load (fun w hS => hS.own (mC (mH))) underlying23 rfl rfl) ?_
         refine o_gu rfl rfl rfl ?_
         obtain ⟨r692, hr692, hF⟩ := ob hF
         refine o_callS hS func45 rfl rfl (hc := (w_r0_EqWords (a0 := r609.1.Mem) (a1 := x477) (h0 := (OwT.plus hR0_1_622 hS (fun p hp => mC (mC (mC (mC (mB (mB (mB (mB (mB (mB (mB (mA (hp))))))))))))))) (h1 := (OwT.plus h479 hS (fun p hp => mC (mC (mC (mC (mB (mA (hp))))))))) (hF := hr692))) (h := ?_)
         clear hS; intro w hS
         refine o_gu rfl rfl rfl <| oy hS y_not <| o_gu rfl rfl rfl <| oy hS y_pickF <| o_gu rfl rfl rfl ?_
         refine o_split (ht := fun c693 => ?_) (hf := fun c693 => ?_)
         · replace hF := bt c693 hF
           iterate 6 (refine o_sk rfl rfl ?_)
           refine o_gu rfl rfl rfl <| oy hS y_pickT <| o_gu rfl rfl rfl <| oy hS y_pickT <| oy hS y_pickF <| n_thenN ?_
           refine c_if_true (h := ?_)
           refine c_seq <| c_region <| oy hS y_assign <| n_thenN ?_
           obtain rfl := osi hF
           obtain rfl : _ = z373 := hK604
           obtain rfl : _ = r := hK374
           exact wp_ret (wr1 hS)
         replace hF := bf c693 hF
         refine o_gu rfl rfl rfl <| oy hS (y_field fa_api_State_4) <| o_gu rfl rfl rfl <| oy hS (y_load (fun w hS => hS.own (mC (mC (mH)))) underlying23 rfl rfl) <| o_gu rfl rfl rfl <| oy hS (y_field fa_api_State_4) <| o_gu rfl rfl rfl <| oy hS (y_load (fun w hS => hS.own (mC (mH))) underlying23 rfl rfl) ?_
         refine o_gu rfl rfl rfl ?_
         obtain ⟨r694, hr694, hF⟩ := ob hF
         refine o_callS hS func45 rfl rfl (hc := (w_r0_EqWords (a0 := r609.1.Out) (a1 := x488) (h0 := (OwT.plus hR0_4_630 hS (fun p hp => mC (mC (mC (mC (mB (mB (mB (mB (mB (mB (mB (mB (mB (mA (hp))))))))))))))))) (h1 := (OwT.plus h490 hS (fun p hp => mC (mC (mC (mC (mB (mB (mB (mA (hp))))))))))) (hF := hr694))) (h := ?_)
         clear hS; intro w hS
         refine o_gu rfl rfl rfl <| oy hS y_not <| o_gu rfl rfl rfl <| oy hS y_pickF <| o_gu rfl rfl rfl <| oy hS y_pickT <| oy hS y_pickF <| n_thenN ?_
         refine c_if (ht := fun c695 => ?_) (hf := fun c695 => ?_)
         · replace hF := bt c695 hF
           refine c_seq <| c_region <| oy hS y_assign <| n_thenN ?_
           obtain rfl := osi hF
           obtain rfl : _ = z373 := hK604
           obtain rfl : _ = r := hK374
           exact wp_ret (wr1 hS)
         replace hF := bf c695 hF
         refine wp_skip <| c_region ?_
         refine oy hS (y_loadW (fun w hS => hS.own (mC (mC (mC (mH))))) underlying27 rfl (by exact sz_api_State)) ?_
         refine o_storeW (vs := (cl_State vR0_0_648 vR0_1_652 vR0_2_656 r641.1.Taken vR0_4_660 r641.1.PC vR0_6_664 r641.1.Stop vR0_8_668 r641.1.Jump r641.1.Delay)) hS (by exact rfl) (Upd.there _ (Upd.here _)) (by exact sz_api_State) (one_State (hR0_0_650).one (hR0_1_654).one (hR0_2_658).one (hR0_4_662).one (hR0_6_666).one (hR0_8_670).one) ?_
         clear hS; intro w hS
         refine n_anyN ?_
         refine c_region <| oy hS y_move <| oy hS y_bin <| oy hS y_assign <| n_thenN ?_
         obtain rfl := osi hF
         exact ⟨_, hK604, vR0_0_648, vR0_1_652, vR0_2_656, vR0_4_660, vR0_6_664, vR0_8_668, LXR0_0_649, LXR0_1_653, LXR0_2_657, LXR0_4_661, LXR0_6_665, LXR0_8_669, hR0_0_650, hR0_1_654, hR0_2_658, hR0_4_662, hR0_6_666, hR0_8_670, mk_exF, (hS.re (.b .hb (.b .hb (.t (.thereb _ (.thereb _ (.there _ (.there _ (.there _ (.there _ (.there _ (.there _ (.there _ (.there _ (.there _ (.there _ (.there _ (.there _ .h)))))))))))))) (.t (.thereb _ (.thereb _ (.there _ (.there _ (.there _ (.there _ (.there _ (.there _ (.there _ (.there _ (.there _ (.there _ (.there _ (.there _ .h)))))))))))))) (.t (.thereb _ (.thereb _ (.there _ (.there _ (.there _ (.there _ (.there _ (.there _ (.there _ (.there _ (.there _ (.there _ (.there _ (.there _ .h)))))))))))))) (.t (.thereb _ (.thereb _ (.there _ (.there _ (.there _ (.there _ (.there _ (.there _ (.there _ (.there _ (.there _ (.there _ (.there _ (.there _ .h)))))))))))))) (.t (.thereb _ (.thereb _ (.there _ (.there _ (.there _ (.there _ (.there _ (.there _ (.there _ (.there _ (.there _ (.there _ (.there _ (.there _ .h)))))))))))))) (.t (.thereb _ (.thereb _ (.there _ (.there _ (.there _ (.there _ (.there _ (.there _ (.there _ (.there _ (.there _ (.there _ (.there _ (.there _ .h)))))))))))))) .n)))))))))⟩
       replace hF := bf c689 hF
       iterate 4 (refine o_sk rfl rfl ?_)
       iterate 5 (refine o_sku rfl rfl ?_)
       iterate 2 (refine o_sk rfl rfl ?_)
       iterate 6 (refine o_sku rfl rfl ?_)
       iterate 2 (refine o_sk rfl rfl ?_)
       iterate 6 (refine o_sku rfl rfl ?_)
       refine o_sk rfl rfl ?_
       refine o_gu rfl rfl rfl ?_
       iterate 2 (refine oy hS y_pickF ?_)
       refine n_thenN ?_
       refine c_if_false (h := ?_)
       refine wp_skip <| c_region ?_
       refine oy hS (y_loadW (fun w hS => hS.own (mC (mC (mC (mH))))) underlying27 rfl (by exact sz_api_State)) ?_
       refine o_storeW (vs := (cl_State vR0_0_648 vR0_1_652 vR0_2_656 r641.1.Taken vR0_4_660 r641.1.PC vR0_6_664 r641.1.Stop vR0_8_668 r641.1.Jump r641.1.Delay)) hS (by exact rfl) (Upd.there _ (Upd.here _)) (by exact sz_api_State) (one_State (hR0_0_650).one (hR0_1_654).one (hR0_2_658).one (hR0_4_662).one (hR0_6_666).one (hR0_8_670).one) ?_
       clear hS; intro w hS
       refine n_anyN ?_
       refine c_region <| oy hS y_move <| oy hS y_bin <| oy hS y_assign <| n_thenN ?_
       obtain rfl := osi hF
       exact ⟨_, hK604, vR0_0_648, vR0_1_652, vR0_2_656, vR0_4_660, vR0_6_664, vR0_8_668, LXR0_0_649, LXR0_1_653, LXR0_2_657, LXR0_4_661, LXR0_6_665, LXR0_8_669, hR0_0_650, hR0_1_654, hR0_2_658, hR0_4_662, hR0_6_666, hR0_8_670, mk_exF, (hS.re (.b .hb (.b .hb (.t (.thereb _ (.thereb _ (.there _ (.there _ (.there _ (.there _ (.there _ (.there _ (.there _ (.there _ (.there _ (.there _ (.there _ (.there _ .h)))))))))))))) (.t (.thereb _ (.thereb _ (.there _ (.there _ (.there _ (.there _ (.there _ (.there _ (.there _ (.there _ (.there _ (.there _ (.there _ (.there _ .h)))))))))))))) (.t (.thereb _ (.thereb _ (.there _ (.there _ (.there _ (.there _ (.there _ (.there _ (.there _ (.there _ (.there _ (.there _ (.there _ (.there _ .h)))))))))))))) (.t (.thereb _ (.thereb _ (.there _ (.there _ (.there _ (.there _ (.there _ (.there _ (.there _ (.there _ (.there _ (.there _ (.there _ (.there _ .h)))))))))))))) (.t (.thereb _ (.thereb _ (.there _ (.there _ (.there _ (.there _ (.there _ (.there _ (.there _ (.there _ (.there _ (.there _ (.there _ (.there _ .h)))))))))))))) (.t (.thereb _ (.thereb _ (.there _ (.there _ (.there _ (.there _ (.there _ (.there _ (.there _ (.there _ (.there _ (.there _ (.there _ (.there _ .h)))))))))))))) .n)))))))))⟩
     replace hF := bf c686 hF
     iterate 4 (refine o_sk rfl rfl ?_)
     refine oy hS y_pickF <| oy hS y_move <| o_gu rfl rfl rfl <| oy hS y_move <| o_gu rfl rfl rfl <| oy hS y_bin <| o_gu rfl rfl rfl ?_
     refine o_split (ht := fun c696 => ?_) (hf := fun c696 => ?_)
     · replace hF := bt c696 hF
       refine o_gu rfl rfl rfl <| oy hS (y_field fa_api_State_7) <| o_gu rfl rfl rfl <| oy hS (y_load (fun w hS => hS.own (mC (mC (mH)))) underlying3 rfl rfl) <| o_gu rfl rfl rfl <| oy hS y_bin <| o_gu rfl rfl rfl ?_
       refine o_split (ht := fun c697 => ?_) (hf := fun c697 => ?_)
       · replace hF := bt c697 hF
         iterate 5 (refine o_sk rfl rfl ?_)
         refine o_gu rfl rfl rfl <| oy hS y_pickT <| o_gu rfl rfl rfl <| oy hS y_move ?_
         iterate 6 (refine o_sk rfl rfl ?_)
         refine o_gu rfl rfl rfl <| oy hS y_pickT <| o_gu rfl rfl rfl <| oy hS y_move ?_
         iterate 6 (refine o_sk rfl rfl ?_)
         refine o_gu rfl rfl rfl <| oy hS y_pickT <| o_gu rfl rfl rfl <| oy hS y_pickT <| oy hS y_pickF <| n_thenN ?_
         refine c_if_true (h := ?_)
         refine c_seq <| c_region <| oy hS y_assign <| n_thenN ?_
         obtain rfl := osi hF
         obtain rfl : _ = z373 := hK604
         obtain rfl : _ = r := hK374
         exact wp_ret (wr1 hS)
       replace hF := bf c697 hF
       refine o_gu rfl rfl rfl <| oy hS (y_field fa_api_State_5) <| o_gu rfl rfl rfl <| oy hS (y_load (fun w hS => hS.own (mC (mC (mH)))) underlying3 rfl rfl) <| o_gu rfl rfl rfl <| oy hS (y_field fa_api_State_5) <| o_gu rfl rfl rfl <| oy hS (y_load (fun w hS => hS.own (mC (mH))) underlying3 rfl rfl) ?_
       refine o_gu rfl rfl rfl <| oy hS y_bin <| o_gu rfl rfl rfl <| oy hS y_pickF <| o_gu rfl rfl rfl ?_
       refine o_split (ht := fun c698 => ?_) (hf := fun c698 => ?_)
       · replace hF := bt c698 hF
         iterate 6 (refine o_sk rfl rfl ?_)
         refine o_gu rfl rfl rfl <| oy hS y_pickT <| o_gu rfl rfl rfl <| oy hS y_move ?_
         iterate 6 (refine o_sk rfl rfl ?_)
         refine o_gu rfl rfl rfl <| oy hS y_pickT <| o_gu rfl rfl rfl <| oy hS y_pickT <| oy hS y_pickF <| n_thenN ?_
         refine c_if_true (h := ?_)
         refine c_seq <| c_region <| oy hS y_assign <| n_thenN ?_
         obtain rfl := osi hF
         obtain rfl : _ = z373 := hK604
         obtain rfl : _ = r := hK374
         exact wp_ret (wr1 hS)
       replace hF := bf c698 hF
       refine o_gu rfl rfl rfl <| oy hS (y_field fa_api_State_1) <| o_gu rfl rfl rfl <| oy hS (y_load (fun w hS => hS.own (mC (mC (mH)))) underlying23 rfl rfl) <| o_gu rfl rfl rfl <| oy hS (y_field fa_api_State_1) <| o_gu rfl rfl rfl <| oy hS (y_load (fun w hS => hS.own (mC (mH))) underlying23 rfl rfl) ?_
       refine o_gu rfl rfl rfl ?_
       obtain ⟨r699, hr699, hF⟩ := ob hF
       refine o_callS hS func45 rfl rfl (hc := (w_r0_EqWords (a0 := r609.1.Mem) (a1 := x477) (h0 := (OwT.plus hR0_1_622 hS (fun p hp => mC (mC (mC (mC (mB (mB (mB (mB (mB (mB (mB (mA (hp))))))))))))))) (h1 := (OwT.plus h479 hS (fun p hp => mC (mC (mC (mC (mB (mA (hp))))))))) (hF := hr699))) (h := ?_)
       clear hS; intro w hS
       refine o_gu rfl rfl rfl <| oy hS y_not <| o_gu rfl rfl rfl <| oy hS y_pickF <| o_gu rfl rfl rfl ?_
       refine o_split (ht := fun c700 => ?_) (hf := fun c700 => ?_)
       · replace hF := bt c700 hF
         iterate 6 (refine o_sk rfl rfl ?_)
         refine o_gu rfl rfl rfl <| oy hS y_pickT <| o_gu rfl rfl rfl <| oy hS y_pickT <| oy hS y_pickF <| n_thenN ?_
         refine c_if_true (h := ?_)
         refine c_seq <| c_region <| oy hS y_assign <| n_thenN ?_
         obtain rfl := osi hF
         obtain rfl : _ = z373 := hK604
         obtain rfl : _ = r := hK374
         exact wp_ret (wr1 hS)
       replace hF := bf c700 hF
       refine o_gu rfl rfl rfl <| oy hS (y_field fa_api_State_4) <| o_gu rfl rfl rfl <| oy hS (y_load (fun w hS => hS.own (mC (mC (mH)))) underlying23 rfl rfl) <| o_gu rfl rfl rfl <| oy hS (y_field fa_api_State_4) <| o_gu rfl rfl rfl <| oy hS (y_load (fun w hS => hS.own (mC (mH))) underlying23 rfl rfl) ?_
       refine o_gu rfl rfl rfl ?_
       obtain ⟨r701, hr701, hF⟩ := ob hF
       refine o_callS hS func45 rfl rfl (hc := (w_r0_EqWords (a0 := r609.1.Out) (a1 := x488) (h0 := (OwT.plus hR0_4_630 hS (fun p hp => mC (mC (mC (mC (mB (mB (mB (mB (mB (mB (mB (mB (mB (mA (hp))))))))))))))))) (h1 := (OwT.plus h490 hS (fun p hp => mC (mC (mC (mC (mB (mB (mB (mA (hp))))))))))) (hF := hr701))) (h := ?_)
       clear hS; intro w hS
       refine o_gu rfl rfl rfl <| oy hS y_not <| o_gu rfl rfl rfl <| oy hS y_pickF <| o_gu rfl rfl rfl <| oy hS y_pickT <| oy hS y_pickF <| n_thenN ?_
       refine c_if (ht := fun c702 => ?_) (hf := fun c702 => ?_)
       · replace hF := bt c702 hF
         refine c_seq <| c_region <| oy hS y_assign <| n_thenN ?_
         obtain rfl := osi hF
         obtain rfl : _ = z373 := hK604
         obtain rfl : _ = r := hK374
         exact wp_ret (wr1 hS)
       replace hF := bf c702 hF
       refine wp_skip <| c_region ?_
       refine oy hS (y_loadW (fun w hS => hS.own (mC (mC (mC (mH))))) underlying27 rfl (by exact sz_api_State)) ?_
       refine o_storeW (vs := (cl_State vR0_0_648 vR0_1_652 vR0_2_656 r641.1.Taken vR0_4_660 r641.1.PC vR0_6_664 r641.1.Stop vR0_8_668 r641.1.Jump r641.1.Delay)) hS (by exact rfl) (Upd.there _ (Upd.here _)) (by exact sz_api_State) (one_State (hR0_0_650).one (hR0_1_654).one (hR0_2_658).one (hR0_4_662).one (hR0_6_666).one (hR0_8_670).one) ?_
       clear hS; intro w hS
       refine n_anyN ?_
       refine c_region <| oy hS y_move <| oy hS y_bin <| oy hS y_assign <| n_thenN ?_
       obtain rfl := osi hF
       exact ⟨_, hK604, vR0_0_648, vR0_1_652, vR0_2_656, vR0_4_660, vR0_6_664, vR0_8_668, LXR0_0_649, LXR0_1_653, LXR0_2_657, LXR0_4_661, LXR0_6_665, LXR0_8_669, hR0_0_650, hR0_1_654, hR0_2_658, hR0_4_662, hR0_6_666, hR0_8_670, mk_exF, (hS.re (.b .hb (.b .hb (.t (.thereb _ (.thereb _ (.there _ (.there _ (.there _ (.there _ (.there _ (.there _ (.there _ (.there _ (.there _ (.there _ (.there _ (.there _ .h)))))))))))))) (.t (.thereb _ (.thereb _ (.there _ (.there _ (.there _ (.there _ (.there _ (.there _ (.there _ (.there _ (.there _ (.there _ (.there _ (.there _ .h)))))))))))))) (.t (.thereb _ (.thereb _ (.there _ (.there _ (.there _ (.there _ (.there _ (.there _ (.there _ (.there _ (.there _ (.there _ (.there _ (.there _ .h)))))))))))))) (.t (.thereb _ (.thereb _ (.there _ (.there _ (.there _ (.there _ (.there _ (.there _ (.there _ (.there _ (.there _ (.there _ (.there _ (.there _ .h)))))))))))))) (.t (.thereb _ (.thereb _ (.there _ (.there _ (.there _ (.there _ (.there _ (.there _ (.there _ (.there _ (.there _ (.there _ (.there _ (.there _ .h)))))))))))))) (.t (.thereb _ (.thereb _ (.there _ (.there _ (.there _ (.there _ (.there _ (.there _ (.there _ (.there _ (.there _ (.there _ (.there _ (.there _ .h)))))))))))))) .n)))))))))⟩
     replace hF := bf c696 hF
     iterate 4 (refine o_sk rfl rfl ?_)
     iterate 5 (refine o_sku rfl rfl ?_)
     iterate 2 (refine o_sk rfl rfl ?_)
     iterate 6 (refine o_sku rfl rfl ?_)
     iterate 2 (refine o_sk rfl rfl ?_)
     iterate 6 (refine o_sku rfl rfl ?_)
     refine o_sk rfl rfl ?_
     refine o_gu rfl rfl rfl ?_
     iterate 2 (refine oy hS y_pickF ?_)
     refine n_thenN ?_
     refine c_if_false (h := ?_)
     refine wp_skip <| c_region ?_
     refine oy hS (y_loadW (fun w hS => hS.own (mC (mC (mC (mH))))) underlying27 rfl (by exact sz_api_State)) ?_
     refine o_storeW (vs := (cl_State vR0_0_648 vR0_1_652 vR0_2_656 r641.1.Taken vR0_4_660 r641.1.PC vR0_6_664 r641.1.Stop vR0_8_668 r641.1.Jump r641.1.Delay)) hS (by exact rfl) (Upd.there _ (Upd.here _)) (by exact sz_api_State) (one_State (hR0_0_650).one (hR0_1_654).one (hR0_2_658).one (hR0_4_662).one (hR0_6_666).one (hR0_8_670).one) ?_
     clear hS; intro w hS
     refine n_anyN ?_
     refine c_region <| oy hS y_move <| oy hS y_bin <| oy hS y_assign <| n_thenN ?_
     obtain rfl := osi hF
     exact ⟨_, hK604, vR0_0_648, vR0_1_652, vR0_2_656, vR0_4_660, vR0_6_664, vR0_8_668, LXR0_0_649, LXR0_1_653, LXR0_2_657, LXR0_4_661, LXR0_6_665, LXR0_8_669, hR0_0_650, hR0_1_654, hR0_2_658, hR0_4_662, hR0_6_666, hR0_8_670, mk_exF, (hS.re (.b .hb (.b .hb (.t (.thereb _ (.thereb _ (.there _ (.there _ (.there _ (.there _ (.there _ (.there _ (.there _ (.there _ (.there _ (.there _ (.there _ (.there _ .h)))))))))))))) (.t (.thereb _ (.thereb _ (.there _ (.there _ (.there _ (.there _ (.there _ (.there _ (.there _ (.there _ (.there _ (.there _ (.there _ (.there _ .h)))))))))))))) (.t (.thereb _ (.thereb _ (.there _ (.there _ (.there _ (.there _ (.there _ (.there _ (.there _ (.there _ (.there _ (.there _ (.there _ (.there _ .h)))))))))))))) (.t (.thereb _ (.thereb _ (.there _ (.there _ (.there _ (.there _ (.there _ (.there _ (.there _ (.there _ (.there _ (.there _ (.there _ (.there _ .h)))))))))))))) (.t (.thereb _ (.thereb _ (.there _ (.there _ (.there _ (.there _ (.there _ (.there _ (.there _ (.there _ (.there _ (.there _ (.there _ (.there _ .h)))))))))))))) (.t (.thereb _ (.thereb _ (.there _ (.there _ (.there _ (.there _ (.there _ (.there _ (.there _ (.there _ (.there _ (.there _ (.there _ (.there _ .h)))))))))))))) .n)))))))))⟩
   replace hF := bf c607 hF
   refine wp_exit ?_
   obtain rfl := osi hF
   obtain rfl : _ = z373 := hK604
   change _ ∧ _
   exact ⟨hK374, mk_exF, (hS.re (.n))⟩
 rintro a w ⟨hF, ⟨s703, rfl⟩, hS⟩
 dsimp only [l7_HazardSame_k2] at hF
 refine c_seq <| c_region ?_
 refine o_callS hS func46 rfl rfl (hc := (w_r3_Valid (a0 := 0))) (h := ?_)
 clear hS; intro w hS
 refine o_split (ht := fun c704 => ?_) (hf := fun c704 => ?_)
 · replace hF := bt c704 hF
   refine o_gu rfl rfl rfl ?_
   obtain ⟨r705, hr705, hF⟩ := ob hF
   refine o_callS hS func36 rfl rfl (hc := (w_l7_wakes  (hF := hr705))) (h := ?_)
   clear hS; intro w hS
   refine oy hS y_pickT <| oy hS y_assign <| n_thenN ?_
   obtain rfl := osi hF
   exact wp_ret (wr1 hS)
 replace hF := bf c704 hF
 refine o_sk rfl rfl ?_
 refine oy hS y_pickF <| oy hS y_assign <| n_thenN ?_
 obtain rfl := osi hF
 exact wp_ret (wr1 hS)
theorem w_l7_HazardSame {g : Frag} {a0 : T_Script} {v0_ : Value} {r : Bool} (h0 : Rd_Script g a0 v0_) (hF : l7_HazardSame a0 = some r) : LCs Tryz.prog 13 #[v0_] g (.bool r) := w_l7_HazardSame_ h0 hF
end Go.Proofs.YthbpicnbkdbbmaaGreat
