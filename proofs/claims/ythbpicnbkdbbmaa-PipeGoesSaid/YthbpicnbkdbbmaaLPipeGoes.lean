/- The law PipeGoes, lifted. Printed by lift.py. -/
import Derived.Test.YthbpicnbkdbbmaaProg
import Derived.Test.YthbpicnbkdbbmaaP1
import Derived.Test.YthbpicnbkdbbmaaP10
import Derived.KernelRfl
namespace Go.Proofs.Ythbpicnbkdbbmaa
open Go Go.RowKit Fr
set_option linter.unusedVariables false
set_option linter.unusedSimpArgs false
set_option maxRecDepth 20000
open Try
set_option maxHeartbeats 2000000
noncomputable def l6_PipeGoes_k2 (r77 : (T_State × Int × Int)) (a0 : T_Script) : Unit → Option Bool := fun _ => bif decide (r77.1.Stop = 1) then bif decide (a0.S.Stop = 0) then bif decide (0 < (r77.1.Fly.length : Int)) then some (false) else bif decide (r77.1.Stop = 0) then bif decide (r77.2.1 ≠ 42) then some (false) else (l5_Heavy (⟨[], (⟨[], [], [], 0, [], 0, [], 0, [], 0, 0⟩ : T_State), [], []⟩ : T_Script5)).bind fun r149 => bif !r149 then (l6_wakes).bind fun r151 => some (r151) else some (false) else (l5_Heavy (⟨[], (⟨[], [], [], 0, [], 0, [], 0, [], 0, 0⟩ : T_State), [], []⟩ : T_Script5)).bind fun r152 => bif !r152 then (l6_wakes).bind fun r154 => some (r154) else some (false) else bif decide (r77.1.Stop = 0) then bif decide (r77.2.1 ≠ 42) then some (false) else (l5_Heavy (⟨[], (⟨[], [], [], 0, [], 0, [], 0, [], 0, 0⟩ : T_State), [], []⟩ : T_Script5)).bind fun r157 => bif !r157 then (l6_wakes).bind fun r159 => some (r159) else some (false) else (l5_Heavy (⟨[], (⟨[], [], [], 0, [], 0, [], 0, [], 0, 0⟩ : T_State), [], []⟩ : T_Script5)).bind fun r160 => bif !r160 then (l6_wakes).bind fun r162 => some (r162) else some (false) else bif decide (r77.1.Stop = 0) then bif decide (r77.2.1 ≠ 42) then some (false) else (l5_Heavy (⟨[], (⟨[], [], [], 0, [], 0, [], 0, [], 0, 0⟩ : T_State), [], []⟩ : T_Script5)).bind fun r165 => bif !r165 then (l6_wakes).bind fun r167 => some (r167) else some (false) else (l5_Heavy (⟨[], (⟨[], [], [], 0, [], 0, [], 0, [], 0, 0⟩ : T_State), [], []⟩ : T_Script5)).bind fun r168 => bif !r168 then (l6_wakes).bind fun r170 => some (r170) else some (false)
noncomputable def l6_PipeGoes_k1 (a0 : T_Script) : Unit → Option Bool := fun _ => (pipe_Run a0.C a0.S 13).bind fun r13 => (pipe_Run a0.C r13.1 29).bind fun r45 => (pipe_Run a0.C a0.S 42).bind fun r77 => cut (σ := Unit) (bif decide ((l6_num r13.2.2) ≠ 0) then some (.done (false)) else bif decide ((l6_num r45.2.2) ≠ 0) then some (.done (false)) else bif decide ((l6_num r77.2.2) ≠ 0) then some (.done (false)) else bif decide ((IntKind.i64.wrap (r13.2.1 + r45.2.1)) ≠ r77.2.1) then some (.done (false)) else (r0_EqState r45.1 r77.1).bind fun r131 => bif !r131 then some (.done (false)) else (r0_Begins r13.1.Out a0.S.Out).bind fun r133 => bif !r133 then some (.done (false)) else (r0_Begins r45.1.Out r13.1.Out).bind fun r135 => bif !r135 then some (.done (false)) else (r5_Pipe r13.1).bind fun r137 => bif !r137 then some (.done (false)) else (r5_Pipe r77.1).bind fun r139 => bif !r139 then some (.done (false)) else (pipe_Check r77.1).bind fun r141 => bif decide ((l6_num r141) ≠ 0) then some (.done (false)) else some (.next ())) (l6_PipeGoes_k2 r77 a0)
noncomputable def l6_PipeGoes (a0 : T_Script) : Option Bool :=
  cut (σ := Unit) ((l6_Heavy a0).bind fun r8 => bif r8 then some (.done (true)) else (l6_May a0).bind fun r10 => bif !r10 then some (.done (true)) else some (.next ())) (l6_PipeGoes_k1 a0)
theorem w_l6_PipeGoes_ {g : Frag} {a0 : T_Script} {v0_ : Value} {r : Bool} (h0 : Rd_Script g a0 v0_) (hF : l6_PipeGoes a0 = some r) : LCs Try.prog 4 #[v0_] g (.bool r) := by
 obtain ⟨v0_0_, v0_1_, v0_2_, v0_3_, v0_5_, v0_7_, v0_9_, v0_12_, rfl, h0_0_, h0_1_, h0_2_, h0_3_, h0_5_, h0_7_, h0_9_, h0_12_⟩ := h0
 unfold l6_PipeGoes at hF
 refine lc_body (k := 134) (av := [.agg (cl_Script v0_0_ v0_1_ v0_2_ v0_3_ a0.S.Taken v0_5_ a0.S.PC v0_7_ a0.S.Stop v0_9_ a0.S.Jump a0.S.Delay v0_12_).toArray]) func4 rfl rfl (h := fun W hS => ?_)
 refine c_seq <| c_region ?_
 refine o_boxP (cl := (cl_Script v0_0_ v0_1_ v0_2_ v0_3_ a0.S.Taken v0_5_ a0.S.PC v0_7_ a0.S.Stop v0_9_ a0.S.Jump a0.S.Delay v0_12_)) rfl hS ?_
 clear hS; intro b1 w hS
 refine oy hS y_assign <| n_thenN ?_
 obtain ⟨z6, hF, hK7⟩ := cut_step hF
 refine c_cutP (fun a w' => l6_PipeGoes_k1 a0 () = some r ∧ (∃ s : Nat → Value, a = Ac ((Fm.dead 134 s).upd 1 (.pointer (some ⟨b1, 0, none⟩)))) ∧ St W g [] ((b1, blk (cl_Script v0_0_ v0_1_ v0_2_ v0_3_ a0.S.Taken v0_5_ a0.S.PC v0_7_ a0.S.Stop v0_9_ a0.S.Jump a0.S.Delay v0_12_) 29) :: []) w') ?_ ?_
 · skip
   refine c_seq <| c_region ?_
   refine oy hS (y_loadW (fun w hS => hS.own (mH)) underlying29 rfl (by exact sz_sledgelaw6_Script)) ?_
   obtain ⟨r8, hr8, hF⟩ := ob hF
   refine o_callS hS func16 rfl rfl (hc := (w_l6_Heavy (a0 := a0) (h0 := ⟨_, _, _, _, _, _, _, _, rfl, h0_0_.plus, h0_1_.plus, h0_2_.plus, h0_3_.plus, h0_5_.plus, h0_7_.plus, h0_9_.plus, h0_12_.plus⟩) (hF := hr8))) (h := ?_)
   clear hS; intro w hS
   refine o_split (ht := fun c9 => ?_) (hf := fun c9 => ?_)
   · replace hF := bt c9 hF
     iterate 3 (refine o_sk rfl rfl ?_)
     refine oy hS y_pickT <| n_thenN ?_
     refine c_if_true (h := ?_)
     refine c_seq <| c_region <| oy hS y_assign <| n_thenN ?_
     obtain rfl := osi hF
     obtain rfl : _ = r := hK7
     exact wp_ret (wr1 hS)
   replace hF := bf c9 hF
   refine o_gu rfl rfl rfl ?_
   refine oy hS (y_loadW (fun w hS => hS.own (mH)) underlying29 rfl (by exact sz_sledgelaw6_Script)) ?_
   refine o_gu rfl rfl rfl ?_
   obtain ⟨r10, hr10, hF⟩ := ob hF
   refine o_callS hS func17 rfl rfl (hc := (w_l6_May (a0 := a0) (h0 := ⟨_, _, _, _, _, _, _, _, rfl, h0_0_.plus, h0_1_.plus, h0_2_.plus, h0_3_.plus, h0_5_.plus, h0_7_.plus, h0_9_.plus, h0_12_.plus⟩) (hF := hr10))) (h := ?_)
   clear hS; intro w hS
   refine o_gu rfl rfl rfl <| oy hS y_not <| oy hS y_pickF <| n_thenN ?_
   refine c_if (ht := fun c11 => ?_) (hf := fun c11 => ?_)
   · replace hF := bt c11 hF
     refine c_seq <| c_region <| oy hS y_assign <| n_thenN ?_
     obtain rfl := osi hF
     obtain rfl : _ = r := hK7
     exact wp_ret (wr1 hS)
   replace hF := bf c11 hF
   refine wp_skip ?_
   obtain rfl := osi hF
   change _ ∧ _
   exact ⟨hK7, mk_exF, (hS.re (.b .hb .n))⟩
 rintro a w ⟨hF, ⟨s12, rfl⟩, hS⟩
 dsimp only [l6_PipeGoes_k1] at hF
 refine c_seq <| c_region <| oy hS (y_field fa_sledgelaw6_Script_0) <| oy hS (y_load (fun w hS => hS.own (mH)) underlying22 rfl rfl) <| oy hS (y_field fa_sledgelaw6_Script_1) ?_
 refine oy hS (y_loadN (vs := (cl_State v0_1_ v0_2_ v0_3_ a0.S.Taken v0_5_ a0.S.PC v0_7_ a0.S.Stop v0_9_ a0.S.Jump a0.S.Delay)) (fun w hS => hS.own (mH)) underlying27 rfl (by exact sz_api_State) (subd (o := 0 + 1) (by exact rfl))) ?_
 obtain ⟨r13, hr13, hF⟩ := ob hF
 refine o_call0 hS func10 rfl rfl (hc := (w_pipe_Run (a0 := a0.C) (a1 := a0.S) (a2 := 13) (h0 := h0_0_.plus) (h1 := ⟨_, _, _, _, _, _, rfl, h0_1_.plus, h0_2_.plus, h0_3_.plus, h0_5_.plus, h0_7_.plus, h0_9_.plus⟩) (hF := hr13))) (h := ?_)
 clear hS; intro v14 LY15 w hS hr16
 obtain ⟨v_0_17, LX_0_18, rfl, rfl, h_0_19⟩ := hr16
 obtain ⟨vR0_0_20, vR0_1_24, vR0_2_28, vR0_4_32, vR0_6_36, vR0_8_40, LXR0_0_21, LXR0_1_25, LXR0_2_29, LXR0_4_33, LXR0_6_37, LXR0_8_41, rfl, rfl, hR0_0_22, hR0_1_26, hR0_2_30, hR0_4_34, hR0_6_38, hR0_8_42⟩ := h_0_19
 simp only [aa, ac, al] at hS
 refine oy hS y_move ?_
 iterate 3 (refine oy hS (y_extract rfl) ?_)
 refine o_allocP (cl := (cl_State (.slice none 0 0) (.slice none 0 0) (.slice none 0 0) 0 (.slice none 0 0) 0 (.slice none 0 0) 0 (.slice none 0 0) 0 0)) zr_api_State rfl hS ?_
 clear hS; intro b44 w hS
 refine o_storeW (vs := (cl_State vR0_0_20 vR0_1_24 vR0_2_28 r13.1.Taken vR0_4_32 r13.1.PC vR0_6_36 r13.1.Stop vR0_8_40 r13.1.Jump r13.1.Delay)) hS (by exact rfl) (Upd.here _) (by exact sz_api_State) (one_State (hR0_0_22).one (hR0_1_26).one (hR0_2_30).one (hR0_4_34).one (hR0_6_38).one (hR0_8_42).one) ?_
 clear hS; intro w hS
 iterate 2 (refine oy hS y_assign ?_)
 refine n_thenN <| c_seq <| c_region <| oy hS (y_field fa_sledgelaw6_Script_0) <| oy hS (y_load (fun w hS => hS.own (mC (mB (mB (mB (mB (mB (mB (mH))))))))) underlying22 rfl rfl) ?_
 refine oy hS (y_loadW (fun w hS => hS.own (mH)) underlying27 rfl (by exact sz_api_State)) ?_
 obtain ⟨r45, hr45, hF⟩ := ob hF
 refine o_call0 hS func10 rfl rfl (hc := (w_pipe_Run (a0 := a0.C) (a1 := r13.1) (a2 := 29) (h0 := h0_0_.plus) (h1 := ⟨_, _, _, _, _, _, rfl, (OwT.plus hR0_0_22 hS (fun p hp => mC (mA (hp)))), (OwT.plus hR0_1_26 hS (fun p hp => mC (mB (mA (hp))))), (OwT.plus hR0_2_30 hS (fun p hp => mC (mB (mB (mA (hp)))))), (OwT.plus hR0_4_34 hS (fun p hp => mC (mB (mB (mB (mA (hp))))))), (OwT.plus hR0_6_38 hS (fun p hp => mC (mB (mB (mB (mB (mA (hp)))))))), (OwT.plus hR0_8_42 hS (fun p hp => mC (mB (mB (mB (mB (mB (mA (hp)))))))))⟩) (hF := hr45))) (h := ?_)
 clear hS; intro v46 LY47 w hS hr48
 obtain ⟨v_0_49, LX_0_50, rfl, rfl, h_0_51⟩ := hr48
 obtain ⟨vR0_0_52, vR0_1_56, vR0_2_60, vR0_4_64, vR0_6_68, vR0_8_72, LXR0_0_53, LXR0_1_57, LXR0_2_61, LXR0_4_65, LXR0_6_69, LXR0_8_73, rfl, rfl, hR0_0_54, hR0_1_58, hR0_2_62, hR0_4_66, hR0_6_70, hR0_8_74⟩ := h_0_51
 simp only [aa, ac, al] at hS
 refine oy hS y_move ?_
 iterate 3 (refine oy hS (y_extract rfl) ?_)
 refine o_allocP (cl := (cl_State (.slice none 0 0) (.slice none 0 0) (.slice none 0 0) 0 (.slice none 0 0) 0 (.slice none 0 0) 0 (.slice none 0 0) 0 0)) zr_api_State rfl hS ?_
 clear hS; intro b76 w hS
 refine o_storeW (vs := (cl_State vR0_0_52 vR0_1_56 vR0_2_60 r45.1.Taken vR0_4_64 r45.1.PC vR0_6_68 r45.1.Stop vR0_8_72 r45.1.Jump r45.1.Delay)) hS (by exact rfl) (Upd.here _) (by exact sz_api_State) (one_State (hR0_0_54).one (hR0_1_58).one (hR0_2_62).one (hR0_4_66).one (hR0_6_70).one (hR0_8_74).one) ?_
 clear hS; intro w hS
 iterate 2 (refine oy hS y_assign ?_)
 refine n_thenN <| c_seq <| c_region <| oy hS (y_field fa_sledgelaw6_Script_0) <| oy hS (y_load (fun w hS => hS.own (mC (mB (mB (mB (mB (mB (mB (mC (mB (mB (mB (mB (mB (mB (mH)))))))))))))))) underlying22 rfl rfl) <| oy hS (y_field fa_sledgelaw6_Script_1) ?_
 refine oy hS (y_loadN (vs := (cl_State v0_1_ v0_2_ v0_3_ a0.S.Taken v0_5_ a0.S.PC v0_7_ a0.S.Stop v0_9_ a0.S.Jump a0.S.Delay)) (fun w hS => hS.own (mC (mB (mB (mB (mB (mB (mB (mC (mB (mB (mB (mB (mB (mB (mH)))))))))))))))) underlying27 rfl (by exact sz_api_State) (subd (o := 0 + 1) (by exact rfl))) ?_
 obtain ⟨r77, hr77, hF⟩ := ob hF
 refine o_call0 hS func10 rfl rfl (hc := (w_pipe_Run (a0 := a0.C) (a1 := a0.S) (a2 := 42) (h0 := h0_0_.plus) (h1 := ⟨_, _, _, _, _, _, rfl, h0_1_.plus, h0_2_.plus, h0_3_.plus, h0_5_.plus, h0_7_.plus, h0_9_.plus⟩) (hF := hr77))) (h := ?_)
 clear hS; intro v78 LY79 w hS hr80
 obtain ⟨v_0_81, LX_0_82, rfl, rfl, h_0_83⟩ := hr80
 obtain ⟨vR0_0_84, vR0_1_88, vR0_2_92, vR0_4_96, vR0_6_100, vR0_8_104, LXR0_0_85, LXR0_1_89, LXR0_2_93, LXR0_4_97, LXR0_6_101, LXR0_8_105, rfl, rfl, hR0_0_86, hR0_1_90, hR0_2_94, hR0_4_98, hR0_6_102, hR0_8_106⟩ := h_0_83
 simp only [aa, ac, al] at hS
 refine oy hS y_move ?_
 iterate 3 (refine oy hS (y_extract rfl) ?_)
 refine o_allocP (cl := (cl_State (.slice none 0 0) (.slice none 0 0) (.slice none 0 0) 0 (.slice none 0 0) 0 (.slice none 0 0) 0 (.slice none 0 0) 0 0)) zr_api_State rfl hS ?_
 clear hS; intro b108 w hS
 refine o_storeW (vs := (cl_State vR0_0_84 vR0_1_88 vR0_2_92 r77.1.Taken vR0_4_96 r77.1.PC vR0_6_100 r77.1.Stop vR0_8_104 r77.1.Jump r77.1.Delay)) hS (by exact rfl) (Upd.here _) (by exact sz_api_State) (one_State (hR0_0_86).one (hR0_1_90).one (hR0_2_94).one (hR0_4_98).one (hR0_6_102).one (hR0_8_106).one) ?_
 clear hS; intro w hS
 iterate 2 (refine oy hS y_assign ?_)
 refine n_thenN ?_
 obtain ⟨z125, hF, hK126⟩ := cut_step hF
 refine c_cutP (fun a w' => l6_PipeGoes_k2 r77 a0 () = some r ∧ (∃ s : Nat → Value, a = Ac ((((Fm.dead 134 s).upd 1 (.pointer (some ⟨b1, 0, none⟩))).upd 9 (.pointer (some ⟨b108, 0, none⟩))).upd 10 (.int .i64 r77.2.1))) ∧ St W g [] ((b1, blk (cl_Script v0_0_ v0_1_ v0_2_ v0_3_ a0.S.Taken v0_5_ a0.S.PC v0_7_ a0.S.Stop v0_9_ a0.S.Jump a0.S.Delay v0_12_) 29) :: ((b108, blk (cl_State vR0_0_84 vR0_1_88 vR0_2_92 r77.1.Taken vR0_4_96 r77.1.PC vR0_6_100 r77.1.Stop vR0_8_104 r77.1.Jump r77.1.Delay) 27) :: (LXR0_0_85 ++ (LXR0_1_89 ++ (LXR0_2_93 ++ (LXR0_4_97 ++ (LXR0_6_101 ++ (LXR0_8_105 ++ [])))))))) w') ?_ ?_
 · skip
   refine c_seq <| c_region <| oy hS y_move ?_
   refine o_callS hS func12 rfl rfl (hc := (w_l6_num (a0 := r13.2.2))) (h := ?_)
   clear hS; intro w hS
   refine oy hS y_bin ?_
   refine o_split (ht := fun c127 => ?_) (hf := fun c127 => ?_)
   · replace hF := bt c127 hF
     iterate 3 (refine o_sk rfl rfl ?_)
     refine oy hS y_pickT <| oy hS y_move ?_
     iterate 3 (refine o_sk rfl rfl ?_)
     refine oy hS y_pickT <| oy hS y_move ?_
     iterate 5 (refine o_sk rfl rfl ?_)
     refine oy hS y_pickT <| oy hS y_move ?_
     iterate 4 (refine o_sk rfl rfl ?_)
     refine oy hS y_pickT <| oy hS y_move ?_
     iterate 7 (refine o_sk rfl rfl ?_)
     refine oy hS y_pickT <| oy hS y_move ?_
     iterate 6 (refine o_sk rfl rfl ?_)
     refine oy hS y_pickT <| oy hS y_move ?_
     iterate 3 (refine o_sk rfl rfl ?_)
     refine oy hS y_pickT <| oy hS y_move ?_
     iterate 3 (refine o_sk rfl rfl ?_)
     refine oy hS y_pickT <| oy hS y_move ?_
     iterate 4 (refine o_sk rfl rfl ?_)
     refine oy hS y_pickT <| n_thenN ?_
     refine c_if_true (h := ?_)
     refine c_seq <| c_region <| oy hS y_assign <| n_thenN ?_
     obtain rfl := osi hF
     obtain rfl : _ = r := hK126
     exact wp_ret (wr1 hS)
   replace hF := bf c127 hF
   refine o_gu rfl rfl rfl <| oy hS y_move <| o_gu rfl rfl rfl ?_
   refine o_callS hS func12 rfl rfl (hc := (w_l6_num (a0 := r45.2.2))) (h := ?_)
   clear hS; intro w hS
   refine o_gu rfl rfl rfl <| oy hS y_bin <| oy hS y_pickF ?_
   refine o_split (ht := fun c128 => ?_) (hf := fun c128 => ?_)
   · replace hF := bt c128 hF
     iterate 3 (refine o_sk rfl rfl ?_)
     refine oy hS y_pickT <| oy hS y_move ?_
     iterate 5 (refine o_sk rfl rfl ?_)
     refine oy hS y_pickT <| oy hS y_move ?_
     iterate 4 (refine o_sk rfl rfl ?_)
     refine oy hS y_pickT <| oy hS y_move ?_
     iterate 7 (refine o_sk rfl rfl ?_)
     refine oy hS y_pickT <| oy hS y_move ?_
     iterate 6 (refine o_sk rfl rfl ?_)
     refine oy hS y_pickT <| oy hS y_move ?_
     iterate 3 (refine o_sk rfl rfl ?_)
     refine oy hS y_pickT <| oy hS y_move ?_
     iterate 3 (refine o_sk rfl rfl ?_)
     refine oy hS y_pickT <| oy hS y_move ?_
     iterate 4 (refine o_sk rfl rfl ?_)
     refine oy hS y_pickT <| n_thenN ?_
     refine c_if_true (h := ?_)
     refine c_seq <| c_region <| oy hS y_assign <| n_thenN ?_
     obtain rfl := osi hF
     obtain rfl : _ = r := hK126
     exact wp_ret (wr1 hS)
   replace hF := bf c128 hF
   refine o_gu rfl rfl rfl <| oy hS y_move <| o_gu rfl rfl rfl ?_
   refine o_callS hS func12 rfl rfl (hc := (w_l6_num (a0 := r77.2.2))) (h := ?_)
   clear hS; intro w hS
   refine o_gu rfl rfl rfl <| oy hS y_bin <| oy hS y_pickF ?_
   refine o_split (ht := fun c129 => ?_) (hf := fun c129 => ?_)
   · replace hF := bt c129 hF
     iterate 5 (refine o_sk rfl rfl ?_)
     refine oy hS y_pickT <| oy hS y_move ?_
     iterate 4 (refine o_sk rfl rfl ?_)
     refine oy hS y_pickT <| oy hS y_move ?_
     iterate 7 (refine o_sk rfl rfl ?_)
     refine oy hS y_pickT <| oy hS y_move ?_
     iterate 6 (refine o_sk rfl rfl ?_)
     refine oy hS y_pickT <| oy hS y_move ?_
     iterate 3 (refine o_sk rfl rfl ?_)
     refine oy hS y_pickT <| oy hS y_move ?_
     iterate 3 (refine o_sk rfl rfl ?_)
     refine oy hS y_pickT <| oy hS y_move ?_
     iterate 4 (refine o_sk rfl rfl ?_)
     refine oy hS y_pickT <| n_thenN ?_
     refine c_if_true (h := ?_)
     refine c_seq <| c_region <| oy hS y_assign <| n_thenN ?_
     obtain rfl := osi hF
     obtain rfl : _ = r := hK126
     exact wp_ret (wr1 hS)
   replace hF := bf c129 hF
   refine o_gu rfl rfl rfl <| oy hS y_move <| o_gu rfl rfl rfl <| oy hS y_move <| o_gu rfl rfl rfl <| oy hS y_bin <| o_gu rfl rfl rfl <| oy hS y_move ?_
   refine o_gu rfl rfl rfl <| oy hS y_bin <| oy hS y_pickF ?_
   refine o_split (ht := fun c130 => ?_) (hf := fun c130 => ?_)
   · replace hF := bt c130 hF
     iterate 4 (refine o_sk rfl rfl ?_)
     refine oy hS y_pickT <| oy hS y_move ?_
     iterate 7 (refine o_sk rfl rfl ?_)
     refine oy hS y_pickT <| oy hS y_move ?_
     iterate 6 (refine o_sk rfl rfl ?_)
     refine oy hS y_pickT <| oy hS y_move ?_
     iterate 3 (refine o_sk rfl rfl ?_)
     refine oy hS y_pickT <| oy hS y_move ?_
     iterate 3 (refine o_sk rfl rfl ?_)
     refine oy hS y_pickT <| oy hS y_move ?_
     iterate 4 (refine o_sk rfl rfl ?_)
     refine oy hS y_pickT <| n_thenN ?_
     refine c_if_true (h := ?_)
     refine c_seq <| c_region <| oy hS y_assign <| n_thenN ?_
     obtain rfl := osi hF
     obtain rfl : _ = r := hK126
     exact wp_ret (wr1 hS)
   replace hF := bf c130 hF
   refine o_gu rfl rfl rfl ?_
   refine oy hS (y_loadW (fun w hS => hS.own (mC (mB (mB (mB (mB (mB (mB (mH))))))))) underlying27 rfl (by exact sz_api_State)) ?_
   refine o_gu rfl rfl rfl ?_
   refine oy hS (y_loadW (fun w hS => hS.own (mH)) underlying27 rfl (by exact sz_api_State)) ?_
   refine o_gu rfl rfl rfl ?_
   obtain ⟨r131, hr131, hF⟩ := ob hF
   refine o_callS hS func13 rfl rfl (hc := (w_r0_EqState (a0 := r45.1) (a1 := r77.1) (h0 := ⟨_, _, _, _, _, _, rfl, (OwT.plus hR0_0_54 hS (fun p hp => mC (mB (mB (mB (mB (mB (mB (mC (mA (hp))))))))))), (OwT.plus hR0_1_58 hS (fun p hp => mC (mB (mB (mB (mB (mB (mB (mC (mB (mA (hp)))))))))))), (OwT.plus hR0_2_62 hS (fun p hp => mC (mB (mB (mB (mB (mB (mB (mC (mB (mB (mA (hp))))))))))))), (OwT.plus hR0_4_66 hS (fun p hp => mC (mB (mB (mB (mB (mB (mB (mC (mB (mB (mB (mA (hp)))))))))))))), (OwT.plus hR0_6_70 hS (fun p hp => mC (mB (mB (mB (mB (mB (mB (mC (mB (mB (mB (mB (mA (hp))))))))))))))), (OwT.plus hR0_8_74 hS (fun p hp => mC (mB (mB (mB (mB (mB (mB (mC (mB (mB (mB (mB (mB (mA (hp))))))))))))))))⟩) (h1 := ⟨_, _, _, _, _, _, rfl, (OwT.plus hR0_0_86 hS (fun p hp => mC (mA (hp)))), (OwT.plus hR0_1_90 hS (fun p hp => mC (mB (mA (hp))))), (OwT.plus hR0_2_94 hS (fun p hp => mC (mB (mB (mA (hp)))))), (OwT.plus hR0_4_98 hS (fun p hp => mC (mB (mB (mB (mA (hp))))))), (OwT.plus hR0_6_102 hS (fun p hp => mC (mB (mB (mB (mB (mA (hp)))))))), (OwT.plus hR0_8_106 hS (fun p hp => mC (mB (mB (mB (mB (mB (mA (hp)))))))))⟩) (hF := hr131))) (h := ?_)
   clear hS; intro w hS
   refine o_gu rfl rfl rfl <| oy hS y_not <| oy hS y_pickF ?_
   refine o_split (ht := fun c132 => ?_) (hf := fun c132 => ?_)
   · replace hF := bt c132 hF
     iterate 7 (refine o_sk rfl rfl ?_)
     refine oy hS y_pickT <| oy hS y_move ?_
     iterate 6 (refine o_sk rfl rfl ?_)
     refine oy hS y_pickT <| oy hS y_move ?_
     iterate 3 (refine o_sk rfl rfl ?_)
     refine oy hS y_pickT <| oy hS y_move ?_
     iterate 3 (refine o_sk rfl rfl ?_)
     refine oy hS y_pickT <| oy hS y_move ?_
     iterate 4 (refine o_sk rfl rfl ?_)
     refine oy hS y_pickT <| n_thenN ?_
     refine c_if_true (h := ?_)
     refine c_seq <| c_region <| oy hS y_assign <| n_thenN ?_
     obtain rfl := osi hF
     obtain rfl : _ = r := hK126
     exact wp_ret (wr1 hS)
   replace hF := bf c132 hF
   refine o_gu rfl rfl rfl <| oy hS (y_field fa_api_State_4) <| o_gu rfl rfl rfl <| oy hS (y_load (fun w hS => hS.own (mC (mB (mB (mB (mB (mB (mB (mC (mB (mB (mB (mB (mB (mB (mH)))))))))))))))) underlying23 rfl rfl) <| o_gu rfl rfl rfl <| oy hS (y_field fa_sledgelaw6_Script_1) <| o_gu rfl rfl rfl <| oy hS (y_field fa_api_State_4) ?_
   refine o_gu rfl rfl rfl <| oy hS (y_load (fun w hS => hS.own (mC (mB (mB (mB (mB (mB (mB (mC (mB (mB (mB (mB (mB (mB (mC (mB (mB (mB (mB (mB (mB (mH))))))))))))))))))))))) underlying23 rfl rfl) <| o_gu rfl rfl rfl ?_
   obtain ⟨r133, hr133, hF⟩ := ob hF
   refine o_callS hS func18 rfl rfl (hc := (w_r0_Begins (a0 := r13.1.Out) (a1 := a0.S.Out) (h0 := (OwT.plus hR0_4_34 hS (fun p hp => mC (mB (mB (mB (mB (mB (mB (mC (mB (mB (mB (mB (mB (mB (mC (mB (mB (mB (mA (hp)))))))))))))))))))))) (h1 := h0_5_.plus) (hF := hr133))) (h := ?_)
   clear hS; intro w hS
   refine o_gu rfl rfl rfl <| oy hS y_not <| oy hS y_pickF ?_
   refine o_split (ht := fun c134 => ?_) (hf := fun c134 => ?_)
   · replace hF := bt c134 hF
     iterate 6 (refine o_sk rfl rfl ?_)
     refine oy hS y_pickT <| oy hS y_move ?_
     iterate 3 (refine o_sk rfl rfl ?_)
     refine oy hS y_pickT <| oy hS y_move ?_
     iterate 3 (refine o_sk rfl rfl ?_)
     refine oy hS y_pickT <| oy hS y_move ?_
     iterate 4 (refine o_sk rfl rfl ?_)
     refine oy hS y_pickT <| n_thenN ?_
     refine c_if_true (h := ?_)
     refine c_seq <| c_region <| oy hS y_assign <| n_thenN ?_
     obtain rfl := osi hF
     obtain rfl : _ = r := hK126
     exact wp_ret (wr1 hS)
   replace hF := bf c134 hF
   refine o_gu rfl rfl rfl <| oy hS (y_field fa_api_State_4) <| o_gu rfl rfl rfl <| oy hS (y_load (fun w hS => hS.own (mC (mB (mB (mB (mB (mB (mB (mH))))))))) underlying23 rfl rfl) <| o_gu rfl rfl rfl <| oy hS (y_field fa_api_State_4) <| o_gu rfl rfl rfl <| oy hS (y_load (fun w hS => hS.own (mC (mB (mB (mB (mB (mB (mB (mC (mB (mB (mB (mB (mB (mB (mH)))))))))))))))) underlying23 rfl rfl) ?_
   refine o_gu rfl rfl rfl ?_
   obtain ⟨r135, hr135, hF⟩ := ob hF
   refine o_callS hS func18 rfl rfl (hc := (w_r0_Begins (a0 := r45.1.Out) (a1 := r13.1.Out) (h0 := (OwT.plus hR0_4_66 hS (fun p hp => mC (mB (mB (mB (mB (mB (mB (mC (mB (mB (mB (mA (hp))))))))))))))) (h1 := (OwT.plus hR0_4_34 hS (fun p hp => mC (mB (mB (mB (mB (mB (mB (mC (mB (mB (mB (mB (mB (mB (mC (mB (mB (mB (mA (hp)))))))))))))))))))))) (hF := hr135))) (h := ?_)
   clear hS; intro w hS
   refine o_gu rfl rfl rfl <| oy hS y_not <| oy hS y_pickF ?_
   refine o_split (ht := fun c136 => ?_) (hf := fun c136 => ?_)
   · replace hF := bt c136 hF
     iterate 3 (refine o_sk rfl rfl ?_)
     refine oy hS y_pickT <| oy hS y_move ?_
     iterate 3 (refine o_sk rfl rfl ?_)
     refine oy hS y_pickT <| oy hS y_move ?_
     iterate 4 (refine o_sk rfl rfl ?_)
     refine oy hS y_pickT <| n_thenN ?_
     refine c_if_true (h := ?_)
     refine c_seq <| c_region <| oy hS y_assign <| n_thenN ?_
     obtain rfl := osi hF
     obtain rfl : _ = r := hK126
     exact wp_ret (wr1 hS)
   replace hF := bf c136 hF
   refine o_gu rfl rfl rfl ?_
   refine oy hS (y_loadW (fun w hS => hS.own (mC (mB (mB (mB (mB (mB (mB (mC (mB (mB (mB (mB (mB (mB (mH)))))))))))))))) underlying27 rfl (by exact sz_api_State)) ?_
   refine o_gu rfl rfl rfl ?_
   obtain ⟨r137, hr137, hF⟩ := ob hF
   refine o_callS hS func19 rfl rfl (hc := (w_r5_Pipe (a0 := r13.1) (h0 := ⟨_, _, _, _, _, _, rfl, (OwT.plus hR0_0_22 hS (fun p hp => mC (mB (mB (mB (mB (mB (mB (mC (mB (mB (mB (mB (mB (mB (mC (mA (hp)))))))))))))))))), (OwT.plus hR0_1_26 hS (fun p hp => mC (mB (mB (mB (mB (mB (mB (mC (mB (mB (mB (mB (mB (mB (mC (mB (mA (hp))))))))))))))))))), (OwT.plus hR0_2_30 hS (fun p hp => mC (mB (mB (mB (mB (mB (mB (mC (mB (mB (mB (mB (mB (mB (mC (mB (mB (mA (hp)))))))))))))))))))), (OwT.plus hR0_4_34 hS (fun p hp => mC (mB (mB (mB (mB (mB (mB (mC (mB (mB (mB (mB (mB (mB (mC (mB (mB (mB (mA (hp))))))))))))))))))))), (OwT.plus hR0_6_38 hS (fun p hp => mC (mB (mB (mB (mB (mB (mB (mC (mB (mB (mB (mB (mB (mB (mC (mB (mB (mB (mB (mA (hp)))))))))))))))))))))), (OwT.plus hR0_8_42 hS (fun p hp => mC (mB (mB (mB (mB (mB (mB (mC (mB (mB (mB (mB (mB (mB (mC (mB (mB (mB (mB (mB (mA (hp)))))))))))))))))))))))⟩) (hF := hr137))) (h := ?_)
   clear hS; intro w hS
   refine o_gu rfl rfl rfl <| oy hS y_not <| oy hS y_pickF ?_
   refine o_split (ht := fun c138 => ?_) (hf := fun c138 => ?_)
   · replace hF := bt c138 hF
     iterate 3 (refine o_sk rfl rfl ?_)
     refine oy hS y_pickT <| oy hS y_move ?_
     iterate 4 (refine o_sk rfl rfl ?_)
     refine oy hS y_pickT <| n_thenN ?_
     refine c_if_true (h := ?_)
     refine c_seq <| c_region <| oy hS y_assign <| n_thenN ?_
     obtain rfl := osi hF
     obtain rfl : _ = r := hK126
     exact wp_ret (wr1 hS)
   replace hF := bf c138 hF
   refine o_gu rfl rfl rfl ?_
   refine oy hS (y_loadW (fun w hS => hS.own (mH)) underlying27 rfl (by exact sz_api_State)) ?_
   refine o_gu rfl rfl rfl ?_
   obtain ⟨r139, hr139, hF⟩ := ob hF
   refine o_callS hS func19 rfl rfl (hc := (w_r5_Pipe (a0 := r77.1) (h0 := ⟨_, _, _, _, _, _, rfl, (OwT.plus hR0_0_86 hS (fun p hp => mC (mA (hp)))), (OwT.plus hR0_1_90 hS (fun p hp => mC (mB (mA (hp))))), (OwT.plus hR0_2_94 hS (fun p hp => mC (mB (mB (mA (hp)))))), (OwT.plus hR0_4_98 hS (fun p hp => mC (mB (mB (mB (mA (hp))))))), (OwT.plus hR0_6_102 hS (fun p hp => mC (mB (mB (mB (mB (mA (hp)))))))), (OwT.plus hR0_8_106 hS (fun p hp => mC (mB (mB (mB (mB (mB (mA (hp)))))))))⟩) (hF := hr139))) (h := ?_)
   clear hS; intro w hS
   refine o_gu rfl rfl rfl <| oy hS y_not <| oy hS y_pickF ?_
   refine o_split (ht := fun c140 => ?_) (hf := fun c140 => ?_)
   · replace hF := bt c140 hF
     iterate 4 (refine o_sk rfl rfl ?_)
     refine oy hS y_pickT <| n_thenN ?_
     refine c_if_true (h := ?_)
     refine c_seq <| c_region <| oy hS y_assign <| n_thenN ?_
     obtain rfl := osi hF
     obtain rfl : _ = r := hK126
     exact wp_ret (wr1 hS)
   replace hF := bf c140 hF
   refine o_gu rfl rfl rfl ?_
   refine oy hS (y_loadW (fun w hS => hS.own (mH)) underlying27 rfl (by exact sz_api_State)) ?_
   refine o_gu rfl rfl rfl ?_
   obtain ⟨r141, hr141, hF⟩ := ob hF
   refine o_callS hS func20 rfl rfl (hc := (w_pipe_Check (a0 := r77.1) (h0 := ⟨_, _, _, _, _, _, rfl, (OwT.plus hR0_0_86 hS (fun p hp => mC (mA (hp)))), (OwT.plus hR0_1_90 hS (fun p hp => mC (mB (mA (hp))))), (OwT.plus hR0_2_94 hS (fun p hp => mC (mB (mB (mA (hp)))))), (OwT.plus hR0_4_98 hS (fun p hp => mC (mB (mB (mB (mA (hp))))))), (OwT.plus hR0_6_102 hS (fun p hp => mC (mB (mB (mB (mB (mA (hp)))))))), (OwT.plus hR0_8_106 hS (fun p hp => mC (mB (mB (mB (mB (mB (mA (hp)))))))))⟩) (hF := hr141))) (h := ?_)
   clear hS; intro w hS
   refine o_gu rfl rfl rfl ?_
   refine o_callS hS func12 rfl rfl (hc := (w_l6_num (a0 := r141))) (h := ?_)
   clear hS; intro w hS
   refine o_gu rfl rfl rfl <| oy hS y_bin <| oy hS y_pickF <| n_thenN ?_
   refine c_if (ht := fun c142 => ?_) (hf := fun c142 => ?_)
   · replace hF := bt c142 hF
     refine c_seq <| c_region <| oy hS y_assign <| n_thenN ?_
     obtain rfl := osi hF
     obtain rfl : _ = r := hK126
     exact wp_ret (wr1 hS)
   replace hF := bf c142 hF
   refine wp_skip ?_
   obtain rfl := osi hF
   change _ ∧ _
   exact ⟨hK126, mk_exF, (hS.re (.b (.thereb _ (.there _ (.there _ (.there _ (.there _ (.there _ (.there _ (.thereb _ (.there _ (.there _ (.there _ (.there _ (.there _ (.there _ (.thereb _ (.there _ (.there _ (.there _ (.there _ (.there _ (.there _ .hb))))))))))))))))))))) (.b .hb (.t .h (.t .h (.t .h (.t .h (.t .h (.t .h .n)))))))))⟩
 rintro a w ⟨hF, ⟨s143, rfl⟩, hS⟩
 dsimp only [l6_PipeGoes_k2] at hF
 iterate 2 (refine c_seq ?_)
 refine c_region <| oy hS (y_field fa_api_State_7) <| oy hS (y_load (fun w hS => hS.own (mC (mH))) underlying3 rfl rfl) <| oy hS y_bin ?_
 refine o_split (ht := fun c144 => ?_) (hf := fun c144 => ?_)
 · replace hF := bt c144 hF
   refine o_gu rfl rfl rfl <| oy hS (y_field fa_sledgelaw6_Script_1) <| o_gu rfl rfl rfl <| oy hS (y_field fa_api_State_7) <| o_gu rfl rfl rfl <| oy hS (y_load (fun w hS => hS.own (mH)) underlying3 rfl rfl) <| o_gu rfl rfl rfl <| oy hS y_bin ?_
   refine oy hS y_pickT ?_
   refine o_split (ht := fun c145 => ?_) (hf := fun c145 => ?_)
   · replace hF := bt c145 hF
     refine o_gu rfl rfl rfl <| oy hS (y_field fa_api_State_8) <| o_gu rfl rfl rfl <| oy hS (y_load (fun w hS => hS.own (mC (mH))) underlying25 rfl rfl) <| o_gu rfl rfl rfl <| oy hS (y_lenO hR0_8_106 underlying25) <| o_gu rfl rfl rfl <| oy hS y_bin ?_
     refine oy hS y_pickT ?_
     refine o_split (ht := fun c146 => ?_) (hf := fun c146 => ?_)
     · replace hF := bt c146 hF
       iterate 4 (refine o_sk rfl rfl ?_)
       iterate 2 (refine o_sku rfl rfl ?_)
       refine o_sk rfl rfl ?_
       refine oy hS y_pickT <| n_thenN ?_
       refine c_if_true (h := ?_)
       refine c_seq <| c_region <| oy hS y_assign <| n_thenN ?_
       obtain rfl := osi hF
       exact wp_ret (wr1 hS)
     replace hF := bf c146 hF
     refine o_gu rfl rfl rfl <| oy hS (y_field fa_api_State_7) <| o_gu rfl rfl rfl <| oy hS (y_load (fun w hS => hS.own (mC (mH))) underlying3 rfl rfl) <| o_gu rfl rfl rfl <| oy hS y_bin <| o_gu rfl rfl rfl ?_
     refine o_split (ht := fun c147 => ?_) (hf := fun c147 => ?_)
     · replace hF := bt c147 hF
       refine o_gu rfl rfl rfl <| oy hS y_move <| o_gu rfl rfl rfl <| oy hS y_bin <| o_gu rfl rfl rfl <| oy hS y_pickT <| oy hS y_pickF <| n_thenN ?_
       refine c_if (ht := fun c148 => ?_) (hf := fun c148 => ?_)
       · replace hF := bt c148 hF
         refine c_seq <| c_region <| oy hS y_assign <| n_thenN ?_
         obtain rfl := osi hF
         exact wp_ret (wr1 hS)
       replace hF := bf c148 hF
       refine wp_skip <| c_seq <| c_region <| oy hS (y_build (cl := (cl_Script5 (.slice none 0 0) (.slice none 0 0) (.slice none 0 0) (.slice none 0 0) 0 (.slice none 0 0) 0 (.slice none 0 0) 0 (.slice none 0 0) 0 0 (.slice none 0 0) (.slice none 0 0))) bt_sledgelaw5_Script5 rfl fillN) ?_
       obtain ⟨r149, hr149, hF⟩ := ob hF
       refine o_callS hS func21 rfl rfl (hc := (w_l5_Heavy (a0 := (⟨[], (⟨[], [], [], 0, [], 0, [], 0, [], 0, 0⟩ : T_State), [], []⟩ : T_Script5)) (h0 := ⟨_, _, _, _, _, _, _, _, _, rfl, (SlR.nil _ _), (SlR.nil _ _), (SlR.nil _ _), (SlR.nil _ _), (SlR.nil _ _), (SlR.nil _ _), (SlR.nil _ _), (SlR.nil _ _), (SlR.nil _ _)⟩) (hF := hr149))) (h := ?_)
       clear hS; intro w hS
       refine oy hS y_not ?_
       refine o_split (ht := fun c150 => ?_) (hf := fun c150 => ?_)
       · replace hF := bt c150 hF
         refine o_gu rfl rfl rfl ?_
         obtain ⟨r151, hr151, hF⟩ := ob hF
         refine o_callS hS func15 rfl rfl (hc := (w_l6_wakes  (hF := hr151))) (h := ?_)
         clear hS; intro w hS
         refine oy hS y_pickT <| oy hS y_assign <| n_thenN ?_
         obtain rfl := osi hF
         exact wp_ret (wr1 hS)
       replace hF := bf c150 hF
       refine o_sk rfl rfl ?_
       refine oy hS y_pickF <| oy hS y_assign <| n_thenN ?_
       obtain rfl := osi hF
       exact wp_ret (wr1 hS)
     replace hF := bf c147 hF
     iterate 2 (refine o_sk rfl rfl ?_)
     refine o_gu rfl rfl rfl ?_
     iterate 2 (refine oy hS y_pickF ?_)
     refine n_thenN ?_
     refine c_if_false (h := ?_)
     refine wp_skip <| c_seq <| c_region <| oy hS (y_build (cl := (cl_Script5 (.slice none 0 0) (.slice none 0 0) (.slice none 0 0) (.slice none 0 0) 0 (.slice none 0 0) 0 (.slice none 0 0) 0 (.slice none 0 0) 0 0 (.slice none 0 0) (.slice none 0 0))) bt_sledgelaw5_Script5 rfl fillN) ?_
     obtain ⟨r152, hr152, hF⟩ := ob hF
     refine o_callS hS func21 rfl rfl (hc := (w_l5_Heavy (a0 := (⟨[], (⟨[], [], [], 0, [], 0, [], 0, [], 0, 0⟩ : T_State), [], []⟩ : T_Script5)) (h0 := ⟨_, _, _, _, _, _, _, _, _, rfl, (SlR.nil _ _), (SlR.nil _ _), (SlR.nil _ _), (SlR.nil _ _), (SlR.nil _ _), (SlR.nil _ _), (SlR.nil _ _), (SlR.nil _ _), (SlR.nil _ _)⟩) (hF := hr152))) (h := ?_)
     clear hS; intro w hS
     refine oy hS y_not ?_
     refine o_split (ht := fun c153 => ?_) (hf := fun c153 => ?_)
     · replace hF := bt c153 hF
       refine o_gu rfl rfl rfl ?_
       obtain ⟨r154, hr154, hF⟩ := ob hF
       refine o_callS hS func15 rfl rfl (hc := (w_l6_wakes  (hF := hr154))) (h := ?_)
       clear hS; intro w hS
       refine oy hS y_pickT <| oy hS y_assign <| n_thenN ?_
       obtain rfl := osi hF
       exact wp_ret (wr1 hS)
     replace hF := bf c153 hF
     refine o_sk rfl rfl ?_
     refine oy hS y_pickF <| oy hS y_assign <| n_thenN ?_
     obtain rfl := osi hF
     exact wp_ret (wr1 hS)
   replace hF := bf c145 hF
   iterate 4 (refine o_sk rfl rfl ?_)
   refine oy hS y_pickF <| oy hS y_move <| o_gu rfl rfl rfl <| oy hS (y_field fa_api_State_7) <| o_gu rfl rfl rfl <| oy hS (y_load (fun w hS => hS.own (mC (mH))) underlying3 rfl rfl) <| o_gu rfl rfl rfl <| oy hS y_bin ?_
   refine o_gu rfl rfl rfl ?_
   refine o_split (ht := fun c155 => ?_) (hf := fun c155 => ?_)
   · replace hF := bt c155 hF
     refine o_gu rfl rfl rfl <| oy hS y_move <| o_gu rfl rfl rfl <| oy hS y_bin <| o_gu rfl rfl rfl <| oy hS y_pickT <| oy hS y_pickF <| n_thenN ?_
     refine c_if (ht := fun c156 => ?_) (hf := fun c156 => ?_)
     · replace hF := bt c156 hF
       refine c_seq <| c_region <| oy hS y_assign <| n_thenN ?_
       obtain rfl := osi hF
       exact wp_ret (wr1 hS)
     replace hF := bf c156 hF
     refine wp_skip <| c_seq <| c_region <| oy hS (y_build (cl := (cl_Script5 (.slice none 0 0) (.slice none 0 0) (.slice none 0 0) (.slice none 0 0) 0 (.slice none 0 0) 0 (.slice none 0 0) 0 (.slice none 0 0) 0 0 (.slice none 0 0) (.slice none 0 0))) bt_sledgelaw5_Script5 rfl fillN) ?_
     obtain ⟨r157, hr157, hF⟩ := ob hF
     refine o_callS hS func21 rfl rfl (hc := (w_l5_Heavy (a0 := (⟨[], (⟨[], [], [], 0, [], 0, [], 0, [], 0, 0⟩ : T_State), [], []⟩ : T_Script5)) (h0 := ⟨_, _, _, _, _, _, _, _, _, rfl, (SlR.nil _ _), (SlR.nil _ _), (SlR.nil _ _), (SlR.nil _ _), (SlR.nil _ _), (SlR.nil _ _), (SlR.nil _ _), (SlR.nil _ _), (SlR.nil _ _)⟩) (hF := hr157))) (h := ?_)
     clear hS; intro w hS
     refine oy hS y_not ?_
     refine o_split (ht := fun c158 => ?_) (hf := fun c158 => ?_)
     · replace hF := bt c158 hF
       refine o_gu rfl rfl rfl ?_
       obtain ⟨r159, hr159, hF⟩ := ob hF
       refine o_callS hS func15 rfl rfl (hc := (w_l6_wakes  (hF := hr159))) (h := ?_)
       clear hS; intro w hS
       refine oy hS y_pickT <| oy hS y_assign <| n_thenN ?_
       obtain rfl := osi hF
       exact wp_ret (wr1 hS)
     replace hF := bf c158 hF
     refine o_sk rfl rfl ?_
     refine oy hS y_pickF <| oy hS y_assign <| n_thenN ?_
     obtain rfl := osi hF
     exact wp_ret (wr1 hS)
   replace hF := bf c155 hF
   iterate 2 (refine o_sk rfl rfl ?_)
   refine o_gu rfl rfl rfl ?_
   iterate 2 (refine oy hS y_pickF ?_)
   refine n_thenN ?_
   refine c_if_false (h := ?_)
   refine wp_skip <| c_seq <| c_region <| oy hS (y_build (cl := (cl_Script5 (.slice none 0 0) (.slice none 0 0) (.slice none 0 0) (.slice none 0 0) 0 (.slice none 0 0) 0 (.slice none 0 0) 0 (.slice none 0 0) 0 0 (.slice none 0 0) (.slice none 0 0))) bt_sledgelaw5_Script5 rfl fillN) ?_
   obtain ⟨r160, hr160, hF⟩ := ob hF
   refine o_callS hS func21 rfl rfl (hc := (w_l5_Heavy (a0 := (⟨[], (⟨[], [], [], 0, [], 0, [], 0, [], 0, 0⟩ : T_State), [], []⟩ : T_Script5)) (h0 := ⟨_, _, _, _, _, _, _, _, _, rfl, (SlR.nil _ _), (SlR.nil _ _), (SlR.nil _ _), (SlR.nil _ _), (SlR.nil _ _), (SlR.nil _ _), (SlR.nil _ _), (SlR.nil _ _), (SlR.nil _ _)⟩) (hF := hr160))) (h := ?_)
   clear hS; intro w hS
   refine oy hS y_not ?_
   refine o_split (ht := fun c161 => ?_) (hf := fun c161 => ?_)
   · replace hF := bt c161 hF
     refine o_gu rfl rfl rfl ?_
     obtain ⟨r162, hr162, hF⟩ := ob hF
     refine o_callS hS func15 rfl rfl (hc := (w_l6_wakes  (hF := hr162))) (h := ?_)
     clear hS; intro w hS
     refine oy hS y_pickT <| oy hS y_assign <| n_thenN ?_
     obtain rfl := osi hF
     exact wp_ret (wr1 hS)
   replace hF := bf c161 hF
   refine o_sk rfl rfl ?_
   refine oy hS y_pickF <| oy hS y_assign <| n_thenN ?_
   obtain rfl := osi hF
   exact wp_ret (wr1 hS)
 replace hF := bf c144 hF
 iterate 4 (refine o_sk rfl rfl ?_)
 refine oy hS y_pickF <| oy hS y_move ?_
 iterate 4 (refine o_sk rfl rfl ?_)
 refine oy hS y_pickF <| oy hS y_move <| o_gu rfl rfl rfl <| oy hS (y_field fa_api_State_7) <| o_gu rfl rfl rfl <| oy hS (y_load (fun w hS => hS.own (mC (mH))) underlying3 rfl rfl) <| o_gu rfl rfl rfl <| oy hS y_bin ?_
 refine o_gu rfl rfl rfl ?_
 refine o_split (ht := fun c163 => ?_) (hf := fun c163 => ?_)
 · replace hF := bt c163 hF
   refine o_gu rfl rfl rfl <| oy hS y_move <| o_gu rfl rfl rfl <| oy hS y_bin <| o_gu rfl rfl rfl <| oy hS y_pickT <| oy hS y_pickF <| n_thenN ?_
   refine c_if (ht := fun c164 => ?_) (hf := fun c164 => ?_)
   · replace hF := bt c164 hF
     refine c_seq <| c_region <| oy hS y_assign <| n_thenN ?_
     obtain rfl := osi hF
     exact wp_ret (wr1 hS)
   replace hF := bf c164 hF
   refine wp_skip <| c_seq <| c_region <| oy hS (y_build (cl := (cl_Script5 (.slice none 0 0) (.slice none 0 0) (.slice none 0 0) (.slice none 0 0) 0 (.slice none 0 0) 0 (.slice none 0 0) 0 (.slice none 0 0) 0 0 (.slice none 0 0) (.slice none 0 0))) bt_sledgelaw5_Script5 rfl fillN) ?_
   obtain ⟨r165, hr165, hF⟩ := ob hF
   refine o_callS hS func21 rfl rfl (hc := (w_l5_Heavy (a0 := (⟨[], (⟨[], [], [], 0, [], 0, [], 0, [], 0, 0⟩ : T_State), [], []⟩ : T_Script5)) (h0 := ⟨_, _, _, _, _, _, _, _, _, rfl, (SlR.nil _ _), (SlR.nil _ _), (SlR.nil _ _), (SlR.nil _ _), (SlR.nil _ _), (SlR.nil _ _), (SlR.nil _ _), (SlR.nil _ _), (SlR.nil _ _)⟩) (hF := hr165))) (h := ?_)
   clear hS; intro w hS
   refine oy hS y_not ?_
   refine o_split (ht := fun c166 => ?_) (hf := fun c166 => ?_)
   · replace hF := bt c166 hF
     refine o_gu rfl rfl rfl ?_
     obtain ⟨r167, hr167, hF⟩ := ob hF
     refine o_callS hS func15 rfl rfl (hc := (w_l6_wakes  (hF := hr167))) (h := ?_)
     clear hS; intro w hS
     refine oy hS y_pickT <| oy hS y_assign <| n_thenN ?_
     obtain rfl := osi hF
     exact wp_ret (wr1 hS)
   replace hF := bf c166 hF
   refine o_sk rfl rfl ?_
   refine oy hS y_pickF <| oy hS y_assign <| n_thenN ?_
   obtain rfl := osi hF
   exact wp_ret (wr1 hS)
 replace hF := bf c163 hF
 iterate 2 (refine o_sk rfl rfl ?_)
 refine o_gu rfl rfl rfl ?_
 iterate 2 (refine oy hS y_pickF ?_)
 refine n_thenN ?_
 refine c_if_false (h := ?_)
 refine wp_skip <| c_seq <| c_region <| oy hS (y_build (cl := (cl_Script5 (.slice none 0 0) (.slice none 0 0) (.slice none 0 0) (.slice none 0 0) 0 (.slice none 0 0) 0 (.slice none 0 0) 0 (.slice none 0 0) 0 0 (.slice none 0 0) (.slice none 0 0))) bt_sledgelaw5_Script5 rfl fillN) ?_
 obtain ⟨r168, hr168, hF⟩ := ob hF
 refine o_callS hS func21 rfl rfl (hc := (w_l5_Heavy (a0 := (⟨[], (⟨[], [], [], 0, [], 0, [], 0, [], 0, 0⟩ : T_State), [], []⟩ : T_Script5)) (h0 := ⟨_, _, _, _, _, _, _, _, _, rfl, (SlR.nil _ _), (SlR.nil _ _), (SlR.nil _ _), (SlR.nil _ _), (SlR.nil _ _), (SlR.nil _ _), (SlR.nil _ _), (SlR.nil _ _), (SlR.nil _ _)⟩) (hF := hr168))) (h := ?_)
 clear hS; intro w hS
 refine oy hS y_not ?_
 refine o_split (ht := fun c169 => ?_) (hf := fun c169 => ?_)
 · replace hF := bt c169 hF
   refine o_gu rfl rfl rfl ?_
   obtain ⟨r170, hr170, hF⟩ := ob hF
   refine o_callS hS func15 rfl rfl (hc := (w_l6_wakes  (hF := hr170))) (h := ?_)
   clear hS; intro w hS
   refine oy hS y_pickT <| oy hS y_assign <| n_thenN ?_
   obtain rfl := osi hF
   exact wp_ret (wr1 hS)
 replace hF := bf c169 hF
 refine o_sk rfl rfl ?_
 refine oy hS y_pickF <| oy hS y_assign <| n_thenN ?_
 obtain rfl := osi hF
 exact wp_ret (wr1 hS)
theorem w_l6_PipeGoes {g : Frag} {a0 : T_Script} {v0_ : Value} {r : Bool} (h0 : Rd_Script g a0 v0_) (hF : l6_PipeGoes a0 = some r) : LCs Try.prog 4 #[v0_] g (.bool r) := w_l6_PipeGoes_ h0 hF
end Go.Proofs.Ythbpicnbkdbbmaa
