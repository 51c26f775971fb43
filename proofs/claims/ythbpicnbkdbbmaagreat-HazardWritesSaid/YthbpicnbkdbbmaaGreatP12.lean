/- Functions, lifted. Printed by lift.py. -/
import Derived.Test.YthbpicnbkdbbmaaGreatProg
import Derived.Test.YthbpicnbkdbbmaaGreatP11
import Derived.KernelRfl
namespace Go.Proofs.YthbpicnbkdbbmaaGreat
open Go Go.RowKit Fr
set_option linter.unusedVariables false
set_option linter.unusedSimpArgs false
set_option maxRecDepth 20000
open Tryz
set_option maxHeartbeats 2000000
noncomputable def l7_found_b1 (a0 : (List (A4 T_Ins))) : (Int × (List Int) × (List Int) × (List Int) × Int × (List Int) × Int × (List Int) × Int × (List T_Write) × Int × Int) → Option (Step (Int × (List Int) × (List Int) × (List Int) × Int × (List Int) × Int × (List Int) × Int × (List T_Write) × Int × Int) Bool) := fun (x139, x140, x145, x150, x155, x156, x161, x162, x167, x168, x173, x174) => bif decide (x139 < 30) then (hazard_Find a0 (⟨x140, x145, x150, x155, x156, x161, x162, x167, x168, x173, x174⟩ : T_State)).bind fun r284 => (hazard_Cycle a0 (⟨x140, x145, x150, x155, x156, x161, x162, x167, x168, x173, x174⟩ : T_State)).bind fun r285 => (r5_Cycles a0 (⟨x140, x145, x150, x155, x156, x161, x162, x167, x168, x173, x174⟩ : T_State) 1 true).bind fun r317 => bif decide ((l7_num r284.2) ≠ 0) then some (.done (false)) else (r5_Find a0 (⟨x140, x145, x150, x155, x156, x161, x162, x167, x168, x173, x174⟩ : T_State)).bind fun r350 => bif decide (r284.1 ≠ r350) then some (.done (false)) else bif decide ((l7_num r285.2) ≠ 0) then some (.done (false)) else (r0_EqState r285.1 r317.1).bind fun r353 => bif !r353 then some (.done (false)) else (r5_Cycles a0 (⟨x140, x145, x150, x155, x156, x161, x162, x167, x168, x173, x174⟩ : T_State) 1 false).bind fun r355 => some (.next (IntKind.i64.wrap (x139 + 1), r355.1.Regs, r355.1.Mem, r355.1.In_, r355.1.Taken, r355.1.Out, r355.1.PC, r355.1.Stack, r355.1.Stop, r355.1.Fly, r355.1.Jump, r355.1.Delay)) else (l7_wakes).bind fun r386 => some (.done (r386))
noncomputable def l7_found (a0 : (List (A4 T_Ins))) : Option Bool :=
  (r3_Code a0).bind fun r1 => bif !r1 then some (false) else (r5_New ([])).bind fun r3 => loop (σ := (Int × (List Int) × (List Int) × (List Int) × Int × (List Int) × Int × (List Int) × Int × (List T_Write) × Int × Int)) (l7_found_b1 a0) (0, r3.Regs, r3.Mem, r3.In_, r3.Taken, r3.Out, r3.PC, r3.Stack, r3.Stop, r3.Fly, r3.Jump, r3.Delay)
theorem w_l7_found_ {g : Frag} {a0 : (List (A4 T_Ins))} {v0_ : Value} {r : Bool} (h0 : SlT g enc_Bundle 24 a0 v0_) (hF : l7_found a0 = some r) : LCs Tryz.prog 42 #[v0_] g (.bool r) := by
 unfold l7_found at hF
 refine lc_body (k := 65) (av := [v0_]) func42 rfl rfl (h := fun W hS => ?_)
 refine c_seq <| c_region <| oy hS y_assign <| n_thenN ?_
 iterate 2 (refine c_seq ?_)
 refine c_region <| oy hS y_move ?_
 obtain ⟨r1, hr1, hF⟩ := ob hF
 refine o_callS hS func47 rfl rfl (hc := (w_r3_Code (a0 := a0) (h0 := h0.plus) (hF := hr1))) (h := ?_)
 clear hS; intro w hS
 refine oy hS y_not <| n_thenN ?_
 refine c_if (ht := fun c2 => ?_) (hf := fun c2 => ?_)
 · replace hF := bt c2 hF
   refine c_seq <| c_region <| oy hS y_assign <| n_thenN ?_
   obtain rfl := osi hF
   exact wp_ret (wr1 hS)
 replace hF := bf c2 hF
 refine wp_skip <| c_seq <| c_region ?_
 obtain ⟨r3, hr3, hF⟩ := ob hF
 refine o_call0 hS func43 rfl rfl (hc := (w_r5_New (a0 := ([])) (h0 := (SlR.nil _ _)) (hF := hr3))) (h := ?_)
 clear hS; intro v4 LY5 w hS hr6
 obtain ⟨v_0_7, LX_0_8, rfl, rfl, h_0_9⟩ := hr6
 obtain ⟨vR0_0_10, vR0_1_14, vR0_2_18, vR0_4_22, vR0_6_26, vR0_8_30, LXR0_0_11, LXR0_1_15, LXR0_2_19, LXR0_4_23, LXR0_6_27, LXR0_8_31, rfl, rfl, hR0_0_12, hR0_1_16, hR0_2_20, hR0_4_24, hR0_6_28, hR0_8_32⟩ := h_0_9
 simp only [aa, ac, al] at hS
 refine o_allocP (cl := (cl_State (.slice none 0 0) (.slice none 0 0) (.slice none 0 0) 0 (.slice none 0 0) 0 (.slice none 0 0) 0 (.slice none 0 0) 0 0)) zr_api_State rfl hS ?_
 clear hS; intro b34 w hS
 refine o_storeW (vs := (cl_State vR0_0_10 vR0_1_14 vR0_2_18 r3.Taken vR0_4_22 r3.PC vR0_6_26 r3.Stop vR0_8_30 r3.Jump r3.Delay)) hS (by exact rfl) (Upd.here _) (by exact sz_api_State) (one_State (hR0_0_12).one (hR0_1_16).one (hR0_2_20).one (hR0_4_24).one (hR0_6_28).one (hR0_8_32).one) ?_
 clear hS; intro w hS
 refine n_thenN ?_
 iterate 2 (refine c_seq ?_)
 refine c_region <| oy hS y_assign <| n_thenN <| c_block ?_
 refine c_loopP hF (fun (q : (Int × (List Int) × (List Int) × (List Int) × Int × (List Int) × Int × (List Int) × Int × (List T_Write) × Int × Int)) a w' => ∃ (v141 : Value) (v146 : Value) (v151 : Value) (v157 : Value) (v163 : Value) (v169 : Value) (LX143 : Own) (LX148 : Own) (LX153 : Own) (LX159 : Own) (LX165 : Own) (LX171 : Own), OwT 40 enc_uint32 1 q.2.1 v141 LX143 ∧ OwT 40 enc_uint32 1 q.2.2.1 v146 LX148 ∧ OwT 40 enc_uint32 1 q.2.2.2.1 v151 LX153 ∧ OwT 40 enc_uint32 1 q.2.2.2.2.2.1 v157 LX159 ∧ OwT 3 enc_int 1 q.2.2.2.2.2.2.2.1 v163 LX165 ∧ OwT 73 enc_Write 3 q.2.2.2.2.2.2.2.2.2.1 v169 LX171 ∧ (∃ s : Nat → Value, a = Ac ((((Fm.dead 65 s).upd 0 v0_).upd 3 (.pointer (some ⟨b34, 0, none⟩))).upd 4 (.int .i64 q.1))) ∧ St W g [] ((b34, blk (cl_State v141 v146 v151 q.2.2.2.2.1 v157 q.2.2.2.2.2.2.1 v163 q.2.2.2.2.2.2.2.2.1 v169 q.2.2.2.2.2.2.2.2.2.2.1 q.2.2.2.2.2.2.2.2.2.2.2) 27) :: (LX143 ++ (LX148 ++ (LX153 ++ (LX159 ++ (LX165 ++ (LX171 ++ []))))))) w') ⟨vR0_0_10, vR0_1_14, vR0_2_18, vR0_4_22, vR0_6_26, vR0_8_30, LXR0_0_11, LXR0_1_15, LXR0_2_19, LXR0_4_23, LXR0_6_27, LXR0_8_31, hR0_0_12, hR0_1_16, hR0_2_20, hR0_4_24, hR0_6_28, hR0_8_32, mk_exF, (hS.re (.b .hb (.t .h (.t .h (.t .h (.t .h (.t .h (.t .h .n))))))))⟩ ?_
 clear hS hF
 intro n281 q a w hI hq
 obtain ⟨x139, x140, x145, x150, x155, x156, x161, x162, x167, x168, x173, x174⟩ := q
 obtain ⟨v141, v146, v151, v157, v163, v169, LX143, LX148, LX153, LX159, LX165, LX171, h142, h147, h152, h158, h164, h170, ⟨s282, rfl⟩, hS⟩ := hq
 replace h142 : OwT 40 enc_uint32 1 x140 v141 LX143 := h142
 replace h147 : OwT 40 enc_uint32 1 x145 v146 LX148 := h147
 replace h152 : OwT 40 enc_uint32 1 x150 v151 LX153 := h152
 replace h158 : OwT 40 enc_uint32 1 x156 v157 LX159 := h158
 replace h164 : OwT 3 enc_int 1 x162 v163 LX165 := h164
 replace h170 : OwT 73 enc_Write 3 x168 v169 LX171 := h170
 obtain ⟨z279, hF, hK280⟩ := iter_step hI
 clear hI
 dsimp only [l7_found_b1] at hF
 iterate 2 (refine c_seq ?_)
 refine c_region <| oy hS y_move <| oy hS y_bin <| n_thenN ?_
 refine c_if (ht := fun c283 => ?_) (hf := fun c283 => ?_)
 · replace hF := bt c283 hF
   refine wp_skip <| c_seq <| c_block <| c_seq <| c_region <| oy hS y_move ?_
   refine oy hS (y_loadW (fun w hS => hS.own (mH)) underlying27 rfl (by exact sz_api_State)) ?_
   obtain ⟨r284, hr284, hF⟩ := ob hF
   refine o_callS hS func34 rfl rfl (hc := (w_hazard_Find (a0 := a0) (a1 := (⟨x140, x145, x150, x155, x156, x161, x162, x167, x168, x173, x174⟩ : T_State)) (h0 := h0.plus) (h1 := ⟨_, _, _, _, _, _, rfl, (OwT.plus h142 hS (fun p hp => mC (mA (hp)))), (OwT.plus h147 hS (fun p hp => mC (mB (mA (hp))))), (OwT.plus h152 hS (fun p hp => mC (mB (mB (mA (hp)))))), (OwT.plus h158 hS (fun p hp => mC (mB (mB (mB (mA (hp))))))), (OwT.plus h164 hS (fun p hp => mC (mB (mB (mB (mB (mA (hp)))))))), (OwT.plus h170 hS (fun p hp => mC (mB (mB (mB (mB (mB (mA (hp)))))))))⟩) (hF := hr284))) (h := ?_)
   clear hS; intro w hS
   refine oy hS y_move ?_
   iterate 2 (refine oy hS (y_extract rfl) ?_)
   iterate 2 (refine oy hS y_assign ?_)
   refine n_thenN <| c_seq <| c_region <| oy hS y_move ?_
   refine oy hS (y_loadW (fun w hS => hS.own (mH)) underlying27 rfl (by exact sz_api_State)) ?_
   obtain ⟨r285, hr285, hF⟩ := ob hF
   refine o_call0 hS func35 rfl rfl (hc := (w_hazard_Cycle (a0 := a0) (a1 := (⟨x140, x145, x150, x155, x156, x161, x162, x167, x168, x173, x174⟩ : T_State)) (h0 := h0.plus) (h1 := ⟨_, _, _, _, _, _, rfl, (OwT.plus h142 hS (fun p hp => mC (mA (hp)))), (OwT.plus h147 hS (fun p hp => mC (mB (mA (hp))))), (OwT.plus h152 hS (fun p hp => mC (mB (mB (mA (hp)))))), (OwT.plus h158 hS (fun p hp => mC (mB (mB (mB (mA (hp))))))), (OwT.plus h164 hS (fun p hp => mC (mB (mB (mB (mB (mA (hp)))))))), (OwT.plus h170 hS (fun p hp => mC (mB (mB (mB (mB (mB (mA (hp)))))))))⟩) (hF := hr285))) (h := ?_)
   clear hS; intro v286 LY287 w hS hr288
   obtain ⟨v_0_289, LX_0_290, rfl, rfl, h_0_291⟩ := hr288
   obtain ⟨vR0_0_292, vR0_1_296, vR0_2_300, vR0_4_304, vR0_6_308, vR0_8_312, LXR0_0_293, LXR0_1_297, LXR0_2_301, LXR0_4_305, LXR0_6_309, LXR0_8_313, rfl, rfl, hR0_0_294, hR0_1_298, hR0_2_302, hR0_4_306, hR0_6_310, hR0_8_314⟩ := h_0_291
   simp only [aa, ac, al] at hS
   refine oy hS y_move ?_
   iterate 2 (refine oy hS (y_extract rfl) ?_)
   refine o_allocP (cl := (cl_State (.slice none 0 0) (.slice none 0 0) (.slice none 0 0) 0 (.slice none 0 0) 0 (.slice none 0 0) 0 (.slice none 0 0) 0 0)) zr_api_State rfl hS ?_
   clear hS; intro b316 w hS
   refine o_storeW (vs := (cl_State vR0_0_292 vR0_1_296 vR0_2_300 r285.1.Taken vR0_4_304 r285.1.PC vR0_6_308 r285.1.Stop vR0_8_312 r285.1.Jump r285.1.Delay)) hS (by exact rfl) (Upd.here _) (by exact sz_api_State) (one_State (hR0_0_294).one (hR0_1_298).one (hR0_2_302).one (hR0_4_306).one (hR0_6_310).one (hR0_8_314).one) ?_
   clear hS; intro w hS
   refine oy hS y_assign <| n_thenN <| c_seq <| c_region <| oy hS y_move ?_
   refine oy hS (y_loadW (fun w hS => hS.own (mC (mB (mB (mB (mB (mB (mB (mH))))))))) underlying27 rfl (by exact sz_api_State)) ?_
   obtain ⟨r317, hr317, hF⟩ := ob hF
   refine o_call0 hS func27 rfl rfl (hc := (w_r5_Cycles (a0 := a0) (a1 := (⟨x140, x145, x150, x155, x156, x161, x162, x167, x168, x173, x174⟩ : T_State)) (a2 := 1) (a3 := true) (h0 := h0.plus) (h1 := ⟨_, _, _, _, _, _, rfl, (OwT.plus h142 hS (fun p hp => mC (mB (mB (mB (mB (mB (mB (mC (mA (hp))))))))))), (OwT.plus h147 hS (fun p hp => mC (mB (mB (mB (mB (mB (mB (mC (mB (mA (hp)))))))))))), (OwT.plus h152 hS (fun p hp => mC (mB (mB (mB (mB (mB (mB (mC (mB (mB (mA (hp))))))))))))), (OwT.plus h158 hS (fun p hp => mC (mB (mB (mB (mB (mB (mB (mC (mB (mB (mB (mA (hp)))))))))))))), (OwT.plus h164 hS (fun p hp => mC (mB (mB (mB (mB (mB (mB (mC (mB (mB (mB (mB (mA (hp))))))))))))))), (OwT.plus h170 hS (fun p hp => mC (mB (mB (mB (mB (mB (mB (mC (mB (mB (mB (mB (mB (mA (hp))))))))))))))))⟩) (hF := hr317))) (h := ?_)
   clear hS; intro v318 LY319 w hS hr320
   obtain ⟨v_0_321, LX_0_322, rfl, rfl, h_0_323⟩ := hr320
   obtain ⟨vR0_0_324, vR0_1_328, vR0_2_332, vR0_4_336, vR0_6_340, vR0_8_344, LXR0_0_325, LXR0_1_329, LXR0_2_333, LXR0_4_337, LXR0_6_341, LXR0_8_345, rfl, rfl, hR0_0_326, hR0_1_330, hR0_2_334, hR0_4_338, hR0_6_342, hR0_8_346⟩ := h_0_323
   simp only [aa, ac, al] at hS
   refine oy hS y_move ?_
   iterate 2 (refine oy hS (y_extract rfl) ?_)
   refine o_allocP (cl := (cl_State (.slice none 0 0) (.slice none 0 0) (.slice none 0 0) 0 (.slice none 0 0) 0 (.slice none 0 0) 0 (.slice none 0 0) 0 0)) zr_api_State rfl hS ?_
   clear hS; intro b348 w hS
   refine o_storeW (vs := (cl_State vR0_0_324 vR0_1_328 vR0_2_332 r317.1.Taken vR0_4_336 r317.1.PC vR0_6_340 r317.1.Stop vR0_8_344 r317.1.Jump r317.1.Delay)) hS (by exact rfl) (Upd.here _) (by exact sz_api_State) (one_State (hR0_0_326).one (hR0_1_330).one (hR0_2_334).one (hR0_4_338).one (hR0_6_342).one (hR0_8_346).one) ?_
   clear hS; intro w hS
   refine oy hS y_assign <| n_thenN ?_
   iterate 2 (refine c_seq ?_)
   refine c_region <| oy hS y_move ?_
   refine o_callS hS func33 rfl rfl (hc := (w_l7_num (a0 := r284.2))) (h := ?_)
   clear hS; intro w hS
   refine oy hS y_bin ?_
   refine o_split (ht := fun c349 => ?_) (hf := fun c349 => ?_)
   · replace hF := bt c349 hF
     iterate 5 (refine o_sk rfl rfl ?_)
     refine oy hS y_pickT <| oy hS y_move ?_
     iterate 3 (refine o_sk rfl rfl ?_)
     refine oy hS y_pickT <| oy hS y_move ?_
     iterate 4 (refine o_sk rfl rfl ?_)
     refine oy hS y_pickT <| n_thenN ?_
     refine c_if_true (h := ?_)
     refine c_seq <| c_region <| oy hS y_assign <| n_thenN ?_
     obtain rfl := osi hF
     obtain rfl : _ = r := hK280
     exact wp_ret (wr1 hS)
   replace hF := bf c349 hF
   refine o_gu rfl rfl rfl <| oy hS y_move <| o_gu rfl rfl rfl <| oy hS y_move <| o_gu rfl rfl rfl ?_
   refine oy hS (y_loadW (fun w hS => hS.own (mC (mB (mB (mB (mB (mB (mB (mC (mB (mB (mB (mB (mB (mB (mH)))))))))))))))) underlying27 rfl (by exact sz_api_State)) ?_
   refine o_gu rfl rfl rfl ?_
   obtain ⟨r350, hr350, hF⟩ := ob hF
   refine o_callS hS func37 rfl rfl (hc := (w_r5_Find (a0 := a0) (a1 := (⟨x140, x145, x150, x155, x156, x161, x162, x167, x168, x173, x174⟩ : T_State)) (h0 := h0.plus) (h1 := ⟨_, _, _, _, _, _, rfl, (OwT.plus h142 hS (fun p hp => mC (mB (mB (mB (mB (mB (mB (mC (mB (mB (mB (mB (mB (mB (mC (mA (hp)))))))))))))))))), (OwT.plus h147 hS (fun p hp => mC (mB (mB (mB (mB (mB (mB (mC (mB (mB (mB (mB (mB (mB (mC (mB (mA (hp))))))))))))))))))), (OwT.plus h152 hS (fun p hp => mC (mB (mB (mB (mB (mB (mB (mC (mB (mB (mB (mB (mB (mB (mC (mB (mB (mA (hp)))))))))))))))))))), (OwT.plus h158 hS (fun p hp => mC (mB (mB (mB (mB (mB (mB (mC (mB (mB (mB (mB (mB (mB (mC (mB (mB (mB (mA (hp))))))))))))))))))))), (OwT.plus h164 hS (fun p hp => mC (mB (mB (mB (mB (mB (mB (mC (mB (mB (mB (mB (mB (mB (mC (mB (mB (mB (mB (mA (hp)))))))))))))))))))))), (OwT.plus h170 hS (fun p hp => mC (mB (mB (mB (mB (mB (mB (mC (mB (mB (mB (mB (mB (mB (mC (mB (mB (mB (mB (mB (mA (hp)))))))))))))))))))))))⟩) (hF := hr350))) (h := ?_)
   clear hS; intro w hS
   refine o_gu rfl rfl rfl <| oy hS y_bin <| oy hS y_pickF ?_
   refine o_split (ht := fun c351 => ?_) (hf := fun c351 => ?_)
   · replace hF := bt c351 hF
     iterate 3 (refine o_sk rfl rfl ?_)
     refine oy hS y_pickT <| oy hS y_move ?_
     iterate 4 (refine o_sk rfl rfl ?_)
     refine oy hS y_pickT <| n_thenN ?_
     refine c_if_true (h := ?_)
     refine c_seq <| c_region <| oy hS y_assign <| n_thenN ?_
     obtain rfl := osi hF
     obtain rfl : _ = r := hK280
     exact wp_ret (wr1 hS)
   replace hF := bf c351 hF
   refine o_gu rfl rfl rfl <| oy hS y_move <| o_gu rfl rfl rfl ?_
   refine o_callS hS func33 rfl rfl (hc := (w_l7_num (a0 := r285.2))) (h := ?_)
   clear hS; intro w hS
   refine o_gu rfl rfl rfl <| oy hS y_bin <| oy hS y_pickF ?_
   refine o_split (ht := fun c352 => ?_) (hf := fun c352 => ?_)
   · replace hF := bt c352 hF
     iterate 4 (refine o_sk rfl rfl ?_)
     refine oy hS y_pickT <| n_thenN ?_
     refine c_if_true (h := ?_)
     refine c_seq <| c_region <| oy hS y_assign <| n_thenN ?_
     obtain rfl := osi hF
     obtain rfl : _ = r := hK280
     exact wp_ret (wr1 hS)
   replace hF := bf c352 hF
   refine o_gu rfl rfl rfl ?_
   refine oy hS (y_loadW (fun w hS => hS.own (mC (mB (mB (mB (mB (mB (mB (mH))))))))) underlying27 rfl (by exact sz_api_State)) ?_
   refine o_gu rfl rfl rfl ?_
   refine oy hS (y_loadW (fun w hS => hS.own (mH)) underlying27 rfl (by exact sz_api_State)) ?_
   refine o_gu rfl rfl rfl ?_
   obtain ⟨r353, hr353, hF⟩ := ob hF
   refine o_callS hS func28 rfl rfl (hc := (w_r0_EqState (a0 := r285.1) (a1 := r317.1) (h0 := ⟨_, _, _, _, _, _, rfl, (OwT.plus hR0_0_294 hS (fun p hp => mC (mB (mB (mB (mB (mB (mB (mC (mA (hp))))))))))), (OwT.plus hR0_1_298 hS (fun p hp => mC (mB (mB (mB (mB (mB (mB (mC (mB (mA (hp)))))))))))), (OwT.plus hR0_2_302 hS (fun p hp => mC (mB (mB (mB (mB (mB (mB (mC (mB (mB (mA (hp))))))))))))), (OwT.plus hR0_4_306 hS (fun p hp => mC (mB (mB (mB (mB (mB (mB (mC (mB (mB (mB (mA (hp)))))))))))))), (OwT.plus hR0_6_310 hS (fun p hp => mC (mB (mB (mB (mB (mB (mB (mC (mB (mB (mB (mB (mA (hp))))))))))))))), (OwT.plus hR0_8_314 hS (fun p hp => mC (mB (mB (mB (mB (mB (mB (mC (mB (mB (mB (mB (mB (mA (hp))))))))))))))))⟩) (h1 := ⟨_, _, _, _, _, _, rfl, (OwT.plus hR0_0_326 hS (fun p hp => mC (mA (hp)))), (OwT.plus hR0_1_330 hS (fun p hp => mC (mB (mA (hp))))), (OwT.plus hR0_2_334 hS (fun p hp => mC (mB (mB (mA (hp)))))), (OwT.plus hR0_4_338 hS (fun p hp => mC (mB (mB (mB (mA (hp))))))), (OwT.plus hR0_6_342 hS (fun p hp => mC (mB (mB (mB (mB (mA (hp)))))))), (OwT.plus hR0_8_346 hS (fun p hp => mC (mB (mB (mB (mB (mB (mA (hp)))))))))⟩) (hF := hr353))) (h := ?_)
   clear hS; intro w hS
   refine o_gu rfl rfl rfl <| oy hS y_not <| oy hS y_pickF <| n_thenN ?_
   refine c_if (ht := fun c354 => ?_) (hf := fun c354 => ?_)
   · replace hF := bt c354 hF
     refine c_seq <| c_region <| oy hS y_assign <| n_thenN ?_
     obtain rfl := osi hF
     obtain rfl : _ = r := hK280
     exact wp_ret (wr1 hS)
   replace hF := bf c354 hF
   refine wp_skip <| c_region <| oy hS y_move ?_
   refine oy hS (y_loadW (fun w hS => hS.own (mC (mB (mB (mB (mB (mB (mB (mC (mB (mB (mB (mB (mB (mB (mH)))))))))))))))) underlying27 rfl (by exact sz_api_State)) ?_
   obtain ⟨r355, hr355, hF⟩ := ob hF
   refine o_call0 hS func27 rfl rfl (hc := (w_r5_Cycles (a0 := a0) (a1 := (⟨x140, x145, x150, x155, x156, x161, x162, x167, x168, x173, x174⟩ : T_State)) (a2 := 1) (a3 := false) (h0 := h0.plus) (h1 := ⟨_, _, _, _, _, _, rfl, (OwT.plus h142 hS (fun p hp => mC (mB (mB (mB (mB (mB (mB (mC (mB (mB (mB (mB (mB (mB (mC (mA (hp)))))))))))))))))), (OwT.plus h147 hS (fun p hp => mC (mB (mB (mB (mB (mB (mB (mC (mB (mB (mB (mB (mB (mB (mC (mB (mA (hp))))))))))))))))))), (OwT.plus h152 hS (fun p hp => mC (mB (mB (mB (mB (mB (mB (mC (mB (mB (mB (mB (mB (mB (mC (mB (mB (mA (hp)))))))))))))))))))), (OwT.plus h158 hS (fun p hp => mC (mB (mB (mB (mB (mB (mB (mC (mB (mB (mB (mB (mB (mB (mC (mB (mB (mB (mA (hp))))))))))))))))))))), (OwT.plus h164 hS (fun p hp => mC (mB (mB (mB (mB (mB (mB (mC (mB (mB (mB (mB (mB (mB (mC (mB (mB (mB (mB (mA (hp)))))))))))))))))))))), (OwT.plus h170 hS (fun p hp => mC (mB (mB (mB (mB (mB (mB (mC (mB (mB (mB (mB (mB (mB (mC (mB (mB (mB (mB (mB (mA (hp)))))))))))))))))))))))⟩) (hF := hr355))) (h := ?_)
   clear hS; intro v356 LY357 w hS hr358
   obtain ⟨v_0_359, LX_0_360, rfl, rfl, h_0_361⟩ := hr358
   obtain ⟨vR0_0_362, vR0_1_366, vR0_2_370, vR0_4_374, vR0_6_378, vR0_8_382, LXR0_0_363, LXR0_1_367, LXR0_2_371, LXR0_4_375, LXR0_6_379, LXR0_8_383, rfl, rfl, hR0_0_364, hR0_1_368, hR0_2_372, hR0_4_376, hR0_6_380, hR0_8_384⟩ := h_0_361
   simp only [aa, ac, al] at hS
   refine oy hS y_move ?_
   iterate 2 (refine oy hS (y_extract rfl) ?_)
   have hS := hS.re (.b (.there _ (.there _ (.there _ (.there _ (.there _ (.there _ (.thereb _ (.there _ (.there _ (.there _ (.there _ (.there _ (.there _ (.thereb _ (.there _ (.there _ (.there _ (.there _ (.there _ (.there _ .hb)))))))))))))))))))) (.t .h (.t .h (.t .h (.t .h (.t .h (.t .h (.b .hb (.t .h (.t .h (.t .h (.t .h (.t .h (.t .h (.b .hb (.t .h (.t .h (.t .h (.t .h (.t .h (.t .h (.t .h (.t .h (.t .h (.t .h (.t .h (.t .h .n)))))))))))))))))))))))))))
   refine o_storeW (vs := (cl_State vR0_0_362 vR0_1_366 vR0_2_370 r355.1.Taken vR0_4_374 r355.1.PC vR0_6_378 r355.1.Stop vR0_8_382 r355.1.Jump r355.1.Delay)) hS (by exact rfl) (Upd.here _) (by exact sz_api_State) (one_State (hR0_0_364).one (hR0_1_368).one (hR0_2_372).one (hR0_4_376).one (hR0_6_380).one (hR0_8_384).one) ?_
   clear hS; intro w hS
   refine n_anyN ?_
   refine c_region <| oy hS y_move <| oy hS y_bin <| oy hS y_assign <| n_thenN ?_
   obtain rfl := osi hF
   exact ⟨_, hK280, vR0_0_362, vR0_1_366, vR0_2_370, vR0_4_374, vR0_6_378, vR0_8_382, LXR0_0_363, LXR0_1_367, LXR0_2_371, LXR0_4_375, LXR0_6_379, LXR0_8_383, hR0_0_364, hR0_1_368, hR0_2_372, hR0_4_376, hR0_6_380, hR0_8_384, mk_exF, (hS.re (.b .hb (.t .h (.t .h (.t .h (.t .h (.t .h (.t .h .n))))))))⟩
 replace hF := bf c283 hF
 refine wp_exit ?_
 refine c_seq <| c_region ?_
 obtain ⟨r386, hr386, hF⟩ := ob hF
 refine o_callS hS func36 rfl rfl (hc := (w_l7_wakes  (hF := hr386))) (h := ?_)
 clear hS; intro w hS
 refine oy hS y_assign <| n_thenN ?_
 obtain rfl := osi hF
 obtain rfl : _ = r := hK280
 exact wp_ret (wr1 hS)
theorem w_l7_found {g : Frag} {a0 : (List (A4 T_Ins))} {v0_ : Value} {r : Bool} (h0 : SlT g enc_Bundle 24 a0 v0_) (hF : l7_found a0 = some r) : LCs Tryz.prog 42 #[v0_] g (.bool r) := w_l7_found_ h0 hF
end Go.Proofs.YthbpicnbkdbbmaaGreat
