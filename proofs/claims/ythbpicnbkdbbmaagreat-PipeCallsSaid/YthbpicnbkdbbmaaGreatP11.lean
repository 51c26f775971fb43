/- Functions, lifted. Printed by lift.py. -/
import Derived.Test.YthbpicnbkdbbmaaGreatProg
import Derived.Test.YthbpicnbkdbbmaaGreatP10
import Derived.KernelRfl
namespace Go.Proofs.YthbpicnbkdbbmaaGreat
open Go Go.RowKit Fr
set_option linter.unusedVariables false
set_option linter.unusedSimpArgs false
set_option maxRecDepth 20000
open Tryz
set_option maxHeartbeats 2000000
noncomputable def hazard_Go (a0 : (List (A4 T_Ins))) (a1 : T_State) : Option T_State :=
  (pipe_Land a1).bind fun r1 => (hazard_first a0 r1).bind fun r31 => bif decide (0 ≤ r31) then some (⟨r1.Regs, r1.Mem, r1.In_, r1.Taken, r1.Out, r1.PC, r1.Stack, 6, r1.Fly, r1.Jump, r1.Delay⟩ : T_State) else (pipe_Go a0 r1).bind fun r33 => some (r33)
theorem w_hazard_Go_ {g : Frag} {a0 : (List (A4 T_Ins))} {v0_ : Value} {a1 : T_State} {b1_ : Nat} {LB1_ : Own} {r : T_State} (h0 : SlT g enc_Bundle 24 a0 v0_) (h1 : Bx_State b1_ a1 LB1_) (hF : hazard_Go a0 a1 = some r) : LC Tryz.prog 65 #[v0_, .pointer (some ⟨b1_, 0, none⟩)] g LB1_ (fun v L => ∃ (LB' : Own), v = .tuple #[] ∧ L = (LB' ++ []) ∧ Bx_State b1_ r LB') := by
 obtain ⟨vP1_0_1, vP1_1_5, vP1_2_9, vP1_4_13, vP1_6_17, vP1_8_21, LXP1_0_2, LXP1_1_6, LXP1_2_10, LXP1_4_14, LXP1_6_18, LXP1_8_22, hL0_, hP1_0_3, hP1_1_7, hP1_2_11, hP1_4_15, hP1_6_19, hP1_8_23⟩ := h1
 unfold hazard_Go at hF
 refine lc_body (k := 18) (av := [v0_, .pointer (some ⟨b1_, 0, none⟩)]) func65 rfl rfl (h := fun W hS => ?_)
 have hS := hS.own_eq hL0_
 refine c_seq <| c_region <| oy hS y_move ?_
 have hS2 := hS.spl (.cons _ (.app _ (.app _ (.app _ (.app _ (.app _ (.app _ (.nil _))))))))
 obtain ⟨r1, hr1, hF⟩ := ob hF
 refine o_call hS2 func57 rfl rfl (hc := (w_pipe_Land (a0 := a1) (h0 := (⟨_, _, _, _, _, _, _, _, _, _, _, _, rfl, hP1_0_3, hP1_1_7, hP1_2_11, hP1_4_15, hP1_6_19, hP1_8_23⟩ : Bx_State b1_ a1 ((b1_, blk (cl_State vP1_0_1 vP1_1_5 vP1_2_9 a1.Taken vP1_4_13 a1.PC vP1_6_17 a1.Stop vP1_8_21 a1.Jump a1.Delay) 27) :: (LXP1_0_2 ++ (LXP1_1_6 ++ (LXP1_2_10 ++ (LXP1_4_14 ++ (LXP1_6_18 ++ (LXP1_8_22 ++ []))))))))) (hF := hr1))) (h := ?_)
 clear hS; intro v2 LY3 w hS hr4
 clear hS2
 obtain ⟨LB5, rfl, rfl, hb6⟩ := hr4
 obtain ⟨vB_0_7, vB_1_11, vB_2_15, vB_4_19, vB_6_23, vB_8_27, LXB_0_8, LXB_1_12, LXB_2_16, LXB_4_20, LXB_6_24, LXB_8_28, rfl, hB_0_9, hB_1_13, hB_2_17, hB_4_21, hB_6_25, hB_8_29⟩ := hb6
 simp only [aa, ac, al] at hS
 refine n_thenN ?_
 iterate 2 (refine c_seq ?_)
 refine c_region ?_
 iterate 2 (refine oy hS y_move ?_)
 refine oy hS y_nilCheck ?_
 refine oy hS (y_loadW (fun w hS => hS.own (mH)) underlying27 rfl (by exact sz_api_State)) ?_
 obtain ⟨r31, hr31, hF⟩ := ob hF
 refine o_callS hS func68 rfl rfl (hc := (w_hazard_first (a0 := a0) (a1 := r1) (h0 := h0.plus) (h1 := ⟨_, _, _, _, _, _, rfl, (OwT.plus hB_0_9 hS (fun p hp => mC (mA (hp)))), (OwT.plus hB_1_13 hS (fun p hp => mC (mB (mA (hp))))), (OwT.plus hB_2_17 hS (fun p hp => mC (mB (mB (mA (hp)))))), (OwT.plus hB_4_21 hS (fun p hp => mC (mB (mB (mB (mA (hp))))))), (OwT.plus hB_6_25 hS (fun p hp => mC (mB (mB (mB (mB (mA (hp)))))))), (OwT.plus hB_8_29 hS (fun p hp => mC (mB (mB (mB (mB (mB (mA (hp)))))))))⟩) (hF := hr31))) (h := ?_)
 clear hS; intro w hS
 refine oy hS y_bin <| n_thenN ?_
 refine c_if (ht := fun c32 => ?_) (hf := fun c32 => ?_)
 · replace hF := bt c32 hF
   refine c_seq <| c_region <| oy hS y_move <| oy hS y_nilCheck <| oy hS (y_field fa_api_State_7) ?_
   refine o_storeA1 (o := 7) (cl' := (cl_State vB_0_7 vB_1_11 vB_2_15 r1.Taken vB_4_19 r1.PC vB_6_23 6 vB_8_27 r1.Jump r1.Delay)) hS (by kernel_rfl) (by exact Nat.le_of_ble_eq_true rfl) (Upd.here _) (by exact sz_int) rfl rfl ?_
   clear hS; intro w hS
   refine n_thenN ?_
   obtain rfl := osi hF
   refine wp_ret (r_ret (vs := []) (hS.re (.b .hb (.t .h (.t .h (.t .h (.t .h (.t .h (.t .h .n)))))))) rsN rfl ⟨_, rfl, (by first | rfl | simp only [aa, ac, al, an]), ⟨_, _, _, _, _, _, _, _, _, _, _, _, rfl, hB_0_9, hB_1_13, hB_2_17, hB_4_21, hB_6_25, hB_8_29⟩⟩)
 replace hF := bf c32 hF
 refine wp_skip <| c_region ?_
 iterate 2 (refine oy hS y_move ?_)
 have hS2 := hS.spl (.cons _ (.app _ (.app _ (.app _ (.app _ (.app _ (.app _ (.nil _))))))))
 obtain ⟨r33, hr33, hF⟩ := ob hF
 refine o_call hS2 func58 rfl rfl (hc := (w_pipe_Go (a0 := a0) (a1 := r1) (h0 := h0.plus) (h1 := (⟨_, _, _, _, _, _, _, _, _, _, _, _, rfl, hB_0_9, hB_1_13, hB_2_17, hB_4_21, hB_6_25, hB_8_29⟩ : Bx_State b1_ r1 ((b1_, blk (cl_State vB_0_7 vB_1_11 vB_2_15 r1.Taken vB_4_19 r1.PC vB_6_23 r1.Stop vB_8_27 r1.Jump r1.Delay) 27) :: (LXB_0_8 ++ (LXB_1_12 ++ (LXB_2_16 ++ (LXB_4_20 ++ (LXB_6_24 ++ (LXB_8_28 ++ []))))))))) (hF := hr33))) (h := ?_)
 clear hS; intro v34 LY35 w hS hr36
 clear hS2
 obtain ⟨LB37, rfl, rfl, hb38⟩ := hr36
 obtain ⟨vB_0_39, vB_1_43, vB_2_47, vB_4_51, vB_6_55, vB_8_59, LXB_0_40, LXB_1_44, LXB_2_48, LXB_4_52, LXB_6_56, LXB_8_60, rfl, hB_0_41, hB_1_45, hB_2_49, hB_4_53, hB_6_57, hB_8_61⟩ := hb38
 simp only [aa, ac, al] at hS
 refine n_anyN ?_
 obtain rfl := osi hF
 refine (r_end (vs := []) (hS.re (.b .hb (.t .h (.t .h (.t .h (.t .h (.t .h (.t .h .n)))))))) rsN rfl ⟨_, rfl, (by first | rfl | simp only [aa, ac, al, an]), ⟨_, _, _, _, _, _, _, _, _, _, _, _, rfl, hB_0_41, hB_1_45, hB_2_49, hB_4_53, hB_6_57, hB_8_61⟩⟩)
theorem w_hazard_Go {g : Frag} {a0 : (List (A4 T_Ins))} {v0_ : Value} {a1 : T_State} {b1_ : Nat} {LB1_ : Own} {r : T_State} (h0 : SlT g enc_Bundle 24 a0 v0_) (h1 : Bx_State b1_ a1 LB1_) (hF : hazard_Go a0 a1 = some r) : LC Tryz.prog 65 #[v0_, .pointer (some ⟨b1_, 0, none⟩)] g LB1_ (fun v L => ∃ (LB' : Own), v = .tuple #[] ∧ L = (LB' ++ []) ∧ Bx_State b1_ r LB') := w_hazard_Go_ h0 h1 hF

noncomputable def pipe_By_hazard_Go_b2 (a2 : Int) (a0 : (List (A4 T_Ins))) : (Int × (List Int) × (List Int) × (List Int) × Int × (List Int) × Int × (List Int) × Int × (List T_Write) × Int × Int) → Option (Step (Int × (List Int) × (List Int) × (List Int) × Int × (List Int) × Int × (List Int) × Int × (List T_Write) × Int × Int) (T_State × Int × Int)) := fun (x81, x82, x87, x92, x97, x98, x103, x104, x109, x110, x115, x116) => bif decide (x81 < a2) then bif decide (x109 = 0) then (hazard_Go a0 (⟨x82, x87, x92, x97, x98, x103, x104, x109, x110, x115, x116⟩ : T_State)).bind fun r155 => some (.next (IntKind.i64.wrap (x81 + 1), r155.Regs, r155.Mem, r155.In_, r155.Taken, r155.Out, r155.PC, r155.Stack, r155.Stop, r155.Fly, r155.Jump, r155.Delay)) else some (.done (((⟨x82, x87, x92, x97, x98, x103, x104, x109, x110, x115, x116⟩ : T_State), x81, 0))) else some (.done (((⟨x82, x87, x92, x97, x98, x103, x104, x109, x110, x115, x116⟩ : T_State), x81, 0)))
noncomputable def pipe_By_hazard_Go_k1 (a1 : T_State) (a2 : Int) (a0 : (List (A4 T_Ins))) : Unit → Option (T_State × Int × Int) := fun _ => (seq_Own a1).bind fun r18 => loop (σ := (Int × (List Int) × (List Int) × (List Int) × Int × (List Int) × Int × (List Int) × Int × (List T_Write) × Int × Int)) (pipe_By_hazard_Go_b2 a2 a0) (0, r18.Regs, r18.Mem, r18.In_, r18.Taken, r18.Out, r18.PC, r18.Stack, r18.Stop, r18.Fly, r18.Jump, r18.Delay)
noncomputable def pipe_By_hazard_Go (a0 : (List (A4 T_Ins))) (a1 : T_State) (a2 : Int) : Option (T_State × Int × Int) :=
  cut (σ := Unit) ((pipe_Code a0).bind fun r11 => bif !r11 then some (.done (((⟨[], [], [], 0, [], 0, [], 0, [], 0, 0⟩ : T_State), 0, 1))) else (pipe_May a1).bind fun r13 => bif !r13 then some (.done (((⟨[], [], [], 0, [], 0, [], 0, [], 0, 0⟩ : T_State), 0, 1))) else bif decide (a2 < 0) then some (.done (((⟨[], [], [], 0, [], 0, [], 0, [], 0, 0⟩ : T_State), 0, 1))) else bif decide (20000 < a2) then some (.done (((⟨[], [], [], 0, [], 0, [], 0, [], 0, 0⟩ : T_State), 0, 1))) else some (.next ())) (pipe_By_hazard_Go_k1 a1 a2 a0)
theorem w_pipe_By_hazard_Go_ {g : Frag} {a0 : (List (A4 T_Ins))} {v0_ : Value} {a1 : T_State} {v1_ : Value} {a2 : Int} {r : (T_State × Int × Int)} (h0 : SlT g enc_Bundle 24 a0 v0_) (h1 : Rd_State g a1 v1_) (hF : pipe_By_hazard_Go a0 a1 a2 = some r) : LC Tryz.prog 55 #[v0_, v1_, .int .i64 a2, .func (.func 65) #[] #[]] g [] (fun v L => ∃ (u0 : Value) (M0 : Own), v = .tuple #[u0, .int .i64 r.2.1, .int .i64 r.2.2] ∧ L = (M0 ++ []) ∧ Ow_State r.1 u0 M0) := by
 obtain ⟨v1_0_, v1_1_, v1_2_, v1_4_, v1_6_, v1_8_, rfl, h1_0_, h1_1_, h1_2_, h1_4_, h1_6_, h1_8_⟩ := h1
 unfold pipe_By_hazard_Go at hF
 refine lc_body (k := 45) (av := [v0_, .agg (cl_State v1_0_ v1_1_ v1_2_ a1.Taken v1_4_ a1.PC v1_6_ a1.Stop v1_8_ a1.Jump a1.Delay).toArray, .int .i64 a2, .func (.func 65) #[] #[]]) func55 rfl rfl (h := fun W hS => ?_)
 refine c_seq <| c_region ?_
 refine o_boxP (cl := (cl_State v1_0_ v1_1_ v1_2_ a1.Taken v1_4_ a1.PC v1_6_ a1.Stop v1_8_ a1.Jump a1.Delay)) rfl hS ?_
 clear hS; intro b1 w hS
 refine o_allocP (cl := (cl_State (.slice none 0 0) (.slice none 0 0) (.slice none 0 0) 0 (.slice none 0 0) 0 (.slice none 0 0) 0 (.slice none 0 0) 0 0)) zr_api_State rfl hS ?_
 clear hS; intro b2 w hS
 iterate 2 (refine oy hS y_assign ?_)
 refine n_thenN ?_
 obtain ⟨z9, hF, hK10⟩ := cut_step hF
 refine c_cutP (fun a w' => pipe_By_hazard_Go_k1 a1 a2 a0 () = some r ∧ (∃ s : Nat → Value, a = Ac (((((((Fm.dead 45 s).upd 0 v0_).upd 2 (.int .i64 a2)).upd 3 (.func (.func 65) #[] #[])).upd 5 (.pointer (some ⟨b1, 0, none⟩))).upd 8 (.pointer (some ⟨b2, 0, none⟩))).upd 9 (.int .i64 0))) ∧ St W g [] ((b1, blk (cl_State v1_0_ v1_1_ v1_2_ a1.Taken v1_4_ a1.PC v1_6_ a1.Stop v1_8_ a1.Jump a1.Delay) 27) :: ((b2, blk (cl_State (.slice none 0 0) (.slice none 0 0) (.slice none 0 0) 0 (.slice none 0 0) 0 (.slice none 0 0) 0 (.slice none 0 0) 0 0) 27) :: [])) w') ?_ ?_
 · skip
   refine c_seq <| c_region <| oy hS y_move ?_
   obtain ⟨r11, hr11, hF⟩ := ob hF
   refine o_callS hS func66 rfl rfl (hc := (w_pipe_Code (a0 := a0) (h0 := h0.plus) (hF := hr11))) (h := ?_)
   clear hS; intro w hS
   refine oy hS y_not ?_
   refine o_split (ht := fun c12 => ?_) (hf := fun c12 => ?_)
   · replace hF := bt c12 hF
     iterate 3 (refine o_sk rfl rfl ?_)
     refine oy hS y_pickT <| oy hS y_move ?_
     iterate 2 (refine o_sk rfl rfl ?_)
     refine oy hS y_pickT <| oy hS y_move ?_
     iterate 2 (refine o_sk rfl rfl ?_)
     refine oy hS y_pickT <| n_thenN ?_
     refine c_if_true (h := ?_)
     refine c_seq <| c_region ?_
     refine oy hS (y_loadW (fun w hS => hS.own (mH)) underlying27 rfl (by exact sz_api_State)) ?_
     refine o_storeW (vs := (cl_State (.slice none 0 0) (.slice none 0 0) (.slice none 0 0) 0 (.slice none 0 0) 0 (.slice none 0 0) 0 (.slice none 0 0) 0 0)) hS (by exact rfl) (Upd.here _) (by exact sz_api_State) (one_State rfl rfl rfl rfl rfl rfl) ?_
     clear hS; intro w hS
     iterate 2 (refine oy hS y_assign ?_)
     refine n_thenN ?_
     obtain rfl := osi hF
     obtain rfl : _ = r := hK10
     refine wp_ret (r_ret (vs := [.agg (cl_State (.slice none 0 0) (.slice none 0 0) (.slice none 0 0) 0 (.slice none 0 0) 0 (.slice none 0 0) 0 (.slice none 0 0) 0 0).toArray, .int .i64 0, .int .i64 1]) (hS.re (.n)) (rsC (res_cell (hS.own (mH)) underlying27 rfl (by exact sz_api_State)) (rsC res_tmp (rsC res_tmp rsN))) rfl ⟨_, _, rfl, (by first | rfl | simp only [aa, ac, al, an]), ⟨_, _, _, _, _, _, _, _, _, _, _, _, rfl, rfl, OwT.nil _ _ _, OwT.nil _ _ _, OwT.nil _ _ _, OwT.nil _ _ _, OwT.nil _ _ _, OwT.nil _ _ _⟩⟩)
   replace hF := bf c12 hF
   refine o_gu rfl rfl rfl ?_
   refine oy hS (y_loadW (fun w hS => hS.own (mC (mH))) underlying27 rfl (by exact sz_api_State)) ?_
   refine o_gu rfl rfl rfl ?_
   obtain ⟨r13, hr13, hF⟩ := ob hF
   refine o_callS hS func53 rfl rfl (hc := (w_pipe_May (a0 := a1) (h0 := ⟨_, _, _, _, _, _, rfl, h1_0_.plus, h1_1_.plus, h1_2_.plus, h1_4_.plus, h1_6_.plus, h1_8_.plus⟩) (hF := hr13))) (h := ?_)
   clear hS; intro w hS
   refine o_gu rfl rfl rfl <| oy hS y_not <| oy hS y_pickF ?_
   refine o_split (ht := fun c14 => ?_) (hf := fun c14 => ?_)
   · replace hF := bt c14 hF
     iterate 2 (refine o_sk rfl rfl ?_)
     refine oy hS y_pickT <| oy hS y_move ?_
     iterate 2 (refine o_sk rfl rfl ?_)
     refine oy hS y_pickT <| n_thenN ?_
     refine c_if_true (h := ?_)
     refine c_seq <| c_region ?_
     refine oy hS (y_loadW (fun w hS => hS.own (mH)) underlying27 rfl (by exact sz_api_State)) ?_
     refine o_storeW (vs := (cl_State (.slice none 0 0) (.slice none 0 0) (.slice none 0 0) 0 (.slice none 0 0) 0 (.slice none 0 0) 0 (.slice none 0 0) 0 0)) hS (by exact rfl) (Upd.here _) (by exact sz_api_State) (one_State rfl rfl rfl rfl rfl rfl) ?_
     clear hS; intro w hS
     iterate 2 (refine oy hS y_assign ?_)
     refine n_thenN ?_
     obtain rfl := osi hF
     obtain rfl : _ = r := hK10
     refine wp_ret (r_ret (vs := [.agg (cl_State (.slice none 0 0) (.slice none 0 0) (.slice none 0 0) 0 (.slice none 0 0) 0 (.slice none 0 0) 0 (.slice none 0 0) 0 0).toArray, .int .i64 0, .int .i64 1]) (hS.re (.n)) (rsC (res_cell (hS.own (mH)) underlying27 rfl (by exact sz_api_State)) (rsC res_tmp (rsC res_tmp rsN))) rfl ⟨_, _, rfl, (by first | rfl | simp only [aa, ac, al, an]), ⟨_, _, _, _, _, _, _, _, _, _, _, _, rfl, rfl, OwT.nil _ _ _, OwT.nil _ _ _, OwT.nil _ _ _, OwT.nil _ _ _, OwT.nil _ _ _, OwT.nil _ _ _⟩⟩)
   replace hF := bf c14 hF
   refine o_gu rfl rfl rfl <| oy hS y_move <| o_gu rfl rfl rfl <| oy hS y_bin <| oy hS y_pickF ?_
   refine o_split (ht := fun c15 => ?_) (hf := fun c15 => ?_)
   · replace hF := bt c15 hF
     iterate 2 (refine o_sk rfl rfl ?_)
     refine oy hS y_pickT <| n_thenN ?_
     refine c_if_true (h := ?_)
     refine c_seq <| c_region ?_
     refine oy hS (y_loadW (fun w hS => hS.own (mH)) underlying27 rfl (by exact sz_api_State)) ?_
     refine o_storeW (vs := (cl_State (.slice none 0 0) (.slice none 0 0) (.slice none 0 0) 0 (.slice none 0 0) 0 (.slice none 0 0) 0 (.slice none 0 0) 0 0)) hS (by exact rfl) (Upd.here _) (by exact sz_api_State) (one_State rfl rfl rfl rfl rfl rfl) ?_
     clear hS; intro w hS
     iterate 2 (refine oy hS y_assign ?_)
     refine n_thenN ?_
     obtain rfl := osi hF
     obtain rfl : _ = r := hK10
     refine wp_ret (r_ret (vs := [.agg (cl_State (.slice none 0 0) (.slice none 0 0) (.slice none 0 0) 0 (.slice none 0 0) 0 (.slice none 0 0) 0 (.slice none 0 0) 0 0).toArray, .int .i64 0, .int .i64 1]) (hS.re (.n)) (rsC (res_cell (hS.own (mH)) underlying27 rfl (by exact sz_api_State)) (rsC res_tmp (rsC res_tmp rsN))) rfl ⟨_, _, rfl, (by first | rfl | simp only [aa, ac, al, an]), ⟨_, _, _, _, _, _, _, _, _, _, _, _, rfl, rfl, OwT.nil _ _ _, OwT.nil _ _ _, OwT.nil _ _ _, OwT.nil _ _ _, OwT.nil _ _ _, OwT.nil _ _ _⟩⟩)
   replace hF := bf c15 hF
   refine o_gu rfl rfl rfl <| oy hS y_move <| o_gu rfl rfl rfl <| oy hS y_bin <| oy hS y_pickF <| n_thenN ?_
   refine c_if (ht := fun c16 => ?_) (hf := fun c16 => ?_)
   · replace hF := bt c16 hF
     refine c_seq <| c_region ?_
     refine oy hS (y_loadW (fun w hS => hS.own (mH)) underlying27 rfl (by exact sz_api_State)) ?_
     refine o_storeW (vs := (cl_State (.slice none 0 0) (.slice none 0 0) (.slice none 0 0) 0 (.slice none 0 0) 0 (.slice none 0 0) 0 (.slice none 0 0) 0 0)) hS (by exact rfl) (Upd.here _) (by exact sz_api_State) (one_State rfl rfl rfl rfl rfl rfl) ?_
     clear hS; intro w hS
     iterate 2 (refine oy hS y_assign ?_)
     refine n_thenN ?_
     obtain rfl := osi hF
     obtain rfl : _ = r := hK10
     refine wp_ret (r_ret (vs := [.agg (cl_State (.slice none 0 0) (.slice none 0 0) (.slice none 0 0) 0 (.slice none 0 0) 0 (.slice none 0 0) 0 (.slice none 0 0) 0 0).toArray, .int .i64 0, .int .i64 1]) (hS.re (.n)) (rsC (res_cell (hS.own (mH)) underlying27 rfl (by exact sz_api_State)) (rsC res_tmp (rsC res_tmp rsN))) rfl ⟨_, _, rfl, (by first | rfl | simp only [aa, ac, al, an]), ⟨_, _, _, _, _, _, _, _, _, _, _, _, rfl, rfl, OwT.nil _ _ _, OwT.nil _ _ _, OwT.nil _ _ _, OwT.nil _ _ _, OwT.nil _ _ _, OwT.nil _ _ _⟩⟩)
   replace hF := bf c16 hF
   refine wp_skip ?_
   obtain rfl := osi hF
   change _ ∧ _
   exact ⟨hK10, mk_exF, (hS.re (.b (.thereb _ .hb) (.b .hb .n)))⟩
 rintro a w ⟨hF, ⟨s17, rfl⟩, hS⟩
 dsimp only [pipe_By_hazard_Go_k1] at hF
 refine c_seq <| c_region ?_
 refine oy hS (y_loadW (fun w hS => hS.own (mH)) underlying27 rfl (by exact sz_api_State)) ?_
 obtain ⟨r18, hr18, hF⟩ := ob hF
 refine o_call0 hS func67 rfl rfl (hc := (w_seq_Own (a0 := a1) (h0 := ⟨_, _, _, _, _, _, rfl, h1_0_.plus, h1_1_.plus, h1_2_.plus, h1_4_.plus, h1_6_.plus, h1_8_.plus⟩) (hF := hr18))) (h := ?_)
 clear hS; intro v19 LY20 w hS hr21
 obtain ⟨v_0_22, LX_0_23, rfl, rfl, h_0_24⟩ := hr21
 obtain ⟨vR0_0_25, vR0_1_29, vR0_2_33, vR0_4_37, vR0_6_41, vR0_8_45, LXR0_0_26, LXR0_1_30, LXR0_2_34, LXR0_4_38, LXR0_6_42, LXR0_8_46, rfl, rfl, hR0_0_27, hR0_1_31, hR0_2_35, hR0_4_39, hR0_6_43, hR0_8_47⟩ := h_0_24
 simp only [aa, ac, al] at hS
 have hS := hS.re (.b (.there _ (.there _ (.there _ (.there _ (.there _ (.there _ (.thereb _ .hb))))))) (.t .h (.t .h (.t .h (.t .h (.t .h (.t .h (.b .hb .n))))))))
 refine o_storeW (vs := (cl_State vR0_0_25 vR0_1_29 vR0_2_33 r18.Taken vR0_4_37 r18.PC vR0_6_41 r18.Stop vR0_8_45 r18.Jump r18.Delay)) hS (by exact rfl) (Upd.here _) (by exact sz_api_State) (one_State (hR0_0_27).one (hR0_1_31).one (hR0_2_35).one (hR0_4_39).one (hR0_6_43).one (hR0_8_47).one) ?_
 clear hS; intro w hS
 refine n_thenN <| c_seq <| c_block ?_
 refine c_loopP hF (fun (q : (Int × (List Int) × (List Int) × (List Int) × Int × (List Int) × Int × (List Int) × Int × (List T_Write) × Int × Int)) a w' => ∃ (v83 : Value) (v88 : Value) (v93 : Value) (v99 : Value) (v105 : Value) (v111 : Value) (LX85 : Own) (LX90 : Own) (LX95 : Own) (LX101 : Own) (LX107 : Own) (LX113 : Own), OwT 40 enc_uint32 1 q.2.1 v83 LX85 ∧ OwT 40 enc_uint32 1 q.2.2.1 v88 LX90 ∧ OwT 40 enc_uint32 1 q.2.2.2.1 v93 LX95 ∧ OwT 40 enc_uint32 1 q.2.2.2.2.2.1 v99 LX101 ∧ OwT 3 enc_int 1 q.2.2.2.2.2.2.2.1 v105 LX107 ∧ OwT 73 enc_Write 3 q.2.2.2.2.2.2.2.2.2.1 v111 LX113 ∧ (∃ s : Nat → Value, a = Ac ((((((Fm.dead 45 s).upd 0 v0_).upd 2 (.int .i64 a2)).upd 3 (.func (.func 65) #[] #[])).upd 8 (.pointer (some ⟨b2, 0, none⟩))).upd 9 (.int .i64 q.1))) ∧ St W g [] ((b2, blk (cl_State v83 v88 v93 q.2.2.2.2.1 v99 q.2.2.2.2.2.2.1 v105 q.2.2.2.2.2.2.2.2.1 v111 q.2.2.2.2.2.2.2.2.2.2.1 q.2.2.2.2.2.2.2.2.2.2.2) 27) :: (LX85 ++ (LX90 ++ (LX95 ++ (LX101 ++ (LX107 ++ (LX113 ++ []))))))) w') ⟨vR0_0_25, vR0_1_29, vR0_2_33, vR0_4_37, vR0_6_41, vR0_8_45, LXR0_0_26, LXR0_1_30, LXR0_2_34, LXR0_4_38, LXR0_6_42, LXR0_8_46, hR0_0_27, hR0_1_31, hR0_2_35, hR0_4_39, hR0_6_43, hR0_8_47, mk_exF, (hS.re (.b .hb (.t .h (.t .h (.t .h (.t .h (.t .h (.t .h .n))))))))⟩ ?_
 clear hS hF
 intro n151 q a w hI hq
 obtain ⟨x81, x82, x87, x92, x97, x98, x103, x104, x109, x110, x115, x116⟩ := q
 obtain ⟨v83, v88, v93, v99, v105, v111, LX85, LX90, LX95, LX101, LX107, LX113, h84, h89, h94, h100, h106, h112, ⟨s152, rfl⟩, hS⟩ := hq
 replace h84 : OwT 40 enc_uint32 1 x82 v83 LX85 := h84
 replace h89 : OwT 40 enc_uint32 1 x87 v88 LX90 := h89
 replace h94 : OwT 40 enc_uint32 1 x92 v93 LX95 := h94
 replace h100 : OwT 40 enc_uint32 1 x98 v99 LX101 := h100
 replace h106 : OwT 3 enc_int 1 x104 v105 LX107 := h106
 replace h112 : OwT 73 enc_Write 3 x110 v111 LX113 := h112
 obtain ⟨z149, hF, hK150⟩ := iter_step hI
 clear hI
 dsimp only [pipe_By_hazard_Go_b2] at hF
 iterate 2 (refine c_seq ?_)
 refine c_region ?_
 iterate 2 (refine oy hS y_move ?_)
 refine oy hS y_bin ?_
 refine o_split (ht := fun c153 => ?_) (hf := fun c153 => ?_)
 · replace hF := bt c153 hF
   refine o_gu rfl rfl rfl <| oy hS (y_field fa_api_State_7) <| o_gu rfl rfl rfl <| oy hS (y_load (fun w hS => hS.own (mH)) underlying3 rfl rfl) <| o_gu rfl rfl rfl <| oy hS y_bin <| oy hS y_pickT <| n_thenN ?_
   refine c_if (ht := fun c154 => ?_) (hf := fun c154 => ?_)
   · replace hF := bt c154 hF
     refine wp_skip <| c_block <| c_seq <| c_region ?_
     iterate 2 (refine oy hS y_move ?_)
     have hS2 := hS.spl (.cons _ (.app _ (.app _ (.app _ (.app _ (.app _ (.app _ (.nil _))))))))
     obtain ⟨r155, hr155, hF⟩ := ob hF
     refine o_callVG hS2 func65 rfl rfl (hc := (w_hazard_Go (a0 := a0) (a1 := (⟨x82, x87, x92, x97, x98, x103, x104, x109, x110, x115, x116⟩ : T_State)) (h0 := h0.plus) (h1 := (⟨_, _, _, _, _, _, _, _, _, _, _, _, rfl, h84, h89, h94, h100, h106, h112⟩ : Bx_State b2 (⟨x82, x87, x92, x97, x98, x103, x104, x109, x110, x115, x116⟩ : T_State) ((b2, blk (cl_State v83 v88 v93 x97 v99 x103 v105 x109 v111 x115 x116) 27) :: (LX85 ++ (LX90 ++ (LX95 ++ (LX101 ++ (LX107 ++ (LX113 ++ []))))))))) (hF := hr155))) (h := ?_)
     clear hS; intro v156 LY157 w hS hr158
     clear hS2
     obtain ⟨LB159, rfl, rfl, hb160⟩ := hr158
     obtain ⟨vB_0_161, vB_1_165, vB_2_169, vB_4_173, vB_6_177, vB_8_181, LXB_0_162, LXB_1_166, LXB_2_170, LXB_4_174, LXB_6_178, LXB_8_182, rfl, hB_0_163, hB_1_167, hB_2_171, hB_4_175, hB_6_179, hB_8_183⟩ := hb160
     simp only [aa, ac, al] at hS
     refine n_thenN <| c_region <| oy hS y_move <| oy hS y_bin <| oy hS y_assign ?_
     refine n_anyN ?_
     obtain rfl := osi hF
     exact ⟨_, hK150, vB_0_161, vB_1_165, vB_2_169, vB_4_173, vB_6_177, vB_8_181, LXB_0_162, LXB_1_166, LXB_2_170, LXB_4_174, LXB_6_178, LXB_8_182, hB_0_163, hB_1_167, hB_2_171, hB_4_175, hB_6_179, hB_8_183, mk_exF, (hS.re (.b .hb (.t .h (.t .h (.t .h (.t .h (.t .h (.t .h .n))))))))⟩
   replace hF := bf c154 hF
   refine wp_exit ?_
   refine c_seq <| c_region ?_
   refine oy hS (y_loadW (fun w hS => hS.own (mH)) underlying27 rfl (by exact sz_api_State)) ?_
   refine oy hS y_move ?_
   refine o_storeW (vs := (cl_State v83 v88 v93 x97 v99 x103 v105 x109 v111 x115 x116)) hS (by exact rfl) (Upd.here _) (by exact sz_api_State) (one_State (h84).one (h89).one (h94).one (h100).one (h106).one (h112).one) ?_
   clear hS; intro w hS
   iterate 2 (refine oy hS y_assign ?_)
   refine n_thenN ?_
   obtain rfl := osi hF
   obtain rfl : _ = r := hK150
   refine wp_ret (r_ret (vs := [.agg (cl_State v83 v88 v93 x97 v99 x103 v105 x109 v111 x115 x116).toArray, .int .i64 x81, .int .i64 0]) (hS.re (.t (.thereb _ .h) (.t (.thereb _ .h) (.t (.thereb _ .h) (.t (.thereb _ .h) (.t (.thereb _ .h) (.t (.thereb _ .h) .n))))))) (rsC (res_cell (hS.own (mH)) underlying27 rfl (by exact sz_api_State)) (rsC res_tmp (rsC res_tmp rsN))) rfl ⟨_, _, rfl, (by first | rfl | simp only [aa, ac, al, an]), ⟨_, _, _, _, _, _, _, _, _, _, _, _, rfl, rfl, h84, h89, h94, h100, h106, h112⟩⟩)
 replace hF := bf c153 hF
 iterate 3 (refine o_sk rfl rfl ?_)
 refine oy hS y_pickF <| n_thenN ?_
 refine c_if_false (h := ?_)
 refine wp_exit ?_
 refine c_seq <| c_region ?_
 refine oy hS (y_loadW (fun w hS => hS.own (mH)) underlying27 rfl (by exact sz_api_State)) ?_
 refine oy hS y_move ?_
 refine o_storeW (vs := (cl_State v83 v88 v93 x97 v99 x103 v105 x109 v111 x115 x116)) hS (by exact rfl) (Upd.here _) (by exact sz_api_State) (one_State (h84).one (h89).one (h94).one (h100).one (h106).one (h112).one) ?_
 clear hS; intro w hS
 iterate 2 (refine oy hS y_assign ?_)
 refine n_thenN ?_
 obtain rfl := osi hF
 obtain rfl : _ = r := hK150
 refine wp_ret (r_ret (vs := [.agg (cl_State v83 v88 v93 x97 v99 x103 v105 x109 v111 x115 x116).toArray, .int .i64 x81, .int .i64 0]) (hS.re (.t (.thereb _ .h) (.t (.thereb _ .h) (.t (.thereb _ .h) (.t (.thereb _ .h) (.t (.thereb _ .h) (.t (.thereb _ .h) .n))))))) (rsC (res_cell (hS.own (mH)) underlying27 rfl (by exact sz_api_State)) (rsC res_tmp (rsC res_tmp rsN))) rfl ⟨_, _, rfl, (by first | rfl | simp only [aa, ac, al, an]), ⟨_, _, _, _, _, _, _, _, _, _, _, _, rfl, rfl, h84, h89, h94, h100, h106, h112⟩⟩)
theorem w_pipe_By_hazard_Go {g : Frag} {a0 : (List (A4 T_Ins))} {v0_ : Value} {a1 : T_State} {v1_ : Value} {a2 : Int} {r : (T_State × Int × Int)} (h0 : SlT g enc_Bundle 24 a0 v0_) (h1 : Rd_State g a1 v1_) (hF : pipe_By_hazard_Go a0 a1 a2 = some r) : LC Tryz.prog 55 #[v0_, v1_, .int .i64 a2, .func (.func 65) #[] #[]] g [] (fun v L => ∃ (u0 : Value) (M0 : Own), v = .tuple #[u0, .int .i64 r.2.1, .int .i64 r.2.2] ∧ L = (M0 ++ []) ∧ Ow_State r.1 u0 M0) := w_pipe_By_hazard_Go_ h0 h1 hF

noncomputable def hazard_Run (a0 : (List (A4 T_Ins))) (a1 : T_State) (a2 : Int) : Option (T_State × Int × Int) :=
  (pipe_By_hazard_Go a0 a1 a2).bind fun r3 => some (r3.1, r3.2.1, r3.2.2)
theorem w_hazard_Run_ {g : Frag} {a0 : (List (A4 T_Ins))} {v0_ : Value} {a1 : T_State} {v1_ : Value} {a2 : Int} {r : (T_State × Int × Int)} (h0 : SlT g enc_Bundle 24 a0 v0_) (h1 : Rd_State g a1 v1_) (hF : hazard_Run a0 a1 a2 = some r) : LC Tryz.prog 32 #[v0_, v1_, .int .i64 a2] g [] (fun v L => ∃ (u0 : Value) (M0 : Own), v = .tuple #[u0, .int .i64 r.2.1, .int .i64 r.2.2] ∧ L = (M0 ++ []) ∧ Ow_State r.1 u0 M0) := by
 obtain ⟨v1_0_, v1_1_, v1_2_, v1_4_, v1_6_, v1_8_, rfl, h1_0_, h1_1_, h1_2_, h1_4_, h1_6_, h1_8_⟩ := h1
 unfold hazard_Run at hF
 refine lc_body (k := 16) (av := [v0_, .agg (cl_State v1_0_ v1_1_ v1_2_ a1.Taken v1_4_ a1.PC v1_6_ a1.Stop v1_8_ a1.Jump a1.Delay).toArray, .int .i64 a2]) func32 rfl rfl (h := fun W hS => ?_)
 refine c_seq <| c_region ?_
 refine o_boxP (cl := (cl_State v1_0_ v1_1_ v1_2_ a1.Taken v1_4_ a1.PC v1_6_ a1.Stop v1_8_ a1.Jump a1.Delay)) rfl hS ?_
 clear hS; intro b1 w hS
 refine o_allocP (cl := (cl_State (.slice none 0 0) (.slice none 0 0) (.slice none 0 0) 0 (.slice none 0 0) 0 (.slice none 0 0) 0 (.slice none 0 0) 0 0)) zr_api_State rfl hS ?_
 clear hS; intro b2 w hS
 iterate 2 (refine oy hS y_assign ?_)
 refine n_thenN <| c_seq <| c_region <| oy hS y_move ?_
 refine oy hS (y_loadW (fun w hS => hS.own (mC (mH))) underlying27 rfl (by exact sz_api_State)) ?_
 refine oy hS y_move ?_
 obtain ⟨r3, hr3, hF⟩ := ob hF
 refine o_call0 hS func55 rfl rfl (hc := (w_pipe_By_hazard_Go (a0 := a0) (a1 := a1) (a2 := a2) (h0 := h0.plus) (h1 := ⟨_, _, _, _, _, _, rfl, h1_0_.plus, h1_1_.plus, h1_2_.plus, h1_4_.plus, h1_6_.plus, h1_8_.plus⟩) (hF := hr3))) (h := ?_)
 clear hS; intro v4 LY5 w hS hr6
 obtain ⟨v_0_7, LX_0_8, rfl, rfl, h_0_9⟩ := hr6
 obtain ⟨vR0_0_10, vR0_1_14, vR0_2_18, vR0_4_22, vR0_6_26, vR0_8_30, LXR0_0_11, LXR0_1_15, LXR0_2_19, LXR0_4_23, LXR0_6_27, LXR0_8_31, rfl, rfl, hR0_0_12, hR0_1_16, hR0_2_20, hR0_4_24, hR0_6_28, hR0_8_32⟩ := h_0_9
 simp only [aa, ac, al] at hS
 iterate 3 (refine oy hS (y_extract rfl) ?_)
 have hS := hS.re (.b (.there _ (.there _ (.there _ (.there _ (.there _ (.there _ .hb)))))) (.t .h (.t .h (.t .h (.t .h (.t .h (.t .h (.b .hb .n))))))))
 refine o_storeW (vs := (cl_State vR0_0_10 vR0_1_14 vR0_2_18 r3.1.Taken vR0_4_22 r3.1.PC vR0_6_26 r3.1.Stop vR0_8_30 r3.1.Jump r3.1.Delay)) hS (by exact rfl) (Upd.here _) (by exact sz_api_State) (one_State (hR0_0_12).one (hR0_1_16).one (hR0_2_20).one (hR0_4_24).one (hR0_6_28).one (hR0_8_32).one) ?_
 clear hS; intro w hS
 iterate 2 (refine oy hS y_assign ?_)
 refine n_thenN ?_
 obtain rfl := osi hF
 refine wp_ret (r_ret (vs := [.agg (cl_State vR0_0_10 vR0_1_14 vR0_2_18 r3.1.Taken vR0_4_22 r3.1.PC vR0_6_26 r3.1.Stop vR0_8_30 r3.1.Jump r3.1.Delay).toArray, .int .i64 r3.2.1, .int .i64 r3.2.2]) (hS.re (.t (.thereb _ .h) (.t (.thereb _ .h) (.t (.thereb _ .h) (.t (.thereb _ .h) (.t (.thereb _ .h) (.t (.thereb _ .h) .n))))))) (rsC (res_cell (hS.own (mH)) underlying27 rfl (by exact sz_api_State)) (rsC res_tmp (rsC res_tmp rsN))) rfl ⟨_, _, rfl, (by first | rfl | simp only [aa, ac, al, an]), ⟨_, _, _, _, _, _, _, _, _, _, _, _, rfl, rfl, hR0_0_12, hR0_1_16, hR0_2_20, hR0_4_24, hR0_6_28, hR0_8_32⟩⟩)
theorem w_hazard_Run {g : Frag} {a0 : (List (A4 T_Ins))} {v0_ : Value} {a1 : T_State} {v1_ : Value} {a2 : Int} {r : (T_State × Int × Int)} (h0 : SlT g enc_Bundle 24 a0 v0_) (h1 : Rd_State g a1 v1_) (hF : hazard_Run a0 a1 a2 = some r) : LC Tryz.prog 32 #[v0_, v1_, .int .i64 a2] g [] (fun v L => ∃ (u0 : Value) (M0 : Own), v = .tuple #[u0, .int .i64 r.2.1, .int .i64 r.2.2] ∧ L = (M0 ++ []) ∧ Ow_State r.1 u0 M0) := w_hazard_Run_ h0 h1 hF

def l7_num (a0 : Int) : Int :=
  a0
theorem w_l7_num_ {g : Frag} {a0 : Int} {r : Int}  (hF : l7_num a0 = r) : LCs Tryz.prog 33 #[.int .i64 a0] g (.int .i64 r) := by
 unfold l7_num at hF
 refine lc_body (k := 4) (av := [.int .i64 a0]) func33 rfl rfl (h := fun W hS => ?_)
 refine c_seq <| c_region <| oy hS y_assign <| n_thenN <| c_seq <| c_region <| oy hS y_move <| oy hS y_assign ?_
 refine n_thenN ?_
 subst hF
 exact wp_ret (wr1 hS)
theorem w_l7_num {g : Frag} {a0 : Int}  : LCs Tryz.prog 33 #[.int .i64 a0] g (.int .i64 (l7_num a0)) := w_l7_num_  rfl

noncomputable def hazard_Find (a0 : (List (A4 T_Ins))) (a1 : T_State) : Option (Int × Int) :=
  (pipe_Code a0).bind fun r2 => bif !r2 then some (0, 1) else (pipe_May a1).bind fun r4 => bif !r4 then some (0, 1) else (seq_Own a1).bind fun r6 => (pipe_Land r6).bind fun r37 => (hazard_first a0 r37).bind fun r67 => some (r67, 0)
theorem w_hazard_Find_ {g : Frag} {a0 : (List (A4 T_Ins))} {v0_ : Value} {a1 : T_State} {v1_ : Value} {r : (Int × Int)} (h0 : SlT g enc_Bundle 24 a0 v0_) (h1 : Rd_State g a1 v1_) (hF : hazard_Find a0 a1 = some r) : LCs Tryz.prog 34 #[v0_, v1_] g (.tuple #[.int .i64 r.1, .int .i64 r.2]) := by
 obtain ⟨v1_0_, v1_1_, v1_2_, v1_4_, v1_6_, v1_8_, rfl, h1_0_, h1_1_, h1_2_, h1_4_, h1_6_, h1_8_⟩ := h1
 unfold hazard_Find at hF
 refine lc_body (k := 20) (av := [v0_, .agg (cl_State v1_0_ v1_1_ v1_2_ a1.Taken v1_4_ a1.PC v1_6_ a1.Stop v1_8_ a1.Jump a1.Delay).toArray]) func34 rfl rfl (h := fun W hS => ?_)
 refine c_seq <| c_region ?_
 refine o_boxP (cl := (cl_State v1_0_ v1_1_ v1_2_ a1.Taken v1_4_ a1.PC v1_6_ a1.Stop v1_8_ a1.Jump a1.Delay)) rfl hS ?_
 clear hS; intro b1 w hS
 iterate 2 (refine oy hS y_assign ?_)
 refine n_thenN ?_
 iterate 2 (refine c_seq ?_)
 refine c_region <| oy hS y_move ?_
 obtain ⟨r2, hr2, hF⟩ := ob hF
 refine o_callS hS func66 rfl rfl (hc := (w_pipe_Code (a0 := a0) (h0 := h0.plus) (hF := hr2))) (h := ?_)
 clear hS; intro w hS
 refine oy hS y_not ?_
 refine o_split (ht := fun c3 => ?_) (hf := fun c3 => ?_)
 · replace hF := bt c3 hF
   iterate 3 (refine o_sk rfl rfl ?_)
   refine oy hS y_pickT <| n_thenN ?_
   refine c_if_true (h := ?_)
   refine c_seq <| c_region ?_
   iterate 2 (refine oy hS y_assign ?_)
   refine n_thenN ?_
   obtain rfl := osi hF
   exact wp_ret (wr2 hS)
 replace hF := bf c3 hF
 refine o_gu rfl rfl rfl ?_
 refine oy hS (y_loadW (fun w hS => hS.own (mH)) underlying27 rfl (by exact sz_api_State)) ?_
 refine o_gu rfl rfl rfl ?_
 obtain ⟨r4, hr4, hF⟩ := ob hF
 refine o_callS hS func53 rfl rfl (hc := (w_pipe_May (a0 := a1) (h0 := ⟨_, _, _, _, _, _, rfl, h1_0_.plus, h1_1_.plus, h1_2_.plus, h1_4_.plus, h1_6_.plus, h1_8_.plus⟩) (hF := hr4))) (h := ?_)
 clear hS; intro w hS
 refine o_gu rfl rfl rfl <| oy hS y_not <| oy hS y_pickF <| n_thenN ?_
 refine c_if (ht := fun c5 => ?_) (hf := fun c5 => ?_)
 · replace hF := bt c5 hF
   refine c_seq <| c_region ?_
   iterate 2 (refine oy hS y_assign ?_)
   refine n_thenN ?_
   obtain rfl := osi hF
   exact wp_ret (wr2 hS)
 replace hF := bf c5 hF
 refine wp_skip <| c_seq <| c_region ?_
 refine oy hS (y_loadW (fun w hS => hS.own (mH)) underlying27 rfl (by exact sz_api_State)) ?_
 obtain ⟨r6, hr6, hF⟩ := ob hF
 refine o_call0 hS func67 rfl rfl (hc := (w_seq_Own (a0 := a1) (h0 := ⟨_, _, _, _, _, _, rfl, h1_0_.plus, h1_1_.plus, h1_2_.plus, h1_4_.plus, h1_6_.plus, h1_8_.plus⟩) (hF := hr6))) (h := ?_)
 clear hS; intro v7 LY8 w hS hr9
 obtain ⟨v_0_10, LX_0_11, rfl, rfl, h_0_12⟩ := hr9
 obtain ⟨vR0_0_13, vR0_1_17, vR0_2_21, vR0_4_25, vR0_6_29, vR0_8_33, LXR0_0_14, LXR0_1_18, LXR0_2_22, LXR0_4_26, LXR0_6_30, LXR0_8_34, rfl, rfl, hR0_0_15, hR0_1_19, hR0_2_23, hR0_4_27, hR0_6_31, hR0_8_35⟩ := h_0_12
 simp only [aa, ac, al] at hS
 have hS := hS.re (.b (.there _ (.there _ (.there _ (.there _ (.there _ (.there _ .hb)))))) (.t .h (.t .h (.t .h (.t .h (.t .h (.t .h .n)))))))
 refine o_storeW (vs := (cl_State vR0_0_13 vR0_1_17 vR0_2_21 r6.Taken vR0_4_25 r6.PC vR0_6_29 r6.Stop vR0_8_33 r6.Jump r6.Delay)) hS (by exact rfl) (Upd.here _) (by exact sz_api_State) (one_State (hR0_0_15).one (hR0_1_19).one (hR0_2_23).one (hR0_4_27).one (hR0_6_31).one (hR0_8_35).one) ?_
 clear hS; intro w hS
 refine n_thenN <| c_seq <| c_region ?_
 have hS2 := hS.spl (.cons _ (.app _ (.app _ (.app _ (.app _ (.app _ (.app _ (.nil _))))))))
 obtain ⟨r37, hr37, hF⟩ := ob hF
 refine o_call hS2 func57 rfl rfl (hc := (w_pipe_Land (a0 := r6) (h0 := (⟨_, _, _, _, _, _, _, _, _, _, _, _, rfl, hR0_0_15, hR0_1_19, hR0_2_23, hR0_4_27, hR0_6_31, hR0_8_35⟩ : Bx_State b1 r6 ((b1, blk (cl_State vR0_0_13 vR0_1_17 vR0_2_21 r6.Taken vR0_4_25 r6.PC vR0_6_29 r6.Stop vR0_8_33 r6.Jump r6.Delay) 27) :: (LXR0_0_14 ++ (LXR0_1_18 ++ (LXR0_2_22 ++ (LXR0_4_26 ++ (LXR0_6_30 ++ (LXR0_8_34 ++ []))))))))) (hF := hr37))) (h := ?_)
 clear hS; intro v38 LY39 w hS hr40
 clear hS2
 obtain ⟨LB41, rfl, rfl, hb42⟩ := hr40
 obtain ⟨vB_0_43, vB_1_47, vB_2_51, vB_4_55, vB_6_59, vB_8_63, LXB_0_44, LXB_1_48, LXB_2_52, LXB_4_56, LXB_6_60, LXB_8_64, rfl, hB_0_45, hB_1_49, hB_2_53, hB_4_57, hB_6_61, hB_8_65⟩ := hb42
 simp only [aa, ac, al] at hS
 refine n_thenN <| c_seq <| c_region <| oy hS y_move ?_
 refine oy hS (y_loadW (fun w hS => hS.own (mH)) underlying27 rfl (by exact sz_api_State)) ?_
 obtain ⟨r67, hr67, hF⟩ := ob hF
 refine o_callS hS func68 rfl rfl (hc := (w_hazard_first (a0 := a0) (a1 := r37) (h0 := h0.plus) (h1 := ⟨_, _, _, _, _, _, rfl, (OwT.plus hB_0_45 hS (fun p hp => mC (mA (hp)))), (OwT.plus hB_1_49 hS (fun p hp => mC (mB (mA (hp))))), (OwT.plus hB_2_53 hS (fun p hp => mC (mB (mB (mA (hp)))))), (OwT.plus hB_4_57 hS (fun p hp => mC (mB (mB (mB (mA (hp))))))), (OwT.plus hB_6_61 hS (fun p hp => mC (mB (mB (mB (mB (mA (hp)))))))), (OwT.plus hB_8_65 hS (fun p hp => mC (mB (mB (mB (mB (mB (mA (hp)))))))))⟩) (hF := hr67))) (h := ?_)
 clear hS; intro w hS
 iterate 2 (refine oy hS y_assign ?_)
 refine n_thenN ?_
 obtain rfl := osi hF
 exact wp_ret (wr2 hS)
theorem w_hazard_Find {g : Frag} {a0 : (List (A4 T_Ins))} {v0_ : Value} {a1 : T_State} {v1_ : Value} {r : (Int × Int)} (h0 : SlT g enc_Bundle 24 a0 v0_) (h1 : Rd_State g a1 v1_) (hF : hazard_Find a0 a1 = some r) : LCs Tryz.prog 34 #[v0_, v1_] g (.tuple #[.int .i64 r.1, .int .i64 r.2]) := w_hazard_Find_ h0 h1 hF

noncomputable def hazard_Cycle (a0 : (List (A4 T_Ins))) (a1 : T_State) : Option (T_State × Int) :=
  (hazard_Run a0 a1 1).bind fun r3 => some (r3.1, r3.2.2)
theorem w_hazard_Cycle_ {g : Frag} {a0 : (List (A4 T_Ins))} {v0_ : Value} {a1 : T_State} {v1_ : Value} {r : (T_State × Int)} (h0 : SlT g enc_Bundle 24 a0 v0_) (h1 : Rd_State g a1 v1_) (hF : hazard_Cycle a0 a1 = some r) : LC Tryz.prog 35 #[v0_, v1_] g [] (fun v L => ∃ (u0 : Value) (M0 : Own), v = .tuple #[u0, .int .i64 r.2] ∧ L = (M0 ++ []) ∧ Ow_State r.1 u0 M0) := by
 obtain ⟨v1_0_, v1_1_, v1_2_, v1_4_, v1_6_, v1_8_, rfl, h1_0_, h1_1_, h1_2_, h1_4_, h1_6_, h1_8_⟩ := h1
 unfold hazard_Cycle at hF
 refine lc_body (k := 18) (av := [v0_, .agg (cl_State v1_0_ v1_1_ v1_2_ a1.Taken v1_4_ a1.PC v1_6_ a1.Stop v1_8_ a1.Jump a1.Delay).toArray]) func35 rfl rfl (h := fun W hS => ?_)
 refine c_seq <| c_region ?_
 refine o_boxP (cl := (cl_State v1_0_ v1_1_ v1_2_ a1.Taken v1_4_ a1.PC v1_6_ a1.Stop v1_8_ a1.Jump a1.Delay)) rfl hS ?_
 clear hS; intro b1 w hS
 refine o_allocP (cl := (cl_State (.slice none 0 0) (.slice none 0 0) (.slice none 0 0) 0 (.slice none 0 0) 0 (.slice none 0 0) 0 (.slice none 0 0) 0 0)) zr_api_State rfl hS ?_
 clear hS; intro b2 w hS
 refine oy hS y_assign <| n_thenN <| c_seq <| c_region <| oy hS y_move ?_
 refine oy hS (y_loadW (fun w hS => hS.own (mC (mH))) underlying27 rfl (by exact sz_api_State)) ?_
 obtain ⟨r3, hr3, hF⟩ := ob hF
 refine o_call0 hS func32 rfl rfl (hc := (w_hazard_Run (a0 := a0) (a1 := a1) (a2 := 1) (h0 := h0.plus) (h1 := ⟨_, _, _, _, _, _, rfl, h1_0_.plus, h1_1_.plus, h1_2_.plus, h1_4_.plus, h1_6_.plus, h1_8_.plus⟩) (hF := hr3))) (h := ?_)
 clear hS; intro v4 LY5 w hS hr6
 obtain ⟨v_0_7, LX_0_8, rfl, rfl, h_0_9⟩ := hr6
 obtain ⟨vR0_0_10, vR0_1_14, vR0_2_18, vR0_4_22, vR0_6_26, vR0_8_30, LXR0_0_11, LXR0_1_15, LXR0_2_19, LXR0_4_23, LXR0_6_27, LXR0_8_31, rfl, rfl, hR0_0_12, hR0_1_16, hR0_2_20, hR0_4_24, hR0_6_28, hR0_8_32⟩ := h_0_9
 simp only [aa, ac, al] at hS
 refine oy hS y_move ?_
 iterate 3 (refine oy hS (y_extract rfl) ?_)
 refine o_allocP (cl := (cl_State (.slice none 0 0) (.slice none 0 0) (.slice none 0 0) 0 (.slice none 0 0) 0 (.slice none 0 0) 0 (.slice none 0 0) 0 0)) zr_api_State rfl hS ?_
 clear hS; intro b34 w hS
 refine o_storeW (vs := (cl_State vR0_0_10 vR0_1_14 vR0_2_18 r3.1.Taken vR0_4_22 r3.1.PC vR0_6_26 r3.1.Stop vR0_8_30 r3.1.Jump r3.1.Delay)) hS (by exact rfl) (Upd.here _) (by exact sz_api_State) (one_State (hR0_0_12).one (hR0_1_16).one (hR0_2_20).one (hR0_4_24).one (hR0_6_28).one (hR0_8_32).one) ?_
 clear hS; intro w hS
 iterate 2 (refine oy hS y_assign ?_)
 refine n_thenN <| c_seq <| c_region ?_
 refine oy hS (y_loadW (fun w hS => hS.own (mH)) underlying27 rfl (by exact sz_api_State)) ?_
 refine oy hS y_move ?_
 have hS := hS.re (.b (.thereb _ (.there _ (.there _ (.there _ (.there _ (.there _ (.there _ .hb))))))) (.b .hb (.t .h (.t .h (.t .h (.t .h (.t .h (.t .h (.b .hb .n)))))))))
 refine o_storeW (vs := (cl_State vR0_0_10 vR0_1_14 vR0_2_18 r3.1.Taken vR0_4_22 r3.1.PC vR0_6_26 r3.1.Stop vR0_8_30 r3.1.Jump r3.1.Delay)) hS (by exact rfl) (Upd.here _) (by exact sz_api_State) (one_State (hR0_0_12).one (hR0_1_16).one (hR0_2_20).one (hR0_4_24).one (hR0_6_28).one (hR0_8_32).one) ?_
 clear hS; intro w hS
 refine oy hS y_assign <| n_thenN ?_
 obtain rfl := osi hF
 refine wp_ret (r_ret (vs := [.agg (cl_State vR0_0_10 vR0_1_14 vR0_2_18 r3.1.Taken vR0_4_22 r3.1.PC vR0_6_26 r3.1.Stop vR0_8_30 r3.1.Jump r3.1.Delay).toArray, .int .i64 r3.2.2]) (hS.re (.t (.thereb _ (.thereb _ .h)) (.t (.thereb _ (.thereb _ .h)) (.t (.thereb _ (.thereb _ .h)) (.t (.thereb _ (.thereb _ .h)) (.t (.thereb _ (.thereb _ .h)) (.t (.thereb _ (.thereb _ .h)) .n))))))) (rsC (res_cell (hS.own (mH)) underlying27 rfl (by exact sz_api_State)) (rsC res_tmp rsN)) rfl ⟨_, _, rfl, (by first | rfl | simp only [aa, ac, al, an]), ⟨_, _, _, _, _, _, _, _, _, _, _, _, rfl, rfl, hR0_0_12, hR0_1_16, hR0_2_20, hR0_4_24, hR0_6_28, hR0_8_32⟩⟩)
theorem w_hazard_Cycle {g : Frag} {a0 : (List (A4 T_Ins))} {v0_ : Value} {a1 : T_State} {v1_ : Value} {r : (T_State × Int)} (h0 : SlT g enc_Bundle 24 a0 v0_) (h1 : Rd_State g a1 v1_) (hF : hazard_Cycle a0 a1 = some r) : LC Tryz.prog 35 #[v0_, v1_] g [] (fun v L => ∃ (u0 : Value) (M0 : Own), v = .tuple #[u0, .int .i64 r.2] ∧ L = (M0 ++ []) ∧ Ow_State r.1 u0 M0) := w_hazard_Cycle_ h0 h1 hF

noncomputable def l7_wakes  : Option Bool :=
  (r5_New ([])).bind fun r4 => (hazard_Find ([(⟨(⟨23, 1, 0, 0, 0, ByteArray.empty⟩ : T_Ins), (⟨23, 1, 0, 0, 0, ByteArray.empty⟩ : T_Ins), (⟨0, 0, 0, 0, 0, ByteArray.empty⟩ : T_Ins), (⟨0, 0, 0, 0, 0, ByteArray.empty⟩ : T_Ins)⟩ : (A4 T_Ins))] : List (A4 T_Ins)) r4).bind fun r35 => (r5_New ([])).bind fun r36 => (hazard_Run ([(⟨(⟨23, 1, 0, 0, 0, ByteArray.empty⟩ : T_Ins), (⟨23, 1, 0, 0, 0, ByteArray.empty⟩ : T_Ins), (⟨0, 0, 0, 0, 0, ByteArray.empty⟩ : T_Ins), (⟨0, 0, 0, 0, 0, ByteArray.empty⟩ : T_Ins)⟩ : (A4 T_Ins))] : List (A4 T_Ins)) r36 5).bind fun r67 => bif decide ((l7_num r35.2) = 0) then bif decide ((l7_num r67.2.2) = 0) then bif decide (r35.1 = 1) then bif decide (r67.2.1 = 1) then some (decide (r67.1.Stop = 6)) else some (false) else some (false) else some (false) else some (false)
theorem w_l7_wakes_ {g : Frag}  {r : Bool}  (hF : l7_wakes = some r) : LCs Tryz.prog 36 #[] g (.bool r) := by
 unfold l7_wakes at hF
 refine lc_body (k := 45) (av := []) func36 rfl rfl (h := fun W hS => ?_)
 refine c_seq <| c_region <| oy hS y_assign <| n_thenN <| c_seq <| c_region ?_
 iterate 2 (refine oy hS (y_build (cl := (enc_Ins ⟨23, 1, 0, 0, 0, ByteArray.empty⟩)) bt_api_Ins rfl (by kernel_rfl)) ?_)
 refine oy hS (y_buildA (cl := (enc_Bundle ⟨(⟨23, 1, 0, 0, 0, ByteArray.empty⟩ : T_Ins), (⟨23, 1, 0, 0, 0, ByteArray.empty⟩ : T_Ins), (⟨0, 0, 0, 0, 0, ByteArray.empty⟩ : T_Ins), (⟨0, 0, 0, 0, 0, ByteArray.empty⟩ : T_Ins)⟩)) bta_api_Bundle rfl (by kernel_rfl)) ?_
 refine o_buildT val_Bundle ([(⟨(⟨23, 1, 0, 0, 0, ByteArray.empty⟩ : T_Ins), (⟨23, 1, 0, 0, 0, ByteArray.empty⟩ : T_Ins), (⟨0, 0, 0, 0, 0, ByteArray.empty⟩ : T_Ins), (⟨0, 0, 0, 0, 0, ByteArray.empty⟩ : T_Ins)⟩ : (A4 T_Ins))] : List (A4 T_Ins)) hS el_api_Bundle (fun _ => rfl) enc_len_Bundle (by decide) rfl (by decide) (hp := rfl) (h := ?_)
 clear hS; intro b1 w hS h2
 have hS : St W g [] ([(b1, blk (([(⟨(⟨23, 1, 0, 0, 0, ByteArray.empty⟩ : T_Ins), (⟨23, 1, 0, 0, 0, ByteArray.empty⟩ : T_Ins), (⟨0, 0, 0, 0, 0, ByteArray.empty⟩ : T_Ins), (⟨0, 0, 0, 0, 0, ByteArray.empty⟩ : T_Ins)⟩ : (A4 T_Ins))] : List (A4 T_Ins)).flatMap enc_Bundle) 34)] ++ []) w := hS
 refine oy hS y_assign <| n_thenN <| c_seq <| c_region <| oy hS y_move ?_
 obtain ⟨r4, hr4, hF⟩ := ob hF
 refine o_call0 hS func43 rfl rfl (hc := (w_r5_New (a0 := ([])) (h0 := (SlR.nil _ _)) (hF := hr4))) (h := ?_)
 clear hS; intro v5 LY6 w hS hr7
 obtain ⟨v_0_8, LX_0_9, rfl, rfl, h_0_10⟩ := hr7
 obtain ⟨vR0_0_11, vR0_1_15, vR0_2_19, vR0_4_23, vR0_6_27, vR0_8_31, LXR0_0_12, LXR0_1_16, LXR0_2_20, LXR0_4_24, LXR0_6_28, LXR0_8_32, rfl, rfl, hR0_0_13, hR0_1_17, hR0_2_21, hR0_4_25, hR0_6_29, hR0_8_33⟩ := h_0_10
 simp only [aa, ac, al] at hS
 obtain ⟨r35, hr35, hF⟩ := ob hF
 refine o_callS hS func34 rfl rfl (hc := (w_hazard_Find (a0 := ([(⟨(⟨23, 1, 0, 0, 0, ByteArray.empty⟩ : T_Ins), (⟨23, 1, 0, 0, 0, ByteArray.empty⟩ : T_Ins), (⟨0, 0, 0, 0, 0, ByteArray.empty⟩ : T_Ins), (⟨0, 0, 0, 0, 0, ByteArray.empty⟩ : T_Ins)⟩ : (A4 T_Ins))] : List (A4 T_Ins))) (a1 := r4) (h0 := (OwT.plus h2 hS (fun p hp => mB (mB (mB (mB (mB (mB (mA (hp)))))))))) (h1 := ⟨_, _, _, _, _, _, rfl, (OwT.plus hR0_0_13 hS (fun p hp => mA (hp))), (OwT.plus hR0_1_17 hS (fun p hp => mB (mA (hp)))), (OwT.plus hR0_2_21 hS (fun p hp => mB (mB (mA (hp))))), (OwT.plus hR0_4_25 hS (fun p hp => mB (mB (mB (mA (hp)))))), (OwT.plus hR0_6_29 hS (fun p hp => mB (mB (mB (mB (mA (hp))))))), (OwT.plus hR0_8_33 hS (fun p hp => mB (mB (mB (mB (mB (mA (hp))))))))⟩) (hF := hr35))) (h := ?_)
 clear hS; intro w hS
 refine oy hS y_move ?_
 iterate 2 (refine oy hS (y_extract rfl) ?_)
 iterate 2 (refine oy hS y_assign ?_)
 refine n_thenN <| c_seq <| c_region <| oy hS y_move ?_
 obtain ⟨r36, hr36, hF⟩ := ob hF
 refine o_call0 hS func43 rfl rfl (hc := (w_r5_New (a0 := ([])) (h0 := (SlR.nil _ _)) (hF := hr36))) (h := ?_)
 clear hS; intro v37 LY38 w hS hr39
 obtain ⟨v_0_40, LX_0_41, rfl, rfl, h_0_42⟩ := hr39
 obtain ⟨vR0_0_43, vR0_1_47, vR0_2_51, vR0_4_55, vR0_6_59, vR0_8_63, LXR0_0_44, LXR0_1_48, LXR0_2_52, LXR0_4_56, LXR0_6_60, LXR0_8_64, rfl, rfl, hR0_0_45, hR0_1_49, hR0_2_53, hR0_4_57, hR0_6_61, hR0_8_65⟩ := h_0_42
 simp only [aa, ac, al] at hS
 obtain ⟨r67, hr67, hF⟩ := ob hF
 refine o_call0 hS func32 rfl rfl (hc := (w_hazard_Run (a0 := ([(⟨(⟨23, 1, 0, 0, 0, ByteArray.empty⟩ : T_Ins), (⟨23, 1, 0, 0, 0, ByteArray.empty⟩ : T_Ins), (⟨0, 0, 0, 0, 0, ByteArray.empty⟩ : T_Ins), (⟨0, 0, 0, 0, 0, ByteArray.empty⟩ : T_Ins)⟩ : (A4 T_Ins))] : List (A4 T_Ins))) (a1 := r36) (a2 := 5) (h0 := (OwT.plus h2 hS (fun p hp => mB (mB (mB (mB (mB (mB (mB (mB (mB (mB (mB (mB (mA (hp)))))))))))))))) (h1 := ⟨_, _, _, _, _, _, rfl, (OwT.plus hR0_0_45 hS (fun p hp => mA (hp))), (OwT.plus hR0_1_49 hS (fun p hp => mB (mA (hp)))), (OwT.plus hR0_2_53 hS (fun p hp => mB (mB (mA (hp))))), (OwT.plus hR0_4_57 hS (fun p hp => mB (mB (mB (mA (hp)))))), (OwT.plus hR0_6_61 hS (fun p hp => mB (mB (mB (mB (mA (hp))))))), (OwT.plus hR0_8_65 hS (fun p hp => mB (mB (mB (mB (mB (mA (hp))))))))⟩) (hF := hr67))) (h := ?_)
 clear hS; intro v68 LY69 w hS hr70
 obtain ⟨v_0_71, LX_0_72, rfl, rfl, h_0_73⟩ := hr70
 obtain ⟨vR0_0_74, vR0_1_78, vR0_2_82, vR0_4_86, vR0_6_90, vR0_8_94, LXR0_0_75, LXR0_1_79, LXR0_2_83, LXR0_4_87, LXR0_6_91, LXR0_8_95, rfl, rfl, hR0_0_76, hR0_1_80, hR0_2_84, hR0_4_88, hR0_6_92, hR0_8_96⟩ := h_0_73
 simp only [aa, ac, al] at hS
 refine oy hS y_move ?_
 iterate 3 (refine oy hS (y_extract rfl) ?_)
 refine o_allocP (cl := (cl_State (.slice none 0 0) (.slice none 0 0) (.slice none 0 0) 0 (.slice none 0 0) 0 (.slice none 0 0) 0 (.slice none 0 0) 0 0)) zr_api_State rfl hS ?_
 clear hS; intro b98 w hS
 refine o_storeW (vs := (cl_State vR0_0_74 vR0_1_78 vR0_2_82 r67.1.Taken vR0_4_86 r67.1.PC vR0_6_90 r67.1.Stop vR0_8_94 r67.1.Jump r67.1.Delay)) hS (by exact rfl) (Upd.here _) (by exact sz_api_State) (one_State (hR0_0_76).one (hR0_1_80).one (hR0_2_84).one (hR0_4_88).one (hR0_6_92).one (hR0_8_96).one) ?_
 clear hS; intro w hS
 iterate 2 (refine oy hS y_assign ?_)
 refine n_thenN <| c_seq <| c_region <| oy hS y_move ?_
 refine o_callS hS func33 rfl rfl (hc := (w_l7_num (a0 := r35.2))) (h := ?_)
 clear hS; intro w hS
 refine oy hS y_bin ?_
 refine o_split (ht := fun c99 => ?_) (hf := fun c99 => ?_)
 · replace hF := bt c99 hF
   refine o_gu rfl rfl rfl <| oy hS y_move <| o_gu rfl rfl rfl ?_
   refine o_callS hS func33 rfl rfl (hc := (w_l7_num (a0 := r67.2.2))) (h := ?_)
   clear hS; intro w hS
   refine o_gu rfl rfl rfl <| oy hS y_bin <| oy hS y_pickT ?_
   refine o_split (ht := fun c100 => ?_) (hf := fun c100 => ?_)
   · replace hF := bt c100 hF
     refine o_gu rfl rfl rfl <| oy hS y_move <| o_gu rfl rfl rfl <| oy hS y_bin <| oy hS y_pickT ?_
     refine o_split (ht := fun c101 => ?_) (hf := fun c101 => ?_)
     · replace hF := bt c101 hF
       refine o_gu rfl rfl rfl <| oy hS y_move <| o_gu rfl rfl rfl <| oy hS y_bin <| oy hS y_pickT ?_
       refine o_split (ht := fun c102 => ?_) (hf := fun c102 => ?_)
       · replace hF := bt c102 hF
         refine o_gu rfl rfl rfl <| oy hS (y_field fa_api_State_7) <| o_gu rfl rfl rfl <| oy hS (y_load (fun w hS => hS.own (mH)) underlying3 rfl rfl) <| o_gu rfl rfl rfl <| oy hS y_bin <| oy hS y_pickT <| oy hS y_assign ?_
         refine n_thenN ?_
         obtain rfl := osi hF
         exact wp_ret (wr1 hS)
       replace hF := bf c102 hF
       iterate 3 (refine o_sk rfl rfl ?_)
       refine oy hS y_pickF <| oy hS y_assign <| n_thenN ?_
       obtain rfl := osi hF
       exact wp_ret (wr1 hS)
     replace hF := bf c101 hF
     iterate 2 (refine o_sk rfl rfl ?_)
     refine oy hS y_pickF <| oy hS y_move ?_
     iterate 3 (refine o_sk rfl rfl ?_)
     refine oy hS y_pickF <| oy hS y_assign <| n_thenN ?_
     obtain rfl := osi hF
     exact wp_ret (wr1 hS)
   replace hF := bf c100 hF
   iterate 2 (refine o_sk rfl rfl ?_)
   refine oy hS y_pickF <| oy hS y_move ?_
   iterate 2 (refine o_sk rfl rfl ?_)
   refine oy hS y_pickF <| oy hS y_move ?_
   iterate 3 (refine o_sk rfl rfl ?_)
   refine oy hS y_pickF <| oy hS y_assign <| n_thenN ?_
   obtain rfl := osi hF
   exact wp_ret (wr1 hS)
 replace hF := bf c99 hF
 iterate 3 (refine o_sk rfl rfl ?_)
 refine oy hS y_pickF <| oy hS y_move ?_
 iterate 2 (refine o_sk rfl rfl ?_)
 refine oy hS y_pickF <| oy hS y_move ?_
 iterate 2 (refine o_sk rfl rfl ?_)
 refine oy hS y_pickF <| oy hS y_move ?_
 iterate 3 (refine o_sk rfl rfl ?_)
 refine oy hS y_pickF <| oy hS y_assign <| n_thenN ?_
 obtain rfl := osi hF
 exact wp_ret (wr1 hS)
theorem w_l7_wakes {g : Frag}  {r : Bool}  (hF : l7_wakes = some r) : LCs Tryz.prog 36 #[] g (.bool r) := w_l7_wakes_  hF

noncomputable def r5_Find (a0 : (List (A4 T_Ins))) (a1 : T_State) : Option Int :=
  bif decide (a1.Stop ≠ 0) then some (-1) else (r0_CopyState a1).bind fun r3 => (r5_lands r3).bind fun r34 => (r5_find a0 r34).bind fun r64 => some (r64)
theorem w_r5_Find_ {g : Frag} {a0 : (List (A4 T_Ins))} {v0_ : Value} {a1 : T_State} {v1_ : Value} {r : Int} (h0 : SlT g enc_Bundle 24 a0 v0_) (h1 : Rd_State g a1 v1_) (hF : r5_Find a0 a1 = some r) : LCs Tryz.prog 37 #[v0_, v1_] g (.int .i64 r) := by
 obtain ⟨v1_0_, v1_1_, v1_2_, v1_4_, v1_6_, v1_8_, rfl, h1_0_, h1_1_, h1_2_, h1_4_, h1_6_, h1_8_⟩ := h1
 unfold r5_Find at hF
 refine lc_body (k := 14) (av := [v0_, .agg (cl_State v1_0_ v1_1_ v1_2_ a1.Taken v1_4_ a1.PC v1_6_ a1.Stop v1_8_ a1.Jump a1.Delay).toArray]) func37 rfl rfl (h := fun W hS => ?_)
 refine c_seq <| c_region ?_
 refine o_boxP (cl := (cl_State v1_0_ v1_1_ v1_2_ a1.Taken v1_4_ a1.PC v1_6_ a1.Stop v1_8_ a1.Jump a1.Delay)) rfl hS ?_
 clear hS; intro b1 w hS
 refine oy hS y_assign <| n_thenN ?_
 iterate 2 (refine c_seq ?_)
 refine c_region <| oy hS (y_field fa_api_State_7) <| oy hS (y_load (fun w hS => hS.own (mH)) underlying3 rfl rfl) <| oy hS y_bin <| n_thenN ?_
 refine c_if (ht := fun c2 => ?_) (hf := fun c2 => ?_)
 · replace hF := bt c2 hF
   refine c_seq <| c_region <| oy hS y_assign <| n_thenN ?_
   obtain rfl := osi hF
   exact wp_ret (wr1 hS)
 replace hF := bf c2 hF
 refine wp_skip <| c_seq <| c_region ?_
 refine oy hS (y_loadW (fun w hS => hS.own (mH)) underlying27 rfl (by exact sz_api_State)) ?_
 obtain ⟨r3, hr3, hF⟩ := ob hF
 refine o_call0 hS func19 rfl rfl (hc := (w_r0_CopyState (a0 := a1) (h0 := ⟨_, _, _, _, _, _, rfl, h1_0_.plus, h1_1_.plus, h1_2_.plus, h1_4_.plus, h1_6_.plus, h1_8_.plus⟩) (hF := hr3))) (h := ?_)
 clear hS; intro v4 LY5 w hS hr6
 obtain ⟨v_0_7, LX_0_8, rfl, rfl, h_0_9⟩ := hr6
 obtain ⟨vR0_0_10, vR0_1_14, vR0_2_18, vR0_4_22, vR0_6_26, vR0_8_30, LXR0_0_11, LXR0_1_15, LXR0_2_19, LXR0_4_23, LXR0_6_27, LXR0_8_31, rfl, rfl, hR0_0_12, hR0_1_16, hR0_2_20, hR0_4_24, hR0_6_28, hR0_8_32⟩ := h_0_9
 simp only [aa, ac, al] at hS
 have hS := hS.re (.b (.there _ (.there _ (.there _ (.there _ (.there _ (.there _ .hb)))))) (.t .h (.t .h (.t .h (.t .h (.t .h (.t .h .n)))))))
 refine o_storeW (vs := (cl_State vR0_0_10 vR0_1_14 vR0_2_18 r3.Taken vR0_4_22 r3.PC vR0_6_26 r3.Stop vR0_8_30 r3.Jump r3.Delay)) hS (by exact rfl) (Upd.here _) (by exact sz_api_State) (one_State (hR0_0_12).one (hR0_1_16).one (hR0_2_20).one (hR0_4_24).one (hR0_6_28).one (hR0_8_32).one) ?_
 clear hS; intro w hS
 refine n_thenN <| c_seq <| c_region ?_
 have hS2 := hS.spl (.cons _ (.app _ (.app _ (.app _ (.app _ (.app _ (.app _ (.nil _))))))))
 obtain ⟨r34, hr34, hF⟩ := ob hF
 refine o_call hS2 func59 rfl rfl (hc := (w_r5_lands (a0 := r3) (h0 := (⟨_, _, _, _, _, _, _, _, _, _, _, _, rfl, hR0_0_12, hR0_1_16, hR0_2_20, hR0_4_24, hR0_6_28, hR0_8_32⟩ : Bx_State b1 r3 ((b1, blk (cl_State vR0_0_10 vR0_1_14 vR0_2_18 r3.Taken vR0_4_22 r3.PC vR0_6_26 r3.Stop vR0_8_30 r3.Jump r3.Delay) 27) :: (LXR0_0_11 ++ (LXR0_1_15 ++ (LXR0_2_19 ++ (LXR0_4_23 ++ (LXR0_6_27 ++ (LXR0_8_31 ++ []))))))))) (hF := hr34))) (h := ?_)
 clear hS; intro v35 LY36 w hS hr37
 clear hS2
 obtain ⟨LB38, rfl, rfl, hb39⟩ := hr37
 obtain ⟨vB_0_40, vB_1_44, vB_2_48, vB_4_52, vB_6_56, vB_8_60, LXB_0_41, LXB_1_45, LXB_2_49, LXB_4_53, LXB_6_57, LXB_8_61, rfl, hB_0_42, hB_1_46, hB_2_50, hB_4_54, hB_6_58, hB_8_62⟩ := hb39
 simp only [aa, ac, al] at hS
 refine n_thenN <| c_seq <| c_region <| oy hS y_move ?_
 refine oy hS (y_loadW (fun w hS => hS.own (mH)) underlying27 rfl (by exact sz_api_State)) ?_
 obtain ⟨r64, hr64, hF⟩ := ob hF
 refine o_callS hS func60 rfl rfl (hc := (w_r5_find (a0 := a0) (a1 := r34) (h0 := h0.plus) (h1 := ⟨_, _, _, _, _, _, rfl, (OwT.plus hB_0_42 hS (fun p hp => mC (mA (hp)))), (OwT.plus hB_1_46 hS (fun p hp => mC (mB (mA (hp))))), (OwT.plus hB_2_50 hS (fun p hp => mC (mB (mB (mA (hp)))))), (OwT.plus hB_4_54 hS (fun p hp => mC (mB (mB (mB (mA (hp))))))), (OwT.plus hB_6_58 hS (fun p hp => mC (mB (mB (mB (mB (mA (hp)))))))), (OwT.plus hB_8_62 hS (fun p hp => mC (mB (mB (mB (mB (mB (mA (hp)))))))))⟩) (hF := hr64))) (h := ?_)
 clear hS; intro w hS
 refine oy hS y_assign <| n_thenN ?_
 obtain rfl := osi hF
 exact wp_ret (wr1 hS)
theorem w_r5_Find {g : Frag} {a0 : (List (A4 T_Ins))} {v0_ : Value} {a1 : T_State} {v1_ : Value} {r : Int} (h0 : SlT g enc_Bundle 24 a0 v0_) (h1 : Rd_State g a1 v1_) (hF : r5_Find a0 a1 = some r) : LCs Tryz.prog 37 #[v0_, v1_] g (.int .i64 r) := w_r5_Find_ h0 h1 hF

noncomputable def l7_found_b1 (a0 : (List (A4 T_Ins))) : (Int × (List Int) × (List Int) × (List Int) × Int × (List Int) × Int × (List Int) × Int × (List T_Write) × Int × Int) → Option (Step (Int × (List Int) × (List Int) × (List Int) × Int × (List Int) × Int × (List Int) × Int × (List T_Write) × Int × Int) Bool) := fun (x139, x140, x145, x150, x155, x156, x161, x162, x167, x168, x173, x174) => bif decide (x139 < 30) then (hazard_Find a0 (⟨x140, x145, x150, x155, x156, x161, x162, x167, x168, x173, x174⟩ : T_State)).bind fun r284 => (hazard_Cycle a0 (⟨x140, x145, x150, x155, x156, x161, x162, x167, x168, x173, x174⟩ : T_State)).bind fun r285 => (r5_Cycles a0 (⟨x140, x145, x150, x155, x156, x161, x162, x167, x168, x173, x174⟩ : T_State) 1 true).bind fun r317 => bif decide ((l7_num r284.2) ≠ 0) then some (.done (false)) else (r5_Find a0 (⟨x140, x145, x150, x155, x156, x161, x162, x167, x168, x173, x174⟩ : T_State)).bind fun r350 => bif decide (r284.1 ≠ r350) then some (.done (false)) else bif decide ((l7_num r285.2) ≠ 0) then some (.done (false)) else (r0_EqState r285.1 r317.1).bind fun r353 => bif !r353 then some (.done (false)) else (r5_Cycles a0 (⟨x140, x145, x150, x155, x156, x161, x162, x167, x168, x173, x174⟩ : T_State) 1 false).bind fun r355 => some (.next (IntKind.i64.wrap (x139 + 1), r355.1.Regs, r355.1.Mem, r355.1.In_, r355.1.Taken, r355.1.Out, r355.1.PC, r355.1.Stack, r355.1.Stop, r355.1.Fly, r355.1.Jump, r355.1.Delay)) else (l7_wakes).bind fun r386 => some (.done (r386))
noncomputable def l7_found (a0 : (List (A4 T_Ins))) : Option Bool :=
  (r3_Code a0).bind fun r1 => bif !r1 then some (false) else (r5_New ([])).bind fun r3 => loop (σ := (Int × (List Int) × (List Int) × (List Int) × Int × (List Int) × Int × (List Int) × Int × (List T_Write) × Int × Int)) (l7_found_b1 a0) (0, r3.Regs, r3.Mem, r3.In_, r3.Taken, r3.Out, r3.PC, r3.Stack, r3.Stop, r3.Fly, r3.Jump, r3.Delay)
theorem w_l7_found_ {g : Frag} {a0 : (List (A4 T_Ins))} {v0_ : Value} {r : Bool} (h0 : SlT g enc_Bundle 24 a0 v0_) (hF : l7_found a0 = some r) : LCs Tryz.prog 42 #[v0_] g (.bool r) := by
 unfold l7_found at hF
 refine lc_body (k := 65) (av := [v0_]) func42 rfl rfl (h := fun W hS => ?_)
 refine c_seq <| c_region <| oy hS y_assign <| n_thenN ?_
 iterate 2 (refine c_seq ?_)
 refine c_region <| oy hS y_move ?_
 obtain ⟨r1, hr1, hF⟩ := ob hF
 refine o_callS hS func47 rfl rfl (hc := (w_r3_Code (a0 := a0) (h0 := h0.plus) (hF := hr1))) (h := ?_)
 clear hS; intro w hS
 refine oy hS y_not <| n_thenN ?_
 refine c_if (ht := fun c2 => ?_) (hf := fun c2 => ?_)
 · replace hF := bt c2 hF
   refine c_seq <| c_region <| oy hS y_assign <| n_thenN ?_
   obtain rfl := osi hF
   exact wp_ret (wr1 hS)
 replace hF := bf c2 hF
 refine wp_skip <| c_seq <| c_region ?_
 obtain ⟨r3, hr3, hF⟩ := ob hF
 refine o_call0 hS func43 rfl rfl (hc := (w_r5_New (a0 := ([])) (h0 := (SlR.nil _ _)) (hF := hr3))) (h := ?_)
 clear hS; intro v4 LY5 w hS hr6
 obtain ⟨v_0_7, LX_0_8, rfl, rfl, h_0_9⟩ := hr6
 obtain ⟨vR0_0_10, vR0_1_14, vR0_2_18, vR0_4_22, vR0_6_26, vR0_8_30, LXR0_0_11, LXR0_1_15, LXR0_2_19, LXR0_4_23, LXR0_6_27, LXR0_8_31, rfl, rfl, hR0_0_12, hR0_1_16, hR0_2_20, hR0_4_24, hR0_6_28, hR0_8_32⟩ := h_0_9
 simp only [aa, ac, al] at hS
 refine o_allocP (cl := (cl_State (.slice none 0 0) (.slice none 0 0) (.slice none 0 0) 0 (.slice none 0 0) 0 (.slice none 0 0) 0 (.slice none 0 0) 0 0)) zr_api_State rfl hS ?_
 clear hS; intro b34 w hS
 refine o_storeW (vs := (cl_State vR0_0_10 vR0_1_14 vR0_2_18 r3.Taken vR0_4_22 r3.PC vR0_6_26 r3.Stop vR0_8_30 r3.Jump r3.Delay)) hS (by exact rfl) (Upd.here _) (by exact sz_api_State) (one_State (hR0_0_12).one (hR0_1_16).one (hR0_2_20).one (hR0_4_24).one (hR0_6_28).one (hR0_8_32).one) ?_
 clear hS; intro w hS
 refine n_thenN ?_
 iterate 2 (refine c_seq ?_)
 refine c_region <| oy hS y_assign <| n_thenN <| c_block ?_
 refine c_loopP hF (fun (q : (Int × (List Int) × (List Int) × (List Int) × Int × (List Int) × Int × (List Int) × Int × (List T_Write) × Int × Int)) a w' => ∃ (v141 : Value) (v146 : Value) (v151 : Value) (v157 : Value) (v163 : Value) (v169 : Value) (LX143 : Own) (LX148 : Own) (LX153 : Own) (LX159 : Own) (LX165 : Own) (LX171 : Own), OwT 40 enc_uint32 1 q.2.1 v141 LX143 ∧ OwT 40 enc_uint32 1 q.2.2.1 v146 LX148 ∧ OwT 40 enc_uint32 1 q.2.2.2.1 v151 LX153 ∧ OwT 40 enc_uint32 1 q.2.2.2.2.2.1 v157 LX159 ∧ OwT 3 enc_int 1 q.2.2.2.2.2.2.2.1 v163 LX165 ∧ OwT 73 enc_Write 3 q.2.2.2.2.2.2.2.2.2.1 v169 LX171 ∧ (∃ s : Nat → Value, a = Ac ((((Fm.dead 65 s).upd 0 v0_).upd 3 (.pointer (some ⟨b34, 0, none⟩))).upd 4 (.int .i64 q.1))) ∧ St W g [] ((b34, blk (cl_State v141 v146 v151 q.2.2.2.2.1 v157 q.2.2.2.2.2.2.1 v163 q.2.2.2.2.2.2.2.2.1 v169 q.2.2.2.2.2.2.2.2.2.2.1 q.2.2.2.2.2.2.2.2.2.2.2) 27) :: (LX143 ++ (LX148 ++ (LX153 ++ (LX159 ++ (LX165 ++ (LX171 ++ []))))))) w') ⟨vR0_0_10, vR0_1_14, vR0_2_18, vR0_4_22, vR0_6_26, vR0_8_30, LXR0_0_11, LXR0_1_15, LXR0_2_19, LXR0_4_23, LXR0_6_27, LXR0_8_31, hR0_0_12, hR0_1_16, hR0_2_20, hR0_4_24, hR0_6_28, hR0_8_32, mk_exF, (hS.re (.b .hb (.t .h (.t .h (.t .h (.t .h (.t .h (.t .h .n))))))))⟩ ?_
 clear hS hF
 intro n281 q a w hI hq
 obtain ⟨x139, x140, x145, x150, x155, x156, x161, x162, x167, x168, x173, x174⟩ := q
 obtain ⟨v141, v146, v151, v157, v163, v169, LX143, LX148, LX153, LX159, LX165, LX171, h142, h147, h152, h158, h164, h170, ⟨s282, rfl⟩, hS⟩ := hq
 replace h142 : OwT 40 enc_uint32 1 x140 v141 LX143 := h142
 replace h147 : OwT 40 enc_uint32 1 x145 v146 LX148 := h147
 replace h152 : OwT 40 enc_uint32 1 x150 v151 LX153 := h152
 replace h158 : OwT 40 enc_uint32 1 x156 v157 LX159 := h158
 replace h164 : OwT 3 enc_int 1 x162 v163 LX165 := h164
 replace h170 : OwT 73 enc_Write 3 x168 v169 LX171 := h170
 obtain ⟨z279, hF, hK280⟩ := iter_step hI
 clear hI
 dsimp only [l7_found_b1] at hF
 iterate 2 (refine c_seq ?_)
 refine c_region <| oy hS y_move <| oy hS y_bin <| n_thenN ?_
 refine c_if (ht := fun c283 => ?_) (hf := fun c283 => ?_)
 · replace hF := bt c283 hF
   refine wp_skip <| c_seq <| c_block <| c_seq <| c_region <| oy hS y_move ?_
   refine oy hS (y_loadW (fun w hS => hS.own (mH)) underlying27 rfl (by exact sz_api_State)) ?_
   obtain ⟨r284, hr284, hF⟩ := ob hF
   refine o_callS hS func34 rfl rfl (hc := (w_hazard_Find (a0 := a0) (a1 := (⟨x140, x145, x150, x155, x156, x161, x162, x167, x168, x173, x174⟩ : T_State)) (h0 := h0.plus) (h1 := ⟨_, _, _, _, _, _, rfl, (OwT.plus h142 hS (fun p hp => mC (mA (hp)))), (OwT.plus h147 hS (fun p hp => mC (mB (mA (hp))))), (OwT.plus h152 hS (fun p hp => mC (mB (mB (mA (hp)))))), (OwT.plus h158 hS (fun p hp => mC (mB (mB (mB (mA (hp))))))), (OwT.plus h164 hS (fun p hp => mC (mB (mB (mB (mB (mA (hp)))))))), (OwT.plus h170 hS (fun p hp => mC (mB (mB (mB (mB (mB (mA (hp)))))))))⟩) (hF := hr284))) (h := ?_)
   clear hS; intro w hS
   refine oy hS y_move ?_
   iterate 2 (refine oy hS (y_extract rfl) ?_)
   iterate 2 (refine oy hS y_assign ?_)
   refine n_thenN <| c_seq <| c_region <| oy hS y_move ?_
   refine oy hS (y_loadW (fun w hS => hS.own (mH)) underlying27 rfl (by exact sz_api_State)) ?_
   obtain ⟨r285, hr285, hF⟩ := ob hF
   refine o_call0 hS func35 rfl rfl (hc := (w_hazard_Cycle (a0 := a0) (a1 := (⟨x140, x145, x150, x155, x156, x161, x162, x167, x168, x173, x174⟩ : T_State)) (h0 := h0.plus) (h1 := ⟨_, _, _, _, _, _, rfl, (OwT.plus h142 hS (fun p hp => mC (mA (hp)))), (OwT.plus h147 hS (fun p hp => mC (mB (mA (hp))))), (OwT.plus h152 hS (fun p hp => mC (mB (mB (mA (hp)))))), (OwT.plus h158 hS (fun p hp => mC (mB (mB (mB (mA (hp))))))), (OwT.plus h164 hS (fun p hp => mC (mB (mB (mB (mB (mA (hp)))))))), (OwT.plus h170 hS (fun p hp => mC (mB (mB (mB (mB (mB (mA (hp)))))))))⟩) (hF := hr285))) (h := ?_)
   clear hS; intro v286 LY287 w hS hr288
   obtain ⟨v_0_289, LX_0_290, rfl, rfl, h_0_291⟩ := hr288
   obtain ⟨vR0_0_292, vR0_1_296, vR0_2_300, vR0_4_304, vR0_6_308, vR0_8_312, LXR0_0_293, LXR0_1_297, LXR0_2_301, LXR0_4_305, LXR0_6_309, LXR0_8_313, rfl, rfl, hR0_0_294, hR0_1_298, hR0_2_302, hR0_4_306, hR0_6_310, hR0_8_314⟩ := h_0_291
   simp only [aa, ac, al] at hS
   refine oy hS y_move ?_
   iterate 2 (refine oy hS (y_extract rfl) ?_)
   refine o_allocP (cl := (cl_State (.slice none 0 0) (.slice none 0 0) (.slice none 0 0) 0 (.slice none 0 0) 0 (.slice none 0 0) 0 (.slice none 0 0) 0 0)) zr_api_State rfl hS ?_
   clear hS; intro b316 w hS
   refine o_storeW (vs := (cl_State vR0_0_292 vR0_1_296 vR0_2_300 r285.1.Taken vR0_4_304 r285.1.PC vR0_6_308 r285.1.Stop vR0_8_312 r285.1.Jump r285.1.Delay)) hS (by exact rfl) (Upd.here _) (by exact sz_api_State) (one_State (hR0_0_294).one (hR0_1_298).one (hR0_2_302).one (hR0_4_306).one (hR0_6_310).one (hR0_8_314).one) ?_
   clear hS; intro w hS
   refine oy hS y_assign <| n_thenN <| c_seq <| c_region <| oy hS y_move ?_
   refine oy hS (y_loadW (fun w hS => hS.own (mC (mB (mB (mB (mB (mB (mB (mH))))))))) underlying27 rfl (by exact sz_api_State)) ?_
   obtain ⟨r317, hr317, hF⟩ := ob hF
   refine o_call0 hS func27 rfl rfl (hc := (w_r5_Cycles (a0 := a0) (a1 := (⟨x140, x145, x150, x155, x156, x161, x162, x167, x168, x173, x174⟩ : T_State)) (a2 := 1) (a3 := true) (h0 := h0.plus) (h1 := ⟨_, _, _, _, _, _, rfl, (OwT.plus h142 hS (fun p hp => mC (mB (mB (mB (mB (mB (mB (mC (mA (hp))))))))))), (OwT.plus h147 hS (fun p hp => mC (mB (mB (mB (mB (mB (mB (mC (mB (mA (hp)))))))))))), (OwT.plus h152 hS (fun p hp => mC (mB (mB (mB (mB (mB (mB (mC (mB (mB (mA (hp))))))))))))), (OwT.plus h158 hS (fun p hp => mC (mB (mB (mB (mB (mB (mB (mC (mB (mB (mB (mA (hp)))))))))))))), (OwT.plus h164 hS (fun p hp => mC (mB (mB (mB (mB (mB (mB (mC (mB (mB (mB (mB (mA (hp))))))))))))))), (OwT.plus h170 hS (fun p hp => mC (mB (mB (mB (mB (mB (mB (mC (mB (mB (mB (mB (mB (mA (hp))))))))))))))))⟩) (hF := hr317))) (h := ?_)
   clear hS; intro v318 LY319 w hS hr320
   obtain ⟨v_0_321, LX_0_322, rfl, rfl, h_0_323⟩ := hr320
   obtain ⟨vR0_0_324, vR0_1_328, vR0_2_332, vR0_4_336, vR0_6_340, vR0_8_344, LXR0_0_325, LXR0_1_329, LXR0_2_333, LXR0_4_337, LXR0_6_341, LXR0_8_345, rfl, rfl, hR0_0_326, hR0_1_330, hR0_2_334, hR0_4_338, hR0_6_342, hR0_8_346⟩ := h_0_323
   simp only [aa, ac, al] at hS
   refine oy hS y_move ?_
   iterate 2 (refine oy hS (y_extract rfl) ?_)
   refine o_allocP (cl := (cl_State (.slice none 0 0) (.slice none 0 0) (.slice none 0 0) 0 (.slice none 0 0) 0 (.slice none 0 0) 0 (.slice none 0 0) 0 0)) zr_api_State rfl hS ?_
   clear hS; intro b348 w hS
   refine o_storeW (vs := (cl_State vR0_0_324 vR0_1_328 vR0_2_332 r317.1.Taken vR0_4_336 r317.1.PC vR0_6_340 r317.1.Stop vR0_8_344 r317.1.Jump r317.1.Delay)) hS (by exact rfl) (Upd.here _) (by exact sz_api_State) (one_State (hR0_0_326).one (hR0_1_330).one (hR0_2_334).one (hR0_4_338).one (hR0_6_342).one (hR0_8_346).one) ?_
   clear hS; intro w hS
   refine oy hS y_assign <| n_thenN ?_
   iterate 2 (refine c_seq ?_)
   refine c_region <| oy hS y_move ?_
   refine o_callS hS func33 rfl rfl (hc := (w_l7_num (a0 := r284.2))) (h := ?_)
   clear hS; intro w hS
   refine oy hS y_bin ?_
   refine o_split (ht := fun c349 => ?_) (hf := fun c349 => ?_)
   · replace hF := bt c349 hF
     iterate 5 (refine o_sk rfl rfl ?_)
     refine oy hS y_pickT <| oy hS y_move ?_
     iterate 3 (refine o_sk rfl rfl ?_)
     refine oy hS y_pickT <| oy hS y_move ?_
     iterate 4 (refine o_sk rfl rfl ?_)
     refine oy hS y_pickT <| n_thenN ?_
     refine c_if_true (h := ?_)
     refine c_seq <| c_region <| oy hS y_assign <| n_thenN ?_
     obtain rfl := osi hF
     obtain rfl : _ = r := hK280
     exact wp_ret (wr1 hS)
   replace hF := bf c349 hF
   refine o_gu rfl rfl rfl <| oy hS y_move <| o_gu rfl rfl rfl <| oy hS y_move <| o_gu rfl rfl rfl ?_
   refine oy hS (y_loadW (fun w hS => hS.own (mC (mB (mB (mB (mB (mB (mB (mC (mB (mB (mB (mB (mB (mB (mH)))))))))))))))) underlying27 rfl (by exact sz_api_State)) ?_
   refine o_gu rfl rfl rfl ?_
   obtain ⟨r350, hr350, hF⟩ := ob hF
   refine o_callS hS func37 rfl rfl (hc := (w_r5_Find (a0 := a0) (a1 := (⟨x140, x145, x150, x155, x156, x161, x162, x167, x168, x173, x174⟩ : T_State)) (h0 := h0.plus) (h1 := ⟨_, _, _, _, _, _, rfl, (OwT.plus h142 hS (fun p hp => mC (mB (mB (mB (mB (mB (mB (mC (mB (mB (mB (mB (mB (mB (mC (mA (hp)))))))))))))))))), (OwT.plus h147 hS (fun p hp => mC (mB (mB (mB (mB (mB (mB (mC (mB (mB (mB (mB (mB (mB (mC (mB (mA (hp))))))))))))))))))), (OwT.plus h152 hS (fun p hp => mC (mB (mB (mB (mB (mB (mB (mC (mB (mB (mB (mB (mB (mB (mC (mB (mB (mA (hp)))))))))))))))))))), (OwT.plus h158 hS (fun p hp => mC (mB (mB (mB (mB (mB (mB (mC (mB (mB (mB (mB (mB (mB (mC (mB (mB (mB (mA (hp))))))))))))))))))))), (OwT.plus h164 hS (fun p hp => mC (mB (mB (mB (mB (mB (mB (mC (mB (mB (mB (mB (mB (mB (mC (mB (mB (mB (mB (mA (hp)))))))))))))))))))))), (OwT.plus h170 hS (fun p hp => mC (mB (mB (mB (mB (mB (mB (mC (mB (mB (mB (mB (mB (mB (mC (mB (mB (mB (mB (mB (mA (hp)))))))))))))))))))))))⟩) (hF := hr350))) (h := ?_)
   clear hS; intro w hS
   refine o_gu rfl rfl rfl <| oy hS y_bin <| oy hS y_pickF ?_
   refine o_split (ht := fun c351 => ?_) (hf := fun c351 => ?_)
   · replace hF := bt c351 hF
     iterate 3 (refine o_sk rfl rfl ?_)
     refine oy hS y_pickT <| oy hS y_move ?_
     iterate 4 (refine o_sk rfl rfl ?_)
     refine oy hS y_pickT <| n_thenN ?_
     refine c_if_true (h := ?_)
     refine c_seq <| c_region <| oy hS y_assign <| n_thenN ?_
     obtain rfl := osi hF
     obtain rfl : _ = r := hK280
     exact wp_ret (wr1 hS)
   replace hF := bf c351 hF
   refine o_gu rfl rfl rfl <| oy hS y_move <| o_gu rfl rfl rfl ?_
   refine o_callS hS func33 rfl rfl (hc := (w_l7_num (a0 := r285.2))) (h := ?_)
   clear hS; intro w hS
   refine o_gu rfl rfl rfl <| oy hS y_bin <| oy hS y_pickF ?_
   refine o_split (ht := fun c352 => ?_) (hf := fun c352 => ?_)
   · replace hF := bt c352 hF
     iterate 4 (refine o_sk rfl rfl ?_)
     refine oy hS y_pickT <| n_thenN ?_
     refine c_if_true (h := ?_)
     refine c_seq <| c_region <| oy hS y_assign <| n_thenN ?_
     obtain rfl := osi hF
     obtain rfl : _ = r := hK280
     exact wp_ret (wr1 hS)
   replace hF := bf c352 hF
   refine o_gu rfl rfl rfl ?_
   refine oy hS (y_loadW (fun w hS => hS.own (mC (mB (mB (mB (mB (mB (mB (mH))))))))) underlying27 rfl (by exact sz_api_State)) ?_
   refine o_gu rfl rfl rfl ?_
   refine oy hS (y_loadW (fun w hS => hS.own (mH)) underlying27 rfl (by exact sz_api_State)) ?_
   refine o_gu rfl rfl rfl ?_
   obtain ⟨r353, hr353, hF⟩ := ob hF
   refine o_callS hS func28 rfl rfl (hc := (w_r0_EqState (a0 := r285.1) (a1 := r317.1) (h0 := ⟨_, _, _, _, _, _, rfl, (OwT.plus hR0_0_294 hS (fun p hp => mC (mB (mB (mB (mB (mB (mB (mC (mA (hp))))))))))), (OwT.plus hR0_1_298 hS (fun p hp => mC (mB (mB (mB (mB (mB (mB (mC (mB (mA (hp)))))))))))), (OwT.plus hR0_2_302 hS (fun p hp => mC (mB (mB (mB (mB (mB (mB (mC (mB (mB (mA (hp))))))))))))), (OwT.plus hR0_4_306 hS (fun p hp => mC (mB (mB (mB (mB (mB (mB (mC (mB (mB (mB (mA (hp)))))))))))))), (OwT.plus hR0_6_310 hS (fun p hp => mC (mB (mB (mB (mB (mB (mB (mC (mB (mB (mB (mB (mA (hp))))))))))))))), (OwT.plus hR0_8_314 hS (fun p hp => mC (mB (mB (mB (mB (mB (mB (mC (mB (mB (mB (mB (mB (mA (hp))))))))))))))))⟩) (h1 := ⟨_, _, _, _, _, _, rfl, (OwT.plus hR0_0_326 hS (fun p hp => mC (mA (hp)))), (OwT.plus hR0_1_330 hS (fun p hp => mC (mB (mA (hp))))), (OwT.plus hR0_2_334 hS (fun p hp => mC (mB (mB (mA (hp)))))), (OwT.plus hR0_4_338 hS (fun p hp => mC (mB (mB (mB (mA (hp))))))), (OwT.plus hR0_6_342 hS (fun p hp => mC (mB (mB (mB (mB (mA (hp)))))))), (OwT.plus hR0_8_346 hS (fun p hp => mC (mB (mB (mB (mB (mB (mA (hp)))))))))⟩) (hF := hr353))) (h := ?_)
   clear hS; intro w hS
   refine o_gu rfl rfl rfl <| oy hS y_not <| oy hS y_pickF <| n_thenN ?_
   refine c_if (ht := fun c354 => ?_) (hf := fun c354 => ?_)
   · replace hF := bt c354 hF
     refine c_seq <| c_region <| oy hS y_assign <| n_thenN ?_
     obtain rfl := osi hF
     obtain rfl : _ = r := hK280
     exact wp_ret (wr1 hS)
   replace hF := bf c354 hF
   refine wp_skip <| c_region <| oy hS y_move ?_
   refine oy hS (y_loadW (fun w hS => hS.own (mC (mB (mB (mB (mB (mB (mB (mC (mB (mB (mB (mB (mB (mB (mH)))))))))))))))) underlying27 rfl (by exact sz_api_State)) ?_
   obtain ⟨r355, hr355, hF⟩ := ob hF
   refine o_call0 hS func27 rfl rfl (hc := (w_r5_Cycles (a0 := a0) (a1 := (⟨x140, x145, x150, x155, x156, x161, x162, x167, x168, x173, x174⟩ : T_State)) (a2 := 1) (a3 := false) (h0 := h0.plus) (h1 := ⟨_, _, _, _, _, _, rfl, (OwT.plus h142 hS (fun p hp => mC (mB (mB (mB (mB (mB (mB (mC (mB (mB (mB (mB (mB (mB (mC (mA (hp)))))))))))))))))), (OwT.plus h147 hS (fun p hp => mC (mB (mB (mB (mB (mB (mB (mC (mB (mB (mB (mB (mB (mB (mC (mB (mA (hp))))))))))))))))))), (OwT.plus h152 hS (fun p hp => mC (mB (mB (mB (mB (mB (mB (mC (mB (mB (mB (mB (mB (mB (mC (mB (mB (mA (hp)))))))))))))))))))), (OwT.plus h158 hS (fun p hp => mC (mB (mB (mB (mB (mB (mB (mC (mB (mB (mB (mB (mB (mB (mC (mB (mB (mB (mA (hp))))))))))))))))))))), (OwT.plus h164 hS (fun p hp => mC (mB (mB (mB (mB (mB (mB (mC (mB (mB (mB (mB (mB (mB (mC (mB (mB (mB (mB (mA (hp)))))))))))))))))))))), (OwT.plus h170 hS (fun p hp => mC (mB (mB (mB (mB (mB (mB (mC (mB (mB (mB (mB (mB (mB (mC (mB (mB (mB (mB (mB (mA (hp)))))))))))))))))))))))⟩) (hF := hr355))) (h := ?_)
   clear hS; intro v356 LY357 w hS hr358
   obtain ⟨v_0_359, LX_0_360, rfl, rfl, h_0_361⟩ := hr358
   obtain ⟨vR0_0_362, vR0_1_366, vR0_2_370, vR0_4_374, vR0_6_378, vR0_8_382, LXR0_0_363, LXR0_1_367, LXR0_2_371, LXR0_4_375, LXR0_6_379, LXR0_8_383, rfl, rfl, hR0_0_364, hR0_1_368, hR0_2_372, hR0_4_376, hR0_6_380, hR0_8_384⟩ := h_0_361
   simp only [aa, ac, al] at hS
   refine oy hS y_move ?_
   iterate 2 (refine oy hS (y_extract rfl) ?_)
   have hS := hS.re (.b (.there _ (.there _ (.there _ (.there _ (.there _ (.there _ (.thereb _ (.there _ (.there _ (.there _ (.there _ (.there _ (.there _ (.thereb _ (.there _ (.there _ (.there _ (.there _ (.there _ (.there _ .hb)))))))))))))))))))) (.t .h (.t .h (.t .h (.t .h (.t .h (.t .h (.b .hb (.t .h (.t .h (.t .h (.t .h (.t .h (.t .h (.b .hb (.t .h (.t .h (.t .h (.t .h (.t .h (.t .h (.t .h (.t .h (.t .h (.t .h (.t .h (.t .h .n)))))))))))))))))))))))))))
   refine o_storeW (vs := (cl_State vR0_0_362 vR0_1_366 vR0_2_370 r355.1.Taken vR0_4_374 r355.1.PC vR0_6_378 r355.1.Stop vR0_8_382 r355.1.Jump r355.1.Delay)) hS (by exact rfl) (Upd.here _) (by exact sz_api_State) (one_State (hR0_0_364).one (hR0_1_368).one (hR0_2_372).one (hR0_4_376).one (hR0_6_380).one (hR0_8_384).one) ?_
   clear hS; intro w hS
   refine n_anyN ?_
   refine c_region <| oy hS y_move <| oy hS y_bin <| oy hS y_assign <| n_thenN ?_
   obtain rfl := osi hF
   exact ⟨_, hK280, vR0_0_362, vR0_1_366, vR0_2_370, vR0_4_374, vR0_6_378, vR0_8_382, LXR0_0_363, LXR0_1_367, LXR0_2_371, LXR0_4_375, LXR0_6_379, LXR0_8_383, hR0_0_364, hR0_1_368, hR0_2_372, hR0_4_376, hR0_6_380, hR0_8_384, mk_exF, (hS.re (.b .hb (.t .h (.t .h (.t .h (.t .h (.t .h (.t .h .n))))))))⟩
 replace hF := bf c283 hF
 refine wp_exit ?_
 refine c_seq <| c_region ?_
 obtain ⟨r386, hr386, hF⟩ := ob hF
 refine o_callS hS func36 rfl rfl (hc := (w_l7_wakes  (hF := hr386))) (h := ?_)
 clear hS; intro w hS
 refine oy hS y_assign <| n_thenN ?_
 obtain rfl := osi hF
 obtain rfl : _ = r := hK280
 exact wp_ret (wr1 hS)
theorem w_l7_found {g : Frag} {a0 : (List (A4 T_Ins))} {v0_ : Value} {r : Bool} (h0 : SlT g enc_Bundle 24 a0 v0_) (hF : l7_found a0 = some r) : LCs Tryz.prog 42 #[v0_] g (.bool r) := w_l7_found_ h0 hF
end Go.Proofs.YthbpicnbkdbbmaaGreat
