/- Functions, lifted. Printed by lift.py. -/
import Derived.Test.YtfnmihhcopkkbaaGreatProg
import Derived.Test.YtfnmihhcopkkbaaGreatP10
import Derived.KernelRfl
namespace Go.Proofs.YtfnmihhcopkkbaaGreat
open Go Go.RowKit Fr
set_option linter.unusedVariables false
set_option linter.unusedSimpArgs false
set_option maxRecDepth 20000
open Tryz
set_option maxHeartbeats 2000000
noncomputable def r5_Run_b1 (a2 : Int) (a0 : (List T_Ins)) : (Int × (List Int) × (List Int) × (List Int) × Int × (List Int) × Int × (List Int) × Int × (List T_Write) × Int × Int) → Option (Step (Int × (List Int) × (List Int) × (List Int) × Int × (List Int) × Int × (List Int) × Int × (List T_Write) × Int × Int) (T_State × Int)) := fun (x66, x67, x72, x77, x82, x83, x88, x89, x94, x95, D0, E0) => bif decide (x66 < a2) then bif decide (x94 = 0) then (r5_step a0 (⟨x67, x72, x77, x82, x83, x88, x89, x94, x95, D0, E0⟩ : T_State)).bind fun B0 => some (.next (IntKind.i64.wrap (x66 + 1), B0.Regs, B0.Mem, B0.In_, B0.Taken, B0.Out, B0.PC, B0.Stack, B0.Stop, B0.Fly, B0.Jump, B0.Delay)) else some (.done (((⟨x67, x72, x77, x82, x83, x88, x89, x94, x95, D0, E0⟩ : T_State), x66))) else some (.done (((⟨x67, x72, x77, x82, x83, x88, x89, x94, x95, D0, E0⟩ : T_State), x66)))
noncomputable def r5_Run (a0 : (List T_Ins)) (a1 : T_State) (a2 : Int) : Option (T_State × Int) :=
  (r0_CopyState a1).bind fun r3 => loop (σ := (Int × (List Int) × (List Int) × (List Int) × Int × (List Int) × Int × (List Int) × Int × (List T_Write) × Int × Int)) (r5_Run_b1 a2 a0) (0, r3.Regs, r3.Mem, r3.In_, r3.Taken, r3.Out, r3.PC, r3.Stack, r3.Stop, r3.Fly, r3.Jump, r3.Delay)
theorem w_r5_Run_ {g : Frag} {a0 : (List T_Ins)} {v0_ : Value} {a1 : T_State} {v1_ : Value} {a2 : Int} {r : (T_State × Int)} (h0 : SlT g enc_Ins 6 a0 v0_) (h1 : Rd_State g a1 v1_) (hF : r5_Run a0 a1 a2 = some r) : LC Tryz.prog 28 #[v0_, v1_, .int .i64 a2] g [] (fun v L => ∃ (u0 : Value) (M0 : Own), v = .tuple #[u0, .int .i64 r.2] ∧ L = (M0 ++ []) ∧ Ow_State r.1 u0 M0) := by
 obtain ⟨Y1, Z1, B2, D2, E2, G2, rfl, I2, J2, K2, M2, N2, R2⟩ := h1
 unfold r5_Run at hF
 refine lc_body (k := 25) (av := [v0_, .agg (cl_State Y1 Z1 B2 a1.Taken D2 a1.PC E2 a1.Stop G2 a1.Jump a1.Delay).toArray, .int .i64 a2]) func28 rfl rfl (h := fun W hS => ?_)
 refine c_seq <| c_region ?_
 refine o_boxP (cl := (cl_State Y1 Z1 B2 a1.Taken D2 a1.PC E2 a1.Stop G2 a1.Jump a1.Delay)) rfl hS ?_
 clear hS; intro b1 w hS
 refine o_allocP (cl := (cl_State (.slice none 0 0) (.slice none 0 0) (.slice none 0 0) 0 (.slice none 0 0) 0 (.slice none 0 0) 0 (.slice none 0 0) 0 0)) zr_api_State rfl hS ?_
 clear hS; intro b2 w hS
 refine oy hS y_assign <| n_thenN <| c_seq <| c_region ?_
 refine oy hS (y_loadW (fun w hS => hS.own (mC (mH))) underlying62 rfl (by exact sz_api_State)) ?_
 obtain ⟨r3, hr3, hF⟩ := ob hF
 refine o_call0 hS func39 rfl rfl (hc := (w_r0_CopyState (a0 := a1) (h0 := ⟨_, _, _, _, _, _, rfl, I2.plus, J2.plus, K2.plus, M2.plus, N2.plus, R2.plus⟩) (hF := hr3))) (h := ?_)
 clear hS; intro v4 LY5 w hS hr6
 obtain ⟨v_0_7, LX_0_8, rfl, rfl, h_0_9⟩ := hr6
 obtain ⟨E0, G0, I0, J0, K0, N0, K1, M1, N1, R1, T1, U1, rfl, rfl, R0, T0, U0, V0, X0, Y0⟩ := h_0_9
 simp only [aa, ac, al] at hS
 have hS := hS.re (.b (.d (.d (.d (.d (.d (.d (.e .hb))))))) (.t .h (.t .h (.t .h (.t .h (.t .h (.t .h (.b .hb .n))))))))
 refine o_storeW (vs := (cl_State E0 G0 I0 r3.Taken J0 r3.PC K0 r3.Stop N0 r3.Jump r3.Delay)) hS (by exact rfl) (Upd.here _) (by exact sz_api_State) (one_State (R0).one (T0).one (U0).one (V0).one (X0).one (Y0).one) ?_
 clear hS; intro w hS
 refine n_thenN <| c_seq <| c_region <| oy hS y_assign <| n_thenN <| c_seq <| c_block ?_
 refine c_loopP hF (fun (q : (Int × (List Int) × (List Int) × (List Int) × Int × (List Int) × Int × (List Int) × Int × (List T_Write) × Int × Int)) a w' => ∃ (v68 : Value) (v73 : Value) (v78 : Value) (v84 : Value) (v90 : Value) (v96 : Value) (Z0 : Own) (B1 : Own) (D1 : Own) (E1 : Own) (G1 : Own) (I1 : Own), OwT 87 enc_uint32 1 q.2.1 v68 Z0 ∧ OwT 87 enc_uint32 1 q.2.2.1 v73 B1 ∧ OwT 87 enc_uint32 1 q.2.2.2.1 v78 D1 ∧ OwT 87 enc_uint32 1 q.2.2.2.2.2.1 v84 E1 ∧ OwT 3 enc_int 1 q.2.2.2.2.2.2.2.1 v90 G1 ∧ OwT 89 enc_Write 3 q.2.2.2.2.2.2.2.2.2.1 v96 I1 ∧ (∃ s : Nat → Value, a = Ac ((((((Fm.dead 25 s).upd 0 v0_).upd 2 (.int .i64 a2)).upd 4 (.pointer (some ⟨b1, 0, none⟩))).upd 6 (.pointer (some ⟨b2, 0, none⟩))).upd 8 (.int .i64 q.1))) ∧ St W g [] ((b1, blk (cl_State v68 v73 v78 q.2.2.2.2.1 v84 q.2.2.2.2.2.2.1 v90 q.2.2.2.2.2.2.2.2.1 v96 q.2.2.2.2.2.2.2.2.2.2.1 q.2.2.2.2.2.2.2.2.2.2.2) 62) :: ((b2, blk (cl_State (.slice none 0 0) (.slice none 0 0) (.slice none 0 0) 0 (.slice none 0 0) 0 (.slice none 0 0) 0 (.slice none 0 0) 0 0) 62) :: (Z0 ++ (B1 ++ (D1 ++ (E1 ++ (G1 ++ (I1 ++ [])))))))) w') ⟨E0, G0, I0, J0, K0, N0, K1, M1, N1, R1, T1, U1, R0, T0, U0, V0, X0, Y0, mk_exF, (hS.re (.b .hb (.b (.d (.d (.d (.d (.d (.d .hb)))))) (.t .h (.t .h (.t .h (.t .h (.t .h (.t .h .n)))))))))⟩ ?_
 clear hS hF
 intro Z2 q a w hI hq
 obtain ⟨x66, x67, x72, x77, x82, x83, x88, x89, x94, x95, B0, D0⟩ := q
 obtain ⟨v68, v73, v78, v84, v90, v96, Z0, B1, D1, E1, G1, I1, h69, h74, h79, h85, h91, h97, ⟨B3, rfl⟩, hS⟩ := hq
 replace h69 : OwT 87 enc_uint32 1 x67 v68 Z0 := h69
 replace h74 : OwT 87 enc_uint32 1 x72 v73 B1 := h74
 replace h79 : OwT 87 enc_uint32 1 x77 v78 D1 := h79
 replace h85 : OwT 87 enc_uint32 1 x83 v84 E1 := h85
 replace h91 : OwT 3 enc_int 1 x89 v90 G1 := h91
 replace h97 : OwT 89 enc_Write 3 x95 v96 I1 := h97
 obtain ⟨D3, hF, J1⟩ := iter_step hI
 clear hI
 dsimp only [r5_Run_b1] at hF
 iterate 2 (refine c_seq ?_)
 refine c_region ?_
 iterate 2 (refine oy hS y_move ?_)
 refine oy hS y_bin ?_
 refine o_split (ht := fun V1 => ?_) (hf := fun V1 => ?_)
 · replace hF := bt V1 hF
   refine o_gu rfl rfl rfl <| oy hS (y_field fa_api_State_7) <| o_gu rfl rfl rfl <| oy hS (y_load oH underlying3 rfl rfl) <| o_gu rfl rfl rfl <| oy hS y_bin <| oy hS y_pickT <| n_thenN ?_
   refine c_if (ht := fun X1 => ?_) (hf := fun X1 => ?_)
   · replace hF := bt X1 hF
     refine wp_skip <| c_block <| c_seq <| c_region <| oy hS y_move ?_
     have hS := hS.re (.b .hb (.t (.e .h) (.t (.e .h) (.t (.e .h) (.t (.e .h) (.t (.e .h) (.t (.e .h) (.b .hb .n))))))))
     have hS2 := hS.spl (.cons _ (.app _ (.app _ (.app _ (.app _ (.app _ (.app _ (.nil _))))))))
     obtain ⟨E3, T2, hF⟩ := ob hF
     refine o_call hS2 func53 rfl rfl (hc := (w_r5_step (a0 := a0) (a1 := (⟨x67, x72, x77, x82, x83, x88, x89, x94, x95, B0, D0⟩ : T_State)) (h0 := h0.plus) (h1 := (⟨_, _, _, _, _, _, _, _, _, _, _, _, rfl, h69, h74, h79, h85, h91, h97⟩ : Bx_State b1 (⟨x67, x72, x77, x82, x83, x88, x89, x94, x95, B0, D0⟩ : T_State) ((b1, blk (cl_State v68 v73 v78 x82 v84 x88 v90 x94 v96 B0 D0) 62) :: (Z0 ++ (B1 ++ (D1 ++ (E1 ++ (G1 ++ (I1 ++ []))))))))) (hF := T2))) (h := ?_)
     clear hS; intro G3 X2 w hS U2
     clear hS2
     obtain ⟨Y2, rfl, rfl, V2⟩ := U2
     obtain ⟨vB_0_146, vB_1_150, vB_2_154, vB_4_158, vB_6_162, vB_8_166, LXB_0_147, LXB_1_151, LXB_2_155, LXB_4_159, LXB_6_163, LXB_8_167, rfl, hB_0_148, hB_1_152, hB_2_156, hB_4_160, hB_6_164, hB_8_168⟩ := V2
     simp only [aa, ac, al] at hS
     refine n_thenN <| c_region <| oy hS y_move <| oy hS y_bin <| oy hS y_assign ?_
     refine n_anyN ?_
     obtain rfl := osi hF
     exact ⟨_, J1, vB_0_146, vB_1_150, vB_2_154, vB_4_158, vB_6_162, vB_8_166, LXB_0_147, LXB_1_151, LXB_2_155, LXB_4_159, LXB_6_163, LXB_8_167, hB_0_148, hB_1_152, hB_2_156, hB_4_160, hB_6_164, hB_8_168, mk_exF, (hS.re (.b .hb (.b (.d (.d (.d (.d (.d (.d .hb)))))) (.t .h (.t .h (.t .h (.t .h (.t .h (.t .h .n)))))))))⟩
   replace hF := bf X1 hF
   refine wp_exit ?_
   refine c_seq <| c_region ?_
   refine oy hS (y_loadW oH underlying62 rfl (by exact sz_api_State)) ?_
   refine oy hS y_move ?_
   refine o_storeW (vs := (cl_State v68 v73 v78 x82 v84 x88 v90 x94 v96 B0 D0)) hS (by exact rfl) (Upd.there _ (Upd.here _)) (by exact sz_api_State) (one_State (h69).one (h74).one (h79).one (h85).one (h91).one (h97).one) ?_
   clear hS; intro w hS
   refine oy hS y_assign <| n_thenN ?_
   obtain rfl := osi hF
   obtain rfl : _ = r := J1
   refine wp_ret (r_ret (vs := [.agg (cl_State v68 v73 v78 x82 v84 x88 v90 x94 v96 B0 D0).toArray, .int .i64 x66]) (hS.re (.t (.e (.e .h)) (.t (.e (.e .h)) (.t (.e (.e .h)) (.t (.e (.e .h)) (.t (.e (.e .h)) (.t (.e (.e .h)) .n))))))) (rsC (res_cell (hS.own (mC (mH))) underlying62 rfl (by exact sz_api_State)) (rsC res_tmp rsN)) rfl ⟨_, _, rfl, (by first | rfl | simp only [aa, ac, al, an]), ⟨_, _, _, _, _, _, _, _, _, _, _, _, rfl, rfl, h69, h74, h79, h85, h91, h97⟩⟩)
 replace hF := bf V1 hF
 iterate 3 (refine o_sk rfl rfl ?_)
 refine oy hS y_pickF <| n_thenN ?_
 refine c_if_false (h := ?_)
 refine wp_exit ?_
 refine c_seq <| c_region ?_
 refine oy hS (y_loadW oH underlying62 rfl (by exact sz_api_State)) ?_
 refine oy hS y_move ?_
 refine o_storeW (vs := (cl_State v68 v73 v78 x82 v84 x88 v90 x94 v96 B0 D0)) hS (by exact rfl) (Upd.there _ (Upd.here _)) (by exact sz_api_State) (one_State (h69).one (h74).one (h79).one (h85).one (h91).one (h97).one) ?_
 clear hS; intro w hS
 refine oy hS y_assign <| n_thenN ?_
 obtain rfl := osi hF
 obtain rfl : _ = r := J1
 refine wp_ret (r_ret (vs := [.agg (cl_State v68 v73 v78 x82 v84 x88 v90 x94 v96 B0 D0).toArray, .int .i64 x66]) (hS.re (.t (.e (.e .h)) (.t (.e (.e .h)) (.t (.e (.e .h)) (.t (.e (.e .h)) (.t (.e (.e .h)) (.t (.e (.e .h)) .n))))))) (rsC (res_cell (hS.own (mC (mH))) underlying62 rfl (by exact sz_api_State)) (rsC res_tmp rsN)) rfl ⟨_, _, rfl, (by first | rfl | simp only [aa, ac, al, an]), ⟨_, _, _, _, _, _, _, _, _, _, _, _, rfl, rfl, h69, h74, h79, h85, h91, h97⟩⟩)
theorem w_r5_Run {g : Frag} {a0 : (List T_Ins)} {v0_ : Value} {a1 : T_State} {v1_ : Value} {a2 : Int} {r : (T_State × Int)} (h0 : SlT g enc_Ins 6 a0 v0_) (h1 : Rd_State g a1 v1_) (hF : r5_Run a0 a1 a2 = some r) : LC Tryz.prog 28 #[v0_, v1_, .int .i64 a2] g [] (fun v L => ∃ (u0 : Value) (M0 : Own), v = .tuple #[u0, .int .i64 r.2] ∧ L = (M0 ++ []) ∧ Ow_State r.1 u0 M0) := w_r5_Run_ h0 h1 hF

noncomputable def r0_EqWords_b1 (a0 : (List Int)) (a1 : (List Int)) : Int → Option (Step Int Bool) := fun x28 => bif decide (x28 < (a0.length : Int)) then (at' a0 x28).bind fun x60 => (at' a1 x28).bind fun x72 => bif decide (x60 ≠ x72) then some (.done (false)) else some (.next (IntKind.i64.wrap (x28 + 1))) else some (.done (true))
noncomputable def r0_EqWords (a0 : (List Int)) (a1 : (List Int)) : Option Bool :=
  bif decide ((a0.length : Int) ≠ (a1.length : Int)) then some (false) else loop (σ := Int) (r0_EqWords_b1 a0 a1) 0
theorem w_r0_EqWords_ {g : Frag} {a0 : (List Int)} {v0_ : Value} {a1 : (List Int)} {v1_ : Value} {r : Bool} (h0 : SlT g enc_uint32 1 a0 v0_) (h1 : SlT g enc_uint32 1 a1 v1_) (hF : r0_EqWords a0 a1 = some r) : LCs Tryz.prog 30 #[v0_, v1_] g (.bool r) := by
 unfold r0_EqWords at hF
 refine lc_body (k := 26) (av := [v0_, v1_]) func30 rfl rfl (h := fun W hS => ?_)
 refine c_seq <| c_region <| oy hS y_assign <| n_thenN ?_
 iterate 2 (refine c_seq ?_)
 refine c_region <| oy hS y_move <| oy hS (y_len h0 underlying31) <| oy hS y_move <| oy hS (y_len h1 underlying31) <| oy hS y_bin <| n_thenN ?_
 refine c_if (ht := fun c1 => ?_) (hf := fun c1 => ?_)
 · replace hF := bt c1 hF
   refine c_seq <| c_region <| oy hS y_assign <| n_thenN ?_
   obtain rfl := osi hF
   exact wp_ret (wr1 hS)
 replace hF := bf c1 hF
 refine wp_skip ?_
 iterate 2 (refine c_seq ?_)
 refine c_region <| oy hS y_assign <| n_thenN <| c_block ?_
 refine c_loopP hF (fun (q : Int) a w' => (∃ s : Nat → Value, a = Ac ((((Fm.dead 26 s).upd 0 v0_).upd 1 v1_).upd 5 (.int .i64 q))) ∧ St W g [] [] w') ⟨mk_exF, (hS.re (.n))⟩ ?_
 clear hS hF
 intro n57 q a w hI hq
 revert hq hI; revert q; intro x28 hI hq
 obtain ⟨⟨s58, rfl⟩, hS⟩ := hq
 obtain ⟨z55, hF, B0⟩ := iter_step hI
 clear hI
 dsimp only [r0_EqWords_b1] at hF
 iterate 2 (refine c_seq ?_)
 refine c_region ?_
 iterate 2 (refine oy hS y_move ?_)
 refine oy hS (y_len h0 underlying31) <| oy hS y_bin <| n_thenN ?_
 refine c_if (ht := fun c59 => ?_) (hf := fun c59 => ?_)
 · replace hF := bt c59 hF
   refine wp_skip <| c_seq <| c_block <| c_seq ?_
   refine c_quiet (by kernel_rfl) (by kernel_rfl) hS ?_
   iterate 2 (refine qy y_move ?_)
   obtain ⟨x60, D0, hF⟩ := ob hF
   obtain ⟨b61, o62, c63, X0, e65, Y0, E0, G0, I0, J0, K0⟩ := SlT.at D0 h0 enc_len_uint32
   refine qy (y_index E0 G0 I0 underlying31 el_uint32.size) <| qy (y_load (fun w hS => hS.block J0) underlying87 rfl (K0 0 _ rfl)) ?_
   iterate 2 (refine qy y_move ?_)
   obtain ⟨x72, M0, hF⟩ := ob hF
   obtain ⟨b73, o74, c75, Z0, e77, B1, N0, R0, T0, U0, V0⟩ := SlT.at M0 h1 enc_len_uint32
   refine qy (y_index N0 R0 T0 underlying31 el_uint32.size) <| qy (y_load (fun w hS => hS.block U0) underlying87 rfl (V0 0 _ rfl)) <| qy y_bin ?_
   refine q_nilN (h := ?_)
   clear hS; intro w hS
   refine c_if (ht := fun c84 => ?_) (hf := fun c84 => ?_)
   · replace hF := bt c84 hF
     refine c_seq <| c_region <| oy hS y_assign <| n_thenN ?_
     obtain rfl := osi hF
     obtain rfl : _ = r := B0
     exact wp_ret (wr1 hS)
   replace hF := bf c84 hF
   refine wp_skip <| c_region <| oy hS y_move <| oy hS y_bin <| oy hS y_assign <| n_thenN ?_
   obtain rfl := osi hF
   exact ⟨_, B0, mk_exF, (hS.re (.n))⟩
 replace hF := bf c59 hF
 refine wp_exit ?_
 refine c_seq <| c_region <| oy hS y_assign <| n_thenN ?_
 obtain rfl := osi hF
 obtain rfl : _ = r := B0
 exact wp_ret (wr1 hS)
theorem w_r0_EqWords {g : Frag} {a0 : (List Int)} {v0_ : Value} {a1 : (List Int)} {v1_ : Value} {r : Bool} (h0 : SlT g enc_uint32 1 a0 v0_) (h1 : SlT g enc_uint32 1 a1 v1_) (hF : r0_EqWords a0 a1 = some r) : LCs Tryz.prog 30 #[v0_, v1_] g (.bool r) := w_r0_EqWords_ h0 h1 hF

noncomputable def r0_Begins (a0 : (List Int)) (a1 : (List Int)) : Option Bool :=
  bif decide ((a1.length : Int) ≤ (a0.length : Int)) then (sub' a0 0 (a1.length : Int)).bind fun zs2 => (r0_EqWords zs2 a1).bind fun r3 => some (r3) else some (false)
theorem w_r0_Begins_ {g : Frag} {a0 : (List Int)} {v0_ : Value} {a1 : (List Int)} {v1_ : Value} {r : Bool} (h0 : SlT g enc_uint32 1 a0 v0_) (h1 : SlT g enc_uint32 1 a1 v1_) (hF : r0_Begins a0 a1 = some r) : LCs Tryz.prog 29 #[v0_, v1_] g (.bool r) := by
 unfold r0_Begins at hF
 refine lc_body (k := 18) (av := [v0_, v1_]) func29 rfl rfl (h := fun W hS => ?_)
 refine c_seq <| c_region <| oy hS y_assign <| n_thenN <| c_seq <| c_region <| oy hS y_move <| oy hS (y_len h1 underlying31) ?_
 refine oy hS y_move <| oy hS (y_len h0 underlying31) <| oy hS y_bin ?_
 refine o_split (ht := fun c1 => ?_) (hf := fun c1 => ?_)
 · replace hF := bt c1 hF
   refine o_gu rfl rfl rfl <| oy hS y_move <| o_gu rfl rfl rfl <| oy hS y_move <| o_gu rfl rfl rfl <| oy hS (y_len h1 underlying31) <| o_gu rfl rfl rfl ?_
   obtain ⟨zs2, B0, hF⟩ := ob hF
   refine oy hS (y_slU B0 h0 underlying31 el_uint32.size) <| o_gu rfl rfl rfl <| oy hS y_move <| o_gu rfl rfl rfl ?_
   obtain ⟨r3, hr3, hF⟩ := ob hF
   refine o_callS hS func30 rfl rfl (hc := (w_r0_EqWords (a0 := zs2) (a1 := a1) (h0 := (SlT.sub B0 h0 enc_len_uint32).plus) (h1 := h1.plus) (hF := hr3))) (h := ?_)
   clear hS; intro w hS
   refine oy hS y_pickT <| oy hS y_assign <| n_thenN ?_
   obtain rfl := osi hF
   exact wp_ret (wr1 hS)
 replace hF := bf c1 hF
 iterate 6 (refine o_sk rfl rfl ?_)
 refine oy hS y_pickF <| oy hS y_assign <| n_thenN ?_
 obtain rfl := osi hF
 exact wp_ret (wr1 hS)
theorem w_r0_Begins {g : Frag} {a0 : (List Int)} {v0_ : Value} {a1 : (List Int)} {v1_ : Value} {r : Bool} (h0 : SlT g enc_uint32 1 a0 v0_) (h1 : SlT g enc_uint32 1 a1 v1_) (hF : r0_Begins a0 a1 = some r) : LCs Tryz.prog 29 #[v0_, v1_] g (.bool r) := w_r0_Begins_ h0 h1 hF
end Go.Proofs.YtfnmihhcopkkbaaGreat
