/- Functions, lifted. Printed by lift.py. -/
import Derived.Test.YtfnmihhcopkkbaaGreatProg
import Derived.Test.YtfnmihhcopkkbaaGreatP3
import Derived.KernelRfl
namespace Go.Proofs.YtfnmihhcopkkbaaGreat
open Go Go.RowKit Fr
set_option linter.unusedVariables false
set_option linter.unusedSimpArgs false
set_option maxRecDepth 20000
open Tryz
set_option maxHeartbeats 2000000
noncomputable def seq_Run_b2 (a2 : Int) (a0 : (List T_Ins)) : (Int × (List Int) × (List Int) × (List Int) × Int × (List Int) × Int × (List Int) × Int × (List T_Write) × Int × Int) → Option (Step (Int × (List Int) × (List Int) × (List Int) × Int × (List Int) × Int × (List Int) × Int × (List T_Write) × Int × Int) (T_State × Int × Int)) := fun (x87, x88, x93, x98, E0, G0, I0, J0, D0, K0, M0, N0) => bif decide (x87 < a2) then bif decide (D0 = 0) then (seq_step a0 (⟨x88, x93, x98, E0, G0, I0, J0, D0, K0, M0, N0⟩ : T_State)).bind fun B0 => some (.next (IntKind.i64.wrap (x87 + 1), B0.Regs, B0.Mem, B0.In_, B0.Taken, B0.Out, B0.PC, B0.Stack, B0.Stop, B0.Fly, B0.Jump, B0.Delay)) else some (.done (((⟨x88, x93, x98, E0, G0, I0, J0, D0, K0, M0, N0⟩ : T_State), x87, 0))) else some (.done (((⟨x88, x93, x98, E0, G0, I0, J0, D0, K0, M0, N0⟩ : T_State), x87, 0)))
noncomputable def seq_Run_k1 (a1 : T_State) (a2 : Int) (a0 : (List T_Ins)) : Unit → Option (T_State × Int × Int) := fun _ => (seq_Own a1).bind fun r24 => loop (σ := (Int × (List Int) × (List Int) × (List Int) × Int × (List Int) × Int × (List Int) × Int × (List T_Write) × Int × Int)) (seq_Run_b2 a2 a0) (0, r24.Regs, r24.Mem, r24.In_, r24.Taken, r24.Out, r24.PC, r24.Stack, r24.Stop, r24.Fly, r24.Jump, r24.Delay)
noncomputable def seq_Run (a0 : (List T_Ins)) (a1 : T_State) (a2 : Int) : Option (T_State × Int × Int) :=
  cut (σ := Unit) ((seq_Program a0).bind fun r14 => bif !r14 then some (.done (((⟨[], [], [], 0, [], 0, [], 0, [], 0, 0⟩ : T_State), 0, 1))) else (seq_May a1).bind fun r16 => bif !r16 then some (.done (((⟨[], [], [], 0, [], 0, [], 0, [], 0, 0⟩ : T_State), 0, 1))) else (seq_upto 20000 ([a2] : List Int)).bind fun r21 => bif !r21 then some (.done (((⟨[], [], [], 0, [], 0, [], 0, [], 0, 0⟩ : T_State), 0, 1))) else some (.next ())) (seq_Run_k1 a1 a2 a0)
theorem w_seq_Run_ {g : Frag} {a0 : (List T_Ins)} {v0_ : Value} {a1 : T_State} {v1_ : Value} {a2 : Int} {r : (T_State × Int × Int)} (h0 : SlT g enc_Ins 6 a0 v0_) (h1 : Rd_State g a1 v1_) (hF : seq_Run a0 a1 a2 = some r) : LC Tryz.prog 23 #[v0_, v1_, .int .i64 a2] g [] (fun v L => ∃ (u0 : Value) (M0 : Own), v = .tuple #[u0, .int .i64 r.2.1, .int .i64 r.2.2] ∧ L = (M0 ++ []) ∧ Ow_State r.1 u0 M0) := by
 obtain ⟨D1, E1, G1, I1, J1, K1, rfl, E3, G3, I3, J3, K3, M3⟩ := h1
 unfold seq_Run at hF
 refine lc_body (k := 40) (av := [v0_, .agg (cl_State D1 E1 G1 a1.Taken I1 a1.PC J1 a1.Stop K1 a1.Jump a1.Delay).toArray, .int .i64 a2]) func23 rfl rfl (h := fun W hS => ?_)
 refine c_seq <| c_region ?_
 refine o_boxP (cl := (cl_State D1 E1 G1 a1.Taken I1 a1.PC J1 a1.Stop K1 a1.Jump a1.Delay)) rfl hS ?_
 clear hS; intro b1 w hS
 refine o_allocP (cl := (cl_State (.slice none 0 0) (.slice none 0 0) (.slice none 0 0) 0 (.slice none 0 0) 0 (.slice none 0 0) 0 (.slice none 0 0) 0 0)) zr_api_State rfl hS ?_
 clear hS; intro b2 w hS
 iterate 2 (refine oy hS y_assign ?_)
 refine n_thenN ?_
 obtain ⟨z12, hF, J2⟩ := cut_step hF
 refine c_cutP (fun a w' => seq_Run_k1 a1 a2 a0 () = some r ∧ (∃ s : Nat → Value, a = Ac ((((((Fm.dead 40 s).upd 0 v0_).upd 2 (.int .i64 a2)).upd 4 (.pointer (some ⟨b1, 0, none⟩))).upd 6 (.pointer (some ⟨b2, 0, none⟩))).upd 7 (.int .i64 0))) ∧ St W g [] ((b1, blk (cl_State D1 E1 G1 a1.Taken I1 a1.PC J1 a1.Stop K1 a1.Jump a1.Delay) 62) :: ((b2, blk (cl_State (.slice none 0 0) (.slice none 0 0) (.slice none 0 0) 0 (.slice none 0 0) 0 (.slice none 0 0) 0 (.slice none 0 0) 0 0) 62) :: [])) w') ?_ ?_
 · skip
   refine c_seq <| c_region <| oy hS y_move ?_
   obtain ⟨r14, U3, hF⟩ := ob hF
   refine o_callS hS func44 rfl rfl (hc := (w_seq_Program (a0 := a0) (h0 := h0.plus) (hF := U3))) (h := ?_)
   clear hS; intro w hS
   refine oy hS y_not ?_
   refine o_split (ht := fun c15 => ?_) (hf := fun c15 => ?_)
   · replace hF := bt c15 hF
     iterate 3 (refine o_sk rfl rfl ?_)
     refine oy hS y_pickT <| oy hS y_move ?_
     iterate 4 (refine o_sk rfl rfl ?_)
     refine oy hS y_pickT <| n_thenN ?_
     refine c_if_true (h := ?_)
     refine c_seq <| c_region ?_
     refine oy hS (y_loadW oH underlying62 rfl (by exact sz_api_State)) ?_
     refine o_storeW (vs := (cl_State (.slice none 0 0) (.slice none 0 0) (.slice none 0 0) 0 (.slice none 0 0) 0 (.slice none 0 0) 0 (.slice none 0 0) 0 0)) hS (by exact rfl) (Upd.here _) (by exact sz_api_State) (one_State rfl rfl rfl rfl rfl rfl) ?_
     clear hS; intro w hS
     iterate 2 (refine oy hS y_assign ?_)
     refine n_thenN ?_
     obtain rfl := osi hF
     obtain rfl : _ = r := J2
     refine wp_ret (r_ret (vs := [.agg (cl_State (.slice none 0 0) (.slice none 0 0) (.slice none 0 0) 0 (.slice none 0 0) 0 (.slice none 0 0) 0 (.slice none 0 0) 0 0).toArray, .int .i64 0, .int .i64 1]) (hS.re (.n)) (rsC (res_cell (hS.own (mH)) underlying62 rfl (by exact sz_api_State)) (rsC res_tmp (rsC res_tmp rsN))) rfl ⟨_, _, rfl, (by first | rfl | simp only [aa, ac, al, an]), ⟨_, _, _, _, _, _, _, _, _, _, _, _, rfl, rfl, OwT.nil _ _ _, OwT.nil _ _ _, OwT.nil _ _ _, OwT.nil _ _ _, OwT.nil _ _ _, OwT.nil _ _ _⟩⟩)
   replace hF := bf c15 hF
   refine o_gu rfl rfl rfl ?_
   refine oy hS (y_loadW (fun w hS => hS.own (mC (mH))) underlying62 rfl (by exact sz_api_State)) ?_
   refine o_gu rfl rfl rfl ?_
   obtain ⟨r16, V3, hF⟩ := ob hF
   refine o_callS hS func45 rfl rfl (hc := (w_seq_May (a0 := a1) (h0 := ⟨_, _, _, _, _, _, rfl, E3.plus, G3.plus, I3.plus, J3.plus, K3.plus, M3.plus⟩) (hF := V3))) (h := ?_)
   clear hS; intro w hS
   refine o_gu rfl rfl rfl <| oy hS y_not <| oy hS y_pickF ?_
   refine o_split (ht := fun c17 => ?_) (hf := fun c17 => ?_)
   · replace hF := bt c17 hF
     iterate 4 (refine o_sk rfl rfl ?_)
     refine oy hS y_pickT <| n_thenN ?_
     refine c_if_true (h := ?_)
     refine c_seq <| c_region ?_
     refine oy hS (y_loadW oH underlying62 rfl (by exact sz_api_State)) ?_
     refine o_storeW (vs := (cl_State (.slice none 0 0) (.slice none 0 0) (.slice none 0 0) 0 (.slice none 0 0) 0 (.slice none 0 0) 0 (.slice none 0 0) 0 0)) hS (by exact rfl) (Upd.here _) (by exact sz_api_State) (one_State rfl rfl rfl rfl rfl rfl) ?_
     clear hS; intro w hS
     iterate 2 (refine oy hS y_assign ?_)
     refine n_thenN ?_
     obtain rfl := osi hF
     obtain rfl : _ = r := J2
     refine wp_ret (r_ret (vs := [.agg (cl_State (.slice none 0 0) (.slice none 0 0) (.slice none 0 0) 0 (.slice none 0 0) 0 (.slice none 0 0) 0 (.slice none 0 0) 0 0).toArray, .int .i64 0, .int .i64 1]) (hS.re (.n)) (rsC (res_cell (hS.own (mH)) underlying62 rfl (by exact sz_api_State)) (rsC res_tmp (rsC res_tmp rsN))) rfl ⟨_, _, rfl, (by first | rfl | simp only [aa, ac, al, an]), ⟨_, _, _, _, _, _, _, _, _, _, _, _, rfl, rfl, OwT.nil _ _ _, OwT.nil _ _ _, OwT.nil _ _ _, OwT.nil _ _ _, OwT.nil _ _ _, OwT.nil _ _ _⟩⟩)
   replace hF := bf c17 hF
   refine o_gu rfl rfl rfl <| oy hS y_move <| o_gu rfl rfl rfl ?_
   refine o_buildT val_int ([a2] : List Int) hS el_int (fun _ => rfl) enc_len_int (by decide) rfl (by decide) (hp := rfl) (h := ?_)
   clear hS; intro b18 w hS h19
   have hS : St W g [] ([(b18, blk (([a2] : List Int).flatMap enc_int) 3)] ++ ((b2, blk (cl_State (.slice none 0 0) (.slice none 0 0) (.slice none 0 0) 0 (.slice none 0 0) 0 (.slice none 0 0) 0 (.slice none 0 0) 0 0) 62) :: ((b1, blk (cl_State D1 E1 G1 a1.Taken I1 a1.PC J1 a1.Stop K1 a1.Jump a1.Delay) 62) :: []))) w := hS
   refine o_gu rfl rfl rfl ?_
   obtain ⟨r21, X3, hF⟩ := ob hF
   refine o_callS hS func46 rfl rfl (hc := (w_seq_upto (a0 := 20000) (a1 := ([a2] : List Int)) (h1 := (OwT.plus h19 hS (fun p hp => mA (hp)))) (hF := X3))) (h := ?_)
   clear hS; intro w hS
   refine o_gu rfl rfl rfl <| oy hS y_not <| oy hS y_pickF <| n_thenN ?_
   refine c_if (ht := fun c22 => ?_) (hf := fun c22 => ?_)
   · replace hF := bt c22 hF
     refine c_seq <| c_region ?_
     refine oy hS (y_loadW (fun w hS => hS.own (mB (mH))) underlying62 rfl (by exact sz_api_State)) ?_
     have hS := hS.re (.b (.d .hb) (.t .h (.b .hb .n)))
     refine o_storeW (vs := (cl_State (.slice none 0 0) (.slice none 0 0) (.slice none 0 0) 0 (.slice none 0 0) 0 (.slice none 0 0) 0 (.slice none 0 0) 0 0)) hS (by exact rfl) (Upd.here _) (by exact sz_api_State) (one_State rfl rfl rfl rfl rfl rfl) ?_
     clear hS; intro w hS
     iterate 2 (refine oy hS y_assign ?_)
     refine n_thenN ?_
     obtain rfl := osi hF
     obtain rfl : _ = r := J2
     refine wp_ret (r_ret (vs := [.agg (cl_State (.slice none 0 0) (.slice none 0 0) (.slice none 0 0) 0 (.slice none 0 0) 0 (.slice none 0 0) 0 (.slice none 0 0) 0 0).toArray, .int .i64 0, .int .i64 1]) (hS.re (.n)) (rsC (res_cell (hS.own (mH)) underlying62 rfl (by exact sz_api_State)) (rsC res_tmp (rsC res_tmp rsN))) rfl ⟨_, _, rfl, (by first | rfl | simp only [aa, ac, al, an]), ⟨_, _, _, _, _, _, _, _, _, _, _, _, rfl, rfl, OwT.nil _ _ _, OwT.nil _ _ _, OwT.nil _ _ _, OwT.nil _ _ _, OwT.nil _ _ _, OwT.nil _ _ _⟩⟩)
   replace hF := bf c22 hF
   refine wp_skip ?_
   obtain rfl := osi hF
   change _ ∧ _
   exact ⟨J2, mk_exF, (hS.re (.b (.d (.e .hb)) (.b (.d .hb) .n)))⟩
 rintro a w ⟨hF, ⟨s23, rfl⟩, hS⟩
 dsimp only [seq_Run_k1] at hF
 refine c_seq <| c_region ?_
 refine oy hS (y_loadW oH underlying62 rfl (by exact sz_api_State)) ?_
 obtain ⟨r24, Y3, hF⟩ := ob hF
 refine o_call0 hS func47 rfl rfl (hc := (w_seq_Own (a0 := a1) (h0 := ⟨_, _, _, _, _, _, rfl, E3.plus, G3.plus, I3.plus, J3.plus, K3.plus, M3.plus⟩) (hF := Y3))) (h := ?_)
 clear hS; intro v25 E4 w hS Z3
 obtain ⟨v_0_28, LX_0_29, rfl, rfl, h_0_30⟩ := Z3
 obtain ⟨M1, N1, R1, T1, U1, V1, M2, N2, R2, T2, U2, V2, rfl, rfl, X1, Y1, Z1, B2, D2, E2⟩ := h_0_30
 simp only [aa, ac, al] at hS
 have hS := hS.re (.b (.d (.d (.d (.d (.d (.d (.e .hb))))))) (.t .h (.t .h (.t .h (.t .h (.t .h (.t .h (.b .hb .n))))))))
 refine o_storeW (vs := (cl_State M1 N1 R1 r24.Taken T1 r24.PC U1 r24.Stop V1 r24.Jump r24.Delay)) hS (by exact rfl) (Upd.here _) (by exact sz_api_State) (one_State (X1).one (Y1).one (Z1).one (B2).one (D2).one (E2).one) ?_
 clear hS; intro w hS
 refine n_thenN <| c_seq <| c_block ?_
 refine c_loopP hF (fun (q : (Int × (List Int) × (List Int) × (List Int) × Int × (List Int) × Int × (List Int) × Int × (List T_Write) × Int × Int)) a w' => ∃ (v89 : Value) (v94 : Value) (v99 : Value) (B0 : Value) (D0 : Value) (E0 : Value) (G2 : Own) (I2 : Own) (X0 : Own) (Y0 : Own) (Z0 : Own) (B1 : Own), OwT 87 enc_uint32 1 q.2.1 v89 G2 ∧ OwT 87 enc_uint32 1 q.2.2.1 v94 I2 ∧ OwT 87 enc_uint32 1 q.2.2.2.1 v99 X0 ∧ OwT 87 enc_uint32 1 q.2.2.2.2.2.1 B0 Y0 ∧ OwT 3 enc_int 1 q.2.2.2.2.2.2.2.1 D0 Z0 ∧ OwT 89 enc_Write 3 q.2.2.2.2.2.2.2.2.2.1 E0 B1 ∧ (∃ s : Nat → Value, a = Ac (((((Fm.dead 40 s).upd 0 v0_).upd 2 (.int .i64 a2)).upd 6 (.pointer (some ⟨b2, 0, none⟩))).upd 7 (.int .i64 q.1))) ∧ St W g [] ((b2, blk (cl_State v89 v94 v99 q.2.2.2.2.1 B0 q.2.2.2.2.2.2.1 D0 q.2.2.2.2.2.2.2.2.1 E0 q.2.2.2.2.2.2.2.2.2.2.1 q.2.2.2.2.2.2.2.2.2.2.2) 62) :: (G2 ++ (I2 ++ (X0 ++ (Y0 ++ (Z0 ++ (B1 ++ []))))))) w') ⟨M1, N1, R1, T1, U1, V1, M2, N2, R2, T2, U2, V2, X1, Y1, Z1, B2, D2, E2, mk_exF, (hS.re (.b .hb (.t .h (.t .h (.t .h (.t .h (.t .h (.t .h .n))))))))⟩ ?_
 clear hS hF
 intro G4 q a w hI hq
 obtain ⟨x87, x88, x93, x98, G0, X2, I0, Y2, J0, Z2, K0, N0⟩ := q
 obtain ⟨v89, v94, v99, B0, D0, E0, G2, I2, X0, Y0, Z0, B1, h90, h95, R0, T0, U0, V0, ⟨I4, rfl⟩, hS⟩ := hq
 replace h90 : OwT 87 enc_uint32 1 x88 v89 G2 := h90
 replace h95 : OwT 87 enc_uint32 1 x93 v94 I2 := h95
 replace R0 : OwT 87 enc_uint32 1 x98 v99 X0 := R0
 replace T0 : OwT 87 enc_uint32 1 X2 B0 Y0 := T0
 replace U0 : OwT 3 enc_int 1 Y2 D0 Z0 := U0
 replace V0 : OwT 89 enc_Write 3 Z2 E0 B1 := V0
 obtain ⟨J4, hF, K2⟩ := iter_step hI
 clear hI
 dsimp only [seq_Run_b2] at hF
 iterate 2 (refine c_seq ?_)
 refine c_region ?_
 iterate 2 (refine oy hS y_move ?_)
 refine oy hS y_bin ?_
 refine o_split (ht := fun B3 => ?_) (hf := fun B3 => ?_)
 · replace hF := bt B3 hF
   refine o_gu rfl rfl rfl <| oy hS (y_field fa_api_State_7) <| o_gu rfl rfl rfl <| oy hS (y_load oH underlying3 rfl rfl) <| o_gu rfl rfl rfl <| oy hS y_bin <| oy hS y_pickT <| n_thenN ?_
   refine c_if (ht := fun D3 => ?_) (hf := fun D3 => ?_)
   · replace hF := bt D3 hF
     refine wp_skip <| c_block <| c_seq <| c_region <| oy hS y_move ?_
     have hS2 := hS.spl (.cons _ (.app _ (.app _ (.app _ (.app _ (.app _ (.app _ (.nil _))))))))
     obtain ⟨K4, N3, hF⟩ := ob hF
     refine o_call hS2 func48 rfl rfl (hc := (w_seq_step (a0 := a0) (a1 := (⟨x88, x93, x98, G0, X2, I0, Y2, J0, Z2, K0, N0⟩ : T_State)) (h0 := h0.plus) (h1 := (⟨_, _, _, _, _, _, _, _, _, _, _, _, rfl, h90, h95, R0, T0, U0, V0⟩ : Bx_State b2 (⟨x88, x93, x98, G0, X2, I0, Y2, J0, Z2, K0, N0⟩ : T_State) ((b2, blk (cl_State v89 v94 v99 G0 B0 I0 D0 J0 E0 K0 N0) 62) :: (G2 ++ (I2 ++ (X0 ++ (Y0 ++ (Z0 ++ (B1 ++ []))))))))) (hF := N3))) (h := ?_)
     clear hS; intro M4 B4 w hS R3
     clear hS2
     obtain ⟨D4, rfl, rfl, T3⟩ := R3
     obtain ⟨vB_0_167, vB_1_171, vB_2_175, vB_4_179, vB_6_183, vB_8_187, LXB_0_168, LXB_1_172, LXB_2_176, LXB_4_180, LXB_6_184, LXB_8_188, rfl, hB_0_169, hB_1_173, hB_2_177, hB_4_181, hB_6_185, hB_8_189⟩ := T3
     simp only [aa, ac, al] at hS
     refine n_thenN <| c_region <| oy hS y_move <| oy hS y_bin <| oy hS y_assign ?_
     refine n_anyN ?_
     obtain rfl := osi hF
     exact ⟨_, K2, vB_0_167, vB_1_171, vB_2_175, vB_4_179, vB_6_183, vB_8_187, LXB_0_168, LXB_1_172, LXB_2_176, LXB_4_180, LXB_6_184, LXB_8_188, hB_0_169, hB_1_173, hB_2_177, hB_4_181, hB_6_185, hB_8_189, mk_exF, (hS.re (.b .hb (.t .h (.t .h (.t .h (.t .h (.t .h (.t .h .n))))))))⟩
   replace hF := bf D3 hF
   refine wp_exit ?_
   refine c_seq <| c_region ?_
   refine oy hS (y_loadW oH underlying62 rfl (by exact sz_api_State)) ?_
   refine oy hS y_move ?_
   refine o_storeW (vs := (cl_State v89 v94 v99 G0 B0 I0 D0 J0 E0 K0 N0)) hS (by exact rfl) (Upd.here _) (by exact sz_api_State) (one_State (h90).one (h95).one (R0).one (T0).one (U0).one (V0).one) ?_
   clear hS; intro w hS
   iterate 2 (refine oy hS y_assign ?_)
   refine n_thenN ?_
   obtain rfl := osi hF
   obtain rfl : _ = r := K2
   refine wp_ret (r_ret (vs := [.agg (cl_State v89 v94 v99 G0 B0 I0 D0 J0 E0 K0 N0).toArray, .int .i64 x87, .int .i64 0]) (hS.re (.t (.e .h) (.t (.e .h) (.t (.e .h) (.t (.e .h) (.t (.e .h) (.t (.e .h) .n))))))) (rsC (res_cell (hS.own (mH)) underlying62 rfl (by exact sz_api_State)) (rsC res_tmp (rsC res_tmp rsN))) rfl ⟨_, _, rfl, (by first | rfl | simp only [aa, ac, al, an]), ⟨_, _, _, _, _, _, _, _, _, _, _, _, rfl, rfl, h90, h95, R0, T0, U0, V0⟩⟩)
 replace hF := bf B3 hF
 iterate 3 (refine o_sk rfl rfl ?_)
 refine oy hS y_pickF <| n_thenN ?_
 refine c_if_false (h := ?_)
 refine wp_exit ?_
 refine c_seq <| c_region ?_
 refine oy hS (y_loadW oH underlying62 rfl (by exact sz_api_State)) ?_
 refine oy hS y_move ?_
 refine o_storeW (vs := (cl_State v89 v94 v99 G0 B0 I0 D0 J0 E0 K0 N0)) hS (by exact rfl) (Upd.here _) (by exact sz_api_State) (one_State (h90).one (h95).one (R0).one (T0).one (U0).one (V0).one) ?_
 clear hS; intro w hS
 iterate 2 (refine oy hS y_assign ?_)
 refine n_thenN ?_
 obtain rfl := osi hF
 obtain rfl : _ = r := K2
 refine wp_ret (r_ret (vs := [.agg (cl_State v89 v94 v99 G0 B0 I0 D0 J0 E0 K0 N0).toArray, .int .i64 x87, .int .i64 0]) (hS.re (.t (.e .h) (.t (.e .h) (.t (.e .h) (.t (.e .h) (.t (.e .h) (.t (.e .h) .n))))))) (rsC (res_cell (hS.own (mH)) underlying62 rfl (by exact sz_api_State)) (rsC res_tmp (rsC res_tmp rsN))) rfl ⟨_, _, rfl, (by first | rfl | simp only [aa, ac, al, an]), ⟨_, _, _, _, _, _, _, _, _, _, _, _, rfl, rfl, h90, h95, R0, T0, U0, V0⟩⟩)
theorem w_seq_Run {g : Frag} {a0 : (List T_Ins)} {v0_ : Value} {a1 : T_State} {v1_ : Value} {a2 : Int} {r : (T_State × Int × Int)} (h0 : SlT g enc_Ins 6 a0 v0_) (h1 : Rd_State g a1 v1_) (hF : seq_Run a0 a1 a2 = some r) : LC Tryz.prog 23 #[v0_, v1_, .int .i64 a2] g [] (fun v L => ∃ (u0 : Value) (M0 : Own), v = .tuple #[u0, .int .i64 r.2.1, .int .i64 r.2.2] ∧ L = (M0 ++ []) ∧ Ow_State r.1 u0 M0) := w_seq_Run_ h0 h1 hF

noncomputable def pipe_flies_b4 (M0 : T_Write) (N0 : Int) : (Int × Int × Int × Int × Int × Int) → Option (Step (Int × Int × Int × Int × Int × Int) (Step (Int × Int × Int × Int × Int × Int) (Step (Int × Int × Int × Int × Int) Bool))) := fun (B0, E0, G0, I0, J0, K0) => bif decide (B0 < (IntKind.i64.wrap (M0.Left + 1))) then (at' [E0, G0, I0, J0, K0] B0).bind fun R0 => (at' [E0, G0, I0, J0, K0] B0).bind fun T0 => (A5.put (⟨E0, G0, I0, J0, K0⟩ : (A5 Int)) B0 (IntKind.i64.wrap (R0 + 1))).bind fun D0 => some (.next (IntKind.i64.wrap (B0 + 1), D0.x0, D0.x1, D0.x2, D0.x3, D0.x4)) else some (.done (.next (IntKind.i64.wrap (N0 + 1), E0, G0, I0, J0, K0)))
noncomputable def pipe_flies_k3 (B0 : T_Write) (D0 : Int) (E0 : Int) (G0 : Int) (I0 : Int) (J0 : Int) (K0 : Int) : Unit → Option (Step (Int × Int × Int × Int × Int × Int) (Step (Int × Int × Int × Int × Int) Bool)) := fun _ => loop (σ := (Int × Int × Int × Int × Int × Int)) (pipe_flies_b4 B0 D0) (0, E0, G0, I0, J0, K0)
noncomputable def pipe_flies_b2 (a0 : (List T_Write)) : (Int × Int × Int × Int × Int × Int) → Option (Step (Int × Int × Int × Int × Int × Int) (Step (Int × Int × Int × Int × Int) Bool)) := fun (D0, E0, G0, I0, J0, K0) => bif decide (D0 < (a0.length : Int)) then (at' a0 D0).bind fun B0 => cut (σ := Unit) (bif decide (B0.Reg < 0) then some (.done (.done (.done (false)))) else bif decide (16 ≤ B0.Reg) then some (.done (.done (.done (false)))) else bif decide (B0.Left < 0) then some (.done (.done (.done (false)))) else bif decide (4 < B0.Left) then some (.done (.done (.done (false)))) else some (.next ())) (pipe_flies_k3 B0 D0 E0 G0 I0 J0 K0) else some (.done (.next (E0, G0, I0, J0, K0)))
noncomputable def pipe_flies_b5 (D0 : Int) (E0 : Int) (G0 : Int) (I0 : Int) (J0 : Int) : Int → Option (Step Int Bool) := fun B0 => bif decide (B0 < 5) then (at' [D0, E0, G0, I0, J0] B0).bind fun K0 => bif decide ((IntKind.i64.wrap (4 * (IntKind.i64.wrap (5 - B0)))) < K0) then some (.done (false)) else some (.next (IntKind.i64.wrap (B0 + 1))) else some (.done (true))
noncomputable def pipe_flies_k1  : (Int × Int × Int × Int × Int) → Option Bool := fun (B0, D0, E0, G0, I0) => loop (σ := Int) (pipe_flies_b5 B0 D0 E0 G0 I0) 0
noncomputable def pipe_flies (a0 : (List T_Write)) : Option Bool :=
  cut (σ := (Int × Int × Int × Int × Int)) (loop (σ := (Int × Int × Int × Int × Int × Int)) (pipe_flies_b2 a0) (0, 0, 0, 0, 0, 0)) (pipe_flies_k1)
theorem w_pipe_flies_ {g : Frag} {a0 : (List T_Write)} {v0_ : Value} {r : Bool} (h0 : SlT g enc_Write 3 a0 v0_) (hF : pipe_flies a0 = some r) : LCs Tryz.prog 121 #[v0_] g (.bool r) := by
 unfold pipe_flies at hF
 refine lc_body (k := 57) (av := [v0_]) func121 rfl rfl (h := fun W hS => ?_)
 refine c_seq <| c_region <| oy hS y_assign <| n_thenN <| c_seq <| c_region ?_
 refine o_allocP (cl := (enc_A5_int ⟨0, 0, 0, 0, 0⟩)) zr_A5_int rfl hS ?_
 clear hS; intro b1 w hS
 refine n_thenN ?_
 obtain ⟨I0, hF, D0⟩ := cut_step hF
 refine c_cutP (fun a w' => ∃ (K0 : Int) (M0 : Int) (N0 : Int) (R0 : Int) (T0 : Int), pipe_flies_k1 (K0, M0, N0, R0, T0) = some r ∧ (∃ s : Nat → Value, a = Ac ((Fm.dead 57 s).upd 3 (.pointer (some ⟨b1, 0, none⟩)))) ∧ St W g [] ((b1, blk (enc_A5_int ⟨K0, M0, N0, R0, T0⟩) 172) :: []) w') ?_ ?_
 · skip
   refine c_seq <| c_region <| oy hS y_move <| oy hS (y_len h0 underlying60) <| oy hS y_move <| n_thenN <| c_block ?_
   refine c_loopP hF (fun (q : (Int × Int × Int × Int × Int × Int)) a w' => (∃ s : Nat → Value, a = Ac (((((Fm.dead 57 s).upd 3 (.pointer (some ⟨b1, 0, none⟩))).upd 9 v0_).upd 10 (.int .i64 (a0.length : Int))).upd 11 (.int .i64 q.1))) ∧ St W g [] ((b1, blk (enc_A5_int ⟨q.2.1, q.2.2.1, q.2.2.2.1, q.2.2.2.2.1, q.2.2.2.2.2⟩) 172) :: []) w') ⟨mk_exF, (hS.re (.b .hb .n))⟩ ?_
   clear hS hF
   intro Z2 q a w hI hq
   obtain ⟨Y0, Z0, B1, D1, E1, G1⟩ := q
   obtain ⟨⟨B3, rfl⟩, hS⟩ := hq
   obtain ⟨G0, hF, B0⟩ := iter_step hI
   clear hI
   dsimp only [pipe_flies_b2] at hF
   refine c_seq <| c_region <| oy hS y_bin <| n_thenN <| c_seq ?_
   refine c_if (ht := fun I1 => ?_) (hf := fun I1 => ?_)
   · replace hF := bt I1 hF
     refine wp_skip <| c_seq <| c_block <| c_seq <| c_region ?_
     obtain ⟨J0, I2, hF⟩ := ob hF
     obtain ⟨D3, E3, G3, X2, I3, Y2, J2, K2, M2, N2, R2⟩ := SlT.at I2 h0 enc_len_Write
     refine oy hS (y_index J2 K2 M2 underlying60 el_api_Write.size) ?_
     refine oy hS (y_loadN (vs := (enc_Write J0)) (fun w hS => hS.block N2) underlying89 rfl (by exact sz_api_Write) (fun j u hj => R2 j u hj)) ?_
     refine o_allocP (cl := (enc_Write ⟨0, 0, 0⟩)) zr_api_Write rfl hS ?_
     clear hS; intro Y1 w hS
     refine o_storeW (vs := (enc_Write J0)) hS (by exact rfl) (Upd.here _) (by exact sz_api_Write) (enc_one_Write _) ?_
     clear hS; intro w hS
     refine n_thenN ?_
     obtain ⟨J3, hF, E0⟩ := cut_step hF
     refine c_cutP (fun a w' => pipe_flies_k3 J0 Y0 Z0 B1 D1 E1 G1 () = some G0 ∧ (∃ s : Nat → Value, a = Ac ((((((Fm.dead 57 s).upd 3 (.pointer (some ⟨b1, 0, none⟩))).upd 5 (.pointer (some ⟨Y1, 0, none⟩))).upd 9 v0_).upd 10 (.int .i64 (a0.length : Int))).upd 11 (.int .i64 Y0))) ∧ St W g [] ((b1, blk (enc_A5_int ⟨Z0, B1, D1, E1, G1⟩) 172) :: ((Y1, blk (enc_Write J0) 89) :: [])) w') ?_ ?_
     · skip
       refine c_seq <| c_region <| oy hS (y_field fa_api_Write_0) <| oy hS (y_load oH underlying3 rfl rfl) <| oy hS y_bin ?_
       refine o_split (ht := fun J1 => ?_) (hf := fun J1 => ?_)
       · replace hF := bt J1 hF
         iterate 3 (refine o_sk rfl rfl ?_)
         refine oy hS y_pickT <| oy hS y_move ?_
         iterate 3 (refine o_sk rfl rfl ?_)
         refine oy hS y_pickT <| oy hS y_move ?_
         iterate 3 (refine o_sk rfl rfl ?_)
         refine oy hS y_pickT <| n_thenN ?_
         refine c_if_true (h := ?_)
         refine c_seq <| c_region <| oy hS y_assign <| n_thenN ?_
         obtain rfl := osi hF
         obtain rfl : _ = G0 := E0
         obtain rfl : _ = I0 := B0
         obtain rfl : _ = r := D0
         exact wp_ret (wr1 hS)
       replace hF := bf J1 hF
       refine o_gu rfl rfl rfl <| oy hS (y_field fa_api_Write_0) <| o_gu rfl rfl rfl <| oy hS (y_load oH underlying3 rfl rfl) <| o_gu rfl rfl rfl <| oy hS y_bin <| oy hS y_pickF ?_
       refine o_split (ht := fun K1 => ?_) (hf := fun K1 => ?_)
       · replace hF := bt K1 hF
         iterate 3 (refine o_sk rfl rfl ?_)
         refine oy hS y_pickT <| oy hS y_move ?_
         iterate 3 (refine o_sk rfl rfl ?_)
         refine oy hS y_pickT <| n_thenN ?_
         refine c_if_true (h := ?_)
         refine c_seq <| c_region <| oy hS y_assign <| n_thenN ?_
         obtain rfl := osi hF
         obtain rfl : _ = G0 := E0
         obtain rfl : _ = I0 := B0
         obtain rfl : _ = r := D0
         exact wp_ret (wr1 hS)
       replace hF := bf K1 hF
       refine o_gu rfl rfl rfl <| oy hS (y_field fa_api_Write_2) <| o_gu rfl rfl rfl <| oy hS (y_load oH underlying3 rfl rfl) <| o_gu rfl rfl rfl <| oy hS y_bin <| oy hS y_pickF ?_
       refine o_split (ht := fun M1 => ?_) (hf := fun M1 => ?_)
       · replace hF := bt M1 hF
         iterate 3 (refine o_sk rfl rfl ?_)
         refine oy hS y_pickT <| n_thenN ?_
         refine c_if_true (h := ?_)
         refine c_seq <| c_region <| oy hS y_assign <| n_thenN ?_
         obtain rfl := osi hF
         obtain rfl : _ = G0 := E0
         obtain rfl : _ = I0 := B0
         obtain rfl : _ = r := D0
         exact wp_ret (wr1 hS)
       replace hF := bf M1 hF
       refine o_gu rfl rfl rfl <| oy hS (y_field fa_api_Write_2) <| o_gu rfl rfl rfl <| oy hS (y_load oH underlying3 rfl rfl) <| o_gu rfl rfl rfl <| oy hS y_bin <| oy hS y_pickF <| n_thenN ?_
       refine c_if (ht := fun N1 => ?_) (hf := fun N1 => ?_)
       · replace hF := bt N1 hF
         refine c_seq <| c_region <| oy hS y_assign <| n_thenN ?_
         obtain rfl := osi hF
         obtain rfl : _ = G0 := E0
         obtain rfl : _ = I0 := B0
         obtain rfl : _ = r := D0
         exact wp_ret (wr1 hS)
       replace hF := bf N1 hF
       refine wp_skip ?_
       obtain rfl := osi hF
       change _ ∧ _
       exact ⟨E0, mk_exF, (hS.re (.b (.e .hb) (.b .hb .n)))⟩
     rintro a w ⟨hF, ⟨K3, rfl⟩, hS⟩
     dsimp only [pipe_flies_k3] at hF
     refine c_seq <| c_region <| oy hS (y_field fa_api_Write_2) <| oy hS (y_load (fun w hS => hS.own (mC (mH))) underlying3 rfl rfl) <| oy hS y_bin <| oy hS y_move <| n_thenN <| c_block ?_
     refine c_loopP hF (fun (q : (Int × Int × Int × Int × Int × Int)) a w' => (∃ s : Nat → Value, a = Ac (((((((Fm.dead 57 s).upd 3 (.pointer (some ⟨b1, 0, none⟩))).upd 9 v0_).upd 10 (.int .i64 (a0.length : Int))).upd 11 (.int .i64 Y0)).upd 35 (.int .i64 (IntKind.i64.wrap (J0.Left + 1)))).upd 36 (.int .i64 q.1))) ∧ St W g [] ((b1, blk (enc_A5_int ⟨q.2.1, q.2.2.1, q.2.2.2.1, q.2.2.2.2.1, q.2.2.2.2.2⟩) 172) :: []) w') ⟨mk_exF, (hS.re (.b .hb .n))⟩ ?_
     clear hS hF
     intro M3 q a w hI hq
     obtain ⟨U2, Z1, B2, D2, E2, G2⟩ := q
     obtain ⟨⟨N3, rfl⟩, hS⟩ := hq
     obtain ⟨R3, hF, V1⟩ := iter_step hI
     clear hI
     dsimp only [pipe_flies_b4] at hF
     refine c_seq <| c_region <| oy hS y_bin <| n_thenN <| c_seq ?_
     refine c_if (ht := fun R1 => ?_) (hf := fun R1 => ?_)
     · replace hF := bt R1 hF
       refine wp_skip <| c_seq <| c_block <| c_seq <| c_region <| oy hS y_move <| oy hS y_assign <| n_thenN ?_
       refine c_region <| oy hS y_move ?_
       obtain ⟨T3, U0, hF⟩ := ob hF
       refine oy hS (y_indexA (at'_bnd U0 rfl).1 (at'_bnd U0 (n := 5) rfl).2 underlying172 (by exact sz_int)) ?_
       refine oy hS (y_load oH underlying3 rfl ((arr_box (o := 0) (xs := [Z1, B2, D2, E2, G2]) (pre := []) (post := []) U0 enc_len_int (by exact rfl) rfl) 0 _ rfl)) ?_
       refine oy hS y_bin ?_
       obtain ⟨U3, X1, hF⟩ := ob hF
       refine oy hS (y_indexA (at'_bnd X1 rfl).1 (at'_bnd X1 (n := 5) rfl).2 underlying172 (by exact sz_int)) ?_
       obtain ⟨V2, V0, hF⟩ := ob hF
       refine o_storeA1 (o := 0 + (U2).toNat * 1) (cl := (enc_A5_int ⟨Z1, B2, D2, E2, G2⟩)) (cl' := (enc_A5_int V2)) hS (by rcases A5.put_cases V0 with ⟨hi, rfl⟩ | ⟨hi, rfl⟩ | ⟨hi, rfl⟩ | ⟨hi, rfl⟩ | ⟨hi, rfl⟩ <;> rw [hi] <;> rfl) (by have q1 := (A5.put_lt V0).1; have q2 := (A5.put_lt V0).2; simp only [List.length_cons, List.length_nil]; omega) (Upd.here _) (by exact sz_int) rfl rfl ?_
       clear hS; intro w hS
       refine n_anyN ?_
       refine c_region <| oy hS y_bin <| oy hS y_move <| n_thenN ?_
       obtain rfl := osi hF
       exact ⟨_, V1, mk_exF, (hS.re (.b .hb .n))⟩
     replace hF := bf R1 hF
     refine wp_exit ?_
     refine c_region <| oy hS y_bin <| oy hS y_move <| n_thenN ?_
     obtain rfl := osi hF
     obtain rfl : _ = G0 := V1
     exact ⟨_, B0, mk_exF, (hS.re (.b .hb .n))⟩
   replace hF := bf I1 hF
   refine wp_exit ?_
   obtain rfl := osi hF
   obtain rfl : _ = I0 := B0
   change ∃ _, _
   exact ⟨Z0, B1, D1, E1, G1, D0, mk_exF, (hS.re (.b .hb .n))⟩
 rintro a w ⟨K0, M0, N0, R0, T0, hF, ⟨V3, rfl⟩, hS⟩
 dsimp only [pipe_flies_k1] at hF
 iterate 2 (refine c_seq ?_)
 refine c_region ?_
 refine oy hS (y_loadW oH underlying172 rfl (by exact sz_A5_int)) ?_
 refine oy hS y_move <| n_thenN <| c_block ?_
 refine c_loopP hF (fun (q : Int) a w' => (∃ s : Nat → Value, a = Ac (((Fm.dead 57 s).upd 46 (.agg (enc_A5_int ⟨K0, M0, N0, R0, T0⟩).toArray)).upd 47 (.int .i64 q))) ∧ St W g [] [] w') ⟨mk_exF, (hS.re (.n))⟩ ?_
 clear hS hF
 intro X3 q a w hI hq
 revert hq hI; revert q; intro Y3 hI hq
 obtain ⟨⟨Z3, rfl⟩, hS⟩ := hq
 obtain ⟨B4, hF, X0⟩ := iter_step hI
 clear hI
 dsimp only [pipe_flies_b5] at hF
 refine c_seq <| c_region <| oy hS y_bin <| n_thenN <| c_seq ?_
 refine c_if (ht := fun T1 => ?_) (hf := fun T1 => ?_)
 · replace hF := bt T1 hF
   refine wp_skip <| c_seq <| c_block <| c_seq <| c_region <| oy hS y_move ?_
   obtain ⟨D4, T2, hF⟩ := ob hF
   refine oy hS (y_ixS (enc := enc_int) T2 enc_len_int underlying172 rfl underlying3 rfl (by exact sz_int) rfl) ?_
   iterate 2 (refine oy hS y_assign ?_)
   refine n_thenN <| c_seq <| c_region ?_
   iterate 2 (refine oy hS y_move ?_)
   iterate 3 (refine oy hS y_bin ?_)
   refine n_thenN ?_
   refine c_if (ht := fun U1 => ?_) (hf := fun U1 => ?_)
   · replace hF := bt U1 hF
     refine c_seq <| c_region <| oy hS y_assign <| n_thenN ?_
     obtain rfl := osi hF
     obtain rfl : _ = r := X0
     exact wp_ret (wr1 hS)
   replace hF := bf U1 hF
   refine wp_skip <| c_region <| oy hS y_bin <| oy hS y_move <| n_thenN ?_
   obtain rfl := osi hF
   exact ⟨_, X0, mk_exF, (hS.re (.n))⟩
 replace hF := bf T1 hF
 refine wp_exit ?_
 refine c_seq <| c_region <| oy hS y_assign <| n_thenN ?_
 obtain rfl := osi hF
 obtain rfl : _ = r := X0
 exact wp_ret (wr1 hS)
theorem w_pipe_flies {g : Frag} {a0 : (List T_Write)} {v0_ : Value} {r : Bool} (h0 : SlT g enc_Write 3 a0 v0_) (hF : pipe_flies a0 = some r) : LCs Tryz.prog 121 #[v0_] g (.bool r) := w_pipe_flies_ h0 hF

noncomputable def pipe_May_k1 (a0 : T_State) : Unit → Option Bool := fun _ => bif decide (0 ≤ a0.Jump) then bif decide (a0.Jump ≤ 1024) then bif decide (0 ≤ a0.Delay) then some (decide (a0.Delay ≤ 2)) else some (false) else some (false) else some (false)
noncomputable def pipe_May (a0 : T_State) : Option Bool :=
  cut (σ := Unit) ((seq_Core a0).bind fun r10 => bif !r10 then some (.done (false)) else bif decide (a0.Stop < 0) then some (.done (false)) else bif decide (6 < a0.Stop) then some (.done (false)) else (pipe_flies a0.Fly).bind fun r14 => bif !r14 then some (.done (false)) else some (.next ())) (pipe_May_k1 a0)
theorem w_pipe_May_ {g : Frag} {a0 : T_State} {v0_ : Value} {r : Bool} (h0 : Rd_State g a0 v0_) (hF : pipe_May a0 = some r) : LCs Tryz.prog 84 #[v0_] g (.bool r) := by
 obtain ⟨B0, D0, E0, G0, I0, J0, rfl, M0, N0, R0, T0, U0, K0⟩ := h0
 unfold pipe_May at hF
 refine lc_body (k := 40) (av := [.agg (cl_State B0 D0 E0 a0.Taken G0 a0.PC I0 a0.Stop J0 a0.Jump a0.Delay).toArray]) func84 rfl rfl (h := fun W hS => ?_)
 refine c_seq <| c_region ?_
 refine o_boxP (cl := (cl_State B0 D0 E0 a0.Taken G0 a0.PC I0 a0.Stop J0 a0.Jump a0.Delay)) rfl hS ?_
 clear hS; intro b1 w hS
 refine oy hS y_assign <| n_thenN ?_
 obtain ⟨z8, hF, hK9⟩ := cut_step hF
 refine c_cutP (fun a w' => pipe_May_k1 a0 () = some r ∧ (∃ s : Nat → Value, a = Ac ((Fm.dead 40 s).upd 1 (.pointer (some ⟨b1, 0, none⟩)))) ∧ St W g [] ((b1, blk (cl_State B0 D0 E0 a0.Taken G0 a0.PC I0 a0.Stop J0 a0.Jump a0.Delay) 62) :: []) w') ?_ ?_
 · skip
   refine c_seq <| c_region ?_
   refine oy hS (y_loadW oH underlying62 rfl (by exact sz_api_State)) ?_
   obtain ⟨r10, V0, hF⟩ := ob hF
   refine o_callS hS func79 rfl rfl (hc := (w_seq_Core (a0 := a0) (h0 := ⟨_, _, _, _, _, _, rfl, M0.plus, N0.plus, R0.plus, T0.plus, U0.plus, K0.plus⟩) (hF := V0))) (h := ?_)
   clear hS; intro w hS
   refine oy hS y_not ?_
   refine o_split (ht := fun c11 => ?_) (hf := fun c11 => ?_)
   · replace hF := bt c11 hF
     iterate 3 (refine o_sk rfl rfl ?_)
     refine oy hS y_pickT <| oy hS y_move ?_
     iterate 3 (refine o_sk rfl rfl ?_)
     refine oy hS y_pickT <| oy hS y_move ?_
     iterate 4 (refine o_sk rfl rfl ?_)
     refine oy hS y_pickT <| n_thenN ?_
     refine c_if_true (h := ?_)
     refine c_seq <| c_region <| oy hS y_assign <| n_thenN ?_
     obtain rfl := osi hF
     obtain rfl : _ = r := hK9
     exact wp_ret (wr1 hS)
   replace hF := bf c11 hF
   refine o_gu rfl rfl rfl <| oy hS (y_field fa_api_State_7) <| o_gu rfl rfl rfl <| oy hS (y_load oH underlying3 rfl rfl) <| o_gu rfl rfl rfl <| oy hS y_bin <| oy hS y_pickF ?_
   refine o_split (ht := fun c12 => ?_) (hf := fun c12 => ?_)
   · replace hF := bt c12 hF
     iterate 3 (refine o_sk rfl rfl ?_)
     refine oy hS y_pickT <| oy hS y_move ?_
     iterate 4 (refine o_sk rfl rfl ?_)
     refine oy hS y_pickT <| n_thenN ?_
     refine c_if_true (h := ?_)
     refine c_seq <| c_region <| oy hS y_assign <| n_thenN ?_
     obtain rfl := osi hF
     obtain rfl : _ = r := hK9
     exact wp_ret (wr1 hS)
   replace hF := bf c12 hF
   refine o_gu rfl rfl rfl <| oy hS (y_field fa_api_State_7) <| o_gu rfl rfl rfl <| oy hS (y_load oH underlying3 rfl rfl) <| o_gu rfl rfl rfl <| oy hS y_bin <| oy hS y_pickF ?_
   refine o_split (ht := fun c13 => ?_) (hf := fun c13 => ?_)
   · replace hF := bt c13 hF
     iterate 4 (refine o_sk rfl rfl ?_)
     refine oy hS y_pickT <| n_thenN ?_
     refine c_if_true (h := ?_)
     refine c_seq <| c_region <| oy hS y_assign <| n_thenN ?_
     obtain rfl := osi hF
     obtain rfl : _ = r := hK9
     exact wp_ret (wr1 hS)
   replace hF := bf c13 hF
   refine o_gu rfl rfl rfl <| oy hS (y_field fa_api_State_8) <| o_gu rfl rfl rfl <| oy hS (y_load oH underlying60 rfl rfl) <| o_gu rfl rfl rfl ?_
   obtain ⟨r14, X0, hF⟩ := ob hF
   refine o_callS hS func121 rfl rfl (hc := (w_pipe_flies (a0 := a0.Fly) (h0 := K0.plus) (hF := X0))) (h := ?_)
   clear hS; intro w hS
   refine o_gu rfl rfl rfl <| oy hS y_not <| oy hS y_pickF <| n_thenN ?_
   refine c_if (ht := fun c15 => ?_) (hf := fun c15 => ?_)
   · replace hF := bt c15 hF
     refine c_seq <| c_region <| oy hS y_assign <| n_thenN ?_
     obtain rfl := osi hF
     obtain rfl : _ = r := hK9
     exact wp_ret (wr1 hS)
   replace hF := bf c15 hF
   refine wp_skip ?_
   obtain rfl := osi hF
   change _ ∧ _
   exact ⟨hK9, mk_exF, (hS.re (.b .hb .n))⟩
 rintro a w ⟨hF, ⟨s16, rfl⟩, hS⟩
 dsimp only [pipe_May_k1] at hF
 refine c_seq <| c_region <| oy hS (y_field fa_api_State_9) <| oy hS (y_load oH underlying3 rfl rfl) <| oy hS y_bin ?_
 refine o_split (ht := fun c17 => ?_) (hf := fun c17 => ?_)
 · replace hF := bt c17 hF
   refine o_gu rfl rfl rfl <| oy hS (y_field fa_api_State_9) <| o_gu rfl rfl rfl <| oy hS (y_load oH underlying3 rfl rfl) <| o_gu rfl rfl rfl <| oy hS y_bin <| oy hS y_pickT ?_
   refine o_split (ht := fun c18 => ?_) (hf := fun c18 => ?_)
   · replace hF := bt c18 hF
     refine o_gu rfl rfl rfl <| oy hS (y_field fa_api_State_10) <| o_gu rfl rfl rfl <| oy hS (y_load oH underlying3 rfl rfl) <| o_gu rfl rfl rfl <| oy hS y_bin <| oy hS y_pickT ?_
     refine o_split (ht := fun c19 => ?_) (hf := fun c19 => ?_)
     · replace hF := bt c19 hF
       refine o_gu rfl rfl rfl <| oy hS (y_field fa_api_State_10) <| o_gu rfl rfl rfl <| oy hS (y_load oH underlying3 rfl rfl) <| o_gu rfl rfl rfl <| oy hS y_bin <| oy hS y_pickT <| oy hS y_assign ?_
       refine n_thenN ?_
       obtain rfl := osi hF
       exact wp_ret (wr1 hS)
     replace hF := bf c19 hF
     iterate 3 (refine o_sk rfl rfl ?_)
     refine oy hS y_pickF <| oy hS y_assign <| n_thenN ?_
     obtain rfl := osi hF
     exact wp_ret (wr1 hS)
   replace hF := bf c18 hF
   iterate 3 (refine o_sk rfl rfl ?_)
   refine oy hS y_pickF <| oy hS y_move ?_
   iterate 3 (refine o_sk rfl rfl ?_)
   refine oy hS y_pickF <| oy hS y_assign <| n_thenN ?_
   obtain rfl := osi hF
   exact wp_ret (wr1 hS)
 replace hF := bf c17 hF
 iterate 3 (refine o_sk rfl rfl ?_)
 refine oy hS y_pickF <| oy hS y_move ?_
 iterate 3 (refine o_sk rfl rfl ?_)
 refine oy hS y_pickF <| oy hS y_move ?_
 iterate 3 (refine o_sk rfl rfl ?_)
 refine oy hS y_pickF <| oy hS y_assign <| n_thenN ?_
 obtain rfl := osi hF
 exact wp_ret (wr1 hS)
theorem w_pipe_May {g : Frag} {a0 : T_State} {v0_ : Value} {r : Bool} (h0 : Rd_State g a0 v0_) (hF : pipe_May a0 = some r) : LCs Tryz.prog 84 #[v0_] g (.bool r) := w_pipe_May_ h0 hF

noncomputable def pipe_Land_b2 (a0 : T_State) : ((List T_Write) × Int × (List Int)) → Option (Step ((List T_Write) × Int × (List Int)) (Step ((List T_Write) × (List Int) × (List Int) × (List Int) × (List Int) × (List Int) × (List T_Write)) T_State)) := fun (E0, D0, G0) => bif decide (D0 < (a0.Fly.length : Int)) then (at' a0.Fly D0).bind fun B0 => bif decide (B0.Left = 0) then (set' G0 B0.Reg B0.Value).bind fun I0 => some (.next (E0, IntKind.i64.wrap (D0 + 1), I0)) else (app' E0 ([(⟨B0.Reg, B0.Value, IntKind.i64.wrap (B0.Left - 1)⟩ : T_Write)] : List T_Write)).bind fun J0 => some (.next (J0, IntKind.i64.wrap (D0 + 1), G0)) else some (.done (.next (E0, G0, a0.Mem, a0.In_, a0.Out, a0.Stack, a0.Fly)))
noncomputable def pipe_Land_k1 (a0 : T_State) : ((List T_Write) × (List Int) × (List Int) × (List Int) × (List Int) × (List Int) × (List T_Write)) → Option T_State := fun (B0, D0, E0, G0, I0, J0, K0) => some (⟨D0, E0, G0, a0.Taken, I0, a0.PC, J0, a0.Stop, B0, a0.Jump, a0.Delay⟩ : T_State)
noncomputable def pipe_Land (a0 : T_State) : Option T_State :=
  cut (σ := ((List T_Write) × (List Int) × (List Int) × (List Int) × (List Int) × (List Int) × (List T_Write))) (loop (σ := ((List T_Write) × Int × (List Int))) (pipe_Land_b2 a0) ([], 0, a0.Regs)) (pipe_Land_k1 a0)
theorem w_pipe_Land_ {g : Frag} {a0 : T_State} {b0_ : Nat} {LB0_ : Own} {r : T_State} (h0 : Bx_State b0_ a0 LB0_) (hF : pipe_Land a0 = some r) : LC Tryz.prog 17 #[.pointer (some ⟨b0_, 0, none⟩)] g LB0_ (fun v L => ∃ (LB' : Own), v = .tuple #[] ∧ L = (LB' ++ []) ∧ Bx_State b0_ r LB') := by
 obtain ⟨E0, V0, X0, N0, R0, G0, D2, T0, I0, J0, K0, M0, G4, B3, D3, E2, G2, I2, Y0⟩ := h0
 unfold pipe_Land at hF
 refine lc_body (k := 39) (av := [.pointer (some ⟨b0_, 0, none⟩)]) func17 rfl rfl (h := fun W hS => ?_)
 have hS := hS.own_eq G4
 refine c_seq <| c_region <| oy hS y_assign <| n_thenN ?_
 obtain ⟨I4, hF, K3⟩ := cut_step hF
 refine c_cutP (fun a w' => ∃ (J2 : (List T_Write)) (K2 : (List Int)) (M2 : (List Int)) (N2 : (List Int)) (R2 : (List Int)) (T2 : (List Int)) (U2 : (List T_Write)) (E1 : Value) (G1 : Value) (I1 : Value) (J1 : Value) (K1 : Value) (M1 : Value) (V2 : Value) (N1 : Own) (R1 : Own) (T1 : Own) (U1 : Own) (V1 : Own) (X1 : Own) (Y1 : Own), pipe_Land_k1 a0 (J2, K2, M2, N2, R2, T2, U2) = some r ∧ OwT 89 enc_Write 3 J2 E1 N1 ∧ OwT 87 enc_uint32 1 K2 G1 R1 ∧ OwT 87 enc_uint32 1 M2 I1 T1 ∧ OwT 87 enc_uint32 1 N2 J1 U1 ∧ OwT 87 enc_uint32 1 R2 K1 V1 ∧ OwT 3 enc_int 1 T2 M1 X1 ∧ OwT 89 enc_Write 3 U2 V2 Y1 ∧ (∃ s : Nat → Value, a = Ac (((Fm.dead 39 s).upd 0 (.pointer (some ⟨b0_, 0, none⟩))).upd 2 E1)) ∧ St W g LB0_ ((b0_, blk (cl_State G1 I1 J1 a0.Taken K1 a0.PC M1 a0.Stop V2 a0.Jump a0.Delay) 62) :: (R1 ++ (T1 ++ (U1 ++ (V1 ++ (X1 ++ (Y1 ++ (N1 ++ [])))))))) w') ?_ ?_
 · skip
   refine c_seq <| c_region <| oy hS y_move <| oy hS y_nilCheck <| oy hS (y_field fa_api_State_8) <| oy hS (y_load oH underlying60 rfl rfl) <| oy hS (y_lenO Y0 underlying60) <| oy hS y_move ?_
   refine n_thenN <| c_block ?_
   refine c_loopP hF (fun (q : ((List T_Write) × Int × (List Int))) a w' => ∃ (Z0 : Value) (D0 : Own) (U0 : Own), OwT 89 enc_Write 3 q.1 Z0 D0 ∧ OwT 87 enc_uint32 1 q.2.2 E0 U0 ∧ (∃ s : Nat → Value, a = Ac ((((((Fm.dead 39 s).upd 0 (.pointer (some ⟨b0_, 0, none⟩))).upd 2 Z0).upd 8 G0).upd 9 (.int .i64 (a0.Fly.length : Int))).upd 10 (.int .i64 q.2.1))) ∧ St W g LB0_ ((b0_, blk (cl_State E0 V0 X0 a0.Taken N0 a0.PC R0 a0.Stop G0 a0.Jump a0.Delay) 62) :: (U0 ++ (T0 ++ (I0 ++ (J0 ++ (K0 ++ (M0 ++ (D0 ++ [])))))))) w') ⟨(.slice none 0 0), [], D2, (OwT.nil _ _ _), B3, mk_exF, (hS.re (.b .hb (.t .h (.t .h (.t .h (.t .h (.t .h (.t .h (.take (X := []) (.here [] _) .n)))))))))⟩ ?_
   clear hS hF
   intro E5 q a w hI hq
   obtain ⟨E3, G5, G3⟩ := q
   obtain ⟨Z0, D0, U0, D1, B1, ⟨I5, rfl⟩, hS⟩ := hq
   replace D1 : OwT 89 enc_Write 3 E3 Z0 D0 := D1
   replace B1 : OwT 87 enc_uint32 1 G3 E0 U0 := B1
   obtain ⟨J5, hF, Z1⟩ := iter_step hI
   clear hI
   dsimp only [pipe_Land_b2] at hF
   refine c_seq <| c_region <| oy hS y_bin <| n_thenN <| c_seq ?_
   refine c_if (ht := fun X2 => ?_) (hf := fun X2 => ?_)
   · replace hF := bt X2 hF
     refine wp_skip <| c_seq <| c_block <| c_seq <| c_region ?_
     obtain ⟨B0, M3, hF⟩ := ob hF
     obtain ⟨K5, M5, Y4, N3, R3, T3, U3, V3⟩ := OwT.at M3 Y0 enc_len_Write
     refine oy hS (y_index N3 R3 T3 underlying60 el_api_Write.size) ?_
     refine oy hS (y_loadN (vs := (enc_Write B0)) (fun w hS => hS.own (mC (mB (mB (mB (mB (mB (mA (mX U3))))))))) underlying89 rfl (by exact sz_api_Write) (fun j u hj => V3 j u hj)) ?_
     refine o_allocP (cl := (enc_Write ⟨0, 0, 0⟩)) zr_api_Write rfl hS ?_
     clear hS; intro I3 w hS
     refine o_storeW (vs := (enc_Write B0)) hS (by exact rfl) (Upd.here _) (by exact sz_api_Write) (enc_one_Write _) ?_
     clear hS; intro w hS
     refine n_thenN ?_
     iterate 2 (refine c_seq ?_)
     refine c_region <| oy hS (y_field fa_api_Write_2) <| oy hS (y_load oH underlying3 rfl rfl) <| oy hS y_bin <| n_thenN ?_
     refine c_if (ht := fun Y2 => ?_) (hf := fun Y2 => ?_)
     · replace hF := bt Y2 hF
       refine c_seq ?_
       refine c_heldL 9 10 (by kernel_rfl) rfl hS ?_
       clear hS; intro w hS
       refine hy0 0 rfl wn (by kernel_rfl) (nq (P := Tryz.prog) (fn := Tryz.f17)) (fun _ => hS.cb) y_move ?_
       refine hy0 1 rfl wn (by kernel_rfl) (nq (P := Tryz.prog) (fn := Tryz.f17)) (fun _ => hS.cb) y_nilCheck ?_
       refine hy0 2 rfl wn (by kernel_rfl) (nq (P := Tryz.prog) (fn := Tryz.f17)) (fun _ => hS.cb) (y_field fa_api_State_0) ?_
       refine hy 3 rfl wn (by kernel_rfl) (nq (P := Tryz.prog) (fn := Tryz.f17)) hS.cb (y_load (fun w hS => hS.own (mC (mH))) underlying31 rfl rfl) ?_
       refine hy0 4 rfl wn (by kernel_rfl) (nq (P := Tryz.prog) (fn := Tryz.f17)) (fun _ => hS.cb) (y_field fa_api_Write_0) ?_
       refine hy 5 rfl wn (by kernel_rfl) (nq (P := Tryz.prog) (fn := Tryz.f17)) hS.cb (y_load (fun w hS => hS.own (mH)) underlying3 rfl rfl) ?_
       refine hy0 6 rfl wn (by kernel_rfl) (nq (P := Tryz.prog) (fn := Tryz.f17)) (fun _ => hS.cb) (y_field fa_api_Write_1) ?_
       refine hy 7 rfl wn (by kernel_rfl) (nq (P := Tryz.prog) (fn := Tryz.f17)) hS.cb (y_load (fun w hS => hS.own (mH)) underlying87 rfl rfl) ?_
       obtain ⟨Z4, B2, hF⟩ := ob hF
       obtain ⟨N5, R5, B5, X3, Y3, Z3, B4⟩ := OwT.at_set B2 B1 enc_len_uint32
       refine hy0 8 rfl wn (by kernel_rfl) (nq (P := Tryz.prog) (fn := Tryz.f17)) (fun _ => hS.cb) (y_index X3 Y3 Z3 underlying31 el_uint32.size) ?_
       refine hb1 9 (by kernel_rfl) (hb_op rfl wn (nl (P := Tryz.prog) (fn := Tryz.f17)) ?_)
       refine o_storeO (L' := fun X => ((I3, blk (enc_Write B0) 89) :: ((b0_, blk (cl_State E0 V0 X0 a0.Taken N0 a0.PC R0 a0.Stop G0 a0.Jump a0.Delay) 62) :: (X ++ (T0 ++ (I0 ++ (J0 ++ (K0 ++ (M0 ++ (D0 ++ [])))))))))) B2 hS B1 B4 (fun X => .thereb _ (.thereb _ (.here _))) enc_len_uint32 rfl (by exact sz_uint32) rfl rfl ?_
       clear hS; intro D4 w J4 hS
       refine hb_next (fun h => absurd h (by decide)) ?_
       refine hb_done (by kernel_rfl) ?_
       refine wp_exit ?_
       refine c_region <| oy hS y_bin <| oy hS y_move <| n_thenN ?_
       obtain rfl := osi hF
       exact ⟨_, Z1, Z0, D0, D4, D1, J4, mk_exF, (hS.re (.b (.e .hb) (.t (.e .h) (.t (.e .h) (.t (.e .h) (.t (.e .h) (.t (.e .h) (.t (.e .h) (.t (.e .h) .n)))))))))⟩
     replace hF := bf Y2 hF
     refine wp_skip <| c_seq <| c_region <| oy hS (y_field fa_api_Write_2) <| oy hS (y_load oH underlying3 rfl rfl) <| oy hS y_bin <| oy hS (y_field fa_api_Write_2) ?_
     refine o_storeA1 (o := 2) (cl' := (enc_Write ⟨B0.Reg, B0.Value, IntKind.i64.wrap (B0.Left - 1)⟩)) hS (by kernel_rfl) (by exact Nat.le_of_ble_eq_true rfl) (Upd.here _) (by exact sz_int) rfl rfl ?_
     clear hS; intro w hS
     refine n_thenN <| c_region <| oy hS y_move ?_
     refine oy hS (y_loadW oH underlying89 rfl (by exact sz_api_Write)) ?_
     refine o_buildT val_Write ([(⟨B0.Reg, B0.Value, IntKind.i64.wrap (B0.Left - 1)⟩ : T_Write)] : List T_Write) hS el_api_Write (fun _ => rfl) enc_len_Write (by decide) rfl (by decide) (hp := rfl) (h := ?_)
     clear hS; intro K4 w hS T5
     have hS : St W g LB0_ ([(K4, blk (([(⟨B0.Reg, B0.Value, IntKind.i64.wrap (B0.Left - 1)⟩ : T_Write)] : List T_Write).flatMap enc_Write) 89)] ++ ((I3, blk (enc_Write ⟨B0.Reg, B0.Value, IntKind.i64.wrap (B0.Left - 1)⟩) 89) :: ((b0_, blk (cl_State E0 V0 X0 a0.Taken N0 a0.PC R0 a0.Stop G0 a0.Jump a0.Delay) 62) :: (U0 ++ (T0 ++ (I0 ++ (J0 ++ (K0 ++ (M0 ++ (D0 ++ [])))))))))) w := hS
     obtain ⟨D5, J3, hF⟩ := ob hF
     have hS := hS.re (.t .h (.t (.e (.e (.d (.d (.d (.d (.d (.d .h)))))))) (.b .hb (.b .hb (.t .h (.t .h (.t .h (.t .h (.t .h (.t .h .n))))))))))
     refine o_appPn (ys := ([(⟨B0.Reg, B0.Value, IntKind.i64.wrap (B0.Left - 1)⟩ : T_Write)] : List T_Write)) (LX := D0) J3 hS el_api_Write D1 rfl enc_len_Write (enc_ones_Write _) (by decide) ?_
     clear hS; intro M4 E4 w N4 hS
     refine oy hS y_assign ?_
     refine n_anyN ?_
     refine c_region <| oy hS y_bin <| oy hS y_move <| n_thenN ?_
     obtain rfl := osi hF
     exact ⟨_, Z1, M4, E4, U0, N4, B1, mk_exF, (hS.re (.b (.d (.e .hb)) (.t (.d (.e .h)) (.t (.d (.e .h)) (.t (.d (.e .h)) (.t (.d (.e .h)) (.t (.d (.e .h)) (.t (.d (.e .h)) (.t .h .n)))))))))⟩
   replace hF := bf X2 hF
   refine wp_exit ?_
   obtain rfl := osi hF
   obtain rfl : _ = I4 := Z1
   change ∃ _, _
   exact ⟨E3, G3, a0.Mem, a0.In_, a0.Out, a0.Stack, a0.Fly, Z0, E0, V0, X0, N0, R0, G0, D0, U0, T0, I0, J0, K0, M0, K3, D1, B1, D3, E2, G2, I2, Y0, mk_exF, (hS.re (.b .hb (.t .h (.t .h (.t .h (.t .h (.t .h (.t .h (.t .h .n)))))))))⟩
 rintro a w ⟨J2, K2, M2, N2, R2, T2, U2, E1, G1, I1, J1, K1, M1, V2, N1, R1, T1, U1, V1, X1, Y1, hF, Z2, R4, T4, U4, V4, X4, U5, ⟨V5, rfl⟩, hS⟩
 dsimp only [pipe_Land_k1] at hF
 refine c_region ?_
 iterate 2 (refine oy hS y_move ?_)
 refine oy hS y_nilCheck <| oy hS (y_field fa_api_State_8) ?_
 refine o_storeA1 (o := 8) (cl' := (cl_State G1 I1 J1 a0.Taken K1 a0.PC M1 a0.Stop E1 a0.Jump a0.Delay)) hS (by kernel_rfl) (by exact Nat.le_of_ble_eq_true rfl) (Upd.here _) (by exact sz_S_api_Write) (Z2).one (Z2).cell ?_
 clear hS; intro w hS
 refine n_anyN ?_
 obtain rfl := osi hF
 refine (r_end (vs := []) (hS.re (.b .hb (.t .h (.t .h (.t .h (.t .h (.t .h (.t (.d .h) .n)))))))) rsN rfl ⟨_, rfl, (by first | rfl | simp only [aa, ac, al, an]), ⟨_, _, _, _, _, _, _, _, _, _, _, _, rfl, R4, T4, U4, V4, X4, Z2⟩⟩)
theorem w_pipe_Land {g : Frag} {a0 : T_State} {b0_ : Nat} {LB0_ : Own} {r : T_State} (h0 : Bx_State b0_ a0 LB0_) (hF : pipe_Land a0 = some r) : LC Tryz.prog 17 #[.pointer (some ⟨b0_, 0, none⟩)] g LB0_ (fun v L => ∃ (LB' : Own), v = .tuple #[] ∧ L = (LB' ++ []) ∧ Bx_State b0_ r LB') := w_pipe_Land_ h0 hF

noncomputable def isa_Read (a0 : T_Ins) : Option (List Int) :=
  bif (isa_HasA (isa_Shape a0.Op)) then (app' ([]) ([a0.A] : List Int)).bind fun B0 => bif (isa_HasB (isa_Shape a0.Op)) then (app' B0 ([a0.B] : List Int)).bind fun D0 => some (D0) else some (B0) else bif (isa_HasB (isa_Shape a0.Op)) then (app' ([]) ([a0.B] : List Int)).bind fun E0 => some (E0) else some ([])
theorem w_isa_Read_ {g : Frag} {a0 : T_Ins} {r : (List Int)}  (hF : isa_Read a0 = some r) : LC Tryz.prog 126 #[.agg (enc_Ins a0).toArray] g [] (fun v L => ∃ (u0 : Value) (M0 : Own), u0 = v ∧ L = (M0 ++ []) ∧ OwT 3 enc_int 1 r u0 M0) := by
 unfold isa_Read at hF
 refine lc_body (k := 22) (av := [.agg (enc_Ins a0).toArray]) func126 rfl rfl (h := fun W hS => ?_)
 refine c_seq <| c_region ?_
 refine o_boxP (cl := (enc_Ins a0)) rfl hS ?_
 clear hS; intro b1 w hS
 refine oy hS y_assign <| n_thenN <| c_seq <| c_region <| oy hS (y_field fa_api_Ins_0) <| oy hS (y_load oH underlying3 rfl rfl) ?_
 refine o_callS hS func62 rfl rfl (hc := (w_isa_Shape (a0 := a0.Op))) (h := ?_)
 clear hS; intro w hS
 refine oy hS y_assign <| n_thenN ?_
 iterate 2 (refine c_seq ?_)
 refine c_region <| oy hS y_move ?_
 refine o_callS hS func116 rfl rfl (hc := (w_isa_HasA (a0 := (isa_Shape a0.Op)))) (h := ?_)
 clear hS; intro w hS
 refine n_thenN ?_
 refine c_if (ht := fun c2 => ?_) (hf := fun c2 => ?_)
 · replace hF := bt c2 hF
   refine c_region <| oy hS y_move <| oy hS (y_field fa_api_Ins_2) <| oy hS (y_load oH underlying3 rfl rfl) ?_
   refine o_buildT val_int ([a0.A] : List Int) hS el_int (fun _ => rfl) enc_len_int (by decide) rfl (by decide) (hp := rfl) (h := ?_)
   clear hS; intro b3 w hS h4
   have hS : St W g [] ([(b3, blk (([a0.A] : List Int).flatMap enc_int) 3)] ++ ((b1, blk (enc_Ins a0) 81) :: [])) w := hS
   obtain ⟨G0, B0, hF⟩ := ob hF
   refine o_appPn (ys := ([a0.A] : List Int)) (LX := []) B0 hS el_int (OwT.nil _ _ _) rfl enc_len_int (enc_ones_int _) (by decide) ?_
   clear hS; intro v7 LX8 w h9 hS
   refine oy hS y_assign <| n_thenN ?_
   iterate 2 (refine c_seq ?_)
   refine c_region <| oy hS y_move ?_
   refine o_callS hS func117 rfl rfl (hc := (w_isa_HasB (a0 := (isa_Shape a0.Op)))) (h := ?_)
   clear hS; intro w hS
   refine n_thenN ?_
   refine c_if (ht := fun c12 => ?_) (hf := fun c12 => ?_)
   · replace hF := bt c12 hF
     refine c_region <| oy hS y_move <| oy hS (y_field fa_api_Ins_3) <| oy hS (y_load (fun w hS => hS.own (mB (mH))) underlying3 rfl rfl) ?_
     refine o_buildT val_int ([a0.B] : List Int) hS el_int (fun _ => rfl) enc_len_int (by decide) rfl (by decide) (hp := rfl) (h := ?_)
     clear hS; intro b13 w hS h14
     have hS : St W g [] ([(b13, blk (([a0.B] : List Int).flatMap enc_int) 3)] ++ (LX8 ++ ((b1, blk (enc_Ins a0) 81) :: []))) w := hS
     obtain ⟨I0, D0, hF⟩ := ob hF
     refine o_appPn (ys := ([a0.B] : List Int)) (LX := LX8) D0 hS el_int h9 rfl enc_len_int (enc_ones_int _) (by decide) ?_
     clear hS; intro v16 J0 w h18 hS
     refine oy hS y_assign <| n_thenN <| c_seq <| c_region <| oy hS y_move <| oy hS y_assign <| n_thenN ?_
     obtain rfl := osi hF
     refine wp_ret (r_ret (vs := [v16]) (hS.re (.t .h .n)) (rsC res_tmp rsN) rfl ⟨_, _, rfl, (by first | rfl | simp only [aa, ac, al, an]), h18⟩)
   replace hF := bf c12 hF
   refine wp_skip <| c_seq <| c_region <| oy hS y_move <| oy hS y_assign <| n_thenN ?_
   obtain rfl := osi hF
   refine wp_ret (r_ret (vs := [v7]) (hS.re (.t .h .n)) (rsC res_tmp rsN) rfl ⟨_, _, rfl, (by first | rfl | simp only [aa, ac, al, an]), h9⟩)
 replace hF := bf c2 hF
 refine wp_skip ?_
 iterate 2 (refine c_seq ?_)
 refine c_region <| oy hS y_move ?_
 refine o_callS hS func117 rfl rfl (hc := (w_isa_HasB (a0 := (isa_Shape a0.Op)))) (h := ?_)
 clear hS; intro w hS
 refine n_thenN ?_
 refine c_if (ht := fun c21 => ?_) (hf := fun c21 => ?_)
 · replace hF := bt c21 hF
   refine c_region <| oy hS y_move <| oy hS (y_field fa_api_Ins_3) <| oy hS (y_load oH underlying3 rfl rfl) ?_
   refine o_buildT val_int ([a0.B] : List Int) hS el_int (fun _ => rfl) enc_len_int (by decide) rfl (by decide) (hp := rfl) (h := ?_)
   clear hS; intro b22 w hS h23
   have hS : St W g [] ([(b22, blk (([a0.B] : List Int).flatMap enc_int) 3)] ++ ((b1, blk (enc_Ins a0) 81) :: [])) w := hS
   obtain ⟨K0, E0, hF⟩ := ob hF
   refine o_appPn (ys := ([a0.B] : List Int)) (LX := []) E0 hS el_int (OwT.nil _ _ _) rfl enc_len_int (enc_ones_int _) (by decide) ?_
   clear hS; intro v26 N0 w h28 hS
   refine oy hS y_assign <| n_thenN <| c_seq <| c_region <| oy hS y_move <| oy hS y_assign <| n_thenN ?_
   obtain rfl := osi hF
   refine wp_ret (r_ret (vs := [v26]) (hS.re (.t .h .n)) (rsC res_tmp rsN) rfl ⟨_, _, rfl, (by first | rfl | simp only [aa, ac, al, an]), h28⟩)
 replace hF := bf c21 hF
 refine wp_skip <| c_seq <| c_region <| oy hS y_move <| oy hS y_assign <| n_thenN ?_
 obtain rfl := osi hF
 refine wp_ret (r_ret (vs := [(.slice none 0 0)]) (hS.re (.n)) (rsC res_tmp rsN) rfl ⟨_, _, rfl, (by first | rfl | simp only [aa, ac, al, an]), (OwT.nil _ _ _)⟩)
theorem w_isa_Read {g : Frag} {a0 : T_Ins} {r : (List Int)}  (hF : isa_Read a0 = some r) : LC Tryz.prog 126 #[.agg (enc_Ins a0).toArray] g [] (fun v L => ∃ (u0 : Value) (M0 : Own), u0 = v ∧ L = (M0 ++ []) ∧ OwT 3 enc_int 1 r u0 M0) := w_isa_Read_  hF

def hazard_first_1_1 (a0 : T_Write) (a1 : Int) : Bool :=
  decide (a0.Reg = a1)
theorem w_hazard_first_1_1_ {g : Frag} {a0 : T_Write} {a1 : Int} {c1_ : Nat} {r : Bool} (h1 : g c1_ = some (blk [.int .i64 a1] 3)) (hF : hazard_first_1_1 a0 a1 = r) : LCs Tryz.prog 124 #[.agg (enc_Write a0).toArray, .pointer (some ⟨c1_, 0, none⟩)] g (.bool r) := by
 unfold hazard_first_1_1 at hF
 refine lc_body (k := 8) (av := [.agg (enc_Write a0).toArray, .pointer (some ⟨c1_, 0, none⟩)]) func124 rfl rfl (h := fun W hS => ?_)
 refine c_seq <| c_region ?_
 refine o_boxP (cl := (enc_Write a0)) rfl hS ?_
 clear hS; intro b1 w hS
 refine oy hS y_assign <| n_thenN <| c_seq <| c_region <| oy hS (y_field fa_api_Write_0) <| oy hS (y_load oH underlying3 rfl rfl) <| oy hS (y_load (fun w hS => hS.block h1) underlying3 rfl rfl) <| oy hS y_bin ?_
 refine oy hS y_assign <| n_thenN ?_
 subst hF
 exact wp_ret (wr1 hS)
theorem w_hazard_first_1_1 {g : Frag} {a0 : T_Write} {a1 : Int} {c1_ : Nat} (h1 : g c1_ = some (blk [.int .i64 a1] 3)) : LCs Tryz.prog 124 #[.agg (enc_Write a0).toArray, .pointer (some ⟨c1_, 0, none⟩)] g (.bool (hazard_first_1_1 a0 a1)) := w_hazard_first_1_1_ h1 rfl

noncomputable def slices_IndexFunc_api_Write_api_Write_hazard_first_1_1_b1 (a0 : (List T_Write)) (B0 : Int) : Int → Option (Step Int Int) := fun x15 => bif decide (x15 < (a0.length : Int)) then (at' a0 x15).bind fun x35 => bif (hazard_first_1_1 x35 B0) then some (.done (x15)) else some (.next (IntKind.i64.wrap (x15 + 1))) else some (.done ((-1)))
noncomputable def slices_IndexFunc_api_Write_api_Write_hazard_first_1_1 (a0 : (List T_Write)) (B0 : Int) : Option Int :=
  loop (σ := Int) (slices_IndexFunc_api_Write_api_Write_hazard_first_1_1_b1 a0 B0) 0
theorem w_slices_IndexFunc_api_Write_api_Write_hazard_first_1_1_ {g : Frag} {a0 : (List T_Write)} {v0_ : Value} {a1_0 : Int} {c1_0 : Nat} {r : Int} (h0 : SlT g enc_Write 3 a0 v0_) (h1_0 : g c1_0 = some (blk [.int .i64 a1_0] 3)) (hF : slices_IndexFunc_api_Write_api_Write_hazard_first_1_1 a0 a1_0 = some r) : LCs Tryz.prog 145 #[v0_, .func (.func 124) #[] #[.pointer (some ⟨c1_0, 0, none⟩)]] g (.int .i64 r) := by
 unfold slices_IndexFunc_api_Write_api_Write_hazard_first_1_1 at hF
 refine lc_body (k := 19) (av := [v0_, .func (.func 124) #[] #[.pointer (some ⟨c1_0, 0, none⟩)]]) func145 rfl rfl (h := fun W hS => ?_)
 refine c_seq <| c_region <| oy hS y_assign <| n_thenN ?_
 iterate 2 (refine c_seq ?_)
 refine c_region <| oy hS y_move <| oy hS (y_len h0 underlying60) <| oy hS y_move <| n_thenN <| c_block ?_
 refine c_loopP hF (fun (q : Int) a w' => (∃ s : Nat → Value, a = Ac (((((Fm.dead 19 s).upd 0 v0_).upd 1 (.func (.func 124) #[] #[.pointer (some ⟨c1_0, 0, none⟩)])).upd 7 (.int .i64 (a0.length : Int))).upd 8 (.int .i64 q))) ∧ St W g [] [] w') ⟨mk_exF, (hS.re (.n))⟩ ?_
 clear hS hF
 intro n32 q a w hI hq
 revert hq hI; revert q; intro x15 hI hq
 obtain ⟨⟨s33, rfl⟩, hS⟩ := hq
 obtain ⟨z30, hF, B0⟩ := iter_step hI
 clear hI
 dsimp only [slices_IndexFunc_api_Write_api_Write_hazard_first_1_1_b1] at hF
 refine c_seq <| c_region <| oy hS y_bin <| n_thenN <| c_seq ?_
 refine c_if (ht := fun c34 => ?_) (hf := fun c34 => ?_)
 · replace hF := bt c34 hF
   refine wp_skip <| c_seq <| c_block <| c_seq <| c_region <| oy hS y_move <| oy hS y_assign <| n_thenN ?_
   refine c_seq <| c_region ?_
   iterate 3 (refine oy hS y_move ?_)
   obtain ⟨x35, D0, hF⟩ := ob hF
   obtain ⟨b36, o37, c38, M0, e40, N0, E0, G0, I0, J0, K0⟩ := SlT.at D0 h0 enc_len_Write
   refine oy hS (y_index E0 G0 I0 underlying60 el_api_Write.size) ?_
   refine oy hS (y_loadN (vs := (enc_Write x35)) (fun w hS => hS.block J0) underlying89 rfl (by exact sz_api_Write) (fun j u hj => K0 j u hj)) ?_
   refine o_callVS2 hS func124 rfl rfl (hc := (w_hazard_first_1_1 (a0 := x35) (a1 := a1_0) (h1 := (Frag.le_plus _ _ _ _ h1_0)))) (h := ?_)
   clear hS; intro w hS
   refine n_thenN ?_
   refine c_if (ht := fun c47 => ?_) (hf := fun c47 => ?_)
   · replace hF := bt c47 hF
     refine c_seq <| c_region <| oy hS y_move <| oy hS y_assign <| n_thenN ?_
     obtain rfl := osi hF
     obtain rfl : _ = r := B0
     exact wp_ret (wr1 hS)
   replace hF := bf c47 hF
   refine wp_skip <| c_region <| oy hS y_bin <| oy hS y_move <| n_thenN ?_
   obtain rfl := osi hF
   exact ⟨_, B0, mk_exF, (hS.re (.n))⟩
 replace hF := bf c34 hF
 refine wp_exit ?_
 refine c_seq <| c_region <| oy hS y_assign <| n_thenN ?_
 obtain rfl := osi hF
 obtain rfl : _ = r := B0
 exact wp_ret (wr1 hS)
theorem w_slices_IndexFunc_api_Write_api_Write_hazard_first_1_1 {g : Frag} {a0 : (List T_Write)} {v0_ : Value} {a1_0 : Int} {c1_0 : Nat} {r : Int} (h0 : SlT g enc_Write 3 a0 v0_) (h1_0 : g c1_0 = some (blk [.int .i64 a1_0] 3)) (hF : slices_IndexFunc_api_Write_api_Write_hazard_first_1_1 a0 a1_0 = some r) : LCs Tryz.prog 145 #[v0_, .func (.func 124) #[] #[.pointer (some ⟨c1_0, 0, none⟩)]] g (.int .i64 r) := w_slices_IndexFunc_api_Write_api_Write_hazard_first_1_1_ h0 h1_0 hF

noncomputable def slices_ContainsFunc_api_Write_api_Write_hazard_first_1_1 (a0 : (List T_Write)) (B0 : Int) : Option Bool :=
  (slices_IndexFunc_api_Write_api_Write_hazard_first_1_1 a0 B0).bind fun r1 => some (decide (0 ≤ r1))
theorem w_slices_ContainsFunc_api_Write_api_Write_hazard_first_1_1_ {g : Frag} {a0 : (List T_Write)} {v0_ : Value} {a1_0 : Int} {c1_0 : Nat} {r : Bool} (h0 : SlT g enc_Write 3 a0 v0_) (h1_0 : g c1_0 = some (blk [.int .i64 a1_0] 3)) (hF : slices_ContainsFunc_api_Write_api_Write_hazard_first_1_1 a0 a1_0 = some r) : LCs Tryz.prog 123 #[v0_, .func (.func 124) #[] #[.pointer (some ⟨c1_0, 0, none⟩)]] g (.bool r) := by
 unfold slices_ContainsFunc_api_Write_api_Write_hazard_first_1_1 at hF
 refine lc_body (k := 9) (av := [v0_, .func (.func 124) #[] #[.pointer (some ⟨c1_0, 0, none⟩)]]) func123 rfl rfl (h := fun W hS => ?_)
 refine c_seq <| c_region <| oy hS y_assign <| n_thenN <| c_seq <| c_region ?_
 iterate 2 (refine oy hS y_move ?_)
 obtain ⟨r1, hr1, hF⟩ := ob hF
 refine o_callS hS func145 rfl rfl (hc := (w_slices_IndexFunc_api_Write_api_Write_hazard_first_1_1 (a0 := a0) (a1_0 := a1_0) (h0 := h0.plus) (h1_0 := (Frag.le_plus _ _ _ _ h1_0)) (hF := hr1))) (h := ?_)
 clear hS; intro w hS
 refine oy hS y_bin <| oy hS y_assign <| n_thenN ?_
 obtain rfl := osi hF
 exact wp_ret (wr1 hS)
theorem w_slices_ContainsFunc_api_Write_api_Write_hazard_first_1_1 {g : Frag} {a0 : (List T_Write)} {v0_ : Value} {a1_0 : Int} {c1_0 : Nat} {r : Bool} (h0 : SlT g enc_Write 3 a0 v0_) (h1_0 : g c1_0 = some (blk [.int .i64 a1_0] 3)) (hF : slices_ContainsFunc_api_Write_api_Write_hazard_first_1_1 a0 a1_0 = some r) : LCs Tryz.prog 123 #[v0_, .func (.func 124) #[] #[.pointer (some ⟨c1_0, 0, none⟩)]] g (.bool r) := w_slices_ContainsFunc_api_Write_api_Write_hazard_first_1_1_ h0 h1_0 hF

noncomputable def hazard_first_1 (a0 : Int) (a1 : T_State) : Option Bool :=
  (slices_ContainsFunc_api_Write_api_Write_hazard_first_1_1 a1.Fly a0).bind fun r2 => some (r2)
theorem w_hazard_first_1_ {g : Frag} {a0 : Int} {a1 : T_State} {v1_0_ : Value} {v1_1_ : Value} {v1_2_ : Value} {v1_4_ : Value} {v1_6_ : Value} {v1_8_ : Value} {c1_ : Nat} {r : Bool} (h1 : g c1_ = some (blk (cl_State v1_0_ v1_1_ v1_2_ a1.Taken v1_4_ a1.PC v1_6_ a1.Stop v1_8_ a1.Jump a1.Delay) 62)) (h1_0_ : SlT g enc_uint32 1 a1.Regs v1_0_) (h1_1_ : SlT g enc_uint32 1 a1.Mem v1_1_) (h1_2_ : SlT g enc_uint32 1 a1.In_ v1_2_) (h1_4_ : SlT g enc_uint32 1 a1.Out v1_4_) (h1_6_ : SlT g enc_int 1 a1.Stack v1_6_) (h1_8_ : SlT g enc_Write 3 a1.Fly v1_8_) (hF : hazard_first_1 a0 a1 = some r) : LCs Tryz.prog 122 #[.int .i64 a0, .pointer (some ⟨c1_, 0, none⟩)] g (.bool r) := by
 unfold hazard_first_1 at hF
 refine lc_body (k := 8) (av := [.int .i64 a0, .pointer (some ⟨c1_, 0, none⟩)]) func122 rfl rfl (h := fun W hS => ?_)
 refine c_seq <| c_region ?_
 refine o_boxP (cl := [.int .i64 a0]) rfl hS ?_
 clear hS; intro b1 w hS
 refine oy hS y_assign <| n_thenN <| c_seq <| c_region <| oy hS (y_field fa_api_State_8) <| oy hS (y_load (fun w hS => hS.block h1) underlying60 rfl rfl) ?_
 refine oy hS (y_makeFunc av0 (av1 (by (conv => lhs; whnf) <;> exact rfl))) ?_
 obtain ⟨r2, hr2, hF⟩ := ob hF
 refine o_callS hS func123 rfl rfl (hc := (w_slices_ContainsFunc_api_Write_api_Write_hazard_first_1_1 (a0 := a1.Fly) (a1_0 := a0) (h0 := h1_8_.plus) (h1_0 := (St.plus hS (mH))) (hF := hr2))) (h := ?_)
 clear hS; intro w hS
 refine oy hS y_assign <| n_thenN ?_
 obtain rfl := osi hF
 exact wp_ret (wr1 hS)
theorem w_hazard_first_1 {g : Frag} {a0 : Int} {a1 : T_State} {v1_0_ : Value} {v1_1_ : Value} {v1_2_ : Value} {v1_4_ : Value} {v1_6_ : Value} {v1_8_ : Value} {c1_ : Nat} {r : Bool} (h1 : g c1_ = some (blk (cl_State v1_0_ v1_1_ v1_2_ a1.Taken v1_4_ a1.PC v1_6_ a1.Stop v1_8_ a1.Jump a1.Delay) 62)) (h1_0_ : SlT g enc_uint32 1 a1.Regs v1_0_) (h1_1_ : SlT g enc_uint32 1 a1.Mem v1_1_) (h1_2_ : SlT g enc_uint32 1 a1.In_ v1_2_) (h1_4_ : SlT g enc_uint32 1 a1.Out v1_4_) (h1_6_ : SlT g enc_int 1 a1.Stack v1_6_) (h1_8_ : SlT g enc_Write 3 a1.Fly v1_8_) (hF : hazard_first_1 a0 a1 = some r) : LCs Tryz.prog 122 #[.int .i64 a0, .pointer (some ⟨c1_, 0, none⟩)] g (.bool r) := w_hazard_first_1_ h1 h1_0_ h1_1_ h1_2_ h1_4_ h1_6_ h1_8_ hF

noncomputable def slices_IndexFunc_int_int_hazard_first_1_b1 (a0 : (List Int)) (B0 : T_State) : Int → Option (Step Int Int) := fun x16 => bif decide (x16 < (a0.length : Int)) then (at' a0 x16).bind fun x37 => (hazard_first_1 x37 B0).bind fun r49 => bif r49 then some (.done (x16)) else some (.next (IntKind.i64.wrap (x16 + 1))) else some (.done ((-1)))
noncomputable def slices_IndexFunc_int_int_hazard_first_1 (a0 : (List Int)) (B0 : T_State) : Option Int :=
  loop (σ := Int) (slices_IndexFunc_int_int_hazard_first_1_b1 a0 B0) 0
theorem w_slices_IndexFunc_int_int_hazard_first_1_ {g : Frag} {a0 : (List Int)} {v0_ : Value} {a1_0 : T_State} {v1_0_0_ : Value} {v1_0_1_ : Value} {v1_0_2_ : Value} {v1_0_4_ : Value} {v1_0_6_ : Value} {v1_0_8_ : Value} {c1_0 : Nat} {r : Int} (h0 : SlT g enc_int 1 a0 v0_) (h1_0 : g c1_0 = some (blk (cl_State v1_0_0_ v1_0_1_ v1_0_2_ a1_0.Taken v1_0_4_ a1_0.PC v1_0_6_ a1_0.Stop v1_0_8_ a1_0.Jump a1_0.Delay) 62)) (h1_0_0_ : SlT g enc_uint32 1 a1_0.Regs v1_0_0_) (h1_0_1_ : SlT g enc_uint32 1 a1_0.Mem v1_0_1_) (h1_0_2_ : SlT g enc_uint32 1 a1_0.In_ v1_0_2_) (h1_0_4_ : SlT g enc_uint32 1 a1_0.Out v1_0_4_) (h1_0_6_ : SlT g enc_int 1 a1_0.Stack v1_0_6_) (h1_0_8_ : SlT g enc_Write 3 a1_0.Fly v1_0_8_) (hF : slices_IndexFunc_int_int_hazard_first_1 a0 a1_0 = some r) : LCs Tryz.prog 120 #[v0_, .func (.func 122) #[] #[.pointer (some ⟨c1_0, 0, none⟩)]] g (.int .i64 r) := by
 unfold slices_IndexFunc_int_int_hazard_first_1 at hF
 refine lc_body (k := 19) (av := [v0_, .func (.func 122) #[] #[.pointer (some ⟨c1_0, 0, none⟩)]]) func120 rfl rfl (h := fun W hS => ?_)
 refine c_seq <| c_region <| oy hS y_assign <| n_thenN ?_
 iterate 2 (refine c_seq ?_)
 refine c_region <| oy hS y_move <| oy hS (y_len h0 underlying37) <| oy hS y_move <| n_thenN <| c_block ?_
 refine c_loopP hF (fun (q : Int) a w' => (∃ s : Nat → Value, a = Ac (((((Fm.dead 19 s).upd 0 v0_).upd 1 (.func (.func 122) #[] #[.pointer (some ⟨c1_0, 0, none⟩)])).upd 7 (.int .i64 (a0.length : Int))).upd 8 (.int .i64 q))) ∧ St W g [] [] w') ⟨mk_exF, (hS.re (.n))⟩ ?_
 clear hS hF
 intro n34 q a w hI hq
 revert hq hI; revert q; intro x16 hI hq
 obtain ⟨⟨s35, rfl⟩, hS⟩ := hq
 obtain ⟨z32, hF, B0⟩ := iter_step hI
 clear hI
 dsimp only [slices_IndexFunc_int_int_hazard_first_1_b1] at hF
 refine c_seq <| c_region <| oy hS y_bin <| n_thenN <| c_seq ?_
 refine c_if (ht := fun c36 => ?_) (hf := fun c36 => ?_)
 · replace hF := bt c36 hF
   refine wp_skip <| c_seq <| c_block <| c_seq <| c_region <| oy hS y_move <| oy hS y_assign <| n_thenN ?_
   refine c_seq <| c_region ?_
   iterate 3 (refine oy hS y_move ?_)
   obtain ⟨x37, D0, hF⟩ := ob hF
   obtain ⟨b38, o39, c40, N0, e42, R0, E0, G0, I0, J0, K0⟩ := SlT.at D0 h0 enc_len_int
   refine oy hS (y_index E0 G0 I0 underlying37 el_int.size) <| oy hS (y_load (fun w hS => hS.block J0) underlying3 rfl (K0 0 _ rfl)) ?_
   obtain ⟨r49, M0, hF⟩ := ob hF
   refine o_callVS2 hS func122 rfl rfl (hc := (w_hazard_first_1 (a0 := x37) (a1 := a1_0) (h1 := (Frag.le_plus _ _ _ _ h1_0)) (h1_0_ := h1_0_0_.plus) (h1_1_ := h1_0_1_.plus) (h1_2_ := h1_0_2_.plus) (h1_4_ := h1_0_4_.plus) (h1_6_ := h1_0_6_.plus) (h1_8_ := h1_0_8_.plus) (hF := M0))) (h := ?_)
   clear hS; intro w hS
   refine n_thenN ?_
   refine c_if (ht := fun c50 => ?_) (hf := fun c50 => ?_)
   · replace hF := bt c50 hF
     refine c_seq <| c_region <| oy hS y_move <| oy hS y_assign <| n_thenN ?_
     obtain rfl := osi hF
     obtain rfl : _ = r := B0
     exact wp_ret (wr1 hS)
   replace hF := bf c50 hF
   refine wp_skip <| c_region <| oy hS y_bin <| oy hS y_move <| n_thenN ?_
   obtain rfl := osi hF
   exact ⟨_, B0, mk_exF, (hS.re (.n))⟩
 replace hF := bf c36 hF
 refine wp_exit ?_
 refine c_seq <| c_region <| oy hS y_assign <| n_thenN ?_
 obtain rfl := osi hF
 obtain rfl : _ = r := B0
 exact wp_ret (wr1 hS)
theorem w_slices_IndexFunc_int_int_hazard_first_1 {g : Frag} {a0 : (List Int)} {v0_ : Value} {a1_0 : T_State} {v1_0_0_ : Value} {v1_0_1_ : Value} {v1_0_2_ : Value} {v1_0_4_ : Value} {v1_0_6_ : Value} {v1_0_8_ : Value} {c1_0 : Nat} {r : Int} (h0 : SlT g enc_int 1 a0 v0_) (h1_0 : g c1_0 = some (blk (cl_State v1_0_0_ v1_0_1_ v1_0_2_ a1_0.Taken v1_0_4_ a1_0.PC v1_0_6_ a1_0.Stop v1_0_8_ a1_0.Jump a1_0.Delay) 62)) (h1_0_0_ : SlT g enc_uint32 1 a1_0.Regs v1_0_0_) (h1_0_1_ : SlT g enc_uint32 1 a1_0.Mem v1_0_1_) (h1_0_2_ : SlT g enc_uint32 1 a1_0.In_ v1_0_2_) (h1_0_4_ : SlT g enc_uint32 1 a1_0.Out v1_0_4_) (h1_0_6_ : SlT g enc_int 1 a1_0.Stack v1_0_6_) (h1_0_8_ : SlT g enc_Write 3 a1_0.Fly v1_0_8_) (hF : slices_IndexFunc_int_int_hazard_first_1 a0 a1_0 = some r) : LCs Tryz.prog 120 #[v0_, .func (.func 122) #[] #[.pointer (some ⟨c1_0, 0, none⟩)]] g (.int .i64 r) := w_slices_IndexFunc_int_int_hazard_first_1_ h0 h1_0 h1_0_0_ h1_0_1_ h1_0_2_ h1_0_4_ h1_0_6_ h1_0_8_ hF

noncomputable def slices_ContainsFunc_int_int_hazard_first_1 (a0 : (List Int)) (B0 : T_State) : Option Bool :=
  (slices_IndexFunc_int_int_hazard_first_1 a0 B0).bind fun r1 => some (decide (0 ≤ r1))
theorem w_slices_ContainsFunc_int_int_hazard_first_1_ {g : Frag} {a0 : (List Int)} {v0_ : Value} {a1_0 : T_State} {v1_0_0_ : Value} {v1_0_1_ : Value} {v1_0_2_ : Value} {v1_0_4_ : Value} {v1_0_6_ : Value} {v1_0_8_ : Value} {c1_0 : Nat} {r : Bool} (h0 : SlT g enc_int 1 a0 v0_) (h1_0 : g c1_0 = some (blk (cl_State v1_0_0_ v1_0_1_ v1_0_2_ a1_0.Taken v1_0_4_ a1_0.PC v1_0_6_ a1_0.Stop v1_0_8_ a1_0.Jump a1_0.Delay) 62)) (h1_0_0_ : SlT g enc_uint32 1 a1_0.Regs v1_0_0_) (h1_0_1_ : SlT g enc_uint32 1 a1_0.Mem v1_0_1_) (h1_0_2_ : SlT g enc_uint32 1 a1_0.In_ v1_0_2_) (h1_0_4_ : SlT g enc_uint32 1 a1_0.Out v1_0_4_) (h1_0_6_ : SlT g enc_int 1 a1_0.Stack v1_0_6_) (h1_0_8_ : SlT g enc_Write 3 a1_0.Fly v1_0_8_) (hF : slices_ContainsFunc_int_int_hazard_first_1 a0 a1_0 = some r) : LCs Tryz.prog 80 #[v0_, .func (.func 122) #[] #[.pointer (some ⟨c1_0, 0, none⟩)]] g (.bool r) := by
 unfold slices_ContainsFunc_int_int_hazard_first_1 at hF
 refine lc_body (k := 9) (av := [v0_, .func (.func 122) #[] #[.pointer (some ⟨c1_0, 0, none⟩)]]) func80 rfl rfl (h := fun W hS => ?_)
 refine c_seq <| c_region <| oy hS y_assign <| n_thenN <| c_seq <| c_region ?_
 iterate 2 (refine oy hS y_move ?_)
 obtain ⟨r1, hr1, hF⟩ := ob hF
 refine o_callS hS func120 rfl rfl (hc := (w_slices_IndexFunc_int_int_hazard_first_1 (a0 := a0) (a1_0 := a1_0) (h0 := h0.plus) (h1_0 := (Frag.le_plus _ _ _ _ h1_0)) (h1_0_0_ := h1_0_0_.plus) (h1_0_1_ := h1_0_1_.plus) (h1_0_2_ := h1_0_2_.plus) (h1_0_4_ := h1_0_4_.plus) (h1_0_6_ := h1_0_6_.plus) (h1_0_8_ := h1_0_8_.plus) (hF := hr1))) (h := ?_)
 clear hS; intro w hS
 refine oy hS y_bin <| oy hS y_assign <| n_thenN ?_
 obtain rfl := osi hF
 exact wp_ret (wr1 hS)
theorem w_slices_ContainsFunc_int_int_hazard_first_1 {g : Frag} {a0 : (List Int)} {v0_ : Value} {a1_0 : T_State} {v1_0_0_ : Value} {v1_0_1_ : Value} {v1_0_2_ : Value} {v1_0_4_ : Value} {v1_0_6_ : Value} {v1_0_8_ : Value} {c1_0 : Nat} {r : Bool} (h0 : SlT g enc_int 1 a0 v0_) (h1_0 : g c1_0 = some (blk (cl_State v1_0_0_ v1_0_1_ v1_0_2_ a1_0.Taken v1_0_4_ a1_0.PC v1_0_6_ a1_0.Stop v1_0_8_ a1_0.Jump a1_0.Delay) 62)) (h1_0_0_ : SlT g enc_uint32 1 a1_0.Regs v1_0_0_) (h1_0_1_ : SlT g enc_uint32 1 a1_0.Mem v1_0_1_) (h1_0_2_ : SlT g enc_uint32 1 a1_0.In_ v1_0_2_) (h1_0_4_ : SlT g enc_uint32 1 a1_0.Out v1_0_4_) (h1_0_6_ : SlT g enc_int 1 a1_0.Stack v1_0_6_) (h1_0_8_ : SlT g enc_Write 3 a1_0.Fly v1_0_8_) (hF : slices_ContainsFunc_int_int_hazard_first_1 a0 a1_0 = some r) : LCs Tryz.prog 80 #[v0_, .func (.func 122) #[] #[.pointer (some ⟨c1_0, 0, none⟩)]] g (.bool r) := w_slices_ContainsFunc_int_int_hazard_first_1_ h0 h1_0 h1_0_0_ h1_0_1_ h1_0_2_ h1_0_4_ h1_0_6_ h1_0_8_ hF

noncomputable def slices_Index_int_int_b1 (a0 : (List Int)) (a1 : Int) : Int → Option (Step Int Int) := fun x15 => bif decide (x15 < (a0.length : Int)) then (at' a0 x15).bind fun x35 => bif decide (a1 = x35) then some (.done (x15)) else some (.next (IntKind.i64.wrap (x15 + 1))) else some (.done ((-1)))
noncomputable def slices_Index_int_int (a0 : (List Int)) (a1 : Int) : Option Int :=
  loop (σ := Int) (slices_Index_int_int_b1 a0 a1) 0
theorem w_slices_Index_int_int_ {g : Frag} {a0 : (List Int)} {v0_ : Value} {a1 : Int} {r : Int} (h0 : SlT g enc_int 1 a0 v0_) (hF : slices_Index_int_int a0 a1 = some r) : LCs Tryz.prog 146 #[v0_, .int .i64 a1] g (.int .i64 r) := by
 unfold slices_Index_int_int at hF
 refine lc_body (k := 19) (av := [v0_, .int .i64 a1]) func146 rfl rfl (h := fun W hS => ?_)
 refine c_seq <| c_region <| oy hS y_assign <| n_thenN ?_
 iterate 2 (refine c_seq ?_)
 refine c_region <| oy hS y_move <| oy hS (y_len h0 underlying37) <| oy hS y_move <| n_thenN <| c_block ?_
 refine c_loopP hF (fun (q : Int) a w' => (∃ s : Nat → Value, a = Ac (((((Fm.dead 19 s).upd 0 v0_).upd 1 (.int .i64 a1)).upd 7 (.int .i64 (a0.length : Int))).upd 8 (.int .i64 q))) ∧ St W g [] [] w') ⟨mk_exF, (hS.re (.n))⟩ ?_
 clear hS hF
 intro n32 q a w hI hq
 revert hq hI; revert q; intro x15 hI hq
 obtain ⟨⟨s33, rfl⟩, hS⟩ := hq
 obtain ⟨z30, hF, B0⟩ := iter_step hI
 clear hI
 dsimp only [slices_Index_int_int_b1] at hF
 refine c_seq <| c_region <| oy hS y_bin <| n_thenN <| c_seq ?_
 refine c_if (ht := fun c34 => ?_) (hf := fun c34 => ?_)
 · replace hF := bt c34 hF
   refine wp_skip <| c_seq <| c_block <| c_seq <| c_region <| oy hS y_move <| oy hS y_assign <| n_thenN ?_
   refine c_seq <| c_region ?_
   iterate 3 (refine oy hS y_move ?_)
   obtain ⟨x35, D0, hF⟩ := ob hF
   obtain ⟨b36, o37, c38, M0, e40, N0, E0, G0, I0, J0, K0⟩ := SlT.at D0 h0 enc_len_int
   refine oy hS (y_index E0 G0 I0 underlying37 el_int.size) <| oy hS (y_load (fun w hS => hS.block J0) underlying3 rfl (K0 0 _ rfl)) <| oy hS y_bin <| n_thenN ?_
   refine c_if (ht := fun c47 => ?_) (hf := fun c47 => ?_)
   · replace hF := bt c47 hF
     refine c_seq <| c_region <| oy hS y_move <| oy hS y_assign <| n_thenN ?_
     obtain rfl := osi hF
     obtain rfl : _ = r := B0
     exact wp_ret (wr1 hS)
   replace hF := bf c47 hF
   refine wp_skip <| c_region <| oy hS y_bin <| oy hS y_move <| n_thenN ?_
   obtain rfl := osi hF
   exact ⟨_, B0, mk_exF, (hS.re (.n))⟩
 replace hF := bf c34 hF
 refine wp_exit ?_
 refine c_seq <| c_region <| oy hS y_assign <| n_thenN ?_
 obtain rfl := osi hF
 obtain rfl : _ = r := B0
 exact wp_ret (wr1 hS)
theorem w_slices_Index_int_int {g : Frag} {a0 : (List Int)} {v0_ : Value} {a1 : Int} {r : Int} (h0 : SlT g enc_int 1 a0 v0_) (hF : slices_Index_int_int a0 a1 = some r) : LCs Tryz.prog 146 #[v0_, .int .i64 a1] g (.int .i64 r) := w_slices_Index_int_int_ h0 hF

noncomputable def slices_Contains_int_int (a0 : (List Int)) (a1 : Int) : Option Bool :=
  (slices_Index_int_int a0 a1).bind fun r1 => some (decide (0 ≤ r1))
theorem w_slices_Contains_int_int_ {g : Frag} {a0 : (List Int)} {v0_ : Value} {a1 : Int} {r : Bool} (h0 : SlT g enc_int 1 a0 v0_) (hF : slices_Contains_int_int a0 a1 = some r) : LCs Tryz.prog 127 #[v0_, .int .i64 a1] g (.bool r) := by
 unfold slices_Contains_int_int at hF
 refine lc_body (k := 9) (av := [v0_, .int .i64 a1]) func127 rfl rfl (h := fun W hS => ?_)
 refine c_seq <| c_region <| oy hS y_assign <| n_thenN <| c_seq <| c_region ?_
 iterate 2 (refine oy hS y_move ?_)
 obtain ⟨r1, hr1, hF⟩ := ob hF
 refine o_callS hS func146 rfl rfl (hc := (w_slices_Index_int_int (a0 := a0) (a1 := a1) (h0 := h0.plus) (hF := hr1))) (h := ?_)
 clear hS; intro w hS
 refine oy hS y_bin <| oy hS y_assign <| n_thenN ?_
 obtain rfl := osi hF
 exact wp_ret (wr1 hS)
theorem w_slices_Contains_int_int {g : Frag} {a0 : (List Int)} {v0_ : Value} {a1 : Int} {r : Bool} (h0 : SlT g enc_int 1 a0 v0_) (hF : slices_Contains_int_int a0 a1 = some r) : LCs Tryz.prog 127 #[v0_, .int .i64 a1] g (.bool r) := w_slices_Contains_int_int_ h0 hF
end Go.Proofs.YtfnmihhcopkkbaaGreat
