/- Functions, lifted. Printed by lift.py. -/
import Derived.Test.YtfnmihhcopkkbaaGreatProg
import Derived.Test.YtfnmihhcopkkbaaGreatP6
import Derived.KernelRfl
namespace Go.Proofs.YtfnmihhcopkkbaaGreat
open Go Go.RowKit Fr
set_option linter.unusedVariables false
set_option linter.unusedSimpArgs false
set_option maxRecDepth 20000
open Tryz
set_option maxHeartbeats 2000000
noncomputable def bench_Trace_b2 (a1 : Int) (a0 : T_Image) : ((List Int) × Int × (List Int) × (List Int) × (List Int) × Int × (List Int) × Int × (List Int) × Int × (List T_Write) × Int × Int) → Option (Step ((List Int) × Int × (List Int) × (List Int) × (List Int) × Int × (List Int) × Int × (List Int) × Int × (List T_Write) × Int × Int) ((List Int) × Int)) := fun (D0, E0, K0, M0, N0, R0, T0, G0, U0, I0, V0, X0, Y0) => bif decide (E0 < a1) then bif decide (I0 ≠ 0) then some (.done ((D0, 0))) else (app' D0 ([G0] : List Int)).bind fun J0 => (pipe_Land (⟨K0, M0, N0, R0, T0, G0, U0, I0, V0, X0, Y0⟩ : T_State)).bind fun Z0 => (pipe_Go a0.Code Z0).bind fun B0 => some (.next (J0, IntKind.i64.wrap (E0 + 1), B0.Regs, B0.Mem, B0.In_, B0.Taken, B0.Out, B0.PC, B0.Stack, B0.Stop, B0.Fly, B0.Jump, B0.Delay)) else some (.done ((D0, 0)))
noncomputable def bench_Trace_k1 (a1 : Int) (a0 : T_Image) (r2 : (T_State × Int)) : Unit → Option ((List Int) × Int) := fun _ => loop (σ := ((List Int) × Int × (List Int) × (List Int) × (List Int) × Int × (List Int) × Int × (List Int) × Int × (List T_Write) × Int × Int)) (bench_Trace_b2 a1 a0) ([], 0, r2.1.Regs, r2.1.Mem, r2.1.In_, r2.1.Taken, r2.1.Out, r2.1.PC, r2.1.Stack, r2.1.Stop, r2.1.Fly, r2.1.Jump, r2.1.Delay)
noncomputable def bench_Trace (a0 : T_Image) (a1 : Int) (a2 : (List Int)) : Option ((List Int) × Int) :=
  (image_Load a0 a2).bind fun r2 => cut (σ := Unit) (bif decide (r2.2 ≠ 0) then some (.done (([], 1))) else bif decide (a1 < 0) then some (.done (([], 1))) else bif decide (4000 < a1) then some (.done (([], 1))) else some (.next ())) (bench_Trace_k1 a1 a0 r2)
theorem w_bench_Trace_ {g : Frag} {a0 : T_Image} {v0_ : Value} {a1 : Int} {a2 : (List Int)} {v2_ : Value} {r : ((List Int) × Int)} (h0 : Rd_Image g a0 v0_) (h2 : SlT g enc_uint32 1 a2 v2_) (hF : bench_Trace a0 a1 a2 = some r) : LC Tryz.prog 5 #[v0_, .int .i64 a1, v2_] g [] (fun v L => ∃ (u0 : Value) (M0 : Own), v = .tuple #[u0, .int .i64 r.2] ∧ L = (M0 ++ []) ∧ OwT 3 enc_int 1 r.1 u0 M0) := by
 obtain ⟨Z0, B1, rfl, T3, V3⟩ := h0
 unfold bench_Trace at hF
 refine lc_body (k := 44) (av := [.agg (cl_Image Z0 B1 a0.Entry).toArray, .int .i64 a1, v2_]) func5 rfl rfl (h := fun W hS => ?_)
 refine c_seq <| c_region ?_
 refine o_boxP (cl := (cl_Image Z0 B1 a0.Entry)) rfl hS ?_
 clear hS; intro b1 w hS
 iterate 2 (refine oy hS y_assign ?_)
 refine n_thenN <| c_seq <| c_region ?_
 refine oy hS (y_loadW oH underlying40 rfl (by exact sz_api_Image)) ?_
 refine oy hS y_move ?_
 obtain ⟨r2, hr2, hF⟩ := ob hF
 refine o_call0 hS func16 rfl rfl (hc := (w_image_Load (a0 := a0) (a1 := a2) (h0 := ⟨_, _, rfl, T3.plus, V3.plus⟩) (h1 := h2.plus) (hF := hr2))) (h := ?_)
 clear hS; intro v3 LY4 w hS hr5
 obtain ⟨v_0_6, LX_0_7, rfl, rfl, h_0_8⟩ := hr5
 obtain ⟨D1, N0, R0, T0, U0, V0, R1, T1, U1, V1, X1, Y1, rfl, rfl, Z1, B2, D2, E2, G2, I2⟩ := h_0_8
 simp only [aa, ac, al] at hS
 refine oy hS y_move ?_
 iterate 2 (refine oy hS (y_extract rfl) ?_)
 refine o_allocP (cl := (cl_State (.slice none 0 0) (.slice none 0 0) (.slice none 0 0) 0 (.slice none 0 0) 0 (.slice none 0 0) 0 (.slice none 0 0) 0 0)) zr_api_State rfl hS ?_
 clear hS; intro b33 w hS
 refine o_storeW (vs := (cl_State D1 N0 R0 r2.1.Taken T0 r2.1.PC U0 r2.1.Stop V0 r2.1.Jump r2.1.Delay)) hS (by exact rfl) (Upd.here _) (by exact sz_api_State) (one_State (Z1).one (B2).one (D2).one (E2).one (G2).one (I2).one) ?_
 clear hS; intro w hS
 refine oy hS y_assign <| n_thenN ?_
 obtain ⟨z40, hF, K2⟩ := cut_step hF
 refine c_cutP (fun a w' => bench_Trace_k1 a1 a0 r2 () = some r ∧ (∃ s : Nat → Value, a = Ac ((((Fm.dead 44 s).upd 1 (.int .i64 a1)).upd 3 (.pointer (some ⟨b1, 0, none⟩))).upd 8 (.pointer (some ⟨b33, 0, none⟩)))) ∧ St W g [] ((b1, blk (cl_Image Z0 B1 a0.Entry) 40) :: ((b33, blk (cl_State D1 N0 R0 r2.1.Taken T0 r2.1.PC U0 r2.1.Stop V0 r2.1.Jump r2.1.Delay) 62) :: (R1 ++ (T1 ++ (U1 ++ (V1 ++ (X1 ++ (Y1 ++ [])))))))) w') ?_ ?_
 · skip
   refine c_seq <| c_region <| oy hS y_move <| oy hS y_bin ?_
   refine o_split (ht := fun c42 => ?_) (hf := fun c42 => ?_)
   · replace hF := bt c42 hF
     iterate 2 (refine o_sk rfl rfl ?_)
     refine oy hS y_pickT <| oy hS y_move ?_
     iterate 2 (refine o_sk rfl rfl ?_)
     refine oy hS y_pickT <| n_thenN ?_
     refine c_if_true (h := ?_)
     refine c_seq <| c_region ?_
     iterate 2 (refine oy hS y_assign ?_)
     refine n_thenN ?_
     obtain rfl := osi hF
     obtain rfl : _ = r := K2
     refine wp_ret (r_ret (vs := [(.slice none 0 0), .int .i64 1]) (hS.re (.n)) (rsC res_tmp (rsC res_tmp rsN)) rfl ⟨_, _, rfl, (by first | rfl | simp only [aa, ac, al, an]), (OwT.nil _ _ _)⟩)
   replace hF := bf c42 hF
   refine o_gu rfl rfl rfl <| oy hS y_move <| o_gu rfl rfl rfl <| oy hS y_bin <| oy hS y_pickF ?_
   refine o_split (ht := fun c44 => ?_) (hf := fun c44 => ?_)
   · replace hF := bt c44 hF
     iterate 2 (refine o_sk rfl rfl ?_)
     refine oy hS y_pickT <| n_thenN ?_
     refine c_if_true (h := ?_)
     refine c_seq <| c_region ?_
     iterate 2 (refine oy hS y_assign ?_)
     refine n_thenN ?_
     obtain rfl := osi hF
     obtain rfl : _ = r := K2
     refine wp_ret (r_ret (vs := [(.slice none 0 0), .int .i64 1]) (hS.re (.n)) (rsC res_tmp (rsC res_tmp rsN)) rfl ⟨_, _, rfl, (by first | rfl | simp only [aa, ac, al, an]), (OwT.nil _ _ _)⟩)
   replace hF := bf c44 hF
   refine o_gu rfl rfl rfl <| oy hS y_move <| o_gu rfl rfl rfl <| oy hS y_bin <| oy hS y_pickF <| n_thenN ?_
   refine c_if (ht := fun c46 => ?_) (hf := fun c46 => ?_)
   · replace hF := bt c46 hF
     refine c_seq <| c_region ?_
     iterate 2 (refine oy hS y_assign ?_)
     refine n_thenN ?_
     obtain rfl := osi hF
     obtain rfl : _ = r := K2
     refine wp_ret (r_ret (vs := [(.slice none 0 0), .int .i64 1]) (hS.re (.n)) (rsC res_tmp (rsC res_tmp rsN)) rfl ⟨_, _, rfl, (by first | rfl | simp only [aa, ac, al, an]), (OwT.nil _ _ _)⟩)
   replace hF := bf c46 hF
   refine wp_skip ?_
   obtain rfl := osi hF
   change _ ∧ _
   exact ⟨K2, mk_exF, (hS.re (.b (.e (.d (.d (.d (.d (.d (.d .hb))))))) (.b .hb (.t .h (.t .h (.t .h (.t .h (.t .h (.t .h .n)))))))))⟩
 rintro a w ⟨hF, ⟨s48, rfl⟩, hS⟩
 dsimp only [bench_Trace_k1] at hF
 refine c_seq <| c_region <| oy hS y_assign <| n_thenN ?_
 iterate 2 (refine c_seq ?_)
 refine c_region ?_
 iterate 2 (refine oy hS y_move ?_)
 refine n_thenN <| c_block ?_
 refine c_loopP hF (fun (q : ((List Int) × Int × (List Int) × (List Int) × (List Int) × Int × (List Int) × Int × (List Int) × Int × (List T_Write) × Int × Int)) a w' => ∃ (E1 : Value) (G1 : Value) (I1 : Value) (J1 : Value) (K1 : Value) (M1 : Value) (N1 : Value) (B0 : Own) (D0 : Own) (E0 : Own) (G0 : Own) (I0 : Own) (J0 : Own) (K0 : Own), OwT 3 enc_int 1 q.1 E1 B0 ∧ OwT 87 enc_uint32 1 q.2.2.1 G1 D0 ∧ OwT 87 enc_uint32 1 q.2.2.2.1 I1 E0 ∧ OwT 87 enc_uint32 1 q.2.2.2.2.1 J1 G0 ∧ OwT 87 enc_uint32 1 q.2.2.2.2.2.2.1 K1 I0 ∧ OwT 3 enc_int 1 q.2.2.2.2.2.2.2.2.1 M1 J0 ∧ OwT 89 enc_Write 3 q.2.2.2.2.2.2.2.2.2.2.1 N1 K0 ∧ (∃ s : Nat → Value, a = Ac ((((((Fm.dead 44 s).upd 3 (.pointer (some ⟨b1, 0, none⟩))).upd 8 (.pointer (some ⟨b33, 0, none⟩))).upd 10 E1).upd 27 (.int .i64 a1)).upd 28 (.int .i64 q.2.1))) ∧ St W g [] ((b1, blk (cl_Image Z0 B1 a0.Entry) 40) :: ((b33, blk (cl_State G1 I1 J1 q.2.2.2.2.2.1 K1 q.2.2.2.2.2.2.2.1 M1 q.2.2.2.2.2.2.2.2.2.1 N1 q.2.2.2.2.2.2.2.2.2.2.2.1 q.2.2.2.2.2.2.2.2.2.2.2.2) 62) :: (D0 ++ (E0 ++ (G0 ++ (I0 ++ (J0 ++ (K0 ++ (B0 ++ []))))))))) w') ⟨(.slice none 0 0), D1, N0, R0, T0, U0, V0, [], R1, T1, U1, V1, X1, Y1, (OwT.nil _ _ _), Z1, B2, D2, E2, G2, I2, mk_exF, (hS.re (.b .hb (.b .hb (.t .h (.t .h (.t .h (.t .h (.t .h (.t .h (.take (X := []) (.here [] _) .n))))))))))⟩ ?_
 clear hS hF
 intro X4 q a w hI hq
 obtain ⟨I4, Y4, V2, X2, Y2, M2, Z2, X0, B3, N2, D3, R2, T2⟩ := q
 obtain ⟨E1, G1, I1, J1, K1, M1, N1, B0, D0, E0, G0, I0, J0, K0, J2, E3, G3, I3, J3, K3, M3, ⟨Z4, rfl⟩, hS⟩ := hq
 replace J2 : OwT 3 enc_int 1 I4 E1 B0 := J2
 replace E3 : OwT 87 enc_uint32 1 V2 G1 D0 := E3
 replace G3 : OwT 87 enc_uint32 1 X2 I1 E0 := G3
 replace I3 : OwT 87 enc_uint32 1 Y2 J1 G0 := I3
 replace J3 : OwT 87 enc_uint32 1 Z2 K1 I0 := J3
 replace K3 : OwT 3 enc_int 1 B3 M1 J0 := K3
 replace M3 : OwT 89 enc_Write 3 D3 N1 K0 := M3
 obtain ⟨B5, hF, U2⟩ := iter_step hI
 clear hI
 dsimp only [bench_Trace_b2] at hF
 refine c_seq <| c_region <| oy hS y_bin <| n_thenN <| c_seq ?_
 refine c_if (ht := fun N3 => ?_) (hf := fun N3 => ?_)
 · replace hF := bt N3 hF
   refine wp_skip <| c_seq <| c_block ?_
   iterate 2 (refine c_seq ?_)
   refine c_region <| oy hS (y_field fa_api_State_7) <| oy hS (y_load (fun w hS => hS.own (mC (mH))) underlying3 rfl rfl) <| oy hS y_bin <| n_thenN ?_
   refine c_if (ht := fun R3 => ?_) (hf := fun R3 => ?_)
   · replace hF := bt R3 hF
     refine wp_exit ?_
     refine c_seq <| c_region <| oy hS y_move ?_
     iterate 2 (refine oy hS y_assign ?_)
     refine n_thenN ?_
     obtain rfl := osi hF
     obtain rfl : _ = r := U2
     refine wp_ret (r_ret (vs := [E1, .int .i64 0]) (hS.re (.t (.e (.e (.d (.d (.d (.d (.d (.d .h)))))))) .n)) (rsC res_tmp (rsC res_tmp rsN)) rfl ⟨_, _, rfl, (by first | rfl | simp only [aa, ac, al, an]), J2⟩)
   replace hF := bf R3 hF
   refine wp_skip <| c_seq <| c_region <| oy hS y_move <| oy hS (y_field fa_api_State_5) <| oy hS (y_load (fun w hS => hS.own (mC (mH))) underlying3 rfl rfl) ?_
   refine o_buildT val_int ([X0] : List Int) hS el_int (fun _ => rfl) enc_len_int (by decide) rfl (by decide) (hp := rfl) (h := ?_)
   clear hS; intro J4 w hS D5
   have hS : St W g [] ([(J4, blk (([X0] : List Int).flatMap enc_int) 3)] ++ ((b1, blk (cl_Image Z0 B1 a0.Entry) 40) :: ((b33, blk (cl_State G1 I1 J1 M2 K1 X0 M1 N2 N1 R2 T2) 62) :: (D0 ++ (E0 ++ (G0 ++ (I0 ++ (J0 ++ (K0 ++ (B0 ++ [])))))))))) w := hS
   obtain ⟨N4, U3, hF⟩ := ob hF
   have hS := hS.re (.t .h (.t (.e (.e (.d (.d (.d (.d (.d (.d .h)))))))) (.b .hb (.b .hb (.t .h (.t .h (.t .h (.t .h (.t .h (.t .h .n))))))))))
   refine o_appPn (ys := ([X0] : List Int)) (LX := B0) U3 hS el_int J2 rfl enc_len_int (enc_ones_int _) (by decide) ?_
   clear hS; intro K4 X3 w M4 hS
   refine oy hS y_assign <| n_thenN <| c_seq <| c_region ?_
   have hS := hS.re (.b (.d (.e .hb)) (.t (.d (.e .h)) (.t (.d (.e .h)) (.t (.d (.e .h)) (.t (.d (.e .h)) (.t (.d (.e .h)) (.t (.d (.e .h)) (.t .h (.b .hb .n)))))))))
   have hS2 := hS.spl (.cons _ (.app _ (.app _ (.app _ (.app _ (.app _ (.app _ (.nil _))))))))
   obtain ⟨Y0, Y3, hF⟩ := ob hF
   refine o_call hS2 func17 rfl rfl (hc := (w_pipe_Land (a0 := (⟨V2, X2, Y2, M2, Z2, X0, B3, N2, D3, R2, T2⟩ : T_State)) (h0 := (⟨_, _, _, _, _, _, _, _, _, _, _, _, rfl, E3, G3, I3, J3, K3, M3⟩ : Bx_State b33 (⟨V2, X2, Y2, M2, Z2, X0, B3, N2, D3, R2, T2⟩ : T_State) ((b33, blk (cl_State G1 I1 J1 M2 K1 X0 M1 N2 N1 R2 T2) 62) :: (D0 ++ (E0 ++ (G0 ++ (I0 ++ (J0 ++ (K0 ++ []))))))))) (hF := Y3))) (h := ?_)
   clear hS; intro E5 R4 w hS Z3
   clear hS2
   obtain ⟨T4, rfl, rfl, B4⟩ := Z3
   obtain ⟨vB_0_254, vB_1_258, vB_2_262, vB_4_266, vB_6_270, vB_8_274, LXB_0_255, LXB_1_259, LXB_2_263, LXB_4_267, LXB_6_271, LXB_8_275, rfl, hB_0_256, hB_1_260, hB_2_264, hB_4_268, hB_6_272, hB_8_276⟩ := B4
   simp only [aa, ac, al] at hS
   refine n_thenN <| c_region <| oy hS (y_field fa_api_Image_0) <| oy hS (y_load (fun w hS => hS.own (mC (mB (mB (mB (mB (mB (mB (mB (mH)))))))))) underlying38 rfl rfl) ?_
   have hS2 := hS.spl (.cons _ (.app _ (.app _ (.app _ (.app _ (.app _ (.app _ (.nil _))))))))
   obtain ⟨G5, D4, hF⟩ := ob hF
   refine o_call hS2 func18 rfl rfl (hc := (w_pipe_Go (a0 := a0.Code) (a1 := Y0) (h0 := T3.plus) (h1 := (⟨_, _, _, _, _, _, _, _, _, _, _, _, rfl, hB_0_256, hB_1_260, hB_2_264, hB_4_268, hB_6_272, hB_8_276⟩ : Bx_State b33 Y0 ((b33, blk (cl_State vB_0_254 vB_1_258 vB_2_262 Y0.Taken vB_4_266 Y0.PC vB_6_270 Y0.Stop vB_8_274 Y0.Jump Y0.Delay) 62) :: (LXB_0_255 ++ (LXB_1_259 ++ (LXB_2_263 ++ (LXB_4_267 ++ (LXB_6_271 ++ (LXB_8_275 ++ []))))))))) (hF := D4))) (h := ?_)
   clear hS; intro I5 U4 w hS E4
   clear hS2
   obtain ⟨V4, rfl, rfl, G4⟩ := E4
   obtain ⟨vB_0_284, vB_1_288, vB_2_292, vB_4_296, vB_6_300, vB_8_304, LXB_0_285, LXB_1_289, LXB_2_293, LXB_4_297, LXB_6_301, LXB_8_305, rfl, hB_0_286, hB_1_290, hB_2_294, hB_4_298, hB_6_302, hB_8_306⟩ := G4
   simp only [aa, ac, al] at hS
   refine n_anyN ?_
   refine c_region <| oy hS y_bin <| oy hS y_move <| n_thenN ?_
   obtain rfl := osi hF
   exact ⟨_, U2, K4, vB_0_284, vB_1_288, vB_2_292, vB_4_296, vB_6_300, vB_8_304, X3, LXB_0_285, LXB_1_289, LXB_2_293, LXB_4_297, LXB_6_301, LXB_8_305, M4, hB_0_286, hB_1_290, hB_2_294, hB_4_298, hB_6_302, hB_8_306, mk_exF, (hS.re (.b (.e (.d (.d (.d (.d (.d (.d (.d .hb)))))))) (.b .hb (.t .h (.t .h (.t .h (.t .h (.t .h (.t .h (.t .h .n))))))))))⟩
 replace hF := bf N3 hF
 refine wp_exit ?_
 refine c_seq <| c_region <| oy hS y_move ?_
 iterate 2 (refine oy hS y_assign ?_)
 refine n_thenN ?_
 obtain rfl := osi hF
 obtain rfl : _ = r := U2
 refine wp_ret (r_ret (vs := [E1, .int .i64 0]) (hS.re (.t (.e (.e (.d (.d (.d (.d (.d (.d .h)))))))) .n)) (rsC res_tmp (rsC res_tmp rsN)) rfl ⟨_, _, rfl, (by first | rfl | simp only [aa, ac, al, an]), J2⟩)
theorem w_bench_Trace {g : Frag} {a0 : T_Image} {v0_ : Value} {a1 : Int} {a2 : (List Int)} {v2_ : Value} {r : ((List Int) × Int)} (h0 : Rd_Image g a0 v0_) (h2 : SlT g enc_uint32 1 a2 v2_) (hF : bench_Trace a0 a1 a2 = some r) : LC Tryz.prog 5 #[v0_, .int .i64 a1, v2_] g [] (fun v L => ∃ (u0 : Value) (M0 : Own), v = .tuple #[u0, .int .i64 r.2] ∧ L = (M0 ++ []) ∧ OwT 3 enc_int 1 r.1 u0 M0) := w_bench_Trace_ h0 h2 hF

def l23_num (a0 : Int) : Int :=
  a0
theorem w_l23_num_ {g : Frag} {a0 : Int} {r : Int}  (hF : l23_num a0 = r) : LCs Tryz.prog 9 #[.int .i64 a0] g (.int .i64 r) := by
 unfold l23_num at hF
 refine lc_body (k := 4) (av := [.int .i64 a0]) func9 rfl rfl (h := fun W hS => ?_)
 refine c_seq <| c_region <| oy hS y_assign <| n_thenN <| c_seq <| c_region <| oy hS y_move <| oy hS y_assign ?_
 refine n_thenN ?_
 subst hF
 exact wp_ret (wr1 hS)
theorem w_l23_num {g : Frag} {a0 : Int}  : LCs Tryz.prog 9 #[.int .i64 a0] g (.int .i64 (l23_num a0)) := w_l23_num_  rfl

noncomputable def l23_wakes  : Option Bool :=
  (bench_Compare (⟨([(⟨(⟨33, 0, 0, 0, 0, ByteArray.empty⟩ : T_Ins), (⟨0, 0, 0, 0, 0, ByteArray.empty⟩ : T_Ins), (⟨0, 0, 0, 0, 0, ByteArray.empty⟩ : T_Ins), (⟨0, 0, 0, 0, 0, ByteArray.empty⟩ : T_Ins)⟩ : (A4 T_Ins))] : List (A4 T_Ins)), [], 0⟩ : T_Image) (⟨([(⟨33, 0, 0, 0, 0, ByteArray.empty⟩ : T_Ins)] : List T_Ins), [], 0⟩ : T_Flat) 5 ([])).bind fun r8 => (bench_Trace (⟨([(⟨(⟨33, 0, 0, 0, 0, ByteArray.empty⟩ : T_Ins), (⟨0, 0, 0, 0, 0, ByteArray.empty⟩ : T_Ins), (⟨0, 0, 0, 0, 0, ByteArray.empty⟩ : T_Ins), (⟨0, 0, 0, 0, 0, ByteArray.empty⟩ : T_Ins)⟩ : (A4 T_Ins))] : List (A4 T_Ins)), [], 0⟩ : T_Image) 5 ([])).bind fun r10 => bif decide ((l23_num r8.2) = 0) then bif decide ((l23_num r10.2) = 0) then bif r8.1.Same then bif decide (r8.1.Steps = 1) then bif decide (r8.1.Cycles = 1) then bif decide ((r10.1.length : Int) = 1) then (at' r10.1 0).bind fun x24 => some (decide (x24 = 0)) else some (false) else some (false) else some (false) else some (false) else some (false) else some (false)
theorem w_l23_wakes_ {g : Frag}  {r : Bool}  (hF : l23_wakes = some r) : LCs Tryz.prog 14 #[] g (.bool r) := by
 unfold l23_wakes at hF
 refine lc_body (k := 56) (av := []) func14 rfl rfl (h := fun W hS => ?_)
 refine c_seq <| c_region <| oy hS y_assign <| n_thenN <| c_seq <| c_region ?_
 refine oy hS (y_build (cl := (enc_Ins ⟨33, 0, 0, 0, 0, ByteArray.empty⟩)) bt_api_Ins rfl (by kernel_rfl)) ?_
 refine oy hS (y_buildA (cl := (enc_Bundle ⟨(⟨33, 0, 0, 0, 0, ByteArray.empty⟩ : T_Ins), (⟨0, 0, 0, 0, 0, ByteArray.empty⟩ : T_Ins), (⟨0, 0, 0, 0, 0, ByteArray.empty⟩ : T_Ins), (⟨0, 0, 0, 0, 0, ByteArray.empty⟩ : T_Ins)⟩)) bta_api_Bundle rfl (by kernel_rfl)) ?_
 refine o_buildT val_Bundle ([(⟨(⟨33, 0, 0, 0, 0, ByteArray.empty⟩ : T_Ins), (⟨0, 0, 0, 0, 0, ByteArray.empty⟩ : T_Ins), (⟨0, 0, 0, 0, 0, ByteArray.empty⟩ : T_Ins), (⟨0, 0, 0, 0, 0, ByteArray.empty⟩ : T_Ins)⟩ : (A4 T_Ins))] : List (A4 T_Ins)) hS el_api_Bundle (fun _ => rfl) enc_len_Bundle (by decide) rfl (by decide) (hp := rfl) (h := ?_)
 clear hS; intro b1 w hS h2
 have hS : St W g [] ([(b1, blk (([(⟨(⟨33, 0, 0, 0, 0, ByteArray.empty⟩ : T_Ins), (⟨0, 0, 0, 0, 0, ByteArray.empty⟩ : T_Ins), (⟨0, 0, 0, 0, 0, ByteArray.empty⟩ : T_Ins), (⟨0, 0, 0, 0, 0, ByteArray.empty⟩ : T_Ins)⟩ : (A4 T_Ins))] : List (A4 T_Ins)).flatMap enc_Bundle) 83)] ++ []) w := hS
 refine oy hS (y_build (cl := (cl_Image (.slice (some ⟨b1, 0, none⟩) 1 1) (.slice none 0 0) 0)) bt_api_Image rfl (fillS (vs := [(.slice (some ⟨b1, 0, none⟩) 1 1)]) rfl (h2).cell rfl rfl fillN)) ?_
 refine o_allocP (cl := (cl_Image (.slice none 0 0) (.slice none 0 0) 0)) zr_api_Image rfl hS ?_
 clear hS; intro b4 w hS
 refine o_storeW (vs := (cl_Image (.slice (some ⟨b1, 0, none⟩) 1 1) (.slice none 0 0) 0)) hS (by exact rfl) (Upd.here _) (by exact sz_api_Image) (one_Image (h2).one rfl) ?_
 clear hS; intro w hS
 refine n_thenN <| c_seq <| c_region ?_
 refine oy hS (y_loadW oH underlying40 rfl (by exact sz_api_Image)) ?_
 refine oy hS (y_build (cl := (enc_Ins ⟨33, 0, 0, 0, 0, ByteArray.empty⟩)) bt_api_Ins rfl (by kernel_rfl)) ?_
 refine o_buildT val_Ins ([(⟨33, 0, 0, 0, 0, ByteArray.empty⟩ : T_Ins)] : List T_Ins) hS el_api_Ins (fun _ => rfl) enc_len_Ins (by decide) rfl (by decide) (hp := rfl) (h := ?_)
 clear hS; intro b5 w hS h6
 have hS : St W g [] ([(b5, blk (([(⟨33, 0, 0, 0, 0, ByteArray.empty⟩ : T_Ins)] : List T_Ins).flatMap enc_Ins) 81)] ++ ((b4, blk (cl_Image (.slice (some ⟨b1, 0, none⟩) 1 1) (.slice none 0 0) 0) 40) :: ([(b1, blk (([(⟨(⟨33, 0, 0, 0, 0, ByteArray.empty⟩ : T_Ins), (⟨0, 0, 0, 0, 0, ByteArray.empty⟩ : T_Ins), (⟨0, 0, 0, 0, 0, ByteArray.empty⟩ : T_Ins), (⟨0, 0, 0, 0, 0, ByteArray.empty⟩ : T_Ins)⟩ : (A4 T_Ins))] : List (A4 T_Ins)).flatMap enc_Bundle) 83)] ++ []))) w := hS
 refine oy hS (y_build (cl := (cl_Flat (.slice (some ⟨b5, 0, none⟩) 1 1) (.slice none 0 0) 0)) bt_api_Flat rfl (fillS (vs := [(.slice (some ⟨b5, 0, none⟩) 1 1)]) rfl (h6).cell rfl rfl fillN)) ?_
 obtain ⟨r8, hr8, hF⟩ := ob hF
 refine o_callS hS func11 rfl rfl (hc := (w_bench_Compare (a0 := (⟨([(⟨(⟨33, 0, 0, 0, 0, ByteArray.empty⟩ : T_Ins), (⟨0, 0, 0, 0, 0, ByteArray.empty⟩ : T_Ins), (⟨0, 0, 0, 0, 0, ByteArray.empty⟩ : T_Ins), (⟨0, 0, 0, 0, 0, ByteArray.empty⟩ : T_Ins)⟩ : (A4 T_Ins))] : List (A4 T_Ins)), [], 0⟩ : T_Image)) (a1 := (⟨([(⟨33, 0, 0, 0, 0, ByteArray.empty⟩ : T_Ins)] : List T_Ins), [], 0⟩ : T_Flat)) (a2 := 5) (a3 := ([])) (h0 := ⟨_, _, rfl, (OwT.plus h2 hS (fun p hp => mB (mC (mA (hp))))), (SlR.nil _ _)⟩) (h1 := ⟨_, _, rfl, (OwT.plus h6 hS (fun p hp => mA (hp))), (SlR.nil _ _)⟩) (h3 := (SlR.nil _ _)) (hF := hr8))) (h := ?_)
 clear hS; intro w hS
 refine oy hS y_move ?_
 iterate 2 (refine oy hS (y_extract rfl) ?_)
 refine o_allocP (cl := (enc_Verdict ⟨0, 0, 0, 0, false, false⟩)) zr_api_Verdict rfl hS ?_
 clear hS; intro b9 w hS
 refine o_storeW (vs := (enc_Verdict r8.1)) hS (by exact rfl) (Upd.here _) (by exact sz_api_Verdict) (enc_one_Verdict _) ?_
 clear hS; intro w hS
 refine oy hS y_assign <| n_thenN <| c_seq <| c_region ?_
 refine oy hS (y_loadW (fun w hS => hS.own (mC (mB (mH)))) underlying40 rfl (by exact sz_api_Image)) ?_
 obtain ⟨r10, B0, hF⟩ := ob hF
 refine o_call0 hS func5 rfl rfl (hc := (w_bench_Trace (a0 := (⟨([(⟨(⟨33, 0, 0, 0, 0, ByteArray.empty⟩ : T_Ins), (⟨0, 0, 0, 0, 0, ByteArray.empty⟩ : T_Ins), (⟨0, 0, 0, 0, 0, ByteArray.empty⟩ : T_Ins), (⟨0, 0, 0, 0, 0, ByteArray.empty⟩ : T_Ins)⟩ : (A4 T_Ins))] : List (A4 T_Ins)), [], 0⟩ : T_Image)) (a1 := 5) (a2 := ([])) (h0 := ⟨_, _, rfl, (OwT.plus h2 hS (fun p hp => mC (mB (mC (mA (hp)))))), (SlR.nil _ _)⟩) (h2 := (SlR.nil _ _)) (hF := B0))) (h := ?_)
 clear hS; intro v11 N0 w hS D0
 obtain ⟨v_0_14, LX_0_15, rfl, rfl, h_0_16⟩ := D0
 simp only [aa, ac, al] at hS
 have hS : St W g [] (LX_0_15 ++ ((b9, blk (enc_Verdict r8.1) 50) :: ([(b5, blk (([(⟨33, 0, 0, 0, 0, ByteArray.empty⟩ : T_Ins)] : List T_Ins).flatMap enc_Ins) 81)] ++ ((b4, blk (cl_Image (.slice (some ⟨b1, 0, none⟩) 1 1) (.slice none 0 0) 0) 40) :: ([(b1, blk (([(⟨(⟨33, 0, 0, 0, 0, ByteArray.empty⟩ : T_Ins), (⟨0, 0, 0, 0, 0, ByteArray.empty⟩ : T_Ins), (⟨0, 0, 0, 0, 0, ByteArray.empty⟩ : T_Ins), (⟨0, 0, 0, 0, 0, ByteArray.empty⟩ : T_Ins)⟩ : (A4 T_Ins))] : List (A4 T_Ins)).flatMap enc_Bundle) 83)] ++ []))))) w := hS
 refine oy hS y_move ?_
 iterate 2 (refine oy hS (y_extract rfl) ?_)
 iterate 2 (refine oy hS y_assign ?_)
 refine n_thenN <| c_seq <| c_region <| oy hS y_move ?_
 refine o_callS hS func9 rfl rfl (hc := (w_l23_num (a0 := r8.2))) (h := ?_)
 clear hS; intro w hS
 refine oy hS y_bin ?_
 refine o_split (ht := fun c18 => ?_) (hf := fun c18 => ?_)
 · replace hF := bt c18 hF
   refine o_gu rfl rfl rfl <| oy hS y_move <| o_gu rfl rfl rfl ?_
   refine o_callS hS func9 rfl rfl (hc := (w_l23_num (a0 := r10.2))) (h := ?_)
   clear hS; intro w hS
   refine o_gu rfl rfl rfl <| oy hS y_bin <| oy hS y_pickT ?_
   refine o_split (ht := fun c19 => ?_) (hf := fun c19 => ?_)
   · replace hF := bt c19 hF
     refine o_gu rfl rfl rfl <| oy hS (y_field fa_api_Verdict_4) <| o_gu rfl rfl rfl <| oy hS (y_load (fun w hS => hS.own (mB (mH))) underlying4 rfl rfl) <| oy hS y_pickT ?_
     refine o_split (ht := fun c20 => ?_) (hf := fun c20 => ?_)
     · replace hF := bt c20 hF
       refine o_gu rfl rfl rfl <| oy hS (y_field fa_api_Verdict_0) <| o_gu rfl rfl rfl <| oy hS (y_load (fun w hS => hS.own (mB (mH))) underlying3 rfl rfl) <| o_gu rfl rfl rfl <| oy hS y_bin <| oy hS y_pickT ?_
       refine o_split (ht := fun c21 => ?_) (hf := fun c21 => ?_)
       · replace hF := bt c21 hF
         refine o_gu rfl rfl rfl <| oy hS (y_field fa_api_Verdict_1) <| o_gu rfl rfl rfl <| oy hS (y_load (fun w hS => hS.own (mB (mH))) underlying3 rfl rfl) <| o_gu rfl rfl rfl <| oy hS y_bin <| oy hS y_pickT ?_
         refine o_split (ht := fun c22 => ?_) (hf := fun c22 => ?_)
         · replace hF := bt c22 hF
           refine o_gu rfl rfl rfl <| oy hS y_move <| o_gu rfl rfl rfl <| oy hS (y_lenO h_0_16 underlying37) <| o_gu rfl rfl rfl <| oy hS y_bin <| oy hS y_pickT ?_
           refine o_split (ht := fun c23 => ?_) (hf := fun c23 => ?_)
           · replace hF := bt c23 hF
             refine o_gu rfl rfl rfl <| oy hS y_move <| o_gu rfl rfl rfl ?_
             obtain ⟨x24, E0, hF⟩ := ob hF
             obtain ⟨b25, c26, R0, G0, I0, J0, K0, M0⟩ := OwT.at E0 h_0_16 enc_len_int
             refine oy hS (y_index G0 I0 J0 underlying37 el_int.size) <| o_gu rfl rfl rfl <| oy hS (y_load (fun w hS => hS.own (mA (mX K0))) underlying3 rfl (M0 0 _ rfl)) <| o_gu rfl rfl rfl <| oy hS y_bin <| oy hS y_pickT <| oy hS y_assign <| n_thenN ?_
             obtain rfl := osi hF
             exact wp_ret (wr1 hS)
           replace hF := bf c23 hF
           iterate 4 (refine o_sk rfl rfl ?_)
           refine oy hS y_pickF <| oy hS y_assign <| n_thenN ?_
           obtain rfl := osi hF
           exact wp_ret (wr1 hS)
         replace hF := bf c22 hF
         iterate 3 (refine o_sk rfl rfl ?_)
         refine oy hS y_pickF <| oy hS y_move ?_
         iterate 4 (refine o_sk rfl rfl ?_)
         refine oy hS y_pickF <| oy hS y_assign <| n_thenN ?_
         obtain rfl := osi hF
         exact wp_ret (wr1 hS)
       replace hF := bf c21 hF
       iterate 3 (refine o_sk rfl rfl ?_)
       refine oy hS y_pickF <| oy hS y_move ?_
       iterate 3 (refine o_sk rfl rfl ?_)
       refine oy hS y_pickF <| oy hS y_move ?_
       iterate 4 (refine o_sk rfl rfl ?_)
       refine oy hS y_pickF <| oy hS y_assign <| n_thenN ?_
       obtain rfl := osi hF
       exact wp_ret (wr1 hS)
     replace hF := bf c20 hF
     iterate 3 (refine o_sk rfl rfl ?_)
     refine oy hS y_pickF <| oy hS y_move ?_
     iterate 3 (refine o_sk rfl rfl ?_)
     refine oy hS y_pickF <| oy hS y_move ?_
     iterate 3 (refine o_sk rfl rfl ?_)
     refine oy hS y_pickF <| oy hS y_move ?_
     iterate 4 (refine o_sk rfl rfl ?_)
     refine oy hS y_pickF <| oy hS y_assign <| n_thenN ?_
     obtain rfl := osi hF
     exact wp_ret (wr1 hS)
   replace hF := bf c19 hF
   iterate 2 (refine o_sk rfl rfl ?_)
   refine oy hS y_pickF <| oy hS y_move ?_
   iterate 3 (refine o_sk rfl rfl ?_)
   refine oy hS y_pickF <| oy hS y_move ?_
   iterate 3 (refine o_sk rfl rfl ?_)
   refine oy hS y_pickF <| oy hS y_move ?_
   iterate 3 (refine o_sk rfl rfl ?_)
   refine oy hS y_pickF <| oy hS y_move ?_
   iterate 4 (refine o_sk rfl rfl ?_)
   refine oy hS y_pickF <| oy hS y_assign <| n_thenN ?_
   obtain rfl := osi hF
   exact wp_ret (wr1 hS)
 replace hF := bf c18 hF
 iterate 3 (refine o_sk rfl rfl ?_)
 refine oy hS y_pickF <| oy hS y_move ?_
 iterate 2 (refine o_sk rfl rfl ?_)
 refine oy hS y_pickF <| oy hS y_move ?_
 iterate 3 (refine o_sk rfl rfl ?_)
 refine oy hS y_pickF <| oy hS y_move ?_
 iterate 3 (refine o_sk rfl rfl ?_)
 refine oy hS y_pickF <| oy hS y_move ?_
 iterate 3 (refine o_sk rfl rfl ?_)
 refine oy hS y_pickF <| oy hS y_move ?_
 iterate 4 (refine o_sk rfl rfl ?_)
 refine oy hS y_pickF <| oy hS y_assign <| n_thenN ?_
 obtain rfl := osi hF
 exact wp_ret (wr1 hS)
theorem w_l23_wakes {g : Frag}  {r : Bool}  (hF : l23_wakes = some r) : LCs Tryz.prog 14 #[] g (.bool r) := w_l23_wakes_  hF

def r0_Between (a0 : Int) (a1 : Int) (a2 : Int) : Bool :=
  bif decide (a1 ≤ a0) then decide (a0 ≤ a2) else false
theorem w_r0_Between_ {g : Frag} {a0 : Int} {a1 : Int} {a2 : Int} {r : Bool}  (hF : r0_Between a0 a1 a2 = r) : LCs Tryz.prog 109 #[.int .i64 a0, .int .i64 a1, .int .i64 a2] g (.bool r) := by
 unfold r0_Between at hF
 refine lc_body (k := 15) (av := [.int .i64 a0, .int .i64 a1, .int .i64 a2]) func109 rfl rfl (h := fun W hS => ?_)
 refine c_seq <| c_region <| oy hS y_assign <| n_thenN <| c_seq <| c_region ?_
 iterate 2 (refine oy hS y_move ?_)
 refine oy hS y_bin ?_
 refine o_split (ht := fun c1 => ?_) (hf := fun c1 => ?_)
 · replace hF := bt c1 hF
   refine o_gu rfl rfl rfl <| oy hS y_move <| o_gu rfl rfl rfl <| oy hS y_move <| o_gu rfl rfl rfl <| oy hS y_bin <| oy hS y_pickT <| oy hS y_assign ?_
   refine n_thenN ?_
   subst hF
   exact wp_ret (wr1 hS)
 replace hF := bf c1 hF
 iterate 3 (refine o_sk rfl rfl ?_)
 refine oy hS y_pickF <| oy hS y_assign <| n_thenN ?_
 subst hF
 exact wp_ret (wr1 hS)
theorem w_r0_Between {g : Frag} {a0 : Int} {a1 : Int} {a2 : Int}  : LCs Tryz.prog 109 #[.int .i64 a0, .int .i64 a1, .int .i64 a2] g (.bool (r0_Between a0 a1 a2)) := w_r0_Between_  rfl

def r3_Valid (a0 : Int) : Bool :=
  (r0_Between a0 0 33)
theorem w_r3_Valid_ {g : Frag} {a0 : Int} {r : Bool}  (hF : r3_Valid a0 = r) : LCs Tryz.prog 86 #[.int .i64 a0] g (.bool r) := by
 unfold r3_Valid at hF
 refine lc_body (k := 5) (av := [.int .i64 a0]) func86 rfl rfl (h := fun W hS => ?_)
 refine c_seq <| c_region <| oy hS y_assign <| n_thenN <| c_seq <| c_region <| oy hS y_move ?_
 refine o_callS hS func109 rfl rfl (hc := (w_r0_Between (a0 := a0) (a1 := 0) (a2 := 33))) (h := ?_)
 clear hS; intro w hS
 refine oy hS y_assign <| n_thenN ?_
 subst hF
 exact wp_ret (wr1 hS)
theorem w_r3_Valid {g : Frag} {a0 : Int}  : LCs Tryz.prog 86 #[.int .i64 a0] g (.bool (r3_Valid a0)) := w_r3_Valid_  rfl

noncomputable def r3_Form (a0 : Int) : Option Int :=
  (at' ([0, 1, 1, 1, 1, 1, 1, 1, 1, 1, 1, 1, 1, 1, 1, 1, 1, 1, 1, 1, 1, 2, 3, 4, 3, 5, 6, 7, 8, 9, 9, 8, 0, 0] : List Int) a0).bind fun x4 => some (x4)
theorem w_r3_Form_ {g : Frag} {a0 : Int} {r : Int}  (hF : r3_Form a0 = some r) : LCs Tryz.prog 87 #[.int .i64 a0] g (.int .i64 r) := by
 unfold r3_Form at hF
 refine lc_body (k := 7) (av := [.int .i64 a0]) func87 rfl rfl (h := fun W hS => ?_)
 refine c_seq <| c_region <| oy hS y_assign <| n_thenN <| c_seq <| c_region ?_
 refine o_buildT val_int ([0, 1, 1, 1, 1, 1, 1, 1, 1, 1, 1, 1, 1, 1, 1, 1, 1, 1, 1, 1, 1, 2, 3, 4, 3, 5, 6, 7, 8, 9, 9, 8, 0, 0] : List Int) hS el_int (fun _ => rfl) enc_len_int (by decide) rfl (by decide) (hp := rfl) (h := ?_)
 clear hS; intro b1 w hS h2
 have hS : St W g [] ([(b1, blk (([0, 1, 1, 1, 1, 1, 1, 1, 1, 1, 1, 1, 1, 1, 1, 1, 1, 1, 1, 1, 1, 2, 3, 4, 3, 5, 6, 7, 8, 9, 9, 8, 0, 0] : List Int).flatMap enc_int) 3)] ++ []) w := hS
 refine oy hS y_move ?_
 obtain ⟨x4, hx4, hF⟩ := ob hF
 obtain ⟨b5, c6, cl7, hv8, ha9, B0, D0, E0⟩ := OwT.at hx4 h2 enc_len_int
 refine oy hS (y_index hv8 ha9 B0 underlying37 el_int.size) <| oy hS (y_load (fun w hS => hS.own (mA (mX D0))) underlying3 rfl (E0 0 _ rfl)) <| oy hS y_assign <| n_thenN ?_
 obtain rfl := osi hF
 exact wp_ret (wr1 hS)
theorem w_r3_Form {g : Frag} {a0 : Int} {r : Int}  (hF : r3_Form a0 = some r) : LCs Tryz.prog 87 #[.int .i64 a0] g (.int .i64 r) := w_r3_Form_  hF

def r3_HasD (a0 : Int) : Bool :=
  bif (r0_Between a0 1 4) then true else decide (a0 = 6)
theorem w_r3_HasD_ {g : Frag} {a0 : Int} {r : Bool}  (hF : r3_HasD a0 = r) : LCs Tryz.prog 89 #[.int .i64 a0] g (.bool r) := by
 unfold r3_HasD at hF
 refine lc_body (k := 9) (av := [.int .i64 a0]) func89 rfl rfl (h := fun W hS => ?_)
 refine c_seq <| c_region <| oy hS y_assign <| n_thenN <| c_seq <| c_region <| oy hS y_move ?_
 refine o_callS hS func109 rfl rfl (hc := (w_r0_Between (a0 := a0) (a1 := 1) (a2 := 4))) (h := ?_)
 clear hS; intro w hS
 refine o_split (ht := fun c1 => ?_) (hf := fun c1 => ?_)
 · replace hF := bt c1 hF
   iterate 2 (refine o_sk rfl rfl ?_)
   refine oy hS y_pickT <| oy hS y_assign <| n_thenN ?_
   subst hF
   exact wp_ret (wr1 hS)
 replace hF := bf c1 hF
 refine o_gu rfl rfl rfl <| oy hS y_move <| o_gu rfl rfl rfl <| oy hS y_bin <| oy hS y_pickF <| oy hS y_assign <| n_thenN ?_
 subst hF
 exact wp_ret (wr1 hS)
theorem w_r3_HasD {g : Frag} {a0 : Int}  : LCs Tryz.prog 89 #[.int .i64 a0] g (.bool (r3_HasD a0)) := w_r3_HasD_  rfl

def r0_Num (a0 : Int) (a1 : Int) : Bool :=
  bif decide (0 ≤ a0) then decide (a0 ≤ a1) else false
theorem w_r0_Num_ {g : Frag} {a0 : Int} {a1 : Int} {r : Bool}  (hF : r0_Num a0 a1 = r) : LCs Tryz.prog 7 #[.int .i64 a0, .int .i64 a1] g (.bool r) := by
 unfold r0_Num at hF
 refine lc_body (k := 12) (av := [.int .i64 a0, .int .i64 a1]) func7 rfl rfl (h := fun W hS => ?_)
 refine c_seq <| c_region <| oy hS y_assign <| n_thenN <| c_seq <| c_region <| oy hS y_move <| oy hS y_bin ?_
 refine o_split (ht := fun c1 => ?_) (hf := fun c1 => ?_)
 · replace hF := bt c1 hF
   refine o_gu rfl rfl rfl <| oy hS y_move <| o_gu rfl rfl rfl <| oy hS y_move <| o_gu rfl rfl rfl <| oy hS y_bin <| oy hS y_pickT <| oy hS y_assign ?_
   refine n_thenN ?_
   subst hF
   exact wp_ret (wr1 hS)
 replace hF := bf c1 hF
 iterate 3 (refine o_sk rfl rfl ?_)
 refine oy hS y_pickF <| oy hS y_assign <| n_thenN ?_
 subst hF
 exact wp_ret (wr1 hS)
theorem w_r0_Num {g : Frag} {a0 : Int} {a1 : Int}  : LCs Tryz.prog 7 #[.int .i64 a0, .int .i64 a1] g (.bool (r0_Num a0 a1)) := w_r0_Num_  rfl

def r3_reg (a0 : Int) (a1 : Bool) : Bool :=
  bif a1 then (r0_Num a0 15) else decide (a0 = 0)
theorem w_r3_reg_ {g : Frag} {a0 : Int} {a1 : Bool} {r : Bool}  (hF : r3_reg a0 a1 = r) : LCs Tryz.prog 88 #[.int .i64 a0, .bool a1] g (.bool r) := by
 unfold r3_reg at hF
 refine lc_body (k := 10) (av := [.int .i64 a0, .bool a1]) func88 rfl rfl (h := fun W hS => ?_)
 refine c_seq <| c_region <| oy hS y_assign <| n_thenN ?_
 iterate 2 (refine c_seq ?_)
 refine c_region <| oy hS y_move <| n_thenN ?_
 refine c_if (ht := fun c1 => ?_) (hf := fun c1 => ?_)
 · replace hF := bt c1 hF
   refine c_seq <| c_region <| oy hS y_move ?_
   refine o_callS hS func7 rfl rfl (hc := (w_r0_Num (a0 := a0) (a1 := 15))) (h := ?_)
   clear hS; intro w hS
   refine oy hS y_assign <| n_thenN ?_
   subst hF
   exact wp_ret (wr1 hS)
 replace hF := bf c1 hF
 refine wp_skip <| c_seq <| c_region <| oy hS y_move <| oy hS y_bin <| oy hS y_assign <| n_thenN ?_
 subst hF
 exact wp_ret (wr1 hS)
theorem w_r3_reg {g : Frag} {a0 : Int} {a1 : Bool}  : LCs Tryz.prog 88 #[.int .i64 a0, .bool a1] g (.bool (r3_reg a0 a1)) := w_r3_reg_  rfl

def r3_HasA (a0 : Int) : Bool :=
  bif (r0_Between a0 1 3) then true else bif decide (a0 = 5) then true else bif decide (a0 = 7) then true else decide (a0 = 9)
theorem w_r3_HasA_ {g : Frag} {a0 : Int} {r : Bool}  (hF : r3_HasA a0 = r) : LCs Tryz.prog 90 #[.int .i64 a0] g (.bool r) := by
 unfold r3_HasA at hF
 refine lc_body (k := 17) (av := [.int .i64 a0]) func90 rfl rfl (h := fun W hS => ?_)
 refine c_seq <| c_region <| oy hS y_assign <| n_thenN <| c_seq <| c_region <| oy hS y_move ?_
 refine o_callS hS func109 rfl rfl (hc := (w_r0_Between (a0 := a0) (a1 := 1) (a2 := 3))) (h := ?_)
 clear hS; intro w hS
 refine o_split (ht := fun c1 => ?_) (hf := fun c1 => ?_)
 · replace hF := bt c1 hF
   iterate 2 (refine o_sk rfl rfl ?_)
   refine oy hS y_pickT <| oy hS y_move ?_
   iterate 2 (refine o_sk rfl rfl ?_)
   refine oy hS y_pickT <| oy hS y_move ?_
   iterate 2 (refine o_sk rfl rfl ?_)
   refine oy hS y_pickT <| oy hS y_assign <| n_thenN ?_
   subst hF
   exact wp_ret (wr1 hS)
 replace hF := bf c1 hF
 refine o_gu rfl rfl rfl <| oy hS y_move <| o_gu rfl rfl rfl <| oy hS y_bin <| oy hS y_pickF ?_
 refine o_split (ht := fun c2 => ?_) (hf := fun c2 => ?_)
 · replace hF := bt c2 hF
   iterate 2 (refine o_sk rfl rfl ?_)
   refine oy hS y_pickT <| oy hS y_move ?_
   iterate 2 (refine o_sk rfl rfl ?_)
   refine oy hS y_pickT <| oy hS y_assign <| n_thenN ?_
   subst hF
   exact wp_ret (wr1 hS)
 replace hF := bf c2 hF
 refine o_gu rfl rfl rfl <| oy hS y_move <| o_gu rfl rfl rfl <| oy hS y_bin <| oy hS y_pickF ?_
 refine o_split (ht := fun c3 => ?_) (hf := fun c3 => ?_)
 · replace hF := bt c3 hF
   iterate 2 (refine o_sk rfl rfl ?_)
   refine oy hS y_pickT <| oy hS y_assign <| n_thenN ?_
   subst hF
   exact wp_ret (wr1 hS)
 replace hF := bf c3 hF
 refine o_gu rfl rfl rfl <| oy hS y_move <| o_gu rfl rfl rfl <| oy hS y_bin <| oy hS y_pickF <| oy hS y_assign <| n_thenN ?_
 subst hF
 exact wp_ret (wr1 hS)
theorem w_r3_HasA {g : Frag} {a0 : Int}  : LCs Tryz.prog 90 #[.int .i64 a0] g (.bool (r3_HasA a0)) := w_r3_HasA_  rfl

def r3_HasB (a0 : Int) : Bool :=
  bif decide (a0 = 1) then true else decide (a0 = 5)
theorem w_r3_HasB_ {g : Frag} {a0 : Int} {r : Bool}  (hF : r3_HasB a0 = r) : LCs Tryz.prog 91 #[.int .i64 a0] g (.bool r) := by
 unfold r3_HasB at hF
 refine lc_body (k := 9) (av := [.int .i64 a0]) func91 rfl rfl (h := fun W hS => ?_)
 refine c_seq <| c_region <| oy hS y_assign <| n_thenN <| c_seq <| c_region <| oy hS y_move <| oy hS y_bin ?_
 refine o_split (ht := fun c1 => ?_) (hf := fun c1 => ?_)
 · replace hF := bt c1 hF
   iterate 2 (refine o_sk rfl rfl ?_)
   refine oy hS y_pickT <| oy hS y_assign <| n_thenN ?_
   subst hF
   exact wp_ret (wr1 hS)
 replace hF := bf c1 hF
 refine o_gu rfl rfl rfl <| oy hS y_move <| o_gu rfl rfl rfl <| oy hS y_bin <| oy hS y_pickF <| oy hS y_assign <| n_thenN ?_
 subst hF
 exact wp_ret (wr1 hS)
theorem w_r3_HasB {g : Frag} {a0 : Int}  : LCs Tryz.prog 91 #[.int .i64 a0] g (.bool (r3_HasB a0)) := w_r3_HasB_  rfl

noncomputable def r3_Name_b2 (a0 : ByteArray) : Int → Option (Step Int Bool) := fun x38 => bif decide (x38 < (a0.size : Int)) then (byte' a0 x38).bind fun x66 => bif decide (97 ≤ x66) then (byte' a0 x38).bind fun x68 => bif decide (x68 ≤ 122) then bif !true then some (.done (false)) else some (.next (IntKind.i64.wrap (x38 + 1))) else (byte' a0 x38).bind fun x71 => bif decide (x71 = 95) then bif !true then some (.done (false)) else some (.next (IntKind.i64.wrap (x38 + 1))) else (byte' a0 x38).bind fun x74 => bif decide (48 ≤ x74) then (byte' a0 x38).bind fun x76 => bif !(decide (x76 ≤ 57)) then some (.done (false)) else some (.next (IntKind.i64.wrap (x38 + 1))) else bif !false then some (.done (false)) else some (.next (IntKind.i64.wrap (x38 + 1))) else (byte' a0 x38).bind fun x79 => bif decide (x79 = 95) then bif !true then some (.done (false)) else some (.next (IntKind.i64.wrap (x38 + 1))) else (byte' a0 x38).bind fun x82 => bif decide (48 ≤ x82) then (byte' a0 x38).bind fun x84 => bif !(decide (x84 ≤ 57)) then some (.done (false)) else some (.next (IntKind.i64.wrap (x38 + 1))) else bif !false then some (.done (false)) else some (.next (IntKind.i64.wrap (x38 + 1))) else some (.done (true))
noncomputable def r3_Name_k1 (a0 : ByteArray) : Unit → Option Bool := fun _ => loop (σ := Int) (r3_Name_b2 a0) 0
noncomputable def r3_Name (a0 : ByteArray) : Option Bool :=
  cut (σ := Unit) (bif decide ((a0.size : Int) = 0) then some (.done (false)) else bif decide (12 < (a0.size : Int)) then some (.done (false)) else (byte' a0 0).bind fun x11 => bif decide (48 ≤ x11) then (byte' a0 0).bind fun x13 => bif decide (x13 ≤ 57) then some (.done (false)) else some (.next ()) else some (.next ())) (r3_Name_k1 a0)
theorem w_r3_Name_ {g : Frag} {a0 : ByteArray} {r : Bool}  (hF : r3_Name a0 = some r) : LCs Tryz.prog 92 #[.string a0] g (.bool r) := by
 unfold r3_Name at hF
 refine lc_body (k := 57) (av := [.string a0]) func92 rfl rfl (h := fun W hS => ?_)
 refine c_seq <| c_region <| oy hS y_assign <| n_thenN ?_
 obtain ⟨z7, hF, hK8⟩ := cut_step hF
 refine c_cutP (fun a w' => r3_Name_k1 a0 () = some r ∧ (∃ s : Nat → Value, a = Ac ((Fm.dead 57 s).upd 0 (.string a0))) ∧ St W g [] [] w') ?_ ?_
 · skip
   refine c_seq <| c_region <| oy hS y_move <| oy hS (y_lens underlying9) <| oy hS y_bin ?_
   refine o_split (ht := fun c9 => ?_) (hf := fun c9 => ?_)
   · replace hF := bt c9 hF
     iterate 3 (refine o_sk rfl rfl ?_)
     refine oy hS y_pickT <| oy hS y_move ?_
     iterate 4 (refine o_sk rfl rfl ?_)
     iterate 3 (refine o_sku rfl rfl ?_)
     refine o_sk rfl rfl ?_
     refine oy hS y_pickT <| n_thenN ?_
     refine c_if_true (h := ?_)
     refine c_seq <| c_region <| oy hS y_assign <| n_thenN ?_
     obtain rfl := osi hF
     obtain rfl : _ = r := hK8
     exact wp_ret (wr1 hS)
   replace hF := bf c9 hF
   refine o_gu rfl rfl rfl <| oy hS y_move <| o_gu rfl rfl rfl <| oy hS (y_lens underlying9) <| o_gu rfl rfl rfl <| oy hS y_bin <| oy hS y_pickF ?_
   refine o_split (ht := fun c10 => ?_) (hf := fun c10 => ?_)
   · replace hF := bt c10 hF
     iterate 4 (refine o_sk rfl rfl ?_)
     iterate 3 (refine o_sku rfl rfl ?_)
     refine o_sk rfl rfl ?_
     refine oy hS y_pickT <| n_thenN ?_
     refine c_if_true (h := ?_)
     refine c_seq <| c_region <| oy hS y_assign <| n_thenN ?_
     obtain rfl := osi hF
     obtain rfl : _ = r := hK8
     exact wp_ret (wr1 hS)
   replace hF := bf c10 hF
   refine o_gu rfl rfl rfl <| oy hS y_move <| o_gu rfl rfl rfl ?_
   obtain ⟨x11, D0, hF⟩ := ob hF
   refine oy hS (y_byte D0 underlying9) <| o_gu rfl rfl rfl <| oy hS y_bin <| o_gu rfl rfl rfl ?_
   refine o_split (ht := fun c12 => ?_) (hf := fun c12 => ?_)
   · replace hF := bt c12 hF
     refine o_gu rfl rfl rfl <| oy hS y_move <| o_gu rfl rfl rfl ?_
     obtain ⟨x13, E0, hF⟩ := ob hF
     refine oy hS (y_byte E0 underlying9) <| o_gu rfl rfl rfl <| oy hS y_bin <| o_gu rfl rfl rfl <| oy hS y_pickT <| oy hS y_pickF <| n_thenN ?_
     refine c_if (ht := fun c14 => ?_) (hf := fun c14 => ?_)
     · replace hF := bt c14 hF
       refine c_seq <| c_region <| oy hS y_assign <| n_thenN ?_
       obtain rfl := osi hF
       obtain rfl : _ = r := hK8
       exact wp_ret (wr1 hS)
     replace hF := bf c14 hF
     refine wp_skip ?_
     obtain rfl := osi hF
     change _ ∧ _
     exact ⟨hK8, mk_exF, (hS.re (.n))⟩
   replace hF := bf c12 hF
   iterate 3 (refine o_sk rfl rfl ?_)
   refine o_gu rfl rfl rfl ?_
   iterate 2 (refine oy hS y_pickF ?_)
   refine n_thenN ?_
   refine c_if_false (h := ?_)
   refine wp_skip ?_
   obtain rfl := osi hF
   change _ ∧ _
   exact ⟨hK8, mk_exF, (hS.re (.n))⟩
 rintro a w ⟨hF, ⟨s15, rfl⟩, hS⟩
 dsimp only [r3_Name_k1] at hF
 iterate 2 (refine c_seq ?_)
 refine c_region <| oy hS y_assign <| n_thenN <| c_block ?_
 refine c_loopP hF (fun (q : Int) a w' => (∃ s : Nat → Value, a = Ac (((Fm.dead 57 s).upd 0 (.string a0)).upd 3 (.int .i64 q))) ∧ St W g [] [] w') ⟨mk_exF, (hS.re (.n))⟩ ?_
 clear hS hF
 intro n63 q a w hI hq
 revert hq hI; revert q; intro x38 hI hq
 obtain ⟨⟨s64, rfl⟩, hS⟩ := hq
 obtain ⟨z61, hF, B0⟩ := iter_step hI
 clear hI
 dsimp only [r3_Name_b2] at hF
 iterate 2 (refine c_seq ?_)
 refine c_region ?_
 iterate 2 (refine oy hS y_move ?_)
 refine oy hS (y_lens underlying9) <| oy hS y_bin <| n_thenN ?_
 refine c_if (ht := fun c65 => ?_) (hf := fun c65 => ?_)
 · replace hF := bt c65 hF
   refine wp_skip <| c_seq <| c_block <| c_seq <| c_region ?_
   iterate 2 (refine oy hS y_move ?_)
   obtain ⟨x66, G0, hF⟩ := ob hF
   refine oy hS (y_byte G0 underlying9) <| oy hS y_bin ?_
   refine o_split (ht := fun c67 => ?_) (hf := fun c67 => ?_)
   · replace hF := bt c67 hF
     refine o_gu rfl rfl rfl <| oy hS y_move <| o_gu rfl rfl rfl <| oy hS y_move <| o_gu rfl rfl rfl ?_
     obtain ⟨x68, I0, hF⟩ := ob hF
     refine oy hS (y_byte I0 underlying9) <| o_gu rfl rfl rfl <| oy hS y_bin <| oy hS y_pickT ?_
     refine o_split (ht := fun c69 => ?_) (hf := fun c69 => ?_)
     · replace hF := bt c69 hF
       iterate 4 (refine o_sk rfl rfl ?_)
       refine oy hS y_pickT <| oy hS y_move ?_
       iterate 5 (refine o_sk rfl rfl ?_)
       iterate 4 (refine o_sku rfl rfl ?_)
       refine o_sk rfl rfl ?_
       refine oy hS y_pickT <| oy hS y_not <| n_thenN ?_
       refine c_if (ht := fun c70 => ?_) (hf := fun c70 => ?_)
       · replace hF := bt c70 hF
         refine c_seq <| c_region <| oy hS y_assign <| n_thenN ?_
         obtain rfl := osi hF
         obtain rfl : _ = r := B0
         exact wp_ret (wr1 hS)
       replace hF := bf c70 hF
       refine wp_skip <| c_region <| oy hS y_move <| oy hS y_bin <| oy hS y_assign <| n_thenN ?_
       obtain rfl := osi hF
       exact ⟨_, B0, mk_exF, (hS.re (.n))⟩
     replace hF := bf c69 hF
     refine o_gu rfl rfl rfl <| oy hS y_move <| o_gu rfl rfl rfl <| oy hS y_move <| o_gu rfl rfl rfl ?_
     obtain ⟨x71, J0, hF⟩ := ob hF
     refine oy hS (y_byte J0 underlying9) <| o_gu rfl rfl rfl <| oy hS y_bin <| oy hS y_pickF ?_
     refine o_split (ht := fun c72 => ?_) (hf := fun c72 => ?_)
     · replace hF := bt c72 hF
       iterate 5 (refine o_sk rfl rfl ?_)
       iterate 4 (refine o_sku rfl rfl ?_)
       refine o_sk rfl rfl ?_
       refine oy hS y_pickT <| oy hS y_not <| n_thenN ?_
       refine c_if (ht := fun c73 => ?_) (hf := fun c73 => ?_)
       · replace hF := bt c73 hF
         refine c_seq <| c_region <| oy hS y_assign <| n_thenN ?_
         obtain rfl := osi hF
         obtain rfl : _ = r := B0
         exact wp_ret (wr1 hS)
       replace hF := bf c73 hF
       refine wp_skip <| c_region <| oy hS y_move <| oy hS y_bin <| oy hS y_assign <| n_thenN ?_
       obtain rfl := osi hF
       exact ⟨_, B0, mk_exF, (hS.re (.n))⟩
     replace hF := bf c72 hF
     refine o_gu rfl rfl rfl <| oy hS y_move <| o_gu rfl rfl rfl <| oy hS y_move <| o_gu rfl rfl rfl ?_
     obtain ⟨x74, K0, hF⟩ := ob hF
     refine oy hS (y_byte K0 underlying9) <| o_gu rfl rfl rfl <| oy hS y_bin <| o_gu rfl rfl rfl ?_
     refine o_split (ht := fun c75 => ?_) (hf := fun c75 => ?_)
     · replace hF := bt c75 hF
       refine o_gu rfl rfl rfl <| oy hS y_move <| o_gu rfl rfl rfl <| oy hS y_move <| o_gu rfl rfl rfl ?_
       obtain ⟨x76, M0, hF⟩ := ob hF
       refine oy hS (y_byte M0 underlying9) <| o_gu rfl rfl rfl <| oy hS y_bin <| o_gu rfl rfl rfl <| oy hS y_pickT <| oy hS y_pickF <| oy hS y_not <| n_thenN ?_
       refine c_if (ht := fun c77 => ?_) (hf := fun c77 => ?_)
       · replace hF := bt c77 hF
         refine c_seq <| c_region <| oy hS y_assign <| n_thenN ?_
         obtain rfl := osi hF
         obtain rfl : _ = r := B0
         exact wp_ret (wr1 hS)
       replace hF := bf c77 hF
       refine wp_skip <| c_region <| oy hS y_move <| oy hS y_bin <| oy hS y_assign <| n_thenN ?_
       obtain rfl := osi hF
       exact ⟨_, B0, mk_exF, (hS.re (.n))⟩
     replace hF := bf c75 hF
     iterate 4 (refine o_sk rfl rfl ?_)
     refine o_gu rfl rfl rfl ?_
     iterate 2 (refine oy hS y_pickF ?_)
     refine oy hS y_not <| n_thenN ?_
     refine c_if (ht := fun c78 => ?_) (hf := fun c78 => ?_)
     · replace hF := bt c78 hF
       refine c_seq <| c_region <| oy hS y_assign <| n_thenN ?_
       obtain rfl := osi hF
       obtain rfl : _ = r := B0
       exact wp_ret (wr1 hS)
     replace hF := bf c78 hF
     refine wp_skip <| c_region <| oy hS y_move <| oy hS y_bin <| oy hS y_assign <| n_thenN ?_
     obtain rfl := osi hF
     exact ⟨_, B0, mk_exF, (hS.re (.n))⟩
   replace hF := bf c67 hF
   iterate 4 (refine o_sk rfl rfl ?_)
   refine oy hS y_pickF <| oy hS y_move <| o_gu rfl rfl rfl <| oy hS y_move <| o_gu rfl rfl rfl <| oy hS y_move <| o_gu rfl rfl rfl ?_
   obtain ⟨x79, N0, hF⟩ := ob hF
   refine oy hS (y_byte N0 underlying9) <| o_gu rfl rfl rfl <| oy hS y_bin <| oy hS y_pickF ?_
   refine o_split (ht := fun c80 => ?_) (hf := fun c80 => ?_)
   · replace hF := bt c80 hF
     iterate 5 (refine o_sk rfl rfl ?_)
     iterate 4 (refine o_sku rfl rfl ?_)
     refine o_sk rfl rfl ?_
     refine oy hS y_pickT <| oy hS y_not <| n_thenN ?_
     refine c_if (ht := fun c81 => ?_) (hf := fun c81 => ?_)
     · replace hF := bt c81 hF
       refine c_seq <| c_region <| oy hS y_assign <| n_thenN ?_
       obtain rfl := osi hF
       obtain rfl : _ = r := B0
       exact wp_ret (wr1 hS)
     replace hF := bf c81 hF
     refine wp_skip <| c_region <| oy hS y_move <| oy hS y_bin <| oy hS y_assign <| n_thenN ?_
     obtain rfl := osi hF
     exact ⟨_, B0, mk_exF, (hS.re (.n))⟩
   replace hF := bf c80 hF
   refine o_gu rfl rfl rfl <| oy hS y_move <| o_gu rfl rfl rfl <| oy hS y_move <| o_gu rfl rfl rfl ?_
   obtain ⟨x82, R0, hF⟩ := ob hF
   refine oy hS (y_byte R0 underlying9) <| o_gu rfl rfl rfl <| oy hS y_bin <| o_gu rfl rfl rfl ?_
   refine o_split (ht := fun c83 => ?_) (hf := fun c83 => ?_)
   · replace hF := bt c83 hF
     refine o_gu rfl rfl rfl <| oy hS y_move <| o_gu rfl rfl rfl <| oy hS y_move <| o_gu rfl rfl rfl ?_
     obtain ⟨x84, T0, hF⟩ := ob hF
     refine oy hS (y_byte T0 underlying9) <| o_gu rfl rfl rfl <| oy hS y_bin <| o_gu rfl rfl rfl <| oy hS y_pickT <| oy hS y_pickF <| oy hS y_not <| n_thenN ?_
     refine c_if (ht := fun c85 => ?_) (hf := fun c85 => ?_)
     · replace hF := bt c85 hF
       refine c_seq <| c_region <| oy hS y_assign <| n_thenN ?_
       obtain rfl := osi hF
       obtain rfl : _ = r := B0
       exact wp_ret (wr1 hS)
     replace hF := bf c85 hF
     refine wp_skip <| c_region <| oy hS y_move <| oy hS y_bin <| oy hS y_assign <| n_thenN ?_
     obtain rfl := osi hF
     exact ⟨_, B0, mk_exF, (hS.re (.n))⟩
   replace hF := bf c83 hF
   iterate 4 (refine o_sk rfl rfl ?_)
   refine o_gu rfl rfl rfl ?_
   iterate 2 (refine oy hS y_pickF ?_)
   refine oy hS y_not <| n_thenN ?_
   refine c_if (ht := fun c86 => ?_) (hf := fun c86 => ?_)
   · replace hF := bt c86 hF
     refine c_seq <| c_region <| oy hS y_assign <| n_thenN ?_
     obtain rfl := osi hF
     obtain rfl : _ = r := B0
     exact wp_ret (wr1 hS)
   replace hF := bf c86 hF
   refine wp_skip <| c_region <| oy hS y_move <| oy hS y_bin <| oy hS y_assign <| n_thenN ?_
   obtain rfl := osi hF
   exact ⟨_, B0, mk_exF, (hS.re (.n))⟩
 replace hF := bf c65 hF
 refine wp_exit ?_
 refine c_seq <| c_region <| oy hS y_assign <| n_thenN ?_
 obtain rfl := osi hF
 obtain rfl : _ = r := B0
 exact wp_ret (wr1 hS)
theorem w_r3_Name {g : Frag} {a0 : ByteArray} {r : Bool}  (hF : r3_Name a0 = some r) : LCs Tryz.prog 92 #[.string a0] g (.bool r) := w_r3_Name_  hF

noncomputable def r1_Fits (a0 : Int) (a1 : Int) : Option Bool :=
  (shl' .i64 1 (IntKind.i64.wrap (a1 - 1))).bind fun x1 => bif decide ((IntKind.i64.wrap (0 - x1)) ≤ a0) then some (decide (a0 < x1)) else some (false)
theorem w_r1_Fits_ {g : Frag} {a0 : Int} {a1 : Int} {r : Bool}  (hF : r1_Fits a0 a1 = some r) : LCs Tryz.prog 93 #[.int .i64 a0, .int .i64 a1] g (.bool r) := by
 unfold r1_Fits at hF
 refine lc_body (k := 18) (av := [.int .i64 a0, .int .i64 a1]) func93 rfl rfl (h := fun W hS => ?_)
 refine c_seq <| c_region <| oy hS y_assign <| n_thenN <| c_seq <| c_region <| oy hS y_move <| oy hS y_bin ?_
 obtain ⟨x1, hx1, hF⟩ := ob hF
 refine oy hS (y_shl hx1) <| oy hS y_assign <| n_thenN <| c_seq <| c_region ?_
 iterate 2 (refine oy hS y_move ?_)
 refine oy hS y_neg <| oy hS y_bin ?_
 refine o_split (ht := fun c2 => ?_) (hf := fun c2 => ?_)
 · replace hF := bt c2 hF
   refine o_gu rfl rfl rfl <| oy hS y_move <| o_gu rfl rfl rfl <| oy hS y_move <| o_gu rfl rfl rfl <| oy hS y_bin <| oy hS y_pickT <| oy hS y_assign ?_
   refine n_thenN ?_
   obtain rfl := osi hF
   exact wp_ret (wr1 hS)
 replace hF := bf c2 hF
 iterate 3 (refine o_sk rfl rfl ?_)
 refine oy hS y_pickF <| oy hS y_assign <| n_thenN ?_
 obtain rfl := osi hF
 exact wp_ret (wr1 hS)
theorem w_r1_Fits {g : Frag} {a0 : Int} {a1 : Int} {r : Bool}  (hF : r1_Fits a0 a1 = some r) : LCs Tryz.prog 93 #[.int .i64 a0, .int .i64 a1] g (.bool r) := w_r1_Fits_  hF

def r3_Target (a0 : Int) : Bool :=
  bif decide (a0 = 8) then true else decide (a0 = 9)
theorem w_r3_Target_ {g : Frag} {a0 : Int} {r : Bool}  (hF : r3_Target a0 = r) : LCs Tryz.prog 94 #[.int .i64 a0] g (.bool r) := by
 unfold r3_Target at hF
 refine lc_body (k := 9) (av := [.int .i64 a0]) func94 rfl rfl (h := fun W hS => ?_)
 refine c_seq <| c_region <| oy hS y_assign <| n_thenN <| c_seq <| c_region <| oy hS y_move <| oy hS y_bin ?_
 refine o_split (ht := fun c1 => ?_) (hf := fun c1 => ?_)
 · replace hF := bt c1 hF
   iterate 2 (refine o_sk rfl rfl ?_)
   refine oy hS y_pickT <| oy hS y_assign <| n_thenN ?_
   subst hF
   exact wp_ret (wr1 hS)
 replace hF := bf c1 hF
 refine o_gu rfl rfl rfl <| oy hS y_move <| o_gu rfl rfl rfl <| oy hS y_bin <| oy hS y_pickF <| oy hS y_assign <| n_thenN ?_
 subst hF
 exact wp_ret (wr1 hS)
theorem w_r3_Target {g : Frag} {a0 : Int}  : LCs Tryz.prog 94 #[.int .i64 a0] g (.bool (r3_Target a0)) := w_r3_Target_  rfl

def r3_Bits (a0 : Int) : Int :=
  bif decide (a0 = 3) then 14 else bif decide (a0 = 5) then 14 else bif decide (a0 = 9) then 14 else bif decide (a0 = 4) then 18 else bif decide (a0 = 8) then 18 else 0
theorem w_r3_Bits_ {g : Frag} {a0 : Int} {r : Int}  (hF : r3_Bits a0 = r) : LCs Tryz.prog 95 #[.int .i64 a0] g (.int .i64 r) := by
 unfold r3_Bits at hF
 refine lc_body (k := 11) (av := [.int .i64 a0]) func95 rfl rfl (h := fun W hS => ?_)
 refine c_seq <| c_region <| oy hS y_assign <| n_thenN ?_
 iterate 2 (refine c_seq ?_)
 refine c_region <| oy hS y_move <| n_thenN <| c_block ?_
 iterate 2 (refine c_seq ?_)
 refine c_region <| oy hS y_bin <| oy hS y_assign <| n_thenN ?_
 refine c_if (ht := fun c1 => ?_) (hf := fun c1 => ?_)
 · replace hF := bt c1 hF
   refine wp_skip ?_
   refine c_ifT c1 ?_
   refine c_seq <| c_region <| oy hS y_assign <| n_thenN ?_
   subst hF
   exact wp_ret (wr1 hS)
 replace hF := bf c1 hF
 refine c_seq <| c_region <| oy hS y_bin <| oy hS y_assign <| n_thenN ?_
 refine c_if (ht := fun c2 => ?_) (hf := fun c2 => ?_)
 · replace hF := bt c2 hF
   refine wp_skip ?_
   refine c_ifT c2 ?_
   refine c_seq <| c_region <| oy hS y_assign <| n_thenN ?_
   subst hF
   exact wp_ret (wr1 hS)
 replace hF := bf c2 hF
 refine c_region <| oy hS y_bin <| oy hS y_assign <| n_thenN ?_
 refine c_if (ht := fun c3 => ?_) (hf := fun c3 => ?_)
 · replace hF := bt c3 hF
   refine c_seq <| c_region <| oy hS y_assign <| n_thenN ?_
   subst hF
   exact wp_ret (wr1 hS)
 replace hF := bf c3 hF
 iterate 2 (refine c_seq ?_)
 refine c_region <| oy hS y_bin <| oy hS y_assign <| n_thenN ?_
 refine c_if (ht := fun c4 => ?_) (hf := fun c4 => ?_)
 · replace hF := bt c4 hF
   refine wp_skip ?_
   refine c_ifT c4 ?_
   refine c_seq <| c_region <| oy hS y_assign <| n_thenN ?_
   subst hF
   exact wp_ret (wr1 hS)
 replace hF := bf c4 hF
 refine c_region <| oy hS y_bin <| oy hS y_assign <| n_thenN ?_
 refine c_if (ht := fun c5 => ?_) (hf := fun c5 => ?_)
 · replace hF := bt c5 hF
   refine c_seq <| c_region <| oy hS y_assign <| n_thenN ?_
   subst hF
   exact wp_ret (wr1 hS)
 replace hF := bf c5 hF
 refine wp_skip <| c_seq <| c_region <| oy hS y_assign <| n_thenN ?_
 subst hF
 exact wp_ret (wr1 hS)
theorem w_r3_Bits {g : Frag} {a0 : Int}  : LCs Tryz.prog 95 #[.int .i64 a0] g (.int .i64 (r3_Bits a0)) := w_r3_Bits_  rfl

noncomputable def r3_Ins_k1 (a0 : T_Ins) (r3 : Int) : Unit → Option Bool := fun _ => bif !(decide (a0.Sym = (ByteArray.mk #[]))) then (r3_Name a0.Sym).bind fun r14 => bif r14 then bif decide (a0.Op = 23) then (r1_Fits a0.Imm 18).bind fun r17 => bif r17 then some (true) else bif (r3_Target r3) then some (decide (a0.Imm = 0)) else some (false) else bif (r3_Target r3) then some (decide (a0.Imm = 0)) else some (false) else some (false) else bif (r3_Target r3) then some (r0_Num a0.Imm 1023) else bif decide (0 < (r3_Bits r3)) then (r1_Fits a0.Imm (r3_Bits r3)).bind fun r23 => some (r23) else some (decide (a0.Imm = 0))
noncomputable def r3_Ins (a0 : T_Ins) : Option Bool :=
  bif !(r3_Valid a0.Op) then some (false) else (r3_Form a0.Op).bind fun r3 => cut (σ := Unit) (bif !(r3_reg a0.D (r3_HasD r3)) then some (.done (false)) else bif !(r3_reg a0.A (r3_HasA r3)) then some (.done (false)) else bif !(r3_reg a0.B (r3_HasB r3)) then some (.done (false)) else some (.next ())) (r3_Ins_k1 a0 r3)
theorem w_r3_Ins_ {g : Frag} {a0 : T_Ins} {r : Bool}  (hF : r3_Ins a0 = some r) : LCs Tryz.prog 52 #[.agg (enc_Ins a0).toArray] g (.bool r) := by
 unfold r3_Ins at hF
 refine lc_body (k := 76) (av := [.agg (enc_Ins a0).toArray]) func52 rfl rfl (h := fun W hS => ?_)
 refine c_seq <| c_region ?_
 refine o_boxP (cl := (enc_Ins a0)) rfl hS ?_
 clear hS; intro b1 w hS
 refine oy hS y_assign <| n_thenN ?_
 iterate 2 (refine c_seq ?_)
 refine c_region <| oy hS (y_field fa_api_Ins_0) <| oy hS (y_load oH underlying3 rfl rfl) ?_
 refine o_callS hS func86 rfl rfl (hc := (w_r3_Valid (a0 := a0.Op))) (h := ?_)
 clear hS; intro w hS
 refine oy hS y_not <| n_thenN ?_
 refine c_if (ht := fun c2 => ?_) (hf := fun c2 => ?_)
 · replace hF := bt c2 hF
   refine c_seq <| c_region <| oy hS y_assign <| n_thenN ?_
   obtain rfl := osi hF
   exact wp_ret (wr1 hS)
 replace hF := bf c2 hF
 refine wp_skip <| c_seq <| c_region <| oy hS (y_field fa_api_Ins_0) <| oy hS (y_load oH underlying3 rfl rfl) ?_
 obtain ⟨r3, hr3, hF⟩ := ob hF
 refine o_callS hS func87 rfl rfl (hc := (w_r3_Form (a0 := a0.Op) (hF := hr3))) (h := ?_)
 clear hS; intro w hS
 refine oy hS y_assign <| n_thenN ?_
 obtain ⟨z7, hF, hK8⟩ := cut_step hF
 refine c_cutP (fun a w' => r3_Ins_k1 a0 r3 () = some r ∧ (∃ s : Nat → Value, a = Ac (((Fm.dead 76 s).upd 1 (.pointer (some ⟨b1, 0, none⟩))).upd 3 (.int .i64 r3))) ∧ St W g [] ((b1, blk (enc_Ins a0) 81) :: []) w') ?_ ?_
 · skip
   refine c_seq ?_
   refine c_quiet (by kernel_rfl) (by kernel_rfl) hS ?_
   refine qy (y_field fa_api_Ins_1) <| qy (y_load (fun w hS => hS.own (mH)) underlying3 rfl rfl) <| qy y_move ?_
   refine q_callS func89 rfl rfl (hc := (w_r3_HasD (a0 := r3))) (h := ?_)
   refine q_callS func88 rfl rfl (hc := (w_r3_reg (a0 := a0.D) (a1 := (r3_HasD r3)))) (h := ?_)
   refine qy y_not ?_
   refine q_split (ht := fun c9 => ?_) (hf := fun c9 => ?_)
   · replace hF := bt c9 hF
     iterate 6 (refine q_sk rfl rfl ?_)
     refine qy y_pickT <| qy y_move ?_
     iterate 6 (refine q_sk rfl rfl ?_)
     refine qy y_pickT ?_
     refine q_nilN (h := ?_)
     clear hS; intro w hS
     refine c_if_true (h := ?_)
     refine c_seq <| c_region <| oy hS y_assign <| n_thenN ?_
     obtain rfl := osi hF
     obtain rfl : _ = r := hK8
     exact wp_ret (wr1 hS)
   replace hF := bf c9 hF
   refine q_gu rfl rfl rfl ?_
   refine qy (y_field fa_api_Ins_2) ?_
   refine q_gu rfl rfl rfl ?_
   refine qy (y_load (fun w hS => hS.own (mH)) underlying3 rfl rfl) ?_
   refine q_gu rfl rfl rfl ?_
   refine qy y_move ?_
   refine q_gu rfl rfl rfl ?_
   refine q_callS func90 rfl rfl (hc := (w_r3_HasA (a0 := r3))) (h := ?_)
   refine q_gu rfl rfl rfl ?_
   refine q_callS func88 rfl rfl (hc := (w_r3_reg (a0 := a0.A) (a1 := (r3_HasA r3)))) (h := ?_)
   refine q_gu rfl rfl rfl ?_
   refine qy y_not <| qy y_pickF ?_
   refine q_split (ht := fun c10 => ?_) (hf := fun c10 => ?_)
   · replace hF := bt c10 hF
     iterate 6 (refine q_sk rfl rfl ?_)
     refine qy y_pickT ?_
     refine q_nilN (h := ?_)
     clear hS; intro w hS
     refine c_if_true (h := ?_)
     refine c_seq <| c_region <| oy hS y_assign <| n_thenN ?_
     obtain rfl := osi hF
     obtain rfl : _ = r := hK8
     exact wp_ret (wr1 hS)
   replace hF := bf c10 hF
   refine q_gu rfl rfl rfl ?_
   refine qy (y_field fa_api_Ins_3) ?_
   refine q_gu rfl rfl rfl ?_
   refine qy (y_load (fun w hS => hS.own (mH)) underlying3 rfl rfl) ?_
   refine q_gu rfl rfl rfl ?_
   refine qy y_move ?_
   refine q_gu rfl rfl rfl ?_
   refine q_callS func91 rfl rfl (hc := (w_r3_HasB (a0 := r3))) (h := ?_)
   refine q_gu rfl rfl rfl ?_
   refine q_callS func88 rfl rfl (hc := (w_r3_reg (a0 := a0.B) (a1 := (r3_HasB r3)))) (h := ?_)
   refine q_gu rfl rfl rfl ?_
   refine qy y_not <| qy y_pickF ?_
   refine q_nilN (h := ?_)
   clear hS; intro w hS
   refine c_if (ht := fun c11 => ?_) (hf := fun c11 => ?_)
   · replace hF := bt c11 hF
     refine c_seq <| c_region <| oy hS y_assign <| n_thenN ?_
     obtain rfl := osi hF
     obtain rfl : _ = r := hK8
     exact wp_ret (wr1 hS)
   replace hF := bf c11 hF
   refine wp_skip ?_
   obtain rfl := osi hF
   change _ ∧ _
   exact ⟨hK8, mk_exF, (hS.re (.b .hb .n))⟩
 rintro a w ⟨hF, ⟨s12, rfl⟩, hS⟩
 dsimp only [r3_Ins_k1] at hF
 iterate 2 (refine c_seq ?_)
 refine c_region <| oy hS (y_field fa_api_Ins_5) <| oy hS (y_load oH underlying9 rfl rfl) <| oy hS y_sneq <| n_thenN ?_
 refine c_if (ht := fun c13 => ?_) (hf := fun c13 => ?_)
 · replace hF := bt c13 hF
   refine c_seq <| c_region <| oy hS (y_field fa_api_Ins_5) <| oy hS (y_load oH underlying9 rfl rfl) ?_
   obtain ⟨r14, B0, hF⟩ := ob hF
   refine o_callS hS func92 rfl rfl (hc := (w_r3_Name (a0 := a0.Sym) (hF := B0))) (h := ?_)
   clear hS; intro w hS
   refine o_split (ht := fun c15 => ?_) (hf := fun c15 => ?_)
   · replace hF := bt c15 hF
     refine o_gu rfl rfl rfl <| oy hS (y_field fa_api_Ins_0) <| o_gu rfl rfl rfl <| oy hS (y_load oH underlying3 rfl rfl) <| o_gu rfl rfl rfl <| oy hS y_bin <| o_gu rfl rfl rfl ?_
     refine o_split (ht := fun c16 => ?_) (hf := fun c16 => ?_)
     · replace hF := bt c16 hF
       refine o_gu rfl rfl rfl <| oy hS (y_field fa_api_Ins_4) <| o_gu rfl rfl rfl <| oy hS (y_load oH underlying3 rfl rfl) <| o_gu rfl rfl rfl ?_
       obtain ⟨r17, D0, hF⟩ := ob hF
       refine o_callS hS func93 rfl rfl (hc := (w_r1_Fits (a0 := a0.Imm) (a1 := 18) (hF := D0))) (h := ?_)
       clear hS; intro w hS
       refine o_gu rfl rfl rfl <| oy hS y_pickT <| o_gu rfl rfl rfl ?_
       refine o_split (ht := fun c18 => ?_) (hf := fun c18 => ?_)
       · replace hF := bt c18 hF
         iterate 3 (refine o_sk rfl rfl ?_)
         iterate 3 (refine o_sku rfl rfl ?_)
         refine o_sk rfl rfl ?_
         refine o_gu rfl rfl rfl ?_
         iterate 2 (refine oy hS y_pickT ?_)
         refine oy hS y_assign <| n_thenN ?_
         obtain rfl := osi hF
         exact wp_ret (wr1 hS)
       replace hF := bf c18 hF
       refine o_gu rfl rfl rfl <| oy hS y_move <| o_gu rfl rfl rfl ?_
       refine o_callS hS func94 rfl rfl (hc := (w_r3_Target (a0 := r3))) (h := ?_)
       clear hS; intro w hS
       refine o_gu rfl rfl rfl ?_
       refine o_split (ht := fun c19 => ?_) (hf := fun c19 => ?_)
       · replace hF := bt c19 hF
         refine o_gu rfl rfl rfl <| oy hS (y_field fa_api_Ins_4) <| o_gu rfl rfl rfl <| oy hS (y_load oH underlying3 rfl rfl) <| o_gu rfl rfl rfl <| oy hS y_bin <| o_gu rfl rfl rfl <| oy hS y_pickT ?_
         refine o_gu rfl rfl rfl <| oy hS y_pickF <| oy hS y_pickT <| oy hS y_assign <| n_thenN ?_
         obtain rfl := osi hF
         exact wp_ret (wr1 hS)
       replace hF := bf c19 hF
       iterate 3 (refine o_sk rfl rfl ?_)
       refine o_gu rfl rfl rfl <| oy hS y_pickF <| o_gu rfl rfl rfl <| oy hS y_pickF <| oy hS y_pickT <| oy hS y_assign <| n_thenN ?_
       obtain rfl := osi hF
       exact wp_ret (wr1 hS)
     replace hF := bf c16 hF
     iterate 3 (refine o_sk rfl rfl ?_)
     refine o_gu rfl rfl rfl <| oy hS y_pickF <| o_gu rfl rfl rfl <| oy hS y_move <| o_gu rfl rfl rfl <| oy hS y_move <| o_gu rfl rfl rfl ?_
     refine o_callS hS func94 rfl rfl (hc := (w_r3_Target (a0 := r3))) (h := ?_)
     clear hS; intro w hS
     refine o_gu rfl rfl rfl ?_
     refine o_split (ht := fun c20 => ?_) (hf := fun c20 => ?_)
     · replace hF := bt c20 hF
       refine o_gu rfl rfl rfl <| oy hS (y_field fa_api_Ins_4) <| o_gu rfl rfl rfl <| oy hS (y_load oH underlying3 rfl rfl) <| o_gu rfl rfl rfl <| oy hS y_bin <| o_gu rfl rfl rfl <| oy hS y_pickT ?_
       refine o_gu rfl rfl rfl <| oy hS y_pickF <| oy hS y_pickT <| oy hS y_assign <| n_thenN ?_
       obtain rfl := osi hF
       exact wp_ret (wr1 hS)
     replace hF := bf c20 hF
     iterate 3 (refine o_sk rfl rfl ?_)
     refine o_gu rfl rfl rfl <| oy hS y_pickF <| o_gu rfl rfl rfl <| oy hS y_pickF <| oy hS y_pickT <| oy hS y_assign <| n_thenN ?_
     obtain rfl := osi hF
     exact wp_ret (wr1 hS)
   replace hF := bf c15 hF
   iterate 4 (refine o_sk rfl rfl ?_)
   iterate 3 (refine o_sku rfl rfl ?_)
   iterate 2 (refine o_sk rfl rfl ?_)
   iterate 7 (refine o_sku rfl rfl ?_)
   refine o_sk rfl rfl ?_
   refine oy hS y_pickF <| oy hS y_assign <| n_thenN ?_
   obtain rfl := osi hF
   exact wp_ret (wr1 hS)
 replace hF := bf c13 hF
 refine wp_skip <| c_seq <| c_block <| c_seq <| c_region <| oy hS y_move ?_
 refine o_callS hS func94 rfl rfl (hc := (w_r3_Target (a0 := r3))) (h := ?_)
 clear hS; intro w hS
 refine oy hS y_assign <| n_thenN ?_
 refine c_if (ht := fun c21 => ?_) (hf := fun c21 => ?_)
 · replace hF := bt c21 hF
   refine c_seq <| c_region <| oy hS (y_field fa_api_Ins_4) <| oy hS (y_load oH underlying3 rfl rfl) ?_
   refine o_callS hS func7 rfl rfl (hc := (w_r0_Num (a0 := a0.Imm) (a1 := 1023))) (h := ?_)
   clear hS; intro w hS
   refine oy hS y_assign <| n_thenN ?_
   obtain rfl := osi hF
   exact wp_ret (wr1 hS)
 replace hF := bf c21 hF
 refine c_seq <| c_region <| oy hS y_move ?_
 refine o_callS hS func95 rfl rfl (hc := (w_r3_Bits (a0 := r3))) (h := ?_)
 clear hS; intro w hS
 refine oy hS y_bin <| oy hS y_assign <| n_thenN ?_
 refine c_if (ht := fun c22 => ?_) (hf := fun c22 => ?_)
 · replace hF := bt c22 hF
   refine c_seq ?_
   refine c_quiet (by kernel_rfl) (by kernel_rfl) hS ?_
   refine qy (y_field fa_api_Ins_4) <| qy (y_load (fun w hS => hS.own (mH)) underlying3 rfl rfl) <| qy y_move ?_
   refine q_callS func95 rfl rfl (hc := (w_r3_Bits (a0 := r3))) (h := ?_)
   obtain ⟨r23, E0, hF⟩ := ob hF
   refine q_callS func93 rfl rfl (hc := (w_r1_Fits (a0 := a0.Imm) (a1 := (r3_Bits r3)) (hF := E0))) (h := ?_)
   refine qy y_assign ?_
   refine q_nilN (h := ?_)
   clear hS; intro w hS
   obtain rfl := osi hF
   exact wp_ret (wr1 hS)
 replace hF := bf c22 hF
 refine wp_skip <| c_seq <| c_region <| oy hS (y_field fa_api_Ins_4) <| oy hS (y_load oH underlying3 rfl rfl) <| oy hS y_bin <| oy hS y_assign <| n_thenN ?_
 obtain rfl := osi hF
 exact wp_ret (wr1 hS)
theorem w_r3_Ins {g : Frag} {a0 : T_Ins} {r : Bool}  (hF : r3_Ins a0 = some r) : LCs Tryz.prog 52 #[.agg (enc_Ins a0).toArray] g (.bool r) := w_r3_Ins_  hF

def r3_Ends (a0 : Int) : Bool :=
  (r0_Between a0 28 33)
theorem w_r3_Ends_ {g : Frag} {a0 : Int} {r : Bool}  (hF : r3_Ends a0 = r) : LCs Tryz.prog 73 #[.int .i64 a0] g (.bool r) := by
 unfold r3_Ends at hF
 refine lc_body (k := 5) (av := [.int .i64 a0]) func73 rfl rfl (h := fun W hS => ?_)
 refine c_seq <| c_region <| oy hS y_assign <| n_thenN <| c_seq <| c_region <| oy hS y_move ?_
 refine o_callS hS func109 rfl rfl (hc := (w_r0_Between (a0 := a0) (a1 := 28) (a2 := 33))) (h := ?_)
 clear hS; intro w hS
 refine oy hS y_assign <| n_thenN ?_
 subst hF
 exact wp_ret (wr1 hS)
theorem w_r3_Ends {g : Frag} {a0 : Int}  : LCs Tryz.prog 73 #[.int .i64 a0] g (.bool (r3_Ends a0)) := w_r3_Ends_  rfl

def r3_Slots (a0 : Int) : (List Int) :=
  bif decide (a0 = 0) then ([0, 1, 2, 3] : List Int) else bif decide (a0 = 18) then ([1] : List Int) else bif decide (a0 = 19) then ([1] : List Int) else bif decide (a0 = 21) then ([1] : List Int) else bif (r0_Between a0 14 17) then ([3] : List Int) else bif decide (a0 = 20) then ([3] : List Int) else bif (r0_Between a0 24 27) then ([2] : List Int) else bif (r3_Ends a0) then ([0] : List Int) else ([0, 1] : List Int)
theorem w_r3_Slots_ {g : Frag} {a0 : Int} {r : (List Int)}  (hF : r3_Slots a0 = r) : LC Tryz.prog 108 #[.int .i64 a0] g [] (fun v L => ∃ (u0 : Value) (M0 : Own), u0 = v ∧ L = (M0 ++ []) ∧ OwT 3 enc_int 1 r u0 M0) := by
 unfold r3_Slots at hF
 refine lc_body (k := 36) (av := [.int .i64 a0]) func108 rfl rfl (h := fun W hS => ?_)
 refine c_seq <| c_region <| oy hS y_assign <| n_thenN <| c_seq <| c_block <| c_seq <| c_region ?_
 refine oy hS y_move <| oy hS y_bin <| oy hS y_assign <| n_thenN ?_
 refine c_if (ht := fun c1 => ?_) (hf := fun c1 => ?_)
 · replace hF := bt c1 hF
   refine c_seq <| c_region ?_
   refine o_buildT val_int ([0, 1, 2, 3] : List Int) hS el_int (fun _ => rfl) enc_len_int (by decide) rfl (by decide) (hp := rfl) (h := ?_)
   clear hS; intro b2 w hS h3
   have hS : St W g [] ([(b2, blk (([0, 1, 2, 3] : List Int).flatMap enc_int) 3)] ++ []) w := hS
   refine oy hS y_assign <| n_thenN ?_
   subst hF
   refine wp_ret (r_ret (vs := [(.slice (some ⟨b2, 0, none⟩) 4 4)]) (hS.re (.t .h .n)) (rsC res_tmp rsN) rfl ⟨_, _, rfl, (by first | rfl | simp only [aa, ac, al, an]), h3⟩)
 replace hF := bf c1 hF
 refine c_seq <| c_region <| oy hS y_move <| oy hS y_bin ?_
 refine o_split (ht := fun c5 => ?_) (hf := fun c5 => ?_)
 · replace hF := bt c5 hF
   iterate 2 (refine o_sk rfl rfl ?_)
   refine oy hS y_pickT <| oy hS y_move ?_
   iterate 2 (refine o_sk rfl rfl ?_)
   refine oy hS y_pickT <| oy hS y_assign <| n_thenN ?_
   refine c_if_true (h := ?_)
   refine c_seq <| c_region ?_
   refine o_buildT val_int ([1] : List Int) hS el_int (fun _ => rfl) enc_len_int (by decide) rfl (by decide) (hp := rfl) (h := ?_)
   clear hS; intro b6 w hS h7
   have hS : St W g [] ([(b6, blk (([1] : List Int).flatMap enc_int) 3)] ++ []) w := hS
   refine oy hS y_assign <| n_thenN ?_
   subst hF
   refine wp_ret (r_ret (vs := [(.slice (some ⟨b6, 0, none⟩) 1 1)]) (hS.re (.t .h .n)) (rsC res_tmp rsN) rfl ⟨_, _, rfl, (by first | rfl | simp only [aa, ac, al, an]), h7⟩)
 replace hF := bf c5 hF
 refine o_gu rfl rfl rfl <| oy hS y_move <| o_gu rfl rfl rfl <| oy hS y_bin <| oy hS y_pickF ?_
 refine o_split (ht := fun c9 => ?_) (hf := fun c9 => ?_)
 · replace hF := bt c9 hF
   iterate 2 (refine o_sk rfl rfl ?_)
   refine oy hS y_pickT <| oy hS y_assign <| n_thenN ?_
   refine c_if_true (h := ?_)
   refine c_seq <| c_region ?_
   refine o_buildT val_int ([1] : List Int) hS el_int (fun _ => rfl) enc_len_int (by decide) rfl (by decide) (hp := rfl) (h := ?_)
   clear hS; intro b10 w hS h11
   have hS : St W g [] ([(b10, blk (([1] : List Int).flatMap enc_int) 3)] ++ []) w := hS
   refine oy hS y_assign <| n_thenN ?_
   subst hF
   refine wp_ret (r_ret (vs := [(.slice (some ⟨b10, 0, none⟩) 1 1)]) (hS.re (.t .h .n)) (rsC res_tmp rsN) rfl ⟨_, _, rfl, (by first | rfl | simp only [aa, ac, al, an]), h11⟩)
 replace hF := bf c9 hF
 refine o_gu rfl rfl rfl <| oy hS y_move <| o_gu rfl rfl rfl <| oy hS y_bin <| oy hS y_pickF <| oy hS y_assign <| n_thenN ?_
 refine c_if (ht := fun c13 => ?_) (hf := fun c13 => ?_)
 · replace hF := bt c13 hF
   refine c_seq <| c_region ?_
   refine o_buildT val_int ([1] : List Int) hS el_int (fun _ => rfl) enc_len_int (by decide) rfl (by decide) (hp := rfl) (h := ?_)
   clear hS; intro b14 w hS h15
   have hS : St W g [] ([(b14, blk (([1] : List Int).flatMap enc_int) 3)] ++ []) w := hS
   refine oy hS y_assign <| n_thenN ?_
   subst hF
   refine wp_ret (r_ret (vs := [(.slice (some ⟨b14, 0, none⟩) 1 1)]) (hS.re (.t .h .n)) (rsC res_tmp rsN) rfl ⟨_, _, rfl, (by first | rfl | simp only [aa, ac, al, an]), h15⟩)
 replace hF := bf c13 hF
 refine c_seq <| c_region <| oy hS y_move ?_
 refine o_callS hS func109 rfl rfl (hc := (w_r0_Between (a0 := a0) (a1 := 14) (a2 := 17))) (h := ?_)
 clear hS; intro w hS
 refine o_split (ht := fun c17 => ?_) (hf := fun c17 => ?_)
 · replace hF := bt c17 hF
   iterate 2 (refine o_sk rfl rfl ?_)
   refine oy hS y_pickT <| oy hS y_assign <| n_thenN ?_
   refine c_if_true (h := ?_)
   refine c_seq <| c_region ?_
   refine o_buildT val_int ([3] : List Int) hS el_int (fun _ => rfl) enc_len_int (by decide) rfl (by decide) (hp := rfl) (h := ?_)
   clear hS; intro b18 w hS h19
   have hS : St W g [] ([(b18, blk (([3] : List Int).flatMap enc_int) 3)] ++ []) w := hS
   refine oy hS y_assign <| n_thenN ?_
   subst hF
   refine wp_ret (r_ret (vs := [(.slice (some ⟨b18, 0, none⟩) 1 1)]) (hS.re (.t .h .n)) (rsC res_tmp rsN) rfl ⟨_, _, rfl, (by first | rfl | simp only [aa, ac, al, an]), h19⟩)
 replace hF := bf c17 hF
 refine o_gu rfl rfl rfl <| oy hS y_move <| o_gu rfl rfl rfl <| oy hS y_bin <| oy hS y_pickF <| oy hS y_assign <| n_thenN ?_
 refine c_if (ht := fun c21 => ?_) (hf := fun c21 => ?_)
 · replace hF := bt c21 hF
   refine c_seq <| c_region ?_
   refine o_buildT val_int ([3] : List Int) hS el_int (fun _ => rfl) enc_len_int (by decide) rfl (by decide) (hp := rfl) (h := ?_)
   clear hS; intro b22 w hS h23
   have hS : St W g [] ([(b22, blk (([3] : List Int).flatMap enc_int) 3)] ++ []) w := hS
   refine oy hS y_assign <| n_thenN ?_
   subst hF
   refine wp_ret (r_ret (vs := [(.slice (some ⟨b22, 0, none⟩) 1 1)]) (hS.re (.t .h .n)) (rsC res_tmp rsN) rfl ⟨_, _, rfl, (by first | rfl | simp only [aa, ac, al, an]), h23⟩)
 replace hF := bf c21 hF
 refine c_seq <| c_region <| oy hS y_move ?_
 refine o_callS hS func109 rfl rfl (hc := (w_r0_Between (a0 := a0) (a1 := 24) (a2 := 27))) (h := ?_)
 clear hS; intro w hS
 refine oy hS y_assign <| n_thenN ?_
 refine c_if (ht := fun c25 => ?_) (hf := fun c25 => ?_)
 · replace hF := bt c25 hF
   refine c_seq <| c_region ?_
   refine o_buildT val_int ([2] : List Int) hS el_int (fun _ => rfl) enc_len_int (by decide) rfl (by decide) (hp := rfl) (h := ?_)
   clear hS; intro b26 w hS h27
   have hS : St W g [] ([(b26, blk (([2] : List Int).flatMap enc_int) 3)] ++ []) w := hS
   refine oy hS y_assign <| n_thenN ?_
   subst hF
   refine wp_ret (r_ret (vs := [(.slice (some ⟨b26, 0, none⟩) 1 1)]) (hS.re (.t .h .n)) (rsC res_tmp rsN) rfl ⟨_, _, rfl, (by first | rfl | simp only [aa, ac, al, an]), h27⟩)
 replace hF := bf c25 hF
 refine c_seq <| c_region <| oy hS y_move ?_
 refine o_callS hS func73 rfl rfl (hc := (w_r3_Ends (a0 := a0))) (h := ?_)
 clear hS; intro w hS
 refine oy hS y_assign <| n_thenN ?_
 refine c_if (ht := fun c29 => ?_) (hf := fun c29 => ?_)
 · replace hF := bt c29 hF
   refine c_seq <| c_region ?_
   refine o_buildT val_int ([0] : List Int) hS el_int (fun _ => rfl) enc_len_int (by decide) rfl (by decide) (hp := rfl) (h := ?_)
   clear hS; intro b30 w hS h31
   have hS : St W g [] ([(b30, blk (([0] : List Int).flatMap enc_int) 3)] ++ []) w := hS
   refine oy hS y_assign <| n_thenN ?_
   subst hF
   refine wp_ret (r_ret (vs := [(.slice (some ⟨b30, 0, none⟩) 1 1)]) (hS.re (.t .h .n)) (rsC res_tmp rsN) rfl ⟨_, _, rfl, (by first | rfl | simp only [aa, ac, al, an]), h31⟩)
 replace hF := bf c29 hF
 refine wp_skip <| c_seq <| c_region ?_
 refine o_buildT val_int ([0, 1] : List Int) hS el_int (fun _ => rfl) enc_len_int (by decide) rfl (by decide) (hp := rfl) (h := ?_)
 clear hS; intro b33 w hS h34
 have hS : St W g [] ([(b33, blk (([0, 1] : List Int).flatMap enc_int) 3)] ++ []) w := hS
 refine oy hS y_assign <| n_thenN ?_
 subst hF
 refine wp_ret (r_ret (vs := [(.slice (some ⟨b33, 0, none⟩) 2 2)]) (hS.re (.t .h .n)) (rsC res_tmp rsN) rfl ⟨_, _, rfl, (by first | rfl | simp only [aa, ac, al, an]), h34⟩)
theorem w_r3_Slots {g : Frag} {a0 : Int}  : LC Tryz.prog 108 #[.int .i64 a0] g [] (fun v L => ∃ (u0 : Value) (M0 : Own), u0 = v ∧ L = (M0 ++ []) ∧ OwT 3 enc_int 1 (r3_Slots a0) u0 M0) := w_r3_Slots_  rfl

noncomputable def r0_In_b1 (a0 : (List Int)) (a1 : Int) : Int → Option (Step Int Int) := fun x15 => bif decide (x15 < (a0.length : Int)) then (at' a0 x15).bind fun x35 => bif decide (x35 = a1) then some (.done (x15)) else some (.next (IntKind.i64.wrap (x15 + 1))) else some (.done ((-1)))
noncomputable def r0_In (a0 : (List Int)) (a1 : Int) : Option Int :=
  loop (σ := Int) (r0_In_b1 a0 a1) 0
theorem w_r0_In_ {g : Frag} {a0 : (List Int)} {v0_ : Value} {a1 : Int} {r : Int} (h0 : SlT g enc_int 1 a0 v0_) (hF : r0_In a0 a1 = some r) : LCs Tryz.prog 71 #[v0_, .int .i64 a1] g (.int .i64 r) := by
 unfold r0_In at hF
 refine lc_body (k := 19) (av := [v0_, .int .i64 a1]) func71 rfl rfl (h := fun W hS => ?_)
 refine c_seq <| c_region <| oy hS y_assign <| n_thenN ?_
 iterate 2 (refine c_seq ?_)
 refine c_region <| oy hS y_assign <| n_thenN <| c_block ?_
 refine c_loopP hF (fun (q : Int) a w' => (∃ s : Nat → Value, a = Ac ((((Fm.dead 19 s).upd 0 v0_).upd 1 (.int .i64 a1)).upd 5 (.int .i64 q))) ∧ St W g [] [] w') ⟨mk_exF, (hS.re (.n))⟩ ?_
 clear hS hF
 intro n32 q a w hI hq
 revert hq hI; revert q; intro x15 hI hq
 obtain ⟨⟨s33, rfl⟩, hS⟩ := hq
 obtain ⟨z30, hF, B0⟩ := iter_step hI
 clear hI
 dsimp only [r0_In_b1] at hF
 iterate 2 (refine c_seq ?_)
 refine c_region ?_
 iterate 2 (refine oy hS y_move ?_)
 refine oy hS (y_len h0 underlying37) <| oy hS y_bin <| n_thenN ?_
 refine c_if (ht := fun c34 => ?_) (hf := fun c34 => ?_)
 · replace hF := bt c34 hF
   refine wp_skip <| c_seq <| c_block <| c_seq <| c_region ?_
   iterate 2 (refine oy hS y_move ?_)
   obtain ⟨x35, D0, hF⟩ := ob hF
   obtain ⟨b36, o37, c38, M0, e40, N0, E0, G0, I0, J0, K0⟩ := SlT.at D0 h0 enc_len_int
   refine oy hS (y_index E0 G0 I0 underlying37 el_int.size) <| oy hS (y_load (fun w hS => hS.block J0) underlying3 rfl (K0 0 _ rfl)) <| oy hS y_move <| oy hS y_bin <| n_thenN ?_
   refine c_if (ht := fun c47 => ?_) (hf := fun c47 => ?_)
   · replace hF := bt c47 hF
     refine c_seq <| c_region <| oy hS y_move <| oy hS y_assign <| n_thenN ?_
     obtain rfl := osi hF
     obtain rfl : _ = r := B0
     exact wp_ret (wr1 hS)
   replace hF := bf c47 hF
   refine wp_skip <| c_region <| oy hS y_move <| oy hS y_bin <| oy hS y_assign <| n_thenN ?_
   obtain rfl := osi hF
   exact ⟨_, B0, mk_exF, (hS.re (.n))⟩
 replace hF := bf c34 hF
 refine wp_exit ?_
 refine c_seq <| c_region <| oy hS y_assign <| n_thenN ?_
 obtain rfl := osi hF
 obtain rfl : _ = r := B0
 exact wp_ret (wr1 hS)
theorem w_r0_In {g : Frag} {a0 : (List Int)} {v0_ : Value} {a1 : Int} {r : Int} (h0 : SlT g enc_int 1 a0 v0_) (hF : r0_In a0 a1 = some r) : LCs Tryz.prog 71 #[v0_, .int .i64 a1] g (.int .i64 r) := w_r0_In_ h0 hF
end Go.Proofs.YtfnmihhcopkkbaaGreat
