/- Functions, lifted. Printed by lift.py. -/
import Derived.Test.YtfnmihhcopkkbaaGreatProg
import Derived.Test.YtfnmihhcopkkbaaGreatP11
import Derived.Test.YtfnmihhcopkkbaaGreatP12
import Derived.KernelRfl
namespace Go.Proofs.YtfnmihhcopkkbaaGreat
open Go Go.RowKit Fr
set_option linter.unusedVariables false
set_option linter.unusedSimpArgs false
set_option maxRecDepth 20000
open Tryz
set_option maxHeartbeats 2000000
noncomputable def r19_Compare_k3 (x96 : Int) (B0 : Int) (x68 : Int) (E0 : Int) (x74 : (List Int)) (G0 : (List Int)) (x84 : Int) (I0 : Int) (x85 : (List Int)) (J0 : (List Int)) (x69 : (List Int)) (K0 : (List Int)) : Bool → Option T_Verdict := fun D0 => bif decide (x96 = 0) then bif decide (B0 ≠ 6) then some (⟨x68, E0, x96, B0, D0, D0⟩ : T_Verdict) else some (⟨x68, E0, x96, B0, false, D0⟩ : T_Verdict) else bif decide (x96 = B0) then (r0_EqWords x74 G0).bind fun M0 => bif M0 then bif decide (x84 = I0) then (r0_EqWords x85 J0).bind fun N0 => bif N0 then bif decide (x96 ≠ 1) then some (⟨x68, E0, x96, B0, true, D0⟩ : T_Verdict) else (r0_EqWords x69 K0).bind fun R0 => some (⟨x68, E0, x96, B0, R0, D0⟩ : T_Verdict) else some (⟨x68, E0, x96, B0, false, D0⟩ : T_Verdict) else some (⟨x68, E0, x96, B0, false, D0⟩ : T_Verdict) else some (⟨x68, E0, x96, B0, false, D0⟩ : T_Verdict) else some (⟨x68, E0, x96, B0, false, D0⟩ : T_Verdict)
noncomputable def r19_Compare_k2 (x85 : (List Int)) (x96 : Int) (x68 : Int) (x74 : (List Int)) (x84 : Int) (x69 : (List Int)) : (Int × (List Int) × (List Int) × (List Int) × Int × (List Int) × Int × (List Int) × Int × (List T_Write) × Int × Int) → Option T_Verdict := fun (D0, E0, G0, N0, I0, B0, R0, T0, J0, U0, V0, X0) => cut (σ := Bool) ((r0_Begins x85 B0).bind fun K0 => bif K0 then some (.next true) else (r0_Begins B0 x85).bind fun M0 => some (.next M0)) (r19_Compare_k3 x96 J0 x68 D0 x74 G0 x84 I0 x85 B0 x69 E0)
noncomputable def r19_Compare_k1 (a0 : T_Image) (a3 : (List Int)) (a2 : Int) : (Int × (List Int) × (List Int) × (List Int) × Int × (List Int) × Int × (List Int) × Int × (List T_Write) × Int × Int) → Option T_Verdict := fun (x68, x69, x74, x79, x84, x85, x90, x91, x96, x97, E0, G0) => cut (σ := (Int × (List Int) × (List Int) × (List Int) × Int × (List Int) × Int × (List Int) × Int × (List T_Write) × Int × Int)) ((r19_Load a0.Data a0.Entry a3).bind fun D0 => (r5_Cycles a0.Code D0 (IntKind.i64.wrap ((IntKind.i64.wrap (4 * a2)) + 8)) true).bind fun B0 => some (.next (B0.2, B0.1.Regs, B0.1.Mem, B0.1.In_, B0.1.Taken, B0.1.Out, B0.1.PC, B0.1.Stack, B0.1.Stop, B0.1.Fly, B0.1.Jump, B0.1.Delay))) (r19_Compare_k2 x85 x96 x68 x74 x84 x69)
noncomputable def r19_Compare (a0 : T_Image) (a1 : T_Flat) (a2 : Int) (a3 : (List Int)) : Option T_Verdict :=
  cut (σ := (Int × (List Int) × (List Int) × (List Int) × Int × (List Int) × Int × (List Int) × Int × (List T_Write) × Int × Int)) ((r19_Load a1.Data a1.Entry a3).bind fun D0 => (r5_Run a1.Code D0 a2).bind fun B0 => some (.next (B0.2, B0.1.Regs, B0.1.Mem, B0.1.In_, B0.1.Taken, B0.1.Out, B0.1.PC, B0.1.Stack, B0.1.Stop, B0.1.Fly, B0.1.Jump, B0.1.Delay))) (r19_Compare_k1 a0 a3 a2)
theorem w_r19_Compare_ {g : Frag} {a0 : T_Image} {v0_ : Value} {a1 : T_Flat} {v1_ : Value} {a2 : Int} {a3 : (List Int)} {v3_ : Value} {r : T_Verdict} (h0 : Rd_Image g a0 v0_) (h1 : Rd_Flat g a1 v1_) (h3 : SlT g enc_uint32 1 a3 v3_) (hF : r19_Compare a0 a1 a2 a3 = some r) : LCs Tryz.prog 13 #[v0_, v1_, .int .i64 a2, v3_] g (.agg (enc_Verdict r).toArray) := by
 obtain ⟨V4, X4, rfl, Y4, K8⟩ := h0
 obtain ⟨M8, N8, rfl, Z4, R8⟩ := h1
 unfold r19_Compare at hF
 refine lc_body (k := 114) (av := [.agg (cl_Image V4 X4 a0.Entry).toArray, .agg (cl_Flat M8 N8 a1.Entry).toArray, .int .i64 a2, v3_]) func13 rfl rfl (h := fun W hS => ?_)
 refine c_seq <| c_region ?_
 refine o_boxP (cl := (cl_Image V4 X4 a0.Entry)) rfl hS ?_
 clear hS; intro b1 w hS
 refine o_boxP (cl := (cl_Flat M8 N8 a1.Entry)) rfl hS ?_
 clear hS; intro b2 w hS
 refine o_allocP (cl := (enc_Verdict ⟨0, 0, 0, 0, false, false⟩)) zr_api_Verdict rfl hS ?_
 clear hS; intro b3 w hS
 refine n_thenN ?_
 obtain ⟨Y9, hF, B5⟩ := cut_step hF
 refine c_cutP (fun a w' => ∃ (x68 : Int) (x69 : (List Int)) (x74 : (List Int)) (x79 : (List Int)) (x84 : Int) (x85 : (List Int)) (x90 : Int) (x91 : (List Int)) (x96 : Int) (x97 : (List T_Write)) (Z3 : Int) (B4 : Int) (v70 : Value) (v75 : Value) (v80 : Value) (v86 : Value) (v92 : Value) (v98 : Value) (D4 : Own) (E4 : Own) (G4 : Own) (I4 : Own) (J4 : Own) (K3 : Own) (b67 : Nat), r19_Compare_k1 a0 a3 a2 (x68, x69, x74, x79, x84, x85, x90, x91, x96, x97, Z3, B4) = some r ∧ OwT 87 enc_uint32 1 x69 v70 D4 ∧ OwT 87 enc_uint32 1 x74 v75 E4 ∧ OwT 87 enc_uint32 1 x79 v80 G4 ∧ OwT 87 enc_uint32 1 x85 v86 I4 ∧ OwT 3 enc_int 1 x91 v92 J4 ∧ OwT 89 enc_Write 3 x97 v98 K3 ∧ (∃ s : Nat → Value, a = Ac (((((((Fm.dead 114 s).upd 2 (.int .i64 a2)).upd 3 v3_).upd 4 (.pointer (some ⟨b1, 0, none⟩))).upd 8 (.pointer (some ⟨b3, 0, none⟩))).upd 9 (.pointer (some ⟨b67, 0, none⟩))).upd 10 (.int .i64 x68))) ∧ St W g [] ((b1, blk (cl_Image V4 X4 a0.Entry) 40) :: ((b3, blk (enc_Verdict ⟨0, 0, 0, 0, false, false⟩) 50) :: ((b67, blk (cl_State v70 v75 v80 x84 v86 x90 v92 x96 v98 Z3 B4) 62) :: (D4 ++ (E4 ++ (G4 ++ (I4 ++ (J4 ++ (K3 ++ []))))))))) w') ?_ ?_
 · skip
   obtain ⟨M7, T8, hF⟩ := ob hF
   obtain ⟨B0, D5, hF⟩ := ob hF
   refine c_heldL 14 16 (by kernel_rfl) rfl hS ?_
   clear hS; intro w hS
   refine hy0 0 rfl wn (by kernel_rfl) (nq (P := Tryz.prog) (fn := Tryz.f13)) (fun _ => hS.cb) (y_field fa_api_Flat_0) ?_
   refine hy 1 rfl wn (by kernel_rfl) (nq (P := Tryz.prog) (fn := Tryz.f13)) hS.cb (y_load (fun w hS => hS.own (mC (mH))) underlying53 rfl rfl) ?_
   refine hy0 2 rfl wn (by kernel_rfl) (nq (P := Tryz.prog) (fn := Tryz.f13)) (fun _ => hS.cb) (y_field fa_api_Flat_1) ?_
   refine hy 3 rfl wn (by kernel_rfl) (nq (P := Tryz.prog) (fn := Tryz.f13)) hS.cb (y_load (fun w hS => hS.own (mC (mH))) underlying31 rfl rfl) ?_
   refine hy0 4 rfl wn (by kernel_rfl) (nq (P := Tryz.prog) (fn := Tryz.f13)) (fun _ => hS.cb) (y_field fa_api_Flat_2) ?_
   refine hy 5 rfl wn (by kernel_rfl) (nq (P := Tryz.prog) (fn := Tryz.f13)) hS.cb (y_load (fun w hS => hS.own (mC (mH))) underlying3 rfl rfl) ?_
   refine hy0 6 rfl wn (by kernel_rfl) (nq (P := Tryz.prog) (fn := Tryz.f13)) (fun _ => hS.cb) y_move ?_
   refine hy0 8 rfl wn (by kernel_rfl) (nq (P := Tryz.prog) (fn := Tryz.f13)) (fun _ => hS.cb) y_move ?_
   refine hb2 7 13 (by kernel_rfl) (hb_op rfl wn (nl (P := Tryz.prog) (fn := Tryz.f13)) ?_) (hb_op rfl wn (nl (P := Tryz.prog) (fn := Tryz.f13)) ?_)
   · skip
     refine o_call0 hS func20 rfl rfl (hc := (w_r19_Load (a0 := a1.Data) (a1 := a1.Entry) (a2 := a3) (h0 := R8.plus) (h2 := h3.plus) (hF := T8))) (h := ?_)
     clear hS; intro T9 G9 w hS E5
     obtain ⟨v_0_110, LX_0_111, rfl, rfl, h_0_112⟩ := E5
     obtain ⟨U6, V6, X6, Y6, Z6, B7, G5, I5, J5, K5, M5, N5, rfl, rfl, R2, T2, U2, V2, X2, Y2⟩ := h_0_112
     simp only [aa, ac, al] at hS
     refine hb_next (fun _ => (hS.re (.b (.d (.d (.d (.d (.d (.d .hb)))))) (.b (.d (.d (.d (.d (.d (.d .hb)))))) (.b (.d (.d (.d (.d (.d (.d .hb)))))) .n)))).cb) ?_
     refine hb2 9 13 (by kernel_rfl) (hb_op rfl wn (nl (P := Tryz.prog) (fn := Tryz.f13)) ?_) (hb_op rfl wn (nl (P := Tryz.prog) (fn := Tryz.f13)) ?_)
     · skip
       refine o_call0 hS func28 rfl rfl (hc := (w_r5_Run (a0 := a1.Code) (a1 := M7) (a2 := a2) (h0 := Z4.plus) (h1 := ⟨_, _, _, _, _, _, rfl, (OwT.plus R2 hS (fun p hp => mA (hp))), (OwT.plus T2 hS (fun p hp => mB (mA (hp)))), (OwT.plus U2 hS (fun p hp => mB (mB (mA (hp))))), (OwT.plus V2 hS (fun p hp => mB (mB (mB (mA (hp)))))), (OwT.plus X2 hS (fun p hp => mB (mB (mB (mB (mA (hp))))))), (OwT.plus Y2 hS (fun p hp => mB (mB (mB (mB (mB (mA (hp))))))))⟩) (hF := D5))) (h := ?_)
       clear hS; intro Z8 U8 w hS M3
       obtain ⟨v_0_141, LX_0_142, rfl, rfl, h_0_143⟩ := M3
       obtain ⟨J0, K0, M0, N0, R0, T0, X1, Y1, Z1, B2, D2, E2, rfl, rfl, U0, V0, X0, Y0, Z0, B1⟩ := h_0_143
       simp only [aa, ac, al] at hS
       have hC := (hS.re (.b (.d (.d (.d (.d (.d (.d (.d (.d (.d (.d (.d (.d .hb)))))))))))) (.b (.d (.d (.d (.d (.d (.d (.d (.d (.d (.d (.d (.d .hb)))))))))))) (.b (.d (.d (.d (.d (.d (.d (.d (.d (.d (.d (.d (.d .hb)))))))))))) .n)))).cb
       refine hb_next (fun _ => hC) ?_
       refine hy0 10 rfl wn (by kernel_rfl) (nq (P := Tryz.prog) (fn := Tryz.f13)) (fun _ => hC) y_move ?_
       refine hy0 11 rfl wn (by kernel_rfl) (nq (P := Tryz.prog) (fn := Tryz.f13)) (fun _ => hC) (y_extract rfl) ?_
       refine hy0 12 rfl wn (by kernel_rfl) (nq (P := Tryz.prog) (fn := Tryz.f13)) (fun _ => hC) (y_extract rfl) ?_
       refine hb1 13 (by kernel_rfl) (hb_op rfl wn (nl (P := Tryz.prog) (fn := Tryz.f13)) ?_)
       refine o_allocP (cl := (cl_State (.slice none 0 0) (.slice none 0 0) (.slice none 0 0) 0 (.slice none 0 0) 0 (.slice none 0 0) 0 (.slice none 0 0) 0 0)) zr_api_State rfl hS ?_
       clear hS; intro K4 w hS
       refine hb_next (fun _ => (hS.re (.b (.e (.d (.d (.d (.d (.d (.d (.d (.d (.d (.d (.d (.d .hb))))))))))))) (.b (.e (.d (.d (.d (.d (.d (.d (.d (.d (.d (.d (.d (.d .hb))))))))))))) (.b (.e (.d (.d (.d (.d (.d (.d (.d (.d (.d (.d (.d (.d .hb))))))))))))) .n)))).cb) ?_
       refine hb1 14 (by kernel_rfl) (hb_op rfl wn (nl (P := Tryz.prog) (fn := Tryz.f13)) ?_)
       refine o_storeW (vs := (cl_State J0 K0 M0 B0.1.Taken N0 B0.1.PC R0 B0.1.Stop T0 B0.1.Jump B0.1.Delay)) hS (by exact rfl) (Upd.here _) (by exact sz_api_State) (one_State (U0).one (V0).one (X0).one (Y0).one (Z0).one (B1).one) ?_
       clear hS; intro w hS
       refine hb_next (fun h => absurd h (by decide)) ?_
       refine hy0 15 rfl wn (by kernel_rfl) (nq (P := Tryz.prog) (fn := Tryz.f13)) (fun h => absurd h (by decide)) y_assign ?_
       refine hb_done (by kernel_rfl) ?_
       obtain rfl := osi hF
       change ∃ _, _
       exact ⟨B0.2, B0.1.Regs, B0.1.Mem, B0.1.In_, B0.1.Taken, B0.1.Out, B0.1.PC, B0.1.Stack, B0.1.Stop, B0.1.Fly, B0.1.Jump, B0.1.Delay, J0, K0, M0, N0, R0, T0, X1, Y1, Z1, B2, D2, E2, K4, B5, U0, V0, X0, Y0, Z0, B1, mk_exF, (hS.re (.b (.e (.d (.d (.d (.d (.d (.d (.d (.d (.d (.d (.d (.d (.e (.e .hb))))))))))))))) (.b (.e (.d (.d (.d (.d (.d (.d (.d (.d (.d (.d (.d (.d .hb))))))))))))) (.b .hb (.t .h (.t .h (.t .h (.t .h (.t .h (.t .h .n))))))))))⟩
     refine o_allocP (cl := (cl_State (.slice none 0 0) (.slice none 0 0) (.slice none 0 0) 0 (.slice none 0 0) 0 (.slice none 0 0) 0 (.slice none 0 0) 0 0)) zr_api_State rfl hS ?_
     clear hS; intro K4 w hS
     refine hb_next (fun _ => (hS.re (.b (.e (.d (.d (.d (.d (.d (.d .hb))))))) (.b (.e (.d (.d (.d (.d (.d (.d .hb))))))) (.b (.e (.d (.d (.d (.d (.d (.d .hb))))))) .n)))).cb) ?_
     refine hb1 9 (by kernel_rfl) (hb_op rfl wn (nl (P := Tryz.prog) (fn := Tryz.f13)) ?_)
     refine o_call0 hS func28 rfl rfl (hc := (w_r5_Run (a0 := a1.Code) (a1 := M7) (a2 := a2) (h0 := Z4.plus) (h1 := ⟨_, _, _, _, _, _, rfl, (OwT.plus R2 hS (fun p hp => mC (mA (hp)))), (OwT.plus T2 hS (fun p hp => mC (mB (mA (hp))))), (OwT.plus U2 hS (fun p hp => mC (mB (mB (mA (hp)))))), (OwT.plus V2 hS (fun p hp => mC (mB (mB (mB (mA (hp))))))), (OwT.plus X2 hS (fun p hp => mC (mB (mB (mB (mB (mA (hp)))))))), (OwT.plus Y2 hS (fun p hp => mC (mB (mB (mB (mB (mB (mA (hp)))))))))⟩) (hF := D5))) (h := ?_)
     clear hS; intro Z8 U8 w hS M3
     obtain ⟨v_0_141, LX_0_142, rfl, rfl, h_0_143⟩ := M3
     obtain ⟨J0, K0, M0, N0, R0, T0, X1, Y1, Z1, B2, D2, E2, rfl, rfl, U0, V0, X0, Y0, Z0, B1⟩ := h_0_143
     simp only [aa, ac, al] at hS
     have hC := (hS.re (.b (.d (.d (.d (.d (.d (.d (.e (.d (.d (.d (.d (.d (.d .hb))))))))))))) (.b (.d (.d (.d (.d (.d (.d (.e (.d (.d (.d (.d (.d (.d .hb))))))))))))) (.b (.d (.d (.d (.d (.d (.d (.e (.d (.d (.d (.d (.d (.d .hb))))))))))))) .n)))).cb
     refine hb_next (fun _ => hC) ?_
     refine hy0 10 rfl wn (by kernel_rfl) (nq (P := Tryz.prog) (fn := Tryz.f13)) (fun _ => hC) y_move ?_
     refine hy0 11 rfl wn (by kernel_rfl) (nq (P := Tryz.prog) (fn := Tryz.f13)) (fun _ => hC) (y_extract rfl) ?_
     refine hy0 12 rfl wn (by kernel_rfl) (nq (P := Tryz.prog) (fn := Tryz.f13)) (fun _ => hC) (y_extract rfl) ?_
     refine hb1 14 (by kernel_rfl) (hb_op rfl wn (nl (P := Tryz.prog) (fn := Tryz.f13)) ?_)
     have hS := hS.re (.b (.d (.d (.d (.d (.d (.d .hb)))))) (.t .h (.t .h (.t .h (.t .h (.t .h (.t .h (.t .h (.t .h (.t .h (.t .h (.t .h (.t .h (.b .hb (.b .hb (.b .hb .n))))))))))))))))
     refine o_storeW (vs := (cl_State J0 K0 M0 B0.1.Taken N0 B0.1.PC R0 B0.1.Stop T0 B0.1.Jump B0.1.Delay)) hS (by exact rfl) (Upd.here _) (by exact sz_api_State) (one_State (U0).one (V0).one (X0).one (Y0).one (Z0).one (B1).one) ?_
     clear hS; intro w hS
     refine hb_next (fun h => absurd h (by decide)) ?_
     refine hy0 15 rfl wn (by kernel_rfl) (nq (P := Tryz.prog) (fn := Tryz.f13)) (fun h => absurd h (by decide)) y_assign ?_
     refine hb_done (by kernel_rfl) ?_
     obtain rfl := osi hF
     change ∃ _, _
     exact ⟨B0.2, B0.1.Regs, B0.1.Mem, B0.1.In_, B0.1.Taken, B0.1.Out, B0.1.PC, B0.1.Stack, B0.1.Stop, B0.1.Fly, B0.1.Jump, B0.1.Delay, J0, K0, M0, N0, R0, T0, X1, Y1, Z1, B2, D2, E2, K4, B5, U0, V0, X0, Y0, Z0, B1, mk_exF, (hS.re (.b (.e (.d (.d (.d (.d (.d (.d (.d (.d (.d (.d (.d (.d (.e (.e .hb))))))))))))))) (.b (.e (.d (.d (.d (.d (.d (.d (.d (.d (.d (.d (.d (.d .hb))))))))))))) (.b .hb (.t .h (.t .h (.t .h (.t .h (.t .h (.t .h .n))))))))))⟩
   refine o_allocP (cl := (cl_State (.slice none 0 0) (.slice none 0 0) (.slice none 0 0) 0 (.slice none 0 0) 0 (.slice none 0 0) 0 (.slice none 0 0) 0 0)) zr_api_State rfl hS ?_
   clear hS; intro K4 w hS
   refine hb_next (fun _ => (hS.re (.b (.e .hb) (.b (.e .hb) (.b (.e .hb) .n)))).cb) ?_
   refine hb1 7 (by kernel_rfl) (hb_op rfl wn (nl (P := Tryz.prog) (fn := Tryz.f13)) ?_)
   refine o_call0 hS func20 rfl rfl (hc := (w_r19_Load (a0 := a1.Data) (a1 := a1.Entry) (a2 := a3) (h0 := R8.plus) (h2 := h3.plus) (hF := T8))) (h := ?_)
   clear hS; intro T9 G9 w hS E5
   obtain ⟨v_0_110, LX_0_111, rfl, rfl, h_0_112⟩ := E5
   obtain ⟨U6, V6, X6, Y6, Z6, B7, G5, I5, J5, K5, M5, N5, rfl, rfl, R2, T2, U2, V2, X2, Y2⟩ := h_0_112
   simp only [aa, ac, al] at hS
   refine hb_next (fun _ => (hS.re (.b (.d (.d (.d (.d (.d (.d (.e .hb))))))) (.b (.d (.d (.d (.d (.d (.d (.e .hb))))))) (.b (.d (.d (.d (.d (.d (.d (.e .hb))))))) .n)))).cb) ?_
   refine hb1 9 (by kernel_rfl) (hb_op rfl wn (nl (P := Tryz.prog) (fn := Tryz.f13)) ?_)
   refine o_call0 hS func28 rfl rfl (hc := (w_r5_Run (a0 := a1.Code) (a1 := M7) (a2 := a2) (h0 := Z4.plus) (h1 := ⟨_, _, _, _, _, _, rfl, (OwT.plus R2 hS (fun p hp => mA (hp))), (OwT.plus T2 hS (fun p hp => mB (mA (hp)))), (OwT.plus U2 hS (fun p hp => mB (mB (mA (hp))))), (OwT.plus V2 hS (fun p hp => mB (mB (mB (mA (hp)))))), (OwT.plus X2 hS (fun p hp => mB (mB (mB (mB (mA (hp))))))), (OwT.plus Y2 hS (fun p hp => mB (mB (mB (mB (mB (mA (hp))))))))⟩) (hF := D5))) (h := ?_)
   clear hS; intro Z8 U8 w hS M3
   obtain ⟨v_0_141, LX_0_142, rfl, rfl, h_0_143⟩ := M3
   obtain ⟨J0, K0, M0, N0, R0, T0, X1, Y1, Z1, B2, D2, E2, rfl, rfl, U0, V0, X0, Y0, Z0, B1⟩ := h_0_143
   simp only [aa, ac, al] at hS
   have hC := (hS.re (.b (.d (.d (.d (.d (.d (.d (.d (.d (.d (.d (.d (.d (.e .hb))))))))))))) (.b (.d (.d (.d (.d (.d (.d (.d (.d (.d (.d (.d (.d (.e .hb))))))))))))) (.b (.d (.d (.d (.d (.d (.d (.d (.d (.d (.d (.d (.d (.e .hb))))))))))))) .n)))).cb
   refine hb_next (fun _ => hC) ?_
   refine hy0 10 rfl wn (by kernel_rfl) (nq (P := Tryz.prog) (fn := Tryz.f13)) (fun _ => hC) y_move ?_
   refine hy0 11 rfl wn (by kernel_rfl) (nq (P := Tryz.prog) (fn := Tryz.f13)) (fun _ => hC) (y_extract rfl) ?_
   refine hy0 12 rfl wn (by kernel_rfl) (nq (P := Tryz.prog) (fn := Tryz.f13)) (fun _ => hC) (y_extract rfl) ?_
   refine hb1 14 (by kernel_rfl) (hb_op rfl wn (nl (P := Tryz.prog) (fn := Tryz.f13)) ?_)
   have hS := hS.re (.b (.d (.d (.d (.d (.d (.d (.d (.d (.d (.d (.d (.d .hb)))))))))))) (.t .h (.t .h (.t .h (.t .h (.t .h (.t .h (.t .h (.t .h (.t .h (.t .h (.t .h (.t .h (.b .hb (.b .hb (.b .hb .n))))))))))))))))
   refine o_storeW (vs := (cl_State J0 K0 M0 B0.1.Taken N0 B0.1.PC R0 B0.1.Stop T0 B0.1.Jump B0.1.Delay)) hS (by exact rfl) (Upd.here _) (by exact sz_api_State) (one_State (U0).one (V0).one (X0).one (Y0).one (Z0).one (B1).one) ?_
   clear hS; intro w hS
   refine hb_next (fun h => absurd h (by decide)) ?_
   refine hy0 15 rfl wn (by kernel_rfl) (nq (P := Tryz.prog) (fn := Tryz.f13)) (fun h => absurd h (by decide)) y_assign ?_
   refine hb_done (by kernel_rfl) ?_
   obtain rfl := osi hF
   change ∃ _, _
   exact ⟨B0.2, B0.1.Regs, B0.1.Mem, B0.1.In_, B0.1.Taken, B0.1.Out, B0.1.PC, B0.1.Stack, B0.1.Stop, B0.1.Fly, B0.1.Jump, B0.1.Delay, J0, K0, M0, N0, R0, T0, X1, Y1, Z1, B2, D2, E2, K4, B5, U0, V0, X0, Y0, Z0, B1, mk_exF, (hS.re (.b (.e (.d (.d (.d (.d (.d (.d (.d (.d (.d (.d (.d (.d (.e (.e .hb))))))))))))))) (.b (.e (.d (.d (.d (.d (.d (.d (.d (.d (.d (.d (.d (.d .hb))))))))))))) (.b .hb (.t .h (.t .h (.t .h (.t .h (.t .h (.t .h .n))))))))))⟩
 rintro a w ⟨x68, x69, x74, x79, x84, x85, x90, x91, x96, x97, Z3, B4, v70, v75, v80, v86, v92, v98, D4, E4, G4, I4, J4, K3, b67, hF, h71, h76, h81, h87, h93, h99, ⟨Z9, rfl⟩, hS⟩
 dsimp only [r19_Compare_k1] at hF
 obtain ⟨Ba, hF, R5⟩ := cut_step hF
 refine c_cutP (fun a w' => ∃ (G0 : Int) (M4 : (List Int)) (N4 : (List Int)) (N7 : (List Int)) (R4 : Int) (J3 : (List Int)) (T5 : Int) (R7 : (List Int)) (E0 : Int) (T7 : (List T_Write)) (U5 : Int) (V5 : Int) (X5 : Value) (Y5 : Value) (Z5 : Value) (B6 : Value) (D6 : Value) (E6 : Value) (R3 : Own) (T3 : Own) (U3 : Own) (V3 : Own) (X3 : Own) (Y3 : Own) (T4 : Nat), r19_Compare_k2 x85 x96 x68 x74 x84 x69 (G0, M4, N4, N7, R4, J3, T5, R7, E0, T7, U5, V5) = some r ∧ OwT 87 enc_uint32 1 M4 X5 R3 ∧ OwT 87 enc_uint32 1 N4 Y5 T3 ∧ OwT 87 enc_uint32 1 N7 Z5 U3 ∧ OwT 87 enc_uint32 1 J3 B6 V3 ∧ OwT 3 enc_int 1 R7 D6 X3 ∧ OwT 89 enc_Write 3 T7 E6 Y3 ∧ (∃ s : Nat → Value, a = Ac ((((((Fm.dead 114 s).upd 8 (.pointer (some ⟨b3, 0, none⟩))).upd 9 (.pointer (some ⟨b67, 0, none⟩))).upd 10 (.int .i64 x68)).upd 11 (.pointer (some ⟨T4, 0, none⟩))).upd 12 (.int .i64 G0))) ∧ St W g [] ((b3, blk (enc_Verdict ⟨0, 0, 0, 0, false, false⟩) 50) :: ((b67, blk (cl_State v70 v75 v80 x84 v86 x90 v92 x96 v98 Z3 B4) 62) :: ((T4, blk (cl_State X5 Y5 Z5 R4 B6 T5 D6 E0 E6 U5 V5) 62) :: (D4 ++ (E4 ++ (G4 ++ (I4 ++ (J4 ++ (K3 ++ (R3 ++ (T3 ++ (U3 ++ (V3 ++ (X3 ++ (Y3 ++ []))))))))))))))) w') ?_ ?_
 · skip
   obtain ⟨U7, V8, hF⟩ := ob hF
   obtain ⟨D0, G6, hF⟩ := ob hF
   refine c_heldL 16 18 (by kernel_rfl) rfl hS ?_
   clear hS; intro w hS
   refine hy0 0 rfl wn (by kernel_rfl) (nq (P := Tryz.prog) (fn := Tryz.f13)) (fun _ => hS.cb) (y_field fa_api_Image_0) ?_
   refine hy 1 rfl wn (by kernel_rfl) (nq (P := Tryz.prog) (fn := Tryz.f13)) hS.cb (y_load (fun w hS => hS.own (mH)) underlying38 rfl rfl) ?_
   refine hy0 2 rfl wn (by kernel_rfl) (nq (P := Tryz.prog) (fn := Tryz.f13)) (fun _ => hS.cb) (y_field fa_api_Image_1) ?_
   refine hy 3 rfl wn (by kernel_rfl) (nq (P := Tryz.prog) (fn := Tryz.f13)) hS.cb (y_load (fun w hS => hS.own (mH)) underlying31 rfl rfl) ?_
   refine hy0 4 rfl wn (by kernel_rfl) (nq (P := Tryz.prog) (fn := Tryz.f13)) (fun _ => hS.cb) (y_field fa_api_Image_2) ?_
   refine hy 5 rfl wn (by kernel_rfl) (nq (P := Tryz.prog) (fn := Tryz.f13)) hS.cb (y_load (fun w hS => hS.own (mH)) underlying3 rfl rfl) ?_
   refine hy0 6 rfl wn (by kernel_rfl) (nq (P := Tryz.prog) (fn := Tryz.f13)) (fun _ => hS.cb) y_move ?_
   refine hy0 8 rfl wn (by kernel_rfl) (nq (P := Tryz.prog) (fn := Tryz.f13)) (fun _ => hS.cb) y_move ?_
   refine hy0 9 rfl wn (by kernel_rfl) (nq (P := Tryz.prog) (fn := Tryz.f13)) (fun _ => hS.cb) y_bin ?_
   refine hy0 10 rfl wn (by kernel_rfl) (nq (P := Tryz.prog) (fn := Tryz.f13)) (fun _ => hS.cb) y_bin ?_
   refine hb2 7 15 (by kernel_rfl) (hb_op rfl wn (nl (P := Tryz.prog) (fn := Tryz.f13)) ?_) (hb_op rfl wn (nl (P := Tryz.prog) (fn := Tryz.f13)) ?_)
   · skip
     refine o_call0 hS func20 rfl rfl (hc := (w_r19_Load (a0 := a0.Data) (a1 := a0.Entry) (a2 := a3) (h0 := K8.plus) (h2 := h3.plus) (hF := V8))) (h := ?_)
     clear hS; intro U9 I9 w hS I6
     obtain ⟨v_0_276, LX_0_277, rfl, rfl, h_0_278⟩ := I6
     obtain ⟨D7, E7, G7, I7, J7, K7, J6, K6, M6, N6, R6, T6, rfl, rfl, Z2, B3, D3, E3, G3, I3⟩ := h_0_278
     simp only [aa, ac, al] at hS
     refine hb_next (fun _ => (hS.re (.b (.d (.d (.d (.d (.d (.d .hb)))))) (.b (.d (.d (.d (.d (.d (.d .hb)))))) (.b (.d (.d (.d (.d (.d (.d .hb)))))) (.t (.d (.d (.d (.d (.d (.d .h)))))) (.t (.d (.d (.d (.d (.d (.d .h)))))) (.t (.d (.d (.d (.d (.d (.d .h)))))) (.t (.d (.d (.d (.d (.d (.d .h)))))) (.t (.d (.d (.d (.d (.d (.d .h)))))) (.t (.d (.d (.d (.d (.d (.d .h)))))) .n)))))))))).cb) ?_
     refine hb2 11 15 (by kernel_rfl) (hb_op rfl wn (nl (P := Tryz.prog) (fn := Tryz.f13)) ?_) (hb_op rfl wn (nl (P := Tryz.prog) (fn := Tryz.f13)) ?_)
     · skip
       refine o_call0 hS func21 rfl rfl (hc := (w_r5_Cycles (a0 := a0.Code) (a1 := U7) (a2 := (IntKind.i64.wrap ((IntKind.i64.wrap (4 * a2)) + 8))) (a3 := true) (h0 := Y4.plus) (h1 := ⟨_, _, _, _, _, _, rfl, (OwT.plus Z2 hS (fun p hp => mA (hp))), (OwT.plus B3 hS (fun p hp => mB (mA (hp)))), (OwT.plus D3 hS (fun p hp => mB (mB (mA (hp))))), (OwT.plus E3 hS (fun p hp => mB (mB (mB (mA (hp)))))), (OwT.plus G3 hS (fun p hp => mB (mB (mB (mB (mA (hp))))))), (OwT.plus I3 hS (fun p hp => mB (mB (mB (mB (mB (mA (hp))))))))⟩) (hF := G6))) (h := ?_)
       clear hS; intro B9 X8 w hS N3
       obtain ⟨v_0_307, LX_0_308, rfl, rfl, h_0_309⟩ := N3
       obtain ⟨D1, E1, G1, I1, J1, K1, G2, I2, J2, K2, M2, N2, rfl, rfl, M1, N1, R1, T1, U1, V1⟩ := h_0_309
       simp only [aa, ac, al] at hS
       have hC := (hS.re (.b (.d (.d (.d (.d (.d (.d (.d (.d (.d (.d (.d (.d .hb)))))))))))) (.b (.d (.d (.d (.d (.d (.d (.d (.d (.d (.d (.d (.d .hb)))))))))))) (.b (.d (.d (.d (.d (.d (.d (.d (.d (.d (.d (.d (.d .hb)))))))))))) (.t (.d (.d (.d (.d (.d (.d (.d (.d (.d (.d (.d (.d .h)))))))))))) (.t (.d (.d (.d (.d (.d (.d (.d (.d (.d (.d (.d (.d .h)))))))))))) (.t (.d (.d (.d (.d (.d (.d (.d (.d (.d (.d (.d (.d .h)))))))))))) (.t (.d (.d (.d (.d (.d (.d (.d (.d (.d (.d (.d (.d .h)))))))))))) (.t (.d (.d (.d (.d (.d (.d (.d (.d (.d (.d (.d (.d .h)))))))))))) (.t (.d (.d (.d (.d (.d (.d (.d (.d (.d (.d (.d (.d .h)))))))))))) .n)))))))))).cb
       refine hb_next (fun _ => hC) ?_
       refine hy0 12 rfl wn (by kernel_rfl) (nq (P := Tryz.prog) (fn := Tryz.f13)) (fun _ => hC) y_move ?_
       refine hy0 13 rfl wn (by kernel_rfl) (nq (P := Tryz.prog) (fn := Tryz.f13)) (fun _ => hC) (y_extract rfl) ?_
       refine hy0 14 rfl wn (by kernel_rfl) (nq (P := Tryz.prog) (fn := Tryz.f13)) (fun _ => hC) (y_extract rfl) ?_
       refine hb1 15 (by kernel_rfl) (hb_op rfl wn (nl (P := Tryz.prog) (fn := Tryz.f13)) ?_)
       refine o_allocP (cl := (cl_State (.slice none 0 0) (.slice none 0 0) (.slice none 0 0) 0 (.slice none 0 0) 0 (.slice none 0 0) 0 (.slice none 0 0) 0 0)) zr_api_State rfl hS ?_
       clear hS; intro U4 w hS
       refine hb_next (fun _ => (hS.re (.b (.e (.d (.d (.d (.d (.d (.d (.d (.d (.d (.d (.d (.d .hb))))))))))))) (.b (.e (.d (.d (.d (.d (.d (.d (.d (.d (.d (.d (.d (.d .hb))))))))))))) (.b (.e (.d (.d (.d (.d (.d (.d (.d (.d (.d (.d (.d (.d .hb))))))))))))) (.t (.e (.d (.d (.d (.d (.d (.d (.d (.d (.d (.d (.d (.d .h))))))))))))) (.t (.e (.d (.d (.d (.d (.d (.d (.d (.d (.d (.d (.d (.d .h))))))))))))) (.t (.e (.d (.d (.d (.d (.d (.d (.d (.d (.d (.d (.d (.d .h))))))))))))) (.t (.e (.d (.d (.d (.d (.d (.d (.d (.d (.d (.d (.d (.d .h))))))))))))) (.t (.e (.d (.d (.d (.d (.d (.d (.d (.d (.d (.d (.d (.d .h))))))))))))) (.t (.e (.d (.d (.d (.d (.d (.d (.d (.d (.d (.d (.d (.d .h))))))))))))) .n)))))))))).cb) ?_
       refine hb1 16 (by kernel_rfl) (hb_op rfl wn (nl (P := Tryz.prog) (fn := Tryz.f13)) ?_)
       refine o_storeW (vs := (cl_State D1 E1 G1 D0.1.Taken I1 D0.1.PC J1 D0.1.Stop K1 D0.1.Jump D0.1.Delay)) hS (by exact rfl) (Upd.here _) (by exact sz_api_State) (one_State (M1).one (N1).one (R1).one (T1).one (U1).one (V1).one) ?_
       clear hS; intro w hS
       refine hb_next (fun h => absurd h (by decide)) ?_
       refine hy0 17 rfl wn (by kernel_rfl) (nq (P := Tryz.prog) (fn := Tryz.f13)) (fun h => absurd h (by decide)) y_assign ?_
       refine hb_done (by kernel_rfl) ?_
       obtain rfl := osi hF
       change ∃ _, _
       exact ⟨D0.2, D0.1.Regs, D0.1.Mem, D0.1.In_, D0.1.Taken, D0.1.Out, D0.1.PC, D0.1.Stack, D0.1.Stop, D0.1.Fly, D0.1.Jump, D0.1.Delay, D1, E1, G1, I1, J1, K1, G2, I2, J2, K2, M2, N2, U4, R5, M1, N1, R1, T1, U1, V1, mk_exF, (hS.re (.b (.e (.d (.d (.d (.d (.d (.d (.d (.d (.d (.d (.d (.d (.e .hb)))))))))))))) (.b (.e (.d (.d (.d (.d (.d (.d (.d (.d (.d (.d (.d (.d (.e .hb)))))))))))))) (.b .hb (.t (.d (.d (.d (.d (.d (.d (.d (.d (.d (.d (.d (.d (.e .h))))))))))))) (.t (.d (.d (.d (.d (.d (.d (.d (.d (.d (.d (.d (.d (.e .h))))))))))))) (.t (.d (.d (.d (.d (.d (.d (.d (.d (.d (.d (.d (.d (.e .h))))))))))))) (.t (.d (.d (.d (.d (.d (.d (.d (.d (.d (.d (.d (.d (.e .h))))))))))))) (.t (.d (.d (.d (.d (.d (.d (.d (.d (.d (.d (.d (.d (.e .h))))))))))))) (.t (.d (.d (.d (.d (.d (.d (.d (.d (.d (.d (.d (.d (.e .h))))))))))))) (.t .h (.t .h (.t .h (.t .h (.t .h (.t .h .n))))))))))))))))⟩
     refine o_allocP (cl := (cl_State (.slice none 0 0) (.slice none 0 0) (.slice none 0 0) 0 (.slice none 0 0) 0 (.slice none 0 0) 0 (.slice none 0 0) 0 0)) zr_api_State rfl hS ?_
     clear hS; intro U4 w hS
     refine hb_next (fun _ => (hS.re (.b (.e (.d (.d (.d (.d (.d (.d .hb))))))) (.b (.e (.d (.d (.d (.d (.d (.d .hb))))))) (.b (.e (.d (.d (.d (.d (.d (.d .hb))))))) (.t (.e (.d (.d (.d (.d (.d (.d .h))))))) (.t (.e (.d (.d (.d (.d (.d (.d .h))))))) (.t (.e (.d (.d (.d (.d (.d (.d .h))))))) (.t (.e (.d (.d (.d (.d (.d (.d .h))))))) (.t (.e (.d (.d (.d (.d (.d (.d .h))))))) (.t (.e (.d (.d (.d (.d (.d (.d .h))))))) .n)))))))))).cb) ?_
     refine hb1 11 (by kernel_rfl) (hb_op rfl wn (nl (P := Tryz.prog) (fn := Tryz.f13)) ?_)
     refine o_call0 hS func21 rfl rfl (hc := (w_r5_Cycles (a0 := a0.Code) (a1 := U7) (a2 := (IntKind.i64.wrap ((IntKind.i64.wrap (4 * a2)) + 8))) (a3 := true) (h0 := Y4.plus) (h1 := ⟨_, _, _, _, _, _, rfl, (OwT.plus Z2 hS (fun p hp => mC (mA (hp)))), (OwT.plus B3 hS (fun p hp => mC (mB (mA (hp))))), (OwT.plus D3 hS (fun p hp => mC (mB (mB (mA (hp)))))), (OwT.plus E3 hS (fun p hp => mC (mB (mB (mB (mA (hp))))))), (OwT.plus G3 hS (fun p hp => mC (mB (mB (mB (mB (mA (hp)))))))), (OwT.plus I3 hS (fun p hp => mC (mB (mB (mB (mB (mB (mA (hp)))))))))⟩) (hF := G6))) (h := ?_)
     clear hS; intro B9 X8 w hS N3
     obtain ⟨v_0_307, LX_0_308, rfl, rfl, h_0_309⟩ := N3
     obtain ⟨D1, E1, G1, I1, J1, K1, G2, I2, J2, K2, M2, N2, rfl, rfl, M1, N1, R1, T1, U1, V1⟩ := h_0_309
     simp only [aa, ac, al] at hS
     have hC := (hS.re (.b (.d (.d (.d (.d (.d (.d (.e (.d (.d (.d (.d (.d (.d .hb))))))))))))) (.b (.d (.d (.d (.d (.d (.d (.e (.d (.d (.d (.d (.d (.d .hb))))))))))))) (.b (.d (.d (.d (.d (.d (.d (.e (.d (.d (.d (.d (.d (.d .hb))))))))))))) (.t (.d (.d (.d (.d (.d (.d (.e (.d (.d (.d (.d (.d (.d .h))))))))))))) (.t (.d (.d (.d (.d (.d (.d (.e (.d (.d (.d (.d (.d (.d .h))))))))))))) (.t (.d (.d (.d (.d (.d (.d (.e (.d (.d (.d (.d (.d (.d .h))))))))))))) (.t (.d (.d (.d (.d (.d (.d (.e (.d (.d (.d (.d (.d (.d .h))))))))))))) (.t (.d (.d (.d (.d (.d (.d (.e (.d (.d (.d (.d (.d (.d .h))))))))))))) (.t (.d (.d (.d (.d (.d (.d (.e (.d (.d (.d (.d (.d (.d .h))))))))))))) .n)))))))))).cb
     refine hb_next (fun _ => hC) ?_
     refine hy0 12 rfl wn (by kernel_rfl) (nq (P := Tryz.prog) (fn := Tryz.f13)) (fun _ => hC) y_move ?_
     refine hy0 13 rfl wn (by kernel_rfl) (nq (P := Tryz.prog) (fn := Tryz.f13)) (fun _ => hC) (y_extract rfl) ?_
     refine hy0 14 rfl wn (by kernel_rfl) (nq (P := Tryz.prog) (fn := Tryz.f13)) (fun _ => hC) (y_extract rfl) ?_
     refine hb1 16 (by kernel_rfl) (hb_op rfl wn (nl (P := Tryz.prog) (fn := Tryz.f13)) ?_)
     have hS := hS.re (.b (.d (.d (.d (.d (.d (.d .hb)))))) (.t .h (.t .h (.t .h (.t .h (.t .h (.t .h (.t .h (.t .h (.t .h (.t .h (.t .h (.t .h (.b .hb (.b .hb (.b .hb (.t .h (.t .h (.t .h (.t .h (.t .h (.t .h .n))))))))))))))))))))))
     refine o_storeW (vs := (cl_State D1 E1 G1 D0.1.Taken I1 D0.1.PC J1 D0.1.Stop K1 D0.1.Jump D0.1.Delay)) hS (by exact rfl) (Upd.here _) (by exact sz_api_State) (one_State (M1).one (N1).one (R1).one (T1).one (U1).one (V1).one) ?_
     clear hS; intro w hS
     refine hb_next (fun h => absurd h (by decide)) ?_
     refine hy0 17 rfl wn (by kernel_rfl) (nq (P := Tryz.prog) (fn := Tryz.f13)) (fun h => absurd h (by decide)) y_assign ?_
     refine hb_done (by kernel_rfl) ?_
     obtain rfl := osi hF
     change ∃ _, _
     exact ⟨D0.2, D0.1.Regs, D0.1.Mem, D0.1.In_, D0.1.Taken, D0.1.Out, D0.1.PC, D0.1.Stack, D0.1.Stop, D0.1.Fly, D0.1.Jump, D0.1.Delay, D1, E1, G1, I1, J1, K1, G2, I2, J2, K2, M2, N2, U4, R5, M1, N1, R1, T1, U1, V1, mk_exF, (hS.re (.b (.e (.d (.d (.d (.d (.d (.d (.d (.d (.d (.d (.d (.d (.e .hb)))))))))))))) (.b (.e (.d (.d (.d (.d (.d (.d (.d (.d (.d (.d (.d (.d (.e .hb)))))))))))))) (.b .hb (.t (.d (.d (.d (.d (.d (.d (.d (.d (.d (.d (.d (.d (.e .h))))))))))))) (.t (.d (.d (.d (.d (.d (.d (.d (.d (.d (.d (.d (.d (.e .h))))))))))))) (.t (.d (.d (.d (.d (.d (.d (.d (.d (.d (.d (.d (.d (.e .h))))))))))))) (.t (.d (.d (.d (.d (.d (.d (.d (.d (.d (.d (.d (.d (.e .h))))))))))))) (.t (.d (.d (.d (.d (.d (.d (.d (.d (.d (.d (.d (.d (.e .h))))))))))))) (.t (.d (.d (.d (.d (.d (.d (.d (.d (.d (.d (.d (.d (.e .h))))))))))))) (.t .h (.t .h (.t .h (.t .h (.t .h (.t .h .n))))))))))))))))⟩
   refine o_allocP (cl := (cl_State (.slice none 0 0) (.slice none 0 0) (.slice none 0 0) 0 (.slice none 0 0) 0 (.slice none 0 0) 0 (.slice none 0 0) 0 0)) zr_api_State rfl hS ?_
   clear hS; intro U4 w hS
   refine hb_next (fun _ => (hS.re (.b (.e .hb) (.b (.e .hb) (.b (.e .hb) (.t (.e .h) (.t (.e .h) (.t (.e .h) (.t (.e .h) (.t (.e .h) (.t (.e .h) .n)))))))))).cb) ?_
   refine hb1 7 (by kernel_rfl) (hb_op rfl wn (nl (P := Tryz.prog) (fn := Tryz.f13)) ?_)
   refine o_call0 hS func20 rfl rfl (hc := (w_r19_Load (a0 := a0.Data) (a1 := a0.Entry) (a2 := a3) (h0 := K8.plus) (h2 := h3.plus) (hF := V8))) (h := ?_)
   clear hS; intro U9 I9 w hS I6
   obtain ⟨v_0_276, LX_0_277, rfl, rfl, h_0_278⟩ := I6
   obtain ⟨D7, E7, G7, I7, J7, K7, J6, K6, M6, N6, R6, T6, rfl, rfl, Z2, B3, D3, E3, G3, I3⟩ := h_0_278
   simp only [aa, ac, al] at hS
   refine hb_next (fun _ => (hS.re (.b (.d (.d (.d (.d (.d (.d (.e .hb))))))) (.b (.d (.d (.d (.d (.d (.d (.e .hb))))))) (.b (.d (.d (.d (.d (.d (.d (.e .hb))))))) (.t (.d (.d (.d (.d (.d (.d (.e .h))))))) (.t (.d (.d (.d (.d (.d (.d (.e .h))))))) (.t (.d (.d (.d (.d (.d (.d (.e .h))))))) (.t (.d (.d (.d (.d (.d (.d (.e .h))))))) (.t (.d (.d (.d (.d (.d (.d (.e .h))))))) (.t (.d (.d (.d (.d (.d (.d (.e .h))))))) .n)))))))))).cb) ?_
   refine hb1 11 (by kernel_rfl) (hb_op rfl wn (nl (P := Tryz.prog) (fn := Tryz.f13)) ?_)
   refine o_call0 hS func21 rfl rfl (hc := (w_r5_Cycles (a0 := a0.Code) (a1 := U7) (a2 := (IntKind.i64.wrap ((IntKind.i64.wrap (4 * a2)) + 8))) (a3 := true) (h0 := Y4.plus) (h1 := ⟨_, _, _, _, _, _, rfl, (OwT.plus Z2 hS (fun p hp => mA (hp))), (OwT.plus B3 hS (fun p hp => mB (mA (hp)))), (OwT.plus D3 hS (fun p hp => mB (mB (mA (hp))))), (OwT.plus E3 hS (fun p hp => mB (mB (mB (mA (hp)))))), (OwT.plus G3 hS (fun p hp => mB (mB (mB (mB (mA (hp))))))), (OwT.plus I3 hS (fun p hp => mB (mB (mB (mB (mB (mA (hp))))))))⟩) (hF := G6))) (h := ?_)
   clear hS; intro B9 X8 w hS N3
   obtain ⟨v_0_307, LX_0_308, rfl, rfl, h_0_309⟩ := N3
   obtain ⟨D1, E1, G1, I1, J1, K1, G2, I2, J2, K2, M2, N2, rfl, rfl, M1, N1, R1, T1, U1, V1⟩ := h_0_309
   simp only [aa, ac, al] at hS
   have hC := (hS.re (.b (.d (.d (.d (.d (.d (.d (.d (.d (.d (.d (.d (.d (.e .hb))))))))))))) (.b (.d (.d (.d (.d (.d (.d (.d (.d (.d (.d (.d (.d (.e .hb))))))))))))) (.b (.d (.d (.d (.d (.d (.d (.d (.d (.d (.d (.d (.d (.e .hb))))))))))))) (.t (.d (.d (.d (.d (.d (.d (.d (.d (.d (.d (.d (.d (.e .h))))))))))))) (.t (.d (.d (.d (.d (.d (.d (.d (.d (.d (.d (.d (.d (.e .h))))))))))))) (.t (.d (.d (.d (.d (.d (.d (.d (.d (.d (.d (.d (.d (.e .h))))))))))))) (.t (.d (.d (.d (.d (.d (.d (.d (.d (.d (.d (.d (.d (.e .h))))))))))))) (.t (.d (.d (.d (.d (.d (.d (.d (.d (.d (.d (.d (.d (.e .h))))))))))))) (.t (.d (.d (.d (.d (.d (.d (.d (.d (.d (.d (.d (.d (.e .h))))))))))))) .n)))))))))).cb
   refine hb_next (fun _ => hC) ?_
   refine hy0 12 rfl wn (by kernel_rfl) (nq (P := Tryz.prog) (fn := Tryz.f13)) (fun _ => hC) y_move ?_
   refine hy0 13 rfl wn (by kernel_rfl) (nq (P := Tryz.prog) (fn := Tryz.f13)) (fun _ => hC) (y_extract rfl) ?_
   refine hy0 14 rfl wn (by kernel_rfl) (nq (P := Tryz.prog) (fn := Tryz.f13)) (fun _ => hC) (y_extract rfl) ?_
   refine hb1 16 (by kernel_rfl) (hb_op rfl wn (nl (P := Tryz.prog) (fn := Tryz.f13)) ?_)
   have hS := hS.re (.b (.d (.d (.d (.d (.d (.d (.d (.d (.d (.d (.d (.d .hb)))))))))))) (.t .h (.t .h (.t .h (.t .h (.t .h (.t .h (.t .h (.t .h (.t .h (.t .h (.t .h (.t .h (.b .hb (.b .hb (.b .hb (.t .h (.t .h (.t .h (.t .h (.t .h (.t .h .n))))))))))))))))))))))
   refine o_storeW (vs := (cl_State D1 E1 G1 D0.1.Taken I1 D0.1.PC J1 D0.1.Stop K1 D0.1.Jump D0.1.Delay)) hS (by exact rfl) (Upd.here _) (by exact sz_api_State) (one_State (M1).one (N1).one (R1).one (T1).one (U1).one (V1).one) ?_
   clear hS; intro w hS
   refine hb_next (fun h => absurd h (by decide)) ?_
   refine hy0 17 rfl wn (by kernel_rfl) (nq (P := Tryz.prog) (fn := Tryz.f13)) (fun h => absurd h (by decide)) y_assign ?_
   refine hb_done (by kernel_rfl) ?_
   obtain rfl := osi hF
   change ∃ _, _
   exact ⟨D0.2, D0.1.Regs, D0.1.Mem, D0.1.In_, D0.1.Taken, D0.1.Out, D0.1.PC, D0.1.Stack, D0.1.Stop, D0.1.Fly, D0.1.Jump, D0.1.Delay, D1, E1, G1, I1, J1, K1, G2, I2, J2, K2, M2, N2, U4, R5, M1, N1, R1, T1, U1, V1, mk_exF, (hS.re (.b (.e (.d (.d (.d (.d (.d (.d (.d (.d (.d (.d (.d (.d (.e .hb)))))))))))))) (.b (.e (.d (.d (.d (.d (.d (.d (.d (.d (.d (.d (.d (.d (.e .hb)))))))))))))) (.b .hb (.t (.d (.d (.d (.d (.d (.d (.d (.d (.d (.d (.d (.d (.e .h))))))))))))) (.t (.d (.d (.d (.d (.d (.d (.d (.d (.d (.d (.d (.d (.e .h))))))))))))) (.t (.d (.d (.d (.d (.d (.d (.d (.d (.d (.d (.d (.d (.e .h))))))))))))) (.t (.d (.d (.d (.d (.d (.d (.d (.d (.d (.d (.d (.d (.e .h))))))))))))) (.t (.d (.d (.d (.d (.d (.d (.d (.d (.d (.d (.d (.d (.e .h))))))))))))) (.t (.d (.d (.d (.d (.d (.d (.d (.d (.d (.d (.d (.d (.e .h))))))))))))) (.t .h (.t .h (.t .h (.t .h (.t .h (.t .h .n))))))))))))))))⟩
 rintro a w ⟨G0, M4, N4, N7, R4, J3, T5, R7, E0, T7, U5, V5, X5, Y5, Z5, B6, D6, E6, R3, T3, U3, V3, X3, Y3, T4, hF, V9, X9, Da, V7, Ea, Ga, ⟨Ia, rfl⟩, hS⟩
 dsimp only [r19_Compare_k2] at hF
 refine c_seq <| c_region ?_
 iterate 2 (refine oy hS y_move ?_)
 refine oy hS (y_field fa_api_State_7) <| oy hS (y_load (fun w hS => hS.own (mC (mH))) underlying3 rfl rfl) <| oy hS (y_field fa_api_State_7) <| oy hS (y_load (fun w hS => hS.own (mC (mC (mH)))) underlying3 rfl rfl) ?_
 refine oy hS (y_build (cl := (enc_Verdict ⟨x68, G0, x96, E0, false, false⟩)) bt_api_Verdict rfl (by kernel_rfl)) ?_
 refine o_allocP (cl := (enc_Verdict ⟨0, 0, 0, 0, false, false⟩)) zr_api_Verdict rfl hS ?_
 clear hS; intro D9 w hS
 refine o_storeW (vs := (enc_Verdict ⟨x68, G0, x96, E0, false, false⟩)) hS (by exact rfl) (Upd.here _) (by exact sz_api_Verdict) (enc_one_Verdict _) ?_
 clear hS; intro w hS
 refine n_thenN ?_
 obtain ⟨Ja, hF, Y8⟩ := cut_step hF
 refine c_cutP (fun a w' => ∃ (I0 : Bool), r19_Compare_k3 x96 E0 x68 G0 x74 N4 x84 R4 x85 J3 x69 M4 I0 = some r ∧ (∃ s : Nat → Value, a = Ac (((((Fm.dead 114 s).upd 8 (.pointer (some ⟨b3, 0, none⟩))).upd 9 (.pointer (some ⟨b67, 0, none⟩))).upd 11 (.pointer (some ⟨T4, 0, none⟩))).upd 13 (.pointer (some ⟨D9, 0, none⟩)))) ∧ St W g [] ((b3, blk (enc_Verdict ⟨0, 0, 0, 0, false, false⟩) 50) :: ((b67, blk (cl_State v70 v75 v80 x84 v86 x90 v92 x96 v98 Z3 B4) 62) :: ((T4, blk (cl_State X5 Y5 Z5 R4 B6 T5 D6 E0 E6 U5 V5) 62) :: ((D9, blk (enc_Verdict ⟨x68, G0, x96, E0, false, I0⟩) 50) :: (D4 ++ (E4 ++ (G4 ++ (I4 ++ (J4 ++ (K3 ++ (R3 ++ (T3 ++ (U3 ++ (V3 ++ (X3 ++ (Y3 ++ [])))))))))))))))) w') ?_ ?_
 · skip
   refine c_region <| oy hS (y_field fa_api_State_4) <| oy hS (y_load (fun w hS => hS.own (mC (mC (mH)))) underlying31 rfl rfl) <| oy hS (y_field fa_api_State_4) <| oy hS (y_load (fun w hS => hS.own (mC (mC (mC (mH))))) underlying31 rfl rfl) ?_
   obtain ⟨Ka, J9, hF⟩ := ob hF
   refine o_callS hS func29 rfl rfl (hc := (w_r0_Begins (a0 := x85) (a1 := J3) (h0 := (OwT.plus h87 hS (fun p hp => mC (mC (mC (mC (mB (mB (mB (mA (hp))))))))))) (h1 := (OwT.plus V7 hS (fun p hp => mC (mC (mC (mC (mB (mB (mB (mB (mB (mB (mB (mB (mB (mA (hp))))))))))))))))) (hF := J9))) (h := ?_)
   clear hS; intro w hS
   refine o_split (ht := fun X7 => ?_) (hf := fun X7 => ?_)
   · replace hF := bt X7 hF
     iterate 5 (refine o_sk rfl rfl ?_)
     refine oy hS y_pickT <| oy hS (y_field fa_api_Verdict_5) ?_
     refine o_storeA1 (o := 5) (cl' := (enc_Verdict ⟨x68, G0, x96, E0, false, true⟩)) hS (by kernel_rfl) (by exact Nat.le_of_ble_eq_true rfl) (Upd.here _) (by exact sz_bool) rfl rfl ?_
     clear hS; intro w hS
     refine n_thenN ?_
     obtain rfl := osi hF
     change ∃ _, _
     exact ⟨true, Y8, mk_exF, (hS.re (.b (.e .hb) (.b (.e .hb) (.b (.e .hb) (.b .hb (.t .h (.t .h (.t .h (.t .h (.t .h (.t .h (.t .h (.t .h (.t .h (.t .h (.t .h (.t .h .n)))))))))))))))))⟩
   replace hF := bf X7 hF
   refine o_gu rfl rfl rfl <| oy hS (y_field fa_api_State_4) <| o_gu rfl rfl rfl <| oy hS (y_load (fun w hS => hS.own (mC (mC (mC (mH))))) underlying31 rfl rfl) <| o_gu rfl rfl rfl <| oy hS (y_field fa_api_State_4) <| o_gu rfl rfl rfl <| oy hS (y_load (fun w hS => hS.own (mC (mC (mH)))) underlying31 rfl rfl) ?_
   refine o_gu rfl rfl rfl ?_
   obtain ⟨E9, K9, hF⟩ := ob hF
   refine o_callS hS func29 rfl rfl (hc := (w_r0_Begins (a0 := J3) (a1 := x85) (h0 := (OwT.plus V7 hS (fun p hp => mC (mC (mC (mC (mB (mB (mB (mB (mB (mB (mB (mB (mB (mA (hp))))))))))))))))) (h1 := (OwT.plus h87 hS (fun p hp => mC (mC (mC (mC (mB (mB (mB (mA (hp))))))))))) (hF := K9))) (h := ?_)
   clear hS; intro w hS
   refine oy hS y_pickF <| oy hS (y_field fa_api_Verdict_5) ?_
   refine o_storeA1 (o := 5) (cl' := (enc_Verdict ⟨x68, G0, x96, E0, false, E9⟩)) hS (by kernel_rfl) (by exact Nat.le_of_ble_eq_true rfl) (Upd.here _) (by exact sz_bool) rfl rfl ?_
   clear hS; intro w hS
   refine n_thenN ?_
   obtain rfl := osi hF
   change ∃ _, _
   exact ⟨E9, Y8, mk_exF, (hS.re (.b (.e .hb) (.b (.e .hb) (.b (.e .hb) (.b .hb (.t .h (.t .h (.t .h (.t .h (.t .h (.t .h (.t .h (.t .h (.t .h (.t .h (.t .h (.t .h .n)))))))))))))))))⟩
 rintro a w ⟨I0, hF, ⟨Ma, rfl⟩, hS⟩
 dsimp only [r19_Compare_k3] at hF
 iterate 2 (refine c_seq ?_)
 refine c_region <| oy hS (y_field fa_api_State_7) <| oy hS (y_load (fun w hS => hS.own (mC (mH))) underlying3 rfl rfl) <| oy hS y_bin <| n_thenN ?_
 refine c_if (ht := fun Y7 => ?_) (hf := fun Y7 => ?_)
 · replace hF := bt Y7 hF
   refine c_seq <| c_region <| oy hS (y_field fa_api_State_7) <| oy hS (y_load (fun w hS => hS.own (mC (mC (mH)))) underlying3 rfl rfl) <| oy hS y_bin ?_
   refine o_split (ht := fun Z7 => ?_) (hf := fun Z7 => ?_)
   · replace hF := bt Z7 hF
     refine o_gu rfl rfl rfl <| oy hS (y_field fa_api_Verdict_5) <| o_gu rfl rfl rfl <| oy hS (y_load (fun w hS => hS.own (mC (mC (mC (mH))))) underlying4 rfl rfl) <| oy hS y_pickT <| oy hS (y_field fa_api_Verdict_4) ?_
     refine o_storeA1 (o := 4) (cl' := (enc_Verdict ⟨x68, G0, x96, E0, I0, I0⟩)) hS (by kernel_rfl) (by exact Nat.le_of_ble_eq_true rfl) (Upd.there _ (Upd.there _ (Upd.there _ (Upd.here _)))) (by exact sz_bool) rfl rfl ?_
     clear hS; intro w hS
     refine n_thenN <| c_seq <| c_region ?_
     refine oy hS (y_loadW (fun w hS => hS.own (mC (mC (mC (mH))))) underlying50 rfl (by exact sz_api_Verdict)) ?_
     refine o_storeW (vs := (enc_Verdict ⟨x68, G0, x96, E0, I0, I0⟩)) hS (by exact rfl) (Upd.here _) (by exact sz_api_Verdict) (enc_one_Verdict _) ?_
     clear hS; intro w hS
     refine n_thenN ?_
     obtain rfl := osi hF
     refine wp_ret (r_ret (vs := [.agg (enc_Verdict ⟨x68, G0, x96, E0, I0, I0⟩).toArray]) (hS.re (.nil _)) (rsC (res_cell (hS.own (mH)) underlying50 rfl (by exact sz_api_Verdict)) rsN) rfl ⟨rfl, rfl⟩)
   replace hF := bf Z7 hF
   iterate 2 (refine o_sk rfl rfl ?_)
   refine oy hS y_pickF <| oy hS (y_field fa_api_Verdict_4) ?_
   refine o_storeA1 (o := 4) (cl' := (enc_Verdict ⟨x68, G0, x96, E0, false, I0⟩)) hS (by kernel_rfl) (by exact Nat.le_of_ble_eq_true rfl) (Upd.there _ (Upd.there _ (Upd.there _ (Upd.here _)))) (by exact sz_bool) rfl rfl ?_
   clear hS; intro w hS
   refine n_thenN <| c_seq <| c_region ?_
   refine oy hS (y_loadW (fun w hS => hS.own (mC (mC (mC (mH))))) underlying50 rfl (by exact sz_api_Verdict)) ?_
   refine o_storeW (vs := (enc_Verdict ⟨x68, G0, x96, E0, false, I0⟩)) hS (by exact rfl) (Upd.here _) (by exact sz_api_Verdict) (enc_one_Verdict _) ?_
   clear hS; intro w hS
   refine n_thenN ?_
   obtain rfl := osi hF
   refine wp_ret (r_ret (vs := [.agg (enc_Verdict ⟨x68, G0, x96, E0, false, I0⟩).toArray]) (hS.re (.nil _)) (rsC (res_cell (hS.own (mH)) underlying50 rfl (by exact sz_api_Verdict)) rsN) rfl ⟨rfl, rfl⟩)
 replace hF := bf Y7 hF
 refine wp_skip <| c_seq <| c_region <| oy hS (y_field fa_api_State_7) <| oy hS (y_load (fun w hS => hS.own (mC (mH))) underlying3 rfl rfl) <| oy hS (y_field fa_api_State_7) <| oy hS (y_load (fun w hS => hS.own (mC (mC (mH)))) underlying3 rfl rfl) <| oy hS y_bin ?_
 refine o_split (ht := fun B8 => ?_) (hf := fun B8 => ?_)
 · replace hF := bt B8 hF
   refine o_gu rfl rfl rfl <| oy hS (y_field fa_api_State_1) <| o_gu rfl rfl rfl <| oy hS (y_load (fun w hS => hS.own (mC (mH))) underlying31 rfl rfl) <| o_gu rfl rfl rfl <| oy hS (y_field fa_api_State_1) <| o_gu rfl rfl rfl <| oy hS (y_load (fun w hS => hS.own (mC (mC (mH)))) underlying31 rfl rfl) ?_
   refine o_gu rfl rfl rfl ?_
   obtain ⟨Na, M9, hF⟩ := ob hF
   refine o_callS hS func30 rfl rfl (hc := (w_r0_EqWords (a0 := x74) (a1 := N4) (h0 := (OwT.plus h76 hS (fun p hp => mC (mC (mC (mC (mB (mA (hp))))))))) (h1 := (OwT.plus X9 hS (fun p hp => mC (mC (mC (mC (mB (mB (mB (mB (mB (mB (mB (mA (hp))))))))))))))) (hF := M9))) (h := ?_)
   clear hS; intro w hS
   refine oy hS y_pickT ?_
   refine o_split (ht := fun D8 => ?_) (hf := fun D8 => ?_)
   · replace hF := bt D8 hF
     refine o_gu rfl rfl rfl <| oy hS (y_field fa_api_State_3) <| o_gu rfl rfl rfl <| oy hS (y_load (fun w hS => hS.own (mC (mH))) underlying3 rfl rfl) <| o_gu rfl rfl rfl <| oy hS (y_field fa_api_State_3) <| o_gu rfl rfl rfl <| oy hS (y_load (fun w hS => hS.own (mC (mC (mH)))) underlying3 rfl rfl) ?_
     refine o_gu rfl rfl rfl <| oy hS y_bin <| oy hS y_pickT ?_
     refine o_split (ht := fun E8 => ?_) (hf := fun E8 => ?_)
     · replace hF := bt E8 hF
       refine o_gu rfl rfl rfl <| oy hS (y_field fa_api_State_4) <| o_gu rfl rfl rfl <| oy hS (y_load (fun w hS => hS.own (mC (mH))) underlying31 rfl rfl) <| o_gu rfl rfl rfl <| oy hS (y_field fa_api_State_4) <| o_gu rfl rfl rfl <| oy hS (y_load (fun w hS => hS.own (mC (mC (mH)))) underlying31 rfl rfl) ?_
       refine o_gu rfl rfl rfl ?_
       obtain ⟨Ra, N9, hF⟩ := ob hF
       refine o_callS hS func30 rfl rfl (hc := (w_r0_EqWords (a0 := x85) (a1 := J3) (h0 := (OwT.plus h87 hS (fun p hp => mC (mC (mC (mC (mB (mB (mB (mA (hp))))))))))) (h1 := (OwT.plus V7 hS (fun p hp => mC (mC (mC (mC (mB (mB (mB (mB (mB (mB (mB (mB (mB (mA (hp))))))))))))))))) (hF := N9))) (h := ?_)
       clear hS; intro w hS
       refine oy hS y_pickT ?_
       refine o_split (ht := fun G8 => ?_) (hf := fun G8 => ?_)
       · replace hF := bt G8 hF
         refine o_gu rfl rfl rfl <| oy hS (y_field fa_api_State_7) <| o_gu rfl rfl rfl <| oy hS (y_load (fun w hS => hS.own (mC (mH))) underlying3 rfl rfl) <| o_gu rfl rfl rfl <| oy hS y_bin <| o_gu rfl rfl rfl ?_
         refine o_split (ht := fun I8 => ?_) (hf := fun I8 => ?_)
         · replace hF := bt I8 hF
           iterate 5 (refine o_sk rfl rfl ?_)
           refine o_gu rfl rfl rfl ?_
           iterate 2 (refine oy hS y_pickT ?_)
           refine oy hS (y_field fa_api_Verdict_4) ?_
           refine o_storeA1 (o := 4) (cl' := (enc_Verdict ⟨x68, G0, x96, E0, true, I0⟩)) hS (by kernel_rfl) (by exact Nat.le_of_ble_eq_true rfl) (Upd.there _ (Upd.there _ (Upd.there _ (Upd.here _)))) (by exact sz_bool) rfl rfl ?_
           clear hS; intro w hS
           refine n_thenN <| c_seq <| c_region ?_
           refine oy hS (y_loadW (fun w hS => hS.own (mC (mC (mC (mH))))) underlying50 rfl (by exact sz_api_Verdict)) ?_
           refine o_storeW (vs := (enc_Verdict ⟨x68, G0, x96, E0, true, I0⟩)) hS (by exact rfl) (Upd.here _) (by exact sz_api_Verdict) (enc_one_Verdict _) ?_
           clear hS; intro w hS
           refine n_thenN ?_
           obtain rfl := osi hF
           refine wp_ret (r_ret (vs := [.agg (enc_Verdict ⟨x68, G0, x96, E0, true, I0⟩).toArray]) (hS.re (.nil _)) (rsC (res_cell (hS.own (mH)) underlying50 rfl (by exact sz_api_Verdict)) rsN) rfl ⟨rfl, rfl⟩)
         replace hF := bf I8 hF
         refine o_gu rfl rfl rfl <| oy hS (y_field fa_api_State_0) <| o_gu rfl rfl rfl <| oy hS (y_load (fun w hS => hS.own (mC (mH))) underlying31 rfl rfl) <| o_gu rfl rfl rfl <| oy hS (y_field fa_api_State_0) <| o_gu rfl rfl rfl <| oy hS (y_load (fun w hS => hS.own (mC (mC (mH)))) underlying31 rfl rfl) ?_
         refine o_gu rfl rfl rfl ?_
         obtain ⟨J8, R9, hF⟩ := ob hF
         refine o_callS hS func30 rfl rfl (hc := (w_r0_EqWords (a0 := x69) (a1 := M4) (h0 := (OwT.plus h71 hS (fun p hp => mC (mC (mC (mC (mA (hp)))))))) (h1 := (OwT.plus V9 hS (fun p hp => mC (mC (mC (mC (mB (mB (mB (mB (mB (mB (mA (hp)))))))))))))) (hF := R9))) (h := ?_)
         clear hS; intro w hS
         refine o_gu rfl rfl rfl <| oy hS y_pickF <| oy hS y_pickT <| oy hS (y_field fa_api_Verdict_4) ?_
         refine o_storeA1 (o := 4) (cl' := (enc_Verdict ⟨x68, G0, x96, E0, J8, I0⟩)) hS (by kernel_rfl) (by exact Nat.le_of_ble_eq_true rfl) (Upd.there _ (Upd.there _ (Upd.there _ (Upd.here _)))) (by exact sz_bool) rfl rfl ?_
         clear hS; intro w hS
         refine n_thenN <| c_seq <| c_region ?_
         refine oy hS (y_loadW (fun w hS => hS.own (mC (mC (mC (mH))))) underlying50 rfl (by exact sz_api_Verdict)) ?_
         refine o_storeW (vs := (enc_Verdict ⟨x68, G0, x96, E0, J8, I0⟩)) hS (by exact rfl) (Upd.here _) (by exact sz_api_Verdict) (enc_one_Verdict _) ?_
         clear hS; intro w hS
         refine n_thenN ?_
         obtain rfl := osi hF
         refine wp_ret (r_ret (vs := [.agg (enc_Verdict ⟨x68, G0, x96, E0, J8, I0⟩).toArray]) (hS.re (.nil _)) (rsC (res_cell (hS.own (mH)) underlying50 rfl (by exact sz_api_Verdict)) rsN) rfl ⟨rfl, rfl⟩)
       replace hF := bf G8 hF
       iterate 4 (refine o_sk rfl rfl ?_)
       iterate 5 (refine o_sku rfl rfl ?_)
       refine o_sk rfl rfl ?_
       refine oy hS y_pickF <| oy hS (y_field fa_api_Verdict_4) ?_
       refine o_storeA1 (o := 4) (cl' := (enc_Verdict ⟨x68, G0, x96, E0, false, I0⟩)) hS (by kernel_rfl) (by exact Nat.le_of_ble_eq_true rfl) (Upd.there _ (Upd.there _ (Upd.there _ (Upd.here _)))) (by exact sz_bool) rfl rfl ?_
       clear hS; intro w hS
       refine n_thenN <| c_seq <| c_region ?_
       refine oy hS (y_loadW (fun w hS => hS.own (mC (mC (mC (mH))))) underlying50 rfl (by exact sz_api_Verdict)) ?_
       refine o_storeW (vs := (enc_Verdict ⟨x68, G0, x96, E0, false, I0⟩)) hS (by exact rfl) (Upd.here _) (by exact sz_api_Verdict) (enc_one_Verdict _) ?_
       clear hS; intro w hS
       refine n_thenN ?_
       obtain rfl := osi hF
       refine wp_ret (r_ret (vs := [.agg (enc_Verdict ⟨x68, G0, x96, E0, false, I0⟩).toArray]) (hS.re (.nil _)) (rsC (res_cell (hS.own (mH)) underlying50 rfl (by exact sz_api_Verdict)) rsN) rfl ⟨rfl, rfl⟩)
     replace hF := bf E8 hF
     iterate 5 (refine o_sk rfl rfl ?_)
     refine oy hS y_pickF <| oy hS y_move ?_
     iterate 4 (refine o_sk rfl rfl ?_)
     iterate 5 (refine o_sku rfl rfl ?_)
     refine o_sk rfl rfl ?_
     refine oy hS y_pickF <| oy hS (y_field fa_api_Verdict_4) ?_
     refine o_storeA1 (o := 4) (cl' := (enc_Verdict ⟨x68, G0, x96, E0, false, I0⟩)) hS (by kernel_rfl) (by exact Nat.le_of_ble_eq_true rfl) (Upd.there _ (Upd.there _ (Upd.there _ (Upd.here _)))) (by exact sz_bool) rfl rfl ?_
     clear hS; intro w hS
     refine n_thenN <| c_seq <| c_region ?_
     refine oy hS (y_loadW (fun w hS => hS.own (mC (mC (mC (mH))))) underlying50 rfl (by exact sz_api_Verdict)) ?_
     refine o_storeW (vs := (enc_Verdict ⟨x68, G0, x96, E0, false, I0⟩)) hS (by exact rfl) (Upd.here _) (by exact sz_api_Verdict) (enc_one_Verdict _) ?_
     clear hS; intro w hS
     refine n_thenN ?_
     obtain rfl := osi hF
     refine wp_ret (r_ret (vs := [.agg (enc_Verdict ⟨x68, G0, x96, E0, false, I0⟩).toArray]) (hS.re (.nil _)) (rsC (res_cell (hS.own (mH)) underlying50 rfl (by exact sz_api_Verdict)) rsN) rfl ⟨rfl, rfl⟩)
   replace hF := bf D8 hF
   iterate 5 (refine o_sk rfl rfl ?_)
   refine oy hS y_pickF <| oy hS y_move ?_
   iterate 5 (refine o_sk rfl rfl ?_)
   refine oy hS y_pickF <| oy hS y_move ?_
   iterate 4 (refine o_sk rfl rfl ?_)
   iterate 5 (refine o_sku rfl rfl ?_)
   refine o_sk rfl rfl ?_
   refine oy hS y_pickF <| oy hS (y_field fa_api_Verdict_4) ?_
   refine o_storeA1 (o := 4) (cl' := (enc_Verdict ⟨x68, G0, x96, E0, false, I0⟩)) hS (by kernel_rfl) (by exact Nat.le_of_ble_eq_true rfl) (Upd.there _ (Upd.there _ (Upd.there _ (Upd.here _)))) (by exact sz_bool) rfl rfl ?_
   clear hS; intro w hS
   refine n_thenN <| c_seq <| c_region ?_
   refine oy hS (y_loadW (fun w hS => hS.own (mC (mC (mC (mH))))) underlying50 rfl (by exact sz_api_Verdict)) ?_
   refine o_storeW (vs := (enc_Verdict ⟨x68, G0, x96, E0, false, I0⟩)) hS (by exact rfl) (Upd.here _) (by exact sz_api_Verdict) (enc_one_Verdict _) ?_
   clear hS; intro w hS
   refine n_thenN ?_
   obtain rfl := osi hF
   refine wp_ret (r_ret (vs := [.agg (enc_Verdict ⟨x68, G0, x96, E0, false, I0⟩).toArray]) (hS.re (.nil _)) (rsC (res_cell (hS.own (mH)) underlying50 rfl (by exact sz_api_Verdict)) rsN) rfl ⟨rfl, rfl⟩)
 replace hF := bf B8 hF
 iterate 5 (refine o_sk rfl rfl ?_)
 refine oy hS y_pickF <| oy hS y_move ?_
 iterate 5 (refine o_sk rfl rfl ?_)
 refine oy hS y_pickF <| oy hS y_move ?_
 iterate 5 (refine o_sk rfl rfl ?_)
 refine oy hS y_pickF <| oy hS y_move ?_
 iterate 4 (refine o_sk rfl rfl ?_)
 iterate 5 (refine o_sku rfl rfl ?_)
 refine o_sk rfl rfl ?_
 refine oy hS y_pickF <| oy hS (y_field fa_api_Verdict_4) ?_
 refine o_storeA1 (o := 4) (cl' := (enc_Verdict ⟨x68, G0, x96, E0, false, I0⟩)) hS (by kernel_rfl) (by exact Nat.le_of_ble_eq_true rfl) (Upd.there _ (Upd.there _ (Upd.there _ (Upd.here _)))) (by exact sz_bool) rfl rfl ?_
 clear hS; intro w hS
 refine n_thenN <| c_seq <| c_region ?_
 refine oy hS (y_loadW (fun w hS => hS.own (mC (mC (mC (mH))))) underlying50 rfl (by exact sz_api_Verdict)) ?_
 refine o_storeW (vs := (enc_Verdict ⟨x68, G0, x96, E0, false, I0⟩)) hS (by exact rfl) (Upd.here _) (by exact sz_api_Verdict) (enc_one_Verdict _) ?_
 clear hS; intro w hS
 refine n_thenN ?_
 obtain rfl := osi hF
 refine wp_ret (r_ret (vs := [.agg (enc_Verdict ⟨x68, G0, x96, E0, false, I0⟩).toArray]) (hS.re (.nil _)) (rsC (res_cell (hS.own (mH)) underlying50 rfl (by exact sz_api_Verdict)) rsN) rfl ⟨rfl, rfl⟩)
theorem w_r19_Compare {g : Frag} {a0 : T_Image} {v0_ : Value} {a1 : T_Flat} {v1_ : Value} {a2 : Int} {a3 : (List Int)} {v3_ : Value} {r : T_Verdict} (h0 : Rd_Image g a0 v0_) (h1 : Rd_Flat g a1 v1_) (h3 : SlT g enc_uint32 1 a3 v3_) (hF : r19_Compare a0 a1 a2 a3 = some r) : LCs Tryz.prog 13 #[v0_, v1_, .int .i64 a2, v3_] g (.agg (enc_Verdict r).toArray) := w_r19_Compare_ h0 h1 h3 hF
end Go.Proofs.YtfnmihhcopkkbaaGreat
