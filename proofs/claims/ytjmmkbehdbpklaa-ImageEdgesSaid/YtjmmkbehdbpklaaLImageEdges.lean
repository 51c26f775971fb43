/- The law ImageEdges, lifted. Printed by lift.py. -/
import Derived.Test.YtjmmkbehdbpklaaProg
import Derived.Test.YtjmmkbehdbpklaaP5
import Derived.KernelRfl
namespace Go.Proofs.Ytjmmkbehdbpklaa
open Go Go.RowKit Fr
set_option linter.unusedVariables false
set_option linter.unusedSimpArgs false
set_option maxRecDepth 20000
open Try
set_option maxHeartbeats 2000000
noncomputable def l20_ImageEdges_b5 (a0 : T_Ask20) : (Int × (List Int)) → Option (Step (Int × (List Int)) (Step (List Int) (Step Int (Step Int Bool)))) := fun (B0, D0) => bif decide (B0 < (D0.length : Int)) then (set' D0 B0 (IntKind.u32.wrap (IntKind.i64.wrap (B0 + (a0.X.length : Int))))).bind fun E0 => some (.next (IntKind.i64.wrap (B0 + 1), E0)) else some (.done (.next D0))
noncomputable def l20_ImageEdges_k4 (B0 : (List (A4 T_Ins))) (I0 : Int) : (List Int) → Option (Step Int (Step Int Bool)) := fun D0 => (image_Write (⟨B0, D0, (B0.length : Int)⟩ : T_Image)).bind fun E0 => (image_Load (⟨B0, D0, (B0.length : Int)⟩ : T_Image) ([1, 2] : List Int)).bind fun G0 => (r19_Image (⟨B0, D0, (B0.length : Int)⟩ : T_Image)).bind fun K0 => bif !K0 then bif decide ((l20_num E0.2) ≠ 1) then some (.done (.done (false))) else bif decide ((l20_num G0.2) ≠ 1) then some (.done (.done (false))) else bif !(decide (E0.1 = (ByteArray.mk #[]))) then some (.done (.done (false))) else some (.next (IntKind.i64.wrap (I0 + 1))) else (image_Read E0.1).bind fun J0 => bif decide ((l20_num E0.2) ≠ 0) then some (.done (.done (false))) else bif decide ((l20_num G0.2) ≠ 0) then some (.done (.done (false))) else bif decide ((l20_num J0.2) ≠ 0) then some (.done (.done (false))) else (r19_Write (⟨B0, D0, (B0.length : Int)⟩ : T_Image)).bind fun M0 => bif !(decide (E0.1 = M0)) then some (.done (.done (false))) else (r0_EqImage (⟨B0, D0, (B0.length : Int)⟩ : T_Image) J0.1).bind fun N0 => bif !N0 then some (.done (.done (false))) else (r19_Load D0 (B0.length : Int) ([1, 2] : List Int)).bind fun R0 => (r0_EqState G0.1 R0).bind fun T0 => bif !T0 then some (.done (.done (false))) else (r16_Summed (ByteArray.mk #[105, 109, 97, 103, 101])).bind fun U0 => bif decide ((E0.1.size : Int) ≠ (IntKind.i64.wrap ((IntKind.i64.wrap ((IntKind.i64.wrap ((U0.size : Int) + 13)) + (IntKind.i64.wrap (16 * (B0.length : Int))))) + (IntKind.i64.wrap (4 * (D0.length : Int)))))) then some (.done (.done (false))) else some (.next (IntKind.i64.wrap (I0 + 1)))
noncomputable def l20_ImageEdges_k3 (a0 : T_Ask20) (B0 : Int) : ((List (A4 T_Ins)) × (List Int)) → Option (Step Int (Step Int Bool)) := fun (D0, E0) => cut (σ := (List Int)) (loop (σ := (Int × (List Int))) (l20_ImageEdges_b5 a0) (0, E0)) (l20_ImageEdges_k4 D0 B0)
noncomputable def l20_ImageEdges_b2 (D0 : Int) (a0 : T_Ask20) : Int → Option (Step Int (Step Int Bool)) := fun B0 => bif decide (B0 < 4) then cut (σ := ((List (A4 T_Ins)) × (List Int))) ((at' ([0, 1, 1024, 1025] : List Int) D0).bind fun I0 => (make' I0 (⟨(⟨(0 : Int), (0 : Int), (0 : Int), (0 : Int), (0 : Int), ByteArray.empty⟩ : T_Ins), (⟨(0 : Int), (0 : Int), (0 : Int), (0 : Int), (0 : Int), ByteArray.empty⟩ : T_Ins), (⟨(0 : Int), (0 : Int), (0 : Int), (0 : Int), (0 : Int), ByteArray.empty⟩ : T_Ins), (⟨(0 : Int), (0 : Int), (0 : Int), (0 : Int), (0 : Int), ByteArray.empty⟩ : T_Ins)⟩ : (A4 T_Ins))).bind fun E0 => (at' ([0, 1, 256, 257] : List Int) B0).bind fun J0 => (make' J0 (0 : Int)).bind fun G0 => some (.next (E0, G0))) (l20_ImageEdges_k3 a0 B0) else some (.done (.next (IntKind.i64.wrap (D0 + 1))))
noncomputable def l20_ImageEdges_b1 (a0 : T_Ask20) : Int → Option (Step Int Bool) := fun B0 => bif decide (B0 < 4) then loop (σ := Int) (l20_ImageEdges_b2 B0 a0) 0 else (l20_wakes).bind fun D0 => some (.done (D0))
noncomputable def l20_ImageEdges (a0 : T_Ask20) : Option Bool :=
  loop (σ := Int) (l20_ImageEdges_b1 a0) 0
theorem w_l20_ImageEdges_ {g : Frag} {a0 : T_Ask20} {v0_ : Value} {r : Bool} (h0 : Rd_Ask20 g a0 v0_) (hF : l20_ImageEdges a0 = some r) : LCs Try.prog 3 #[v0_] g (.bool r) := by
 obtain ⟨M0, N0, R0, T0, U0, V0, rfl, V9, X9, Y9, T8, Z9, Ba⟩ := h0
 unfold l20_ImageEdges at hF
 refine lc_body (k := 139) (av := [.agg (cl_Ask20 M0 N0 R0 T0 U0 V0).toArray]) func3 rfl rfl (h := fun W hS => ?_)
 refine c_seq <| c_region ?_
 refine o_boxP (cl := (cl_Ask20 M0 N0 R0 T0 U0 V0)) rfl hS ?_
 clear hS; intro b1 w hS
 refine oy hS y_assign <| n_thenN ?_
 iterate 2 (refine c_seq ?_)
 refine c_region <| oy hS y_assign <| n_thenN <| c_block ?_
 refine c_loopP hF (fun (q : Int) a w' => (∃ s : Nat → Value, a = Ac (((Fm.dead 139 s).upd 1 (.pointer (some ⟨b1, 0, none⟩))).upd 3 (.int .i64 q))) ∧ St W g [] ((b1, blk (cl_Ask20 M0 N0 R0 T0 U0 V0) 33) :: []) w') ⟨mk_exF, (hS.re (.b .hb .n))⟩ ?_
 clear hS hF
 intro Da q a w hI hq
 revert hq hI; revert q; intro T5 hI hq
 obtain ⟨⟨Ea, rfl⟩, hS⟩ := hq
 obtain ⟨N2, hF, I2⟩ := iter_step hI
 clear hI
 dsimp only [l20_ImageEdges_b1] at hF
 iterate 2 (refine c_seq ?_)
 refine c_region <| oy hS y_move <| oy hS y_bin <| n_thenN ?_
 refine c_if (ht := fun U5 => ?_) (hf := fun U5 => ?_)
 · replace hF := bt U5 hF
   refine wp_skip <| c_seq <| c_block <| c_seq <| c_region <| oy hS y_assign <| n_thenN <| c_block ?_
   refine c_loopP hF (fun (q : Int) a w' => (∃ s : Nat → Value, a = Ac ((((Fm.dead 139 s).upd 1 (.pointer (some ⟨b1, 0, none⟩))).upd 3 (.int .i64 T5)).upd 4 (.int .i64 q))) ∧ St W g [] ((b1, blk (cl_Ask20 M0 N0 R0 T0 U0 V0) 33) :: []) w') ⟨mk_exF, (hS.re (.b .hb .n))⟩ ?_
   clear hS hF
   intro Ga q a w hI hq
   revert hq hI; revert q; intro M4 hI hq
   obtain ⟨⟨Ia, rfl⟩, hS⟩ := hq
   obtain ⟨G7, hF, E2⟩ := iter_step hI
   clear hI
   dsimp only [l20_ImageEdges_b2] at hF
   iterate 2 (refine c_seq ?_)
   refine c_region <| oy hS y_move <| oy hS y_bin <| n_thenN ?_
   refine c_if (ht := fun V5 => ?_) (hf := fun V5 => ?_)
   · replace hF := bt V5 hF
     refine wp_skip <| c_seq <| c_block ?_
     obtain ⟨Ja, hF, D1⟩ := cut_step hF
     refine c_cutP (fun a w' => ∃ (I1 : (List (A4 T_Ins))) (X5 : (List Int)) (M2 : Value) (G2 : Value) (J2 : Own) (N4 : Own) (K2 : Nat), l20_ImageEdges_k3 a0 M4 (I1, X5) = some G7 ∧ OwT 80 enc_Bundle 24 I1 M2 J2 ∧ OwT 38 enc_uint32 1 X5 G2 N4 ∧ (∃ s : Nat → Value, a = Ac (((((Fm.dead 139 s).upd 1 (.pointer (some ⟨b1, 0, none⟩))).upd 3 (.int .i64 T5)).upd 4 (.int .i64 M4)).upd 5 (.pointer (some ⟨K2, 0, none⟩)))) ∧ St W g [] ((b1, blk (cl_Ask20 M0 N0 R0 T0 U0 V0) 33) :: ((K2, blk (cl_Image M2 G2 0) 37) :: (J2 ++ (N4 ++ [])))) w') ?_ ?_
     · skip
       obtain ⟨Ka, R2, hF⟩ := ob hF
       obtain ⟨E1, Z0, hF⟩ := ob hF
       obtain ⟨Ma, T2, hF⟩ := ob hF
       obtain ⟨G1, B1, hF⟩ := ob hF
       refine c_heldL 12 13 (by kernel_rfl) rfl hS ?_
       clear hS; intro w hS
       refine hy0 1 rfl wn (by kernel_rfl) (nq (P := Try.prog) (fn := Try.f3)) (fun _ => hS.cb) y_move ?_
       refine hy0 6 rfl wn (by kernel_rfl) (nq (P := Try.prog) (fn := Try.f3)) (fun _ => hS.cb) y_move ?_
       refine hb3 0 5 11 (by kernel_rfl) (hb_op rfl wn (nl (P := Try.prog) (fn := Try.f3)) ?_) (hb_op rfl wn (nl (P := Try.prog) (fn := Try.f3)) ?_) (hb_op rfl wn (nl (P := Try.prog) (fn := Try.f3)) ?_)
       · skip
         refine o_buildT val_int ([0, 1, 1024, 1025] : List Int) hS el_int (fun _ => rfl) enc_len_int (by decide) rfl (by decide) (hp := rfl) (h := ?_)
         clear hS; intro X0 w hS B2
         have hS : St W g [] ([(X0, blk (([0, 1, 1024, 1025] : List Int).flatMap enc_int) 3)] ++ ((b1, blk (cl_Ask20 M0 N0 R0 T0 U0 V0) 33) :: [])) w := hS
         refine hb_next (fun _ => (hS.re (.b (.d .hb) .n)).cb) ?_
         obtain ⟨U3, V3, D3, K1, M1, N1, R1, T1⟩ := OwT.at R2 B2 enc_len_int
         refine hy0 2 rfl wn (by kernel_rfl) (nq (P := Try.prog) (fn := Try.f3)) (fun _ => (hS.re (.b (.d .hb) .n)).cb) (y_index K1 M1 N1 underlying35 el_int.size) ?_
         refine hb_up (CB g ([(X0, blk (([0, 1, 1024, 1025] : List Int).flatMap enc_int) 3)] ++ ((b1, blk (cl_Ask20 M0 N0 R0 T0 U0 V0) 33) :: []))) (fun w h => h.sub (.b (.d .hb) .n)) ?_
         refine hy 3 rfl wn (by kernel_rfl) (nq (P := Try.prog) (fn := Try.f3)) hS.cb (y_load (fun w hS => hS.own (mA (mX R1))) underlying3 rfl (T1 0 _ rfl)) ?_
         refine hb3 4 5 11 (by kernel_rfl) (hb_op rfl wn (nl (P := Try.prog) (fn := Try.f3)) ?_) (hb_op rfl wn (nl (P := Try.prog) (fn := Try.f3)) ?_) (hb_op rfl wn (nl (P := Try.prog) (fn := Try.f3)) ?_)
         · skip
           refine o_makeP Z0 hS el_api_Bundle enc_len_Bundle mz_Bundle (by decide) ?_
           clear hS; intro B0 I0 w E0 hS
           refine hb_next (fun _ => (hS.re (.t (.d .h) (.b (.d .hb) .n))).cb) ?_
           refine hb2 5 11 (by kernel_rfl) (hb_op rfl wn (nl (P := Try.prog) (fn := Try.f3)) ?_) (hb_op rfl wn (nl (P := Try.prog) (fn := Try.f3)) ?_)
           · skip
             refine o_buildT val_int ([0, 1, 256, 257] : List Int) hS el_int (fun _ => rfl) enc_len_int (by decide) rfl (by decide) (hp := rfl) (h := ?_)
             clear hS; intro Y0 w hS D2
             have hS : St W g [] ([(Y0, blk (([0, 1, 256, 257] : List Int).flatMap enc_int) 3)] ++ (I0 ++ ([(X0, blk (([0, 1, 1024, 1025] : List Int).flatMap enc_int) 3)] ++ ((b1, blk (cl_Ask20 M0 N0 R0 T0 U0 V0) 33) :: [])))) w := hS
             have hC := (hS.re (.t (.d (.d .h)) (.b (.d (.d .hb)) .n))).cb
             refine hb_next (fun _ => hC) ?_
             obtain ⟨X3, Y3, E3, U1, V1, X1, Y1, Z1⟩ := OwT.at T2 D2 enc_len_int
             refine hy0 7 rfl wn (by kernel_rfl) (nq (P := Try.prog) (fn := Try.f3)) (fun _ => hC) (y_index U1 V1 X1 underlying35 el_int.size) ?_
             refine hb_up (CB g ([(Y0, blk (([0, 1, 256, 257] : List Int).flatMap enc_int) 3)] ++ (I0 ++ ([(X0, blk (([0, 1, 1024, 1025] : List Int).flatMap enc_int) 3)] ++ ((b1, blk (cl_Ask20 M0 N0 R0 T0 U0 V0) 33) :: []))))) (fun w h => h.sub (.t (.d (.d .h)) (.b (.d (.d .hb)) .n))) ?_
             refine hy 8 rfl wn (by kernel_rfl) (nq (P := Try.prog) (fn := Try.f3)) hS.cb (y_load (fun w hS => hS.own (mA (mX Y1))) underlying3 rfl (Z1 0 _ rfl)) ?_
             refine hb2 9 11 (by kernel_rfl) (hb_op rfl wn (nl (P := Try.prog) (fn := Try.f3)) ?_) (hb_op rfl wn (nl (P := Try.prog) (fn := Try.f3)) ?_)
             · skip
               refine o_makeP B1 hS el_uint32 enc_len_uint32 mz_uint32 (by decide) ?_
               clear hS; intro D0 J0 w G0 hS
               have hC := (hS.re (.t (.d .h) (.t (.d .h) (.t (.d .h) (.b (.d .hb) .n))))).cb
               refine hb_next (fun _ => hC) ?_
               refine hy0 10 rfl wn (by kernel_rfl) (nq (P := Try.prog) (fn := Try.f3)) (fun _ => hC) (y_build (cl := (cl_Image B0 D0 0)) bt_api_Image rfl (fillS (vs := [B0]) rfl (E0).cell rfl rfl (fillS (vs := [D0]) rfl (G0).cell rfl rfl fillN))) ?_
               refine hb1 11 (by kernel_rfl) (hb_op rfl wn (nl (P := Try.prog) (fn := Try.f3)) ?_)
               refine o_allocP (cl := (cl_Image (.slice none 0 0) (.slice none 0 0) 0)) zr_api_Image rfl hS ?_
               clear hS; intro K0 w hS
               refine hb_next (fun _ => (hS.re (.t (.e (.d .h)) (.t (.e (.d .h)) (.t (.e (.d .h)) (.b (.e (.d .hb)) .n))))).cb) ?_
               refine hb1 12 (by kernel_rfl) (hb_op rfl wn (nl (P := Try.prog) (fn := Try.f3)) ?_)
               refine o_storeW (vs := (cl_Image B0 D0 0)) hS (by exact rfl) (Upd.here _) (by exact sz_api_Image) (one_Image (E0).one (G0).one) ?_
               clear hS; intro w hS
               refine hb_next (fun h => absurd h (by decide)) ?_
               refine hb_done (by kernel_rfl) ?_
               obtain rfl := osi hF
               change ∃ _, _
               exact ⟨E1, G1, B0, D0, I0, J0, K0, D1, E0, G0, mk_exF, (hS.re (.b (.e (.d (.d (.d (.d .hb))))) (.b .hb (.t (.d (.d .h)) (.t .h .n)))))⟩
             refine o_allocP (cl := (cl_Image (.slice none 0 0) (.slice none 0 0) 0)) zr_api_Image rfl hS ?_
             clear hS; intro K0 w hS
             refine hb_next (fun _ => (hS.re (.t (.e .h) (.t (.e .h) (.t (.e .h) (.b (.e .hb) .n))))).cb) ?_
             refine hb1 9 (by kernel_rfl) (hb_op rfl wn (nl (P := Try.prog) (fn := Try.f3)) ?_)
             refine o_makeP B1 hS el_uint32 enc_len_uint32 mz_uint32 (by decide) ?_
             clear hS; intro D0 J0 w G0 hS
             have hC := (hS.re (.t (.d (.e .h)) (.t (.d (.e .h)) (.t (.d (.e .h)) (.b (.d (.e .hb)) .n))))).cb
             refine hb_next (fun _ => hC) ?_
             refine hy0 10 rfl wn (by kernel_rfl) (nq (P := Try.prog) (fn := Try.f3)) (fun _ => hC) (y_build (cl := (cl_Image B0 D0 0)) bt_api_Image rfl (fillS (vs := [B0]) rfl (E0).cell rfl rfl (fillS (vs := [D0]) rfl (G0).cell rfl rfl fillN))) ?_
             refine hb1 12 (by kernel_rfl) (hb_op rfl wn (nl (P := Try.prog) (fn := Try.f3)) ?_)
             have hS := hS.re (.b (.d .hb) (.t .h (.t .h (.t .h (.t .h (.b .hb .n))))))
             refine o_storeW (vs := (cl_Image B0 D0 0)) hS (by exact rfl) (Upd.here _) (by exact sz_api_Image) (one_Image (E0).one (G0).one) ?_
             clear hS; intro w hS
             refine hb_next (fun h => absurd h (by decide)) ?_
             refine hb_done (by kernel_rfl) ?_
             obtain rfl := osi hF
             change ∃ _, _
             exact ⟨E1, G1, B0, D0, I0, J0, K0, D1, E0, G0, mk_exF, (hS.re (.b (.e (.d (.d (.d (.d .hb))))) (.b .hb (.t (.d (.d .h)) (.t .h .n)))))⟩
           refine o_allocP (cl := (cl_Image (.slice none 0 0) (.slice none 0 0) 0)) zr_api_Image rfl hS ?_
           clear hS; intro K0 w hS
           refine hb_next (fun _ => (hS.re (.t (.e (.d .h)) (.b (.e (.d .hb)) .n))).cb) ?_
           refine hb1 5 (by kernel_rfl) (hb_op rfl wn (nl (P := Try.prog) (fn := Try.f3)) ?_)
           refine o_buildT val_int ([0, 1, 256, 257] : List Int) hS el_int (fun _ => rfl) enc_len_int (by decide) rfl (by decide) (hp := rfl) (h := ?_)
           clear hS; intro Y0 w hS D2
           have hS : St W g [] ([(Y0, blk (([0, 1, 256, 257] : List Int).flatMap enc_int) 3)] ++ ((K0, blk (cl_Image (.slice none 0 0) (.slice none 0 0) 0) 37) :: (I0 ++ ([(X0, blk (([0, 1, 1024, 1025] : List Int).flatMap enc_int) 3)] ++ ((b1, blk (cl_Ask20 M0 N0 R0 T0 U0 V0) 33) :: []))))) w := hS
           have hC := (hS.re (.t (.d (.e (.d .h))) (.b (.d (.e (.d .hb))) .n))).cb
           refine hb_next (fun _ => hC) ?_
           obtain ⟨X3, Y3, E3, U1, V1, X1, Y1, Z1⟩ := OwT.at T2 D2 enc_len_int
           refine hy0 7 rfl wn (by kernel_rfl) (nq (P := Try.prog) (fn := Try.f3)) (fun _ => hC) (y_index U1 V1 X1 underlying35 el_int.size) ?_
           refine hb_up (CB g ([(Y0, blk (([0, 1, 256, 257] : List Int).flatMap enc_int) 3)] ++ ((K0, blk (cl_Image (.slice none 0 0) (.slice none 0 0) 0) 37) :: (I0 ++ ([(X0, blk (([0, 1, 1024, 1025] : List Int).flatMap enc_int) 3)] ++ ((b1, blk (cl_Ask20 M0 N0 R0 T0 U0 V0) 33) :: [])))))) (fun w h => h.sub (.t (.d (.e (.d .h))) (.b (.d (.e (.d .hb))) .n))) ?_
           refine hy 8 rfl wn (by kernel_rfl) (nq (P := Try.prog) (fn := Try.f3)) hS.cb (y_load (fun w hS => hS.own (mA (mX Y1))) underlying3 rfl (Z1 0 _ rfl)) ?_
           refine hb1 9 (by kernel_rfl) (hb_op rfl wn (nl (P := Try.prog) (fn := Try.f3)) ?_)
           refine o_makeP B1 hS el_uint32 enc_len_uint32 mz_uint32 (by decide) ?_
           clear hS; intro D0 J0 w G0 hS
           have hC := (hS.re (.t (.d .h) (.b (.d .hb) (.t (.d .h) (.t (.d .h) (.b (.d .hb) .n)))))).cb
           refine hb_next (fun _ => hC) ?_
           refine hy0 10 rfl wn (by kernel_rfl) (nq (P := Try.prog) (fn := Try.f3)) (fun _ => hC) (y_build (cl := (cl_Image B0 D0 0)) bt_api_Image rfl (fillS (vs := [B0]) rfl (E0).cell rfl rfl (fillS (vs := [D0]) rfl (G0).cell rfl rfl fillN))) ?_
           refine hb1 12 (by kernel_rfl) (hb_op rfl wn (nl (P := Try.prog) (fn := Try.f3)) ?_)
           have hS := hS.re (.b (.d (.d .hb)) (.t .h (.t .h (.t .h (.t .h (.b .hb .n))))))
           refine o_storeW (vs := (cl_Image B0 D0 0)) hS (by exact rfl) (Upd.here _) (by exact sz_api_Image) (one_Image (E0).one (G0).one) ?_
           clear hS; intro w hS
           refine hb_next (fun h => absurd h (by decide)) ?_
           refine hb_done (by kernel_rfl) ?_
           obtain rfl := osi hF
           change ∃ _, _
           exact ⟨E1, G1, B0, D0, I0, J0, K0, D1, E0, G0, mk_exF, (hS.re (.b (.e (.d (.d (.d (.d .hb))))) (.b .hb (.t (.d (.d .h)) (.t .h .n)))))⟩
         · skip
           refine o_buildT val_int ([0, 1, 256, 257] : List Int) hS el_int (fun _ => rfl) enc_len_int (by decide) rfl (by decide) (hp := rfl) (h := ?_)
           clear hS; intro Y0 w hS D2
           have hS : St W g [] ([(Y0, blk (([0, 1, 256, 257] : List Int).flatMap enc_int) 3)] ++ ([(X0, blk (([0, 1, 1024, 1025] : List Int).flatMap enc_int) 3)] ++ ((b1, blk (cl_Ask20 M0 N0 R0 T0 U0 V0) 33) :: []))) w := hS
           have hC := (hS.re (.t (.d .h) (.b (.d .hb) .n))).cb
           refine hb_next (fun _ => hC) ?_
           obtain ⟨X3, Y3, E3, U1, V1, X1, Y1, Z1⟩ := OwT.at T2 D2 enc_len_int
           refine hy0 7 rfl wn (by kernel_rfl) (nq (P := Try.prog) (fn := Try.f3)) (fun _ => hC) (y_index U1 V1 X1 underlying35 el_int.size) ?_
           refine hb_up (CB g ([(Y0, blk (([0, 1, 256, 257] : List Int).flatMap enc_int) 3)] ++ ([(X0, blk (([0, 1, 1024, 1025] : List Int).flatMap enc_int) 3)] ++ ((b1, blk (cl_Ask20 M0 N0 R0 T0 U0 V0) 33) :: [])))) (fun w h => h.sub (.t (.d .h) (.b (.d .hb) .n))) ?_
           refine hy 8 rfl wn (by kernel_rfl) (nq (P := Try.prog) (fn := Try.f3)) hS.cb (y_load (fun w hS => hS.own (mA (mX Y1))) underlying3 rfl (Z1 0 _ rfl)) ?_
           refine hb3 4 9 11 (by kernel_rfl) (hb_op rfl wn (nl (P := Try.prog) (fn := Try.f3)) ?_) (hb_op rfl wn (nl (P := Try.prog) (fn := Try.f3)) ?_) (hb_op rfl wn (nl (P := Try.prog) (fn := Try.f3)) ?_)
           · skip
             refine o_makeP Z0 hS el_api_Bundle enc_len_Bundle mz_Bundle (by decide) ?_
             clear hS; intro B0 I0 w E0 hS
             refine hb_next (fun _ => (hS.re (.t (.d .h) (.t (.d .h) (.b (.d .hb) .n)))).cb) ?_
             refine hb2 9 11 (by kernel_rfl) (hb_op rfl wn (nl (P := Try.prog) (fn := Try.f3)) ?_) (hb_op rfl wn (nl (P := Try.prog) (fn := Try.f3)) ?_)
             · skip
               refine o_makeP B1 hS el_uint32 enc_len_uint32 mz_uint32 (by decide) ?_
               clear hS; intro D0 J0 w G0 hS
               have hC := (hS.re (.t (.d (.d .h)) (.t (.d (.d .h)) (.b (.d (.d .hb)) .n)))).cb
               refine hb_next (fun _ => hC) ?_
               refine hy0 10 rfl wn (by kernel_rfl) (nq (P := Try.prog) (fn := Try.f3)) (fun _ => hC) (y_build (cl := (cl_Image B0 D0 0)) bt_api_Image rfl (fillS (vs := [B0]) rfl (E0).cell rfl rfl (fillS (vs := [D0]) rfl (G0).cell rfl rfl fillN))) ?_
               refine hb1 11 (by kernel_rfl) (hb_op rfl wn (nl (P := Try.prog) (fn := Try.f3)) ?_)
               refine o_allocP (cl := (cl_Image (.slice none 0 0) (.slice none 0 0) 0)) zr_api_Image rfl hS ?_
               clear hS; intro K0 w hS
               refine hb_next (fun _ => (hS.re (.t (.e (.d (.d .h))) (.t (.e (.d (.d .h))) (.b (.e (.d (.d .hb))) .n)))).cb) ?_
               refine hb1 12 (by kernel_rfl) (hb_op rfl wn (nl (P := Try.prog) (fn := Try.f3)) ?_)
               refine o_storeW (vs := (cl_Image B0 D0 0)) hS (by exact rfl) (Upd.here _) (by exact sz_api_Image) (one_Image (E0).one (G0).one) ?_
               clear hS; intro w hS
               refine hb_next (fun h => absurd h (by decide)) ?_
               refine hb_done (by kernel_rfl) ?_
               obtain rfl := osi hF
               change ∃ _, _
               exact ⟨E1, G1, B0, D0, I0, J0, K0, D1, E0, G0, mk_exF, (hS.re (.b (.e (.d (.d (.d (.d .hb))))) (.b .hb (.t (.d .h) (.t .h .n)))))⟩
             refine o_allocP (cl := (cl_Image (.slice none 0 0) (.slice none 0 0) 0)) zr_api_Image rfl hS ?_
             clear hS; intro K0 w hS
             refine hb_next (fun _ => (hS.re (.t (.e (.d .h)) (.t (.e (.d .h)) (.b (.e (.d .hb)) .n)))).cb) ?_
             refine hb1 9 (by kernel_rfl) (hb_op rfl wn (nl (P := Try.prog) (fn := Try.f3)) ?_)
             refine o_makeP B1 hS el_uint32 enc_len_uint32 mz_uint32 (by decide) ?_
             clear hS; intro D0 J0 w G0 hS
             have hC := (hS.re (.t (.d (.e (.d .h))) (.t (.d (.e (.d .h))) (.b (.d (.e (.d .hb))) .n)))).cb
             refine hb_next (fun _ => hC) ?_
             refine hy0 10 rfl wn (by kernel_rfl) (nq (P := Try.prog) (fn := Try.f3)) (fun _ => hC) (y_build (cl := (cl_Image B0 D0 0)) bt_api_Image rfl (fillS (vs := [B0]) rfl (E0).cell rfl rfl (fillS (vs := [D0]) rfl (G0).cell rfl rfl fillN))) ?_
             refine hb1 12 (by kernel_rfl) (hb_op rfl wn (nl (P := Try.prog) (fn := Try.f3)) ?_)
             have hS := hS.re (.b (.d .hb) (.t .h (.t .h (.t .h (.t .h (.b .hb .n))))))
             refine o_storeW (vs := (cl_Image B0 D0 0)) hS (by exact rfl) (Upd.here _) (by exact sz_api_Image) (one_Image (E0).one (G0).one) ?_
             clear hS; intro w hS
             refine hb_next (fun h => absurd h (by decide)) ?_
             refine hb_done (by kernel_rfl) ?_
             obtain rfl := osi hF
             change ∃ _, _
             exact ⟨E1, G1, B0, D0, I0, J0, K0, D1, E0, G0, mk_exF, (hS.re (.b (.e (.d (.d (.d (.d .hb))))) (.b .hb (.t (.d .h) (.t .h .n)))))⟩
           · skip
             refine o_makeP B1 hS el_uint32 enc_len_uint32 mz_uint32 (by decide) ?_
             clear hS; intro D0 J0 w G0 hS
             refine hb_next (fun _ => (hS.re (.t (.d .h) (.t (.d .h) (.b (.d .hb) .n)))).cb) ?_
             refine hb2 4 11 (by kernel_rfl) (hb_op rfl wn (nl (P := Try.prog) (fn := Try.f3)) ?_) (hb_op rfl wn (nl (P := Try.prog) (fn := Try.f3)) ?_)
             · skip
               refine o_makeP Z0 hS el_api_Bundle enc_len_Bundle mz_Bundle (by decide) ?_
               clear hS; intro B0 I0 w E0 hS
               have hC := (hS.re (.t (.d (.d .h)) (.t (.d (.d .h)) (.b (.d (.d .hb)) .n)))).cb
               refine hb_next (fun _ => hC) ?_
               refine hy0 10 rfl wn (by kernel_rfl) (nq (P := Try.prog) (fn := Try.f3)) (fun _ => hC) (y_build (cl := (cl_Image B0 D0 0)) bt_api_Image rfl (fillS (vs := [B0]) rfl (E0).cell rfl rfl (fillS (vs := [D0]) rfl (G0).cell rfl rfl fillN))) ?_
               refine hb1 11 (by kernel_rfl) (hb_op rfl wn (nl (P := Try.prog) (fn := Try.f3)) ?_)
               refine o_allocP (cl := (cl_Image (.slice none 0 0) (.slice none 0 0) 0)) zr_api_Image rfl hS ?_
               clear hS; intro K0 w hS
               refine hb_next (fun _ => (hS.re (.t (.e (.d (.d .h))) (.t (.e (.d (.d .h))) (.b (.e (.d (.d .hb))) .n)))).cb) ?_
               refine hb1 12 (by kernel_rfl) (hb_op rfl wn (nl (P := Try.prog) (fn := Try.f3)) ?_)
               refine o_storeW (vs := (cl_Image B0 D0 0)) hS (by exact rfl) (Upd.here _) (by exact sz_api_Image) (one_Image (E0).one (G0).one) ?_
               clear hS; intro w hS
               refine hb_next (fun h => absurd h (by decide)) ?_
               refine hb_done (by kernel_rfl) ?_
               obtain rfl := osi hF
               change ∃ _, _
               exact ⟨E1, G1, B0, D0, I0, J0, K0, D1, E0, G0, mk_exF, (hS.re (.b (.e (.d (.d (.d (.d .hb))))) (.b .hb (.t .h (.t .h .n)))))⟩
             refine o_allocP (cl := (cl_Image (.slice none 0 0) (.slice none 0 0) 0)) zr_api_Image rfl hS ?_
             clear hS; intro K0 w hS
             refine hb_next (fun _ => (hS.re (.t (.e (.d .h)) (.t (.e (.d .h)) (.b (.e (.d .hb)) .n)))).cb) ?_
             refine hb1 4 (by kernel_rfl) (hb_op rfl wn (nl (P := Try.prog) (fn := Try.f3)) ?_)
             refine o_makeP Z0 hS el_api_Bundle enc_len_Bundle mz_Bundle (by decide) ?_
             clear hS; intro B0 I0 w E0 hS
             have hC := (hS.re (.t (.d (.e (.d .h))) (.t (.d (.e (.d .h))) (.b (.d (.e (.d .hb))) .n)))).cb
             refine hb_next (fun _ => hC) ?_
             refine hy0 10 rfl wn (by kernel_rfl) (nq (P := Try.prog) (fn := Try.f3)) (fun _ => hC) (y_build (cl := (cl_Image B0 D0 0)) bt_api_Image rfl (fillS (vs := [B0]) rfl (E0).cell rfl rfl (fillS (vs := [D0]) rfl (G0).cell rfl rfl fillN))) ?_
             refine hb1 12 (by kernel_rfl) (hb_op rfl wn (nl (P := Try.prog) (fn := Try.f3)) ?_)
             have hS := hS.re (.b (.d .hb) (.t .h (.t .h (.t .h (.t .h (.b .hb .n))))))
             refine o_storeW (vs := (cl_Image B0 D0 0)) hS (by exact rfl) (Upd.here _) (by exact sz_api_Image) (one_Image (E0).one (G0).one) ?_
             clear hS; intro w hS
             refine hb_next (fun h => absurd h (by decide)) ?_
             refine hb_done (by kernel_rfl) ?_
             obtain rfl := osi hF
             change ∃ _, _
             exact ⟨E1, G1, B0, D0, I0, J0, K0, D1, E0, G0, mk_exF, (hS.re (.b (.e (.d (.d (.d (.d .hb))))) (.b .hb (.t .h (.t .h .n)))))⟩
           refine o_allocP (cl := (cl_Image (.slice none 0 0) (.slice none 0 0) 0)) zr_api_Image rfl hS ?_
           clear hS; intro K0 w hS
           refine hb_next (fun _ => (hS.re (.t (.e .h) (.t (.e .h) (.b (.e .hb) .n)))).cb) ?_
           refine hb2 4 9 (by kernel_rfl) (hb_op rfl wn (nl (P := Try.prog) (fn := Try.f3)) ?_) (hb_op rfl wn (nl (P := Try.prog) (fn := Try.f3)) ?_)
           · skip
             refine o_makeP Z0 hS el_api_Bundle enc_len_Bundle mz_Bundle (by decide) ?_
             clear hS; intro B0 I0 w E0 hS
             refine hb_next (fun _ => (hS.re (.t (.d (.e .h)) (.t (.d (.e .h)) (.b (.d (.e .hb)) .n)))).cb) ?_
             refine hb1 9 (by kernel_rfl) (hb_op rfl wn (nl (P := Try.prog) (fn := Try.f3)) ?_)
             refine o_makeP B1 hS el_uint32 enc_len_uint32 mz_uint32 (by decide) ?_
             clear hS; intro D0 J0 w G0 hS
             have hC := (hS.re (.t (.d (.d (.e .h))) (.t (.d (.d (.e .h))) (.b (.d (.d (.e .hb))) .n)))).cb
             refine hb_next (fun _ => hC) ?_
             refine hy0 10 rfl wn (by kernel_rfl) (nq (P := Try.prog) (fn := Try.f3)) (fun _ => hC) (y_build (cl := (cl_Image B0 D0 0)) bt_api_Image rfl (fillS (vs := [B0]) rfl (E0).cell rfl rfl (fillS (vs := [D0]) rfl (G0).cell rfl rfl fillN))) ?_
             refine hb1 12 (by kernel_rfl) (hb_op rfl wn (nl (P := Try.prog) (fn := Try.f3)) ?_)
             have hS := hS.re (.b (.d (.d .hb)) (.t .h (.t .h (.t .h (.t .h (.b .hb .n))))))
             refine o_storeW (vs := (cl_Image B0 D0 0)) hS (by exact rfl) (Upd.here _) (by exact sz_api_Image) (one_Image (E0).one (G0).one) ?_
             clear hS; intro w hS
             refine hb_next (fun h => absurd h (by decide)) ?_
             refine hb_done (by kernel_rfl) ?_
             obtain rfl := osi hF
             change ∃ _, _
             exact ⟨E1, G1, B0, D0, I0, J0, K0, D1, E0, G0, mk_exF, (hS.re (.b (.e (.d (.d (.d (.d .hb))))) (.b .hb (.t (.d .h) (.t .h .n)))))⟩
           refine o_makeP B1 hS el_uint32 enc_len_uint32 mz_uint32 (by decide) ?_
           clear hS; intro D0 J0 w G0 hS
           refine hb_next (fun _ => (hS.re (.t (.d (.e .h)) (.t (.d (.e .h)) (.b (.d (.e .hb)) .n)))).cb) ?_
           refine hb1 4 (by kernel_rfl) (hb_op rfl wn (nl (P := Try.prog) (fn := Try.f3)) ?_)
           refine o_makeP Z0 hS el_api_Bundle enc_len_Bundle mz_Bundle (by decide) ?_
           clear hS; intro B0 I0 w E0 hS
           have hC := (hS.re (.t (.d (.d (.e .h))) (.t (.d (.d (.e .h))) (.b (.d (.d (.e .hb))) .n)))).cb
           refine hb_next (fun _ => hC) ?_
           refine hy0 10 rfl wn (by kernel_rfl) (nq (P := Try.prog) (fn := Try.f3)) (fun _ => hC) (y_build (cl := (cl_Image B0 D0 0)) bt_api_Image rfl (fillS (vs := [B0]) rfl (E0).cell rfl rfl (fillS (vs := [D0]) rfl (G0).cell rfl rfl fillN))) ?_
           refine hb1 12 (by kernel_rfl) (hb_op rfl wn (nl (P := Try.prog) (fn := Try.f3)) ?_)
           have hS := hS.re (.b (.d (.d .hb)) (.t .h (.t .h (.t .h (.t .h (.b .hb .n))))))
           refine o_storeW (vs := (cl_Image B0 D0 0)) hS (by exact rfl) (Upd.here _) (by exact sz_api_Image) (one_Image (E0).one (G0).one) ?_
           clear hS; intro w hS
           refine hb_next (fun h => absurd h (by decide)) ?_
           refine hb_done (by kernel_rfl) ?_
           obtain rfl := osi hF
           change ∃ _, _
           exact ⟨E1, G1, B0, D0, I0, J0, K0, D1, E0, G0, mk_exF, (hS.re (.b (.e (.d (.d (.d (.d .hb))))) (.b .hb (.t .h (.t .h .n)))))⟩
         refine o_allocP (cl := (cl_Image (.slice none 0 0) (.slice none 0 0) 0)) zr_api_Image rfl hS ?_
         clear hS; intro K0 w hS
         refine hb_next (fun _ => (hS.re (.t (.e .h) (.b (.e .hb) .n))).cb) ?_
         refine hb2 4 5 (by kernel_rfl) (hb_op rfl wn (nl (P := Try.prog) (fn := Try.f3)) ?_) (hb_op rfl wn (nl (P := Try.prog) (fn := Try.f3)) ?_)
         · skip
           refine o_makeP Z0 hS el_api_Bundle enc_len_Bundle mz_Bundle (by decide) ?_
           clear hS; intro B0 I0 w E0 hS
           refine hb_next (fun _ => (hS.re (.t (.d (.e .h)) (.b (.d (.e .hb)) .n))).cb) ?_
           refine hb1 5 (by kernel_rfl) (hb_op rfl wn (nl (P := Try.prog) (fn := Try.f3)) ?_)
           refine o_buildT val_int ([0, 1, 256, 257] : List Int) hS el_int (fun _ => rfl) enc_len_int (by decide) rfl (by decide) (hp := rfl) (h := ?_)
           clear hS; intro Y0 w hS D2
           have hS : St W g [] ([(Y0, blk (([0, 1, 256, 257] : List Int).flatMap enc_int) 3)] ++ (I0 ++ ((K0, blk (cl_Image (.slice none 0 0) (.slice none 0 0) 0) 37) :: ([(X0, blk (([0, 1, 1024, 1025] : List Int).flatMap enc_int) 3)] ++ ((b1, blk (cl_Ask20 M0 N0 R0 T0 U0 V0) 33) :: []))))) w := hS
           have hC := (hS.re (.t (.d (.d (.e .h))) (.b (.d (.d (.e .hb))) .n))).cb
           refine hb_next (fun _ => hC) ?_
           obtain ⟨X3, Y3, E3, U1, V1, X1, Y1, Z1⟩ := OwT.at T2 D2 enc_len_int
           refine hy0 7 rfl wn (by kernel_rfl) (nq (P := Try.prog) (fn := Try.f3)) (fun _ => hC) (y_index U1 V1 X1 underlying35 el_int.size) ?_
           refine hb_up (CB g ([(Y0, blk (([0, 1, 256, 257] : List Int).flatMap enc_int) 3)] ++ (I0 ++ ((K0, blk (cl_Image (.slice none 0 0) (.slice none 0 0) 0) 37) :: ([(X0, blk (([0, 1, 1024, 1025] : List Int).flatMap enc_int) 3)] ++ ((b1, blk (cl_Ask20 M0 N0 R0 T0 U0 V0) 33) :: [])))))) (fun w h => h.sub (.t (.d (.d (.e .h))) (.b (.d (.d (.e .hb))) .n))) ?_
           refine hy 8 rfl wn (by kernel_rfl) (nq (P := Try.prog) (fn := Try.f3)) hS.cb (y_load (fun w hS => hS.own (mA (mX Y1))) underlying3 rfl (Z1 0 _ rfl)) ?_
           refine hb1 9 (by kernel_rfl) (hb_op rfl wn (nl (P := Try.prog) (fn := Try.f3)) ?_)
           refine o_makeP B1 hS el_uint32 enc_len_uint32 mz_uint32 (by decide) ?_
           clear hS; intro D0 J0 w G0 hS
           have hC := (hS.re (.t (.d .h) (.t (.d .h) (.b (.d .hb) (.t (.d .h) (.b (.d .hb) .n)))))).cb
           refine hb_next (fun _ => hC) ?_
           refine hy0 10 rfl wn (by kernel_rfl) (nq (P := Try.prog) (fn := Try.f3)) (fun _ => hC) (y_build (cl := (cl_Image B0 D0 0)) bt_api_Image rfl (fillS (vs := [B0]) rfl (E0).cell rfl rfl (fillS (vs := [D0]) rfl (G0).cell rfl rfl fillN))) ?_
           refine hb1 12 (by kernel_rfl) (hb_op rfl wn (nl (P := Try.prog) (fn := Try.f3)) ?_)
           have hS := hS.re (.b (.d (.d (.d .hb))) (.t .h (.t .h (.t .h (.t .h (.b .hb .n))))))
           refine o_storeW (vs := (cl_Image B0 D0 0)) hS (by exact rfl) (Upd.here _) (by exact sz_api_Image) (one_Image (E0).one (G0).one) ?_
           clear hS; intro w hS
           refine hb_next (fun h => absurd h (by decide)) ?_
           refine hb_done (by kernel_rfl) ?_
           obtain rfl := osi hF
           change ∃ _, _
           exact ⟨E1, G1, B0, D0, I0, J0, K0, D1, E0, G0, mk_exF, (hS.re (.b (.e (.d (.d (.d (.d .hb))))) (.b .hb (.t (.d (.d .h)) (.t .h .n)))))⟩
         refine o_buildT val_int ([0, 1, 256, 257] : List Int) hS el_int (fun _ => rfl) enc_len_int (by decide) rfl (by decide) (hp := rfl) (h := ?_)
         clear hS; intro Y0 w hS D2
         have hS : St W g [] ([(Y0, blk (([0, 1, 256, 257] : List Int).flatMap enc_int) 3)] ++ ((K0, blk (cl_Image (.slice none 0 0) (.slice none 0 0) 0) 37) :: ([(X0, blk (([0, 1, 1024, 1025] : List Int).flatMap enc_int) 3)] ++ ((b1, blk (cl_Ask20 M0 N0 R0 T0 U0 V0) 33) :: [])))) w := hS
         have hC := (hS.re (.t (.d (.e .h)) (.b (.d (.e .hb)) .n))).cb
         refine hb_next (fun _ => hC) ?_
         obtain ⟨X3, Y3, E3, U1, V1, X1, Y1, Z1⟩ := OwT.at T2 D2 enc_len_int
         refine hy0 7 rfl wn (by kernel_rfl) (nq (P := Try.prog) (fn := Try.f3)) (fun _ => hC) (y_index U1 V1 X1 underlying35 el_int.size) ?_
         refine hb_up (CB g ([(Y0, blk (([0, 1, 256, 257] : List Int).flatMap enc_int) 3)] ++ ((K0, blk (cl_Image (.slice none 0 0) (.slice none 0 0) 0) 37) :: ([(X0, blk (([0, 1, 1024, 1025] : List Int).flatMap enc_int) 3)] ++ ((b1, blk (cl_Ask20 M0 N0 R0 T0 U0 V0) 33) :: []))))) (fun w h => h.sub (.t (.d (.e .h)) (.b (.d (.e .hb)) .n))) ?_
         refine hy 8 rfl wn (by kernel_rfl) (nq (P := Try.prog) (fn := Try.f3)) hS.cb (y_load (fun w hS => hS.own (mA (mX Y1))) underlying3 rfl (Z1 0 _ rfl)) ?_
         refine hb2 4 9 (by kernel_rfl) (hb_op rfl wn (nl (P := Try.prog) (fn := Try.f3)) ?_) (hb_op rfl wn (nl (P := Try.prog) (fn := Try.f3)) ?_)
         · skip
           refine o_makeP Z0 hS el_api_Bundle enc_len_Bundle mz_Bundle (by decide) ?_
           clear hS; intro B0 I0 w E0 hS
           refine hb_next (fun _ => (hS.re (.t (.d .h) (.b (.d .hb) (.t (.d .h) (.b (.d .hb) .n))))).cb) ?_
           refine hb1 9 (by kernel_rfl) (hb_op rfl wn (nl (P := Try.prog) (fn := Try.f3)) ?_)
           refine o_makeP B1 hS el_uint32 enc_len_uint32 mz_uint32 (by decide) ?_
           clear hS; intro D0 J0 w G0 hS
           have hC := (hS.re (.t (.d (.d .h)) (.b (.d (.d .hb)) (.t (.d (.d .h)) (.b (.d (.d .hb)) .n))))).cb
           refine hb_next (fun _ => hC) ?_
           refine hy0 10 rfl wn (by kernel_rfl) (nq (P := Try.prog) (fn := Try.f3)) (fun _ => hC) (y_build (cl := (cl_Image B0 D0 0)) bt_api_Image rfl (fillS (vs := [B0]) rfl (E0).cell rfl rfl (fillS (vs := [D0]) rfl (G0).cell rfl rfl fillN))) ?_
           refine hb1 12 (by kernel_rfl) (hb_op rfl wn (nl (P := Try.prog) (fn := Try.f3)) ?_)
           have hS := hS.re (.b (.d (.d (.d .hb))) (.t .h (.t .h (.t .h (.t .h (.b .hb .n))))))
           refine o_storeW (vs := (cl_Image B0 D0 0)) hS (by exact rfl) (Upd.here _) (by exact sz_api_Image) (one_Image (E0).one (G0).one) ?_
           clear hS; intro w hS
           refine hb_next (fun h => absurd h (by decide)) ?_
           refine hb_done (by kernel_rfl) ?_
           obtain rfl := osi hF
           change ∃ _, _
           exact ⟨E1, G1, B0, D0, I0, J0, K0, D1, E0, G0, mk_exF, (hS.re (.b (.e (.d (.d (.d (.d .hb))))) (.b .hb (.t (.d .h) (.t .h .n)))))⟩
         refine o_makeP B1 hS el_uint32 enc_len_uint32 mz_uint32 (by decide) ?_
         clear hS; intro D0 J0 w G0 hS
         refine hb_next (fun _ => (hS.re (.t (.d .h) (.b (.d .hb) (.t (.d .h) (.b (.d .hb) .n))))).cb) ?_
         refine hb1 4 (by kernel_rfl) (hb_op rfl wn (nl (P := Try.prog) (fn := Try.f3)) ?_)
         refine o_makeP Z0 hS el_api_Bundle enc_len_Bundle mz_Bundle (by decide) ?_
         clear hS; intro B0 I0 w E0 hS
         have hC := (hS.re (.t (.d (.d .h)) (.b (.d (.d .hb)) (.t (.d (.d .h)) (.b (.d (.d .hb)) .n))))).cb
         refine hb_next (fun _ => hC) ?_
         refine hy0 10 rfl wn (by kernel_rfl) (nq (P := Try.prog) (fn := Try.f3)) (fun _ => hC) (y_build (cl := (cl_Image B0 D0 0)) bt_api_Image rfl (fillS (vs := [B0]) rfl (E0).cell rfl rfl (fillS (vs := [D0]) rfl (G0).cell rfl rfl fillN))) ?_
         refine hb1 12 (by kernel_rfl) (hb_op rfl wn (nl (P := Try.prog) (fn := Try.f3)) ?_)
         have hS := hS.re (.b (.d (.d (.d .hb))) (.t .h (.t .h (.t .h (.t .h (.b .hb .n))))))
         refine o_storeW (vs := (cl_Image B0 D0 0)) hS (by exact rfl) (Upd.here _) (by exact sz_api_Image) (one_Image (E0).one (G0).one) ?_
         clear hS; intro w hS
         refine hb_next (fun h => absurd h (by decide)) ?_
         refine hb_done (by kernel_rfl) ?_
         obtain rfl := osi hF
         change ∃ _, _
         exact ⟨E1, G1, B0, D0, I0, J0, K0, D1, E0, G0, mk_exF, (hS.re (.b (.e (.d (.d (.d (.d .hb))))) (.b .hb (.t .h (.t .h .n)))))⟩
       · skip
         refine o_buildT val_int ([0, 1, 256, 257] : List Int) hS el_int (fun _ => rfl) enc_len_int (by decide) rfl (by decide) (hp := rfl) (h := ?_)
         clear hS; intro Y0 w hS D2
         have hS : St W g [] ([(Y0, blk (([0, 1, 256, 257] : List Int).flatMap enc_int) 3)] ++ ((b1, blk (cl_Ask20 M0 N0 R0 T0 U0 V0) 33) :: [])) w := hS
         refine hb_next (fun _ => (hS.re (.b (.d .hb) .n)).cb) ?_
         obtain ⟨X3, Y3, E3, U1, V1, X1, Y1, Z1⟩ := OwT.at T2 D2 enc_len_int
         refine hy0 7 rfl wn (by kernel_rfl) (nq (P := Try.prog) (fn := Try.f3)) (fun _ => (hS.re (.b (.d .hb) .n)).cb) (y_index U1 V1 X1 underlying35 el_int.size) ?_
         refine hb_up (CB g ([(Y0, blk (([0, 1, 256, 257] : List Int).flatMap enc_int) 3)] ++ ((b1, blk (cl_Ask20 M0 N0 R0 T0 U0 V0) 33) :: []))) (fun w h => h.sub (.b (.d .hb) .n)) ?_
         refine hy 8 rfl wn (by kernel_rfl) (nq (P := Try.prog) (fn := Try.f3)) hS.cb (y_load (fun w hS => hS.own (mA (mX Y1))) underlying3 rfl (Z1 0 _ rfl)) ?_
         refine hb3 0 9 11 (by kernel_rfl) (hb_op rfl wn (nl (P := Try.prog) (fn := Try.f3)) ?_) (hb_op rfl wn (nl (P := Try.prog) (fn := Try.f3)) ?_) (hb_op rfl wn (nl (P := Try.prog) (fn := Try.f3)) ?_)
         · skip
           refine o_buildT val_int ([0, 1, 1024, 1025] : List Int) hS el_int (fun _ => rfl) enc_len_int (by decide) rfl (by decide) (hp := rfl) (h := ?_)
           clear hS; intro X0 w hS B2
           have hS : St W g [] ([(X0, blk (([0, 1, 1024, 1025] : List Int).flatMap enc_int) 3)] ++ ([(Y0, blk (([0, 1, 256, 257] : List Int).flatMap enc_int) 3)] ++ ((b1, blk (cl_Ask20 M0 N0 R0 T0 U0 V0) 33) :: []))) w := hS
           have hC := (hS.re (.t (.d .h) (.b (.d .hb) .n))).cb
           refine hb_next (fun _ => hC) ?_
           obtain ⟨U3, V3, D3, K1, M1, N1, R1, T1⟩ := OwT.at R2 B2 enc_len_int
           refine hy0 2 rfl wn (by kernel_rfl) (nq (P := Try.prog) (fn := Try.f3)) (fun _ => hC) (y_index K1 M1 N1 underlying35 el_int.size) ?_
           refine hb_up (CB g ([(X0, blk (([0, 1, 1024, 1025] : List Int).flatMap enc_int) 3)] ++ ([(Y0, blk (([0, 1, 256, 257] : List Int).flatMap enc_int) 3)] ++ ((b1, blk (cl_Ask20 M0 N0 R0 T0 U0 V0) 33) :: [])))) (fun w h => h.sub (.t (.d .h) (.b (.d .hb) .n))) ?_
           refine hy 3 rfl wn (by kernel_rfl) (nq (P := Try.prog) (fn := Try.f3)) hS.cb (y_load (fun w hS => hS.own (mA (mX R1))) underlying3 rfl (T1 0 _ rfl)) ?_
           refine hb3 4 9 11 (by kernel_rfl) (hb_op rfl wn (nl (P := Try.prog) (fn := Try.f3)) ?_) (hb_op rfl wn (nl (P := Try.prog) (fn := Try.f3)) ?_) (hb_op rfl wn (nl (P := Try.prog) (fn := Try.f3)) ?_)
           · skip
             refine o_makeP Z0 hS el_api_Bundle enc_len_Bundle mz_Bundle (by decide) ?_
             clear hS; intro B0 I0 w E0 hS
             refine hb_next (fun _ => (hS.re (.t (.d .h) (.t (.d .h) (.b (.d .hb) .n)))).cb) ?_
             refine hb2 9 11 (by kernel_rfl) (hb_op rfl wn (nl (P := Try.prog) (fn := Try.f3)) ?_) (hb_op rfl wn (nl (P := Try.prog) (fn := Try.f3)) ?_)
             · skip
               refine o_makeP B1 hS el_uint32 enc_len_uint32 mz_uint32 (by decide) ?_
               clear hS; intro D0 J0 w G0 hS
               have hC := (hS.re (.t (.d (.d .h)) (.t (.d (.d .h)) (.b (.d (.d .hb)) .n)))).cb
               refine hb_next (fun _ => hC) ?_
               refine hy0 10 rfl wn (by kernel_rfl) (nq (P := Try.prog) (fn := Try.f3)) (fun _ => hC) (y_build (cl := (cl_Image B0 D0 0)) bt_api_Image rfl (fillS (vs := [B0]) rfl (E0).cell rfl rfl (fillS (vs := [D0]) rfl (G0).cell rfl rfl fillN))) ?_
               refine hb1 11 (by kernel_rfl) (hb_op rfl wn (nl (P := Try.prog) (fn := Try.f3)) ?_)
               refine o_allocP (cl := (cl_Image (.slice none 0 0) (.slice none 0 0) 0)) zr_api_Image rfl hS ?_
               clear hS; intro K0 w hS
               refine hb_next (fun _ => (hS.re (.t (.e (.d (.d .h))) (.t (.e (.d (.d .h))) (.b (.e (.d (.d .hb))) .n)))).cb) ?_
               refine hb1 12 (by kernel_rfl) (hb_op rfl wn (nl (P := Try.prog) (fn := Try.f3)) ?_)
               refine o_storeW (vs := (cl_Image B0 D0 0)) hS (by exact rfl) (Upd.here _) (by exact sz_api_Image) (one_Image (E0).one (G0).one) ?_
               clear hS; intro w hS
               refine hb_next (fun h => absurd h (by decide)) ?_
               refine hb_done (by kernel_rfl) ?_
               obtain rfl := osi hF
               change ∃ _, _
               exact ⟨E1, G1, B0, D0, I0, J0, K0, D1, E0, G0, mk_exF, (hS.re (.b (.e (.d (.d (.d (.d .hb))))) (.b .hb (.t (.d .h) (.t .h .n)))))⟩
             refine o_allocP (cl := (cl_Image (.slice none 0 0) (.slice none 0 0) 0)) zr_api_Image rfl hS ?_
             clear hS; intro K0 w hS
             refine hb_next (fun _ => (hS.re (.t (.e (.d .h)) (.t (.e (.d .h)) (.b (.e (.d .hb)) .n)))).cb) ?_
             refine hb1 9 (by kernel_rfl) (hb_op rfl wn (nl (P := Try.prog) (fn := Try.f3)) ?_)
             refine o_makeP B1 hS el_uint32 enc_len_uint32 mz_uint32 (by decide) ?_
             clear hS; intro D0 J0 w G0 hS
             have hC := (hS.re (.t (.d (.e (.d .h))) (.t (.d (.e (.d .h))) (.b (.d (.e (.d .hb))) .n)))).cb
             refine hb_next (fun _ => hC) ?_
             refine hy0 10 rfl wn (by kernel_rfl) (nq (P := Try.prog) (fn := Try.f3)) (fun _ => hC) (y_build (cl := (cl_Image B0 D0 0)) bt_api_Image rfl (fillS (vs := [B0]) rfl (E0).cell rfl rfl (fillS (vs := [D0]) rfl (G0).cell rfl rfl fillN))) ?_
             refine hb1 12 (by kernel_rfl) (hb_op rfl wn (nl (P := Try.prog) (fn := Try.f3)) ?_)
             have hS := hS.re (.b (.d .hb) (.t .h (.t .h (.t .h (.t .h (.b .hb .n))))))
             refine o_storeW (vs := (cl_Image B0 D0 0)) hS (by exact rfl) (Upd.here _) (by exact sz_api_Image) (one_Image (E0).one (G0).one) ?_
             clear hS; intro w hS
             refine hb_next (fun h => absurd h (by decide)) ?_
             refine hb_done (by kernel_rfl) ?_
             obtain rfl := osi hF
             change ∃ _, _
             exact ⟨E1, G1, B0, D0, I0, J0, K0, D1, E0, G0, mk_exF, (hS.re (.b (.e (.d (.d (.d (.d .hb))))) (.b .hb (.t (.d .h) (.t .h .n)))))⟩
           · skip
             refine o_makeP B1 hS el_uint32 enc_len_uint32 mz_uint32 (by decide) ?_
             clear hS; intro D0 J0 w G0 hS
             refine hb_next (fun _ => (hS.re (.t (.d .h) (.t (.d .h) (.b (.d .hb) .n)))).cb) ?_
             refine hb2 4 11 (by kernel_rfl) (hb_op rfl wn (nl (P := Try.prog) (fn := Try.f3)) ?_) (hb_op rfl wn (nl (P := Try.prog) (fn := Try.f3)) ?_)
             · skip
               refine o_makeP Z0 hS el_api_Bundle enc_len_Bundle mz_Bundle (by decide) ?_
               clear hS; intro B0 I0 w E0 hS
               have hC := (hS.re (.t (.d (.d .h)) (.t (.d (.d .h)) (.b (.d (.d .hb)) .n)))).cb
               refine hb_next (fun _ => hC) ?_
               refine hy0 10 rfl wn (by kernel_rfl) (nq (P := Try.prog) (fn := Try.f3)) (fun _ => hC) (y_build (cl := (cl_Image B0 D0 0)) bt_api_Image rfl (fillS (vs := [B0]) rfl (E0).cell rfl rfl (fillS (vs := [D0]) rfl (G0).cell rfl rfl fillN))) ?_
               refine hb1 11 (by kernel_rfl) (hb_op rfl wn (nl (P := Try.prog) (fn := Try.f3)) ?_)
               refine o_allocP (cl := (cl_Image (.slice none 0 0) (.slice none 0 0) 0)) zr_api_Image rfl hS ?_
               clear hS; intro K0 w hS
               refine hb_next (fun _ => (hS.re (.t (.e (.d (.d .h))) (.t (.e (.d (.d .h))) (.b (.e (.d (.d .hb))) .n)))).cb) ?_
               refine hb1 12 (by kernel_rfl) (hb_op rfl wn (nl (P := Try.prog) (fn := Try.f3)) ?_)
               refine o_storeW (vs := (cl_Image B0 D0 0)) hS (by exact rfl) (Upd.here _) (by exact sz_api_Image) (one_Image (E0).one (G0).one) ?_
               clear hS; intro w hS
               refine hb_next (fun h => absurd h (by decide)) ?_
               refine hb_done (by kernel_rfl) ?_
               obtain rfl := osi hF
               change ∃ _, _
               exact ⟨E1, G1, B0, D0, I0, J0, K0, D1, E0, G0, mk_exF, (hS.re (.b (.e (.d (.d (.d (.d .hb))))) (.b .hb (.t .h (.t .h .n)))))⟩
             refine o_allocP (cl := (cl_Image (.slice none 0 0) (.slice none 0 0) 0)) zr_api_Image rfl hS ?_
             clear hS; intro K0 w hS
             refine hb_next (fun _ => (hS.re (.t (.e (.d .h)) (.t (.e (.d .h)) (.b (.e (.d .hb)) .n)))).cb) ?_
             refine hb1 4 (by kernel_rfl) (hb_op rfl wn (nl (P := Try.prog) (fn := Try.f3)) ?_)
             refine o_makeP Z0 hS el_api_Bundle enc_len_Bundle mz_Bundle (by decide) ?_
             clear hS; intro B0 I0 w E0 hS
             have hC := (hS.re (.t (.d (.e (.d .h))) (.t (.d (.e (.d .h))) (.b (.d (.e (.d .hb))) .n)))).cb
             refine hb_next (fun _ => hC) ?_
             refine hy0 10 rfl wn (by kernel_rfl) (nq (P := Try.prog) (fn := Try.f3)) (fun _ => hC) (y_build (cl := (cl_Image B0 D0 0)) bt_api_Image rfl (fillS (vs := [B0]) rfl (E0).cell rfl rfl (fillS (vs := [D0]) rfl (G0).cell rfl rfl fillN))) ?_
             refine hb1 12 (by kernel_rfl) (hb_op rfl wn (nl (P := Try.prog) (fn := Try.f3)) ?_)
             have hS := hS.re (.b (.d .hb) (.t .h (.t .h (.t .h (.t .h (.b .hb .n))))))
             refine o_storeW (vs := (cl_Image B0 D0 0)) hS (by exact rfl) (Upd.here _) (by exact sz_api_Image) (one_Image (E0).one (G0).one) ?_
             clear hS; intro w hS
             refine hb_next (fun h => absurd h (by decide)) ?_
             refine hb_done (by kernel_rfl) ?_
             obtain rfl := osi hF
             change ∃ _, _
             exact ⟨E1, G1, B0, D0, I0, J0, K0, D1, E0, G0, mk_exF, (hS.re (.b (.e (.d (.d (.d (.d .hb))))) (.b .hb (.t .h (.t .h .n)))))⟩
           refine o_allocP (cl := (cl_Image (.slice none 0 0) (.slice none 0 0) 0)) zr_api_Image rfl hS ?_
           clear hS; intro K0 w hS
           refine hb_next (fun _ => (hS.re (.t (.e .h) (.t (.e .h) (.b (.e .hb) .n)))).cb) ?_
           refine hb2 4 9 (by kernel_rfl) (hb_op rfl wn (nl (P := Try.prog) (fn := Try.f3)) ?_) (hb_op rfl wn (nl (P := Try.prog) (fn := Try.f3)) ?_)
           · skip
             refine o_makeP Z0 hS el_api_Bundle enc_len_Bundle mz_Bundle (by decide) ?_
             clear hS; intro B0 I0 w E0 hS
             refine hb_next (fun _ => (hS.re (.t (.d (.e .h)) (.t (.d (.e .h)) (.b (.d (.e .hb)) .n)))).cb) ?_
             refine hb1 9 (by kernel_rfl) (hb_op rfl wn (nl (P := Try.prog) (fn := Try.f3)) ?_)
             refine o_makeP B1 hS el_uint32 enc_len_uint32 mz_uint32 (by decide) ?_
             clear hS; intro D0 J0 w G0 hS
             have hC := (hS.re (.t (.d (.d (.e .h))) (.t (.d (.d (.e .h))) (.b (.d (.d (.e .hb))) .n)))).cb
             refine hb_next (fun _ => hC) ?_
             refine hy0 10 rfl wn (by kernel_rfl) (nq (P := Try.prog) (fn := Try.f3)) (fun _ => hC) (y_build (cl := (cl_Image B0 D0 0)) bt_api_Image rfl (fillS (vs := [B0]) rfl (E0).cell rfl rfl (fillS (vs := [D0]) rfl (G0).cell rfl rfl fillN))) ?_
             refine hb1 12 (by kernel_rfl) (hb_op rfl wn (nl (P := Try.prog) (fn := Try.f3)) ?_)
             have hS := hS.re (.b (.d (.d .hb)) (.t .h (.t .h (.t .h (.t .h (.b .hb .n))))))
             refine o_storeW (vs := (cl_Image B0 D0 0)) hS (by exact rfl) (Upd.here _) (by exact sz_api_Image) (one_Image (E0).one (G0).one) ?_
             clear hS; intro w hS
             refine hb_next (fun h => absurd h (by decide)) ?_
             refine hb_done (by kernel_rfl) ?_
             obtain rfl := osi hF
             change ∃ _, _
             exact ⟨E1, G1, B0, D0, I0, J0, K0, D1, E0, G0, mk_exF, (hS.re (.b (.e (.d (.d (.d (.d .hb))))) (.b .hb (.t (.d .h) (.t .h .n)))))⟩
           refine o_makeP B1 hS el_uint32 enc_len_uint32 mz_uint32 (by decide) ?_
           clear hS; intro D0 J0 w G0 hS
           refine hb_next (fun _ => (hS.re (.t (.d (.e .h)) (.t (.d (.e .h)) (.b (.d (.e .hb)) .n)))).cb) ?_
           refine hb1 4 (by kernel_rfl) (hb_op rfl wn (nl (P := Try.prog) (fn := Try.f3)) ?_)
           refine o_makeP Z0 hS el_api_Bundle enc_len_Bundle mz_Bundle (by decide) ?_
           clear hS; intro B0 I0 w E0 hS
           have hC := (hS.re (.t (.d (.d (.e .h))) (.t (.d (.d (.e .h))) (.b (.d (.d (.e .hb))) .n)))).cb
           refine hb_next (fun _ => hC) ?_
           refine hy0 10 rfl wn (by kernel_rfl) (nq (P := Try.prog) (fn := Try.f3)) (fun _ => hC) (y_build (cl := (cl_Image B0 D0 0)) bt_api_Image rfl (fillS (vs := [B0]) rfl (E0).cell rfl rfl (fillS (vs := [D0]) rfl (G0).cell rfl rfl fillN))) ?_
           refine hb1 12 (by kernel_rfl) (hb_op rfl wn (nl (P := Try.prog) (fn := Try.f3)) ?_)
           have hS := hS.re (.b (.d (.d .hb)) (.t .h (.t .h (.t .h (.t .h (.b .hb .n))))))
           refine o_storeW (vs := (cl_Image B0 D0 0)) hS (by exact rfl) (Upd.here _) (by exact sz_api_Image) (one_Image (E0).one (G0).one) ?_
           clear hS; intro w hS
           refine hb_next (fun h => absurd h (by decide)) ?_
           refine hb_done (by kernel_rfl) ?_
           obtain rfl := osi hF
           change ∃ _, _
           exact ⟨E1, G1, B0, D0, I0, J0, K0, D1, E0, G0, mk_exF, (hS.re (.b (.e (.d (.d (.d (.d .hb))))) (.b .hb (.t .h (.t .h .n)))))⟩
         · skip
           refine o_makeP B1 hS el_uint32 enc_len_uint32 mz_uint32 (by decide) ?_
           clear hS; intro D0 J0 w G0 hS
           refine hb_next (fun _ => (hS.re (.t (.d .h) (.b (.d .hb) .n))).cb) ?_
           refine hb2 0 11 (by kernel_rfl) (hb_op rfl wn (nl (P := Try.prog) (fn := Try.f3)) ?_) (hb_op rfl wn (nl (P := Try.prog) (fn := Try.f3)) ?_)
           · skip
             refine o_buildT val_int ([0, 1, 1024, 1025] : List Int) hS el_int (fun _ => rfl) enc_len_int (by decide) rfl (by decide) (hp := rfl) (h := ?_)
             clear hS; intro X0 w hS B2
             have hS : St W g [] ([(X0, blk (([0, 1, 1024, 1025] : List Int).flatMap enc_int) 3)] ++ (J0 ++ ([(Y0, blk (([0, 1, 256, 257] : List Int).flatMap enc_int) 3)] ++ ((b1, blk (cl_Ask20 M0 N0 R0 T0 U0 V0) 33) :: [])))) w := hS
             have hC := (hS.re (.t (.d (.d .h)) (.b (.d (.d .hb)) .n))).cb
             refine hb_next (fun _ => hC) ?_
             obtain ⟨U3, V3, D3, K1, M1, N1, R1, T1⟩ := OwT.at R2 B2 enc_len_int
             refine hy0 2 rfl wn (by kernel_rfl) (nq (P := Try.prog) (fn := Try.f3)) (fun _ => hC) (y_index K1 M1 N1 underlying35 el_int.size) ?_
             refine hb_up (CB g ([(X0, blk (([0, 1, 1024, 1025] : List Int).flatMap enc_int) 3)] ++ (J0 ++ ([(Y0, blk (([0, 1, 256, 257] : List Int).flatMap enc_int) 3)] ++ ((b1, blk (cl_Ask20 M0 N0 R0 T0 U0 V0) 33) :: []))))) (fun w h => h.sub (.t (.d (.d .h)) (.b (.d (.d .hb)) .n))) ?_
             refine hy 3 rfl wn (by kernel_rfl) (nq (P := Try.prog) (fn := Try.f3)) hS.cb (y_load (fun w hS => hS.own (mA (mX R1))) underlying3 rfl (T1 0 _ rfl)) ?_
             refine hb2 4 11 (by kernel_rfl) (hb_op rfl wn (nl (P := Try.prog) (fn := Try.f3)) ?_) (hb_op rfl wn (nl (P := Try.prog) (fn := Try.f3)) ?_)
             · skip
               refine o_makeP Z0 hS el_api_Bundle enc_len_Bundle mz_Bundle (by decide) ?_
               clear hS; intro B0 I0 w E0 hS
               have hC := (hS.re (.t (.d .h) (.t (.d .h) (.t (.d .h) (.b (.d .hb) .n))))).cb
               refine hb_next (fun _ => hC) ?_
               refine hy0 10 rfl wn (by kernel_rfl) (nq (P := Try.prog) (fn := Try.f3)) (fun _ => hC) (y_build (cl := (cl_Image B0 D0 0)) bt_api_Image rfl (fillS (vs := [B0]) rfl (E0).cell rfl rfl (fillS (vs := [D0]) rfl (G0).cell rfl rfl fillN))) ?_
               refine hb1 11 (by kernel_rfl) (hb_op rfl wn (nl (P := Try.prog) (fn := Try.f3)) ?_)
               refine o_allocP (cl := (cl_Image (.slice none 0 0) (.slice none 0 0) 0)) zr_api_Image rfl hS ?_
               clear hS; intro K0 w hS
               refine hb_next (fun _ => (hS.re (.t (.e (.d .h)) (.t (.e (.d .h)) (.t (.e (.d .h)) (.b (.e (.d .hb)) .n))))).cb) ?_
               refine hb1 12 (by kernel_rfl) (hb_op rfl wn (nl (P := Try.prog) (fn := Try.f3)) ?_)
               refine o_storeW (vs := (cl_Image B0 D0 0)) hS (by exact rfl) (Upd.here _) (by exact sz_api_Image) (one_Image (E0).one (G0).one) ?_
               clear hS; intro w hS
               refine hb_next (fun h => absurd h (by decide)) ?_
               refine hb_done (by kernel_rfl) ?_
               obtain rfl := osi hF
               change ∃ _, _
               exact ⟨E1, G1, B0, D0, I0, J0, K0, D1, E0, G0, mk_exF, (hS.re (.b (.e (.d (.d (.d (.d .hb))))) (.b .hb (.t .h (.t (.d .h) .n)))))⟩
             refine o_allocP (cl := (cl_Image (.slice none 0 0) (.slice none 0 0) 0)) zr_api_Image rfl hS ?_
             clear hS; intro K0 w hS
             refine hb_next (fun _ => (hS.re (.t (.e .h) (.t (.e .h) (.t (.e .h) (.b (.e .hb) .n))))).cb) ?_
             refine hb1 4 (by kernel_rfl) (hb_op rfl wn (nl (P := Try.prog) (fn := Try.f3)) ?_)
             refine o_makeP Z0 hS el_api_Bundle enc_len_Bundle mz_Bundle (by decide) ?_
             clear hS; intro B0 I0 w E0 hS
             have hC := (hS.re (.t (.d (.e .h)) (.t (.d (.e .h)) (.t (.d (.e .h)) (.b (.d (.e .hb)) .n))))).cb
             refine hb_next (fun _ => hC) ?_
             refine hy0 10 rfl wn (by kernel_rfl) (nq (P := Try.prog) (fn := Try.f3)) (fun _ => hC) (y_build (cl := (cl_Image B0 D0 0)) bt_api_Image rfl (fillS (vs := [B0]) rfl (E0).cell rfl rfl (fillS (vs := [D0]) rfl (G0).cell rfl rfl fillN))) ?_
             refine hb1 12 (by kernel_rfl) (hb_op rfl wn (nl (P := Try.prog) (fn := Try.f3)) ?_)
             have hS := hS.re (.b (.d .hb) (.t .h (.t .h (.t .h (.t .h (.b .hb .n))))))
             refine o_storeW (vs := (cl_Image B0 D0 0)) hS (by exact rfl) (Upd.here _) (by exact sz_api_Image) (one_Image (E0).one (G0).one) ?_
             clear hS; intro w hS
             refine hb_next (fun h => absurd h (by decide)) ?_
             refine hb_done (by kernel_rfl) ?_
             obtain rfl := osi hF
             change ∃ _, _
             exact ⟨E1, G1, B0, D0, I0, J0, K0, D1, E0, G0, mk_exF, (hS.re (.b (.e (.d (.d (.d (.d .hb))))) (.b .hb (.t .h (.t (.d .h) .n)))))⟩
           refine o_allocP (cl := (cl_Image (.slice none 0 0) (.slice none 0 0) 0)) zr_api_Image rfl hS ?_
           clear hS; intro K0 w hS
           refine hb_next (fun _ => (hS.re (.t (.e (.d .h)) (.b (.e (.d .hb)) .n))).cb) ?_
           refine hb1 0 (by kernel_rfl) (hb_op rfl wn (nl (P := Try.prog) (fn := Try.f3)) ?_)
           refine o_buildT val_int ([0, 1, 1024, 1025] : List Int) hS el_int (fun _ => rfl) enc_len_int (by decide) rfl (by decide) (hp := rfl) (h := ?_)
           clear hS; intro X0 w hS B2
           have hS : St W g [] ([(X0, blk (([0, 1, 1024, 1025] : List Int).flatMap enc_int) 3)] ++ ((K0, blk (cl_Image (.slice none 0 0) (.slice none 0 0) 0) 37) :: (J0 ++ ([(Y0, blk (([0, 1, 256, 257] : List Int).flatMap enc_int) 3)] ++ ((b1, blk (cl_Ask20 M0 N0 R0 T0 U0 V0) 33) :: []))))) w := hS
           have hC := (hS.re (.t (.d (.e (.d .h))) (.b (.d (.e (.d .hb))) .n))).cb
           refine hb_next (fun _ => hC) ?_
           obtain ⟨U3, V3, D3, K1, M1, N1, R1, T1⟩ := OwT.at R2 B2 enc_len_int
           refine hy0 2 rfl wn (by kernel_rfl) (nq (P := Try.prog) (fn := Try.f3)) (fun _ => hC) (y_index K1 M1 N1 underlying35 el_int.size) ?_
           refine hb_up (CB g ([(X0, blk (([0, 1, 1024, 1025] : List Int).flatMap enc_int) 3)] ++ ((K0, blk (cl_Image (.slice none 0 0) (.slice none 0 0) 0) 37) :: (J0 ++ ([(Y0, blk (([0, 1, 256, 257] : List Int).flatMap enc_int) 3)] ++ ((b1, blk (cl_Ask20 M0 N0 R0 T0 U0 V0) 33) :: [])))))) (fun w h => h.sub (.t (.d (.e (.d .h))) (.b (.d (.e (.d .hb))) .n))) ?_
           refine hy 3 rfl wn (by kernel_rfl) (nq (P := Try.prog) (fn := Try.f3)) hS.cb (y_load (fun w hS => hS.own (mA (mX R1))) underlying3 rfl (T1 0 _ rfl)) ?_
           refine hb1 4 (by kernel_rfl) (hb_op rfl wn (nl (P := Try.prog) (fn := Try.f3)) ?_)
           refine o_makeP Z0 hS el_api_Bundle enc_len_Bundle mz_Bundle (by decide) ?_
           clear hS; intro B0 I0 w E0 hS
           have hC := (hS.re (.t (.d .h) (.b (.d .hb) (.t (.d .h) (.t (.d .h) (.b (.d .hb) .n)))))).cb
           refine hb_next (fun _ => hC) ?_
           refine hy0 10 rfl wn (by kernel_rfl) (nq (P := Try.prog) (fn := Try.f3)) (fun _ => hC) (y_build (cl := (cl_Image B0 D0 0)) bt_api_Image rfl (fillS (vs := [B0]) rfl (E0).cell rfl rfl (fillS (vs := [D0]) rfl (G0).cell rfl rfl fillN))) ?_
           refine hb1 12 (by kernel_rfl) (hb_op rfl wn (nl (P := Try.prog) (fn := Try.f3)) ?_)
           have hS := hS.re (.b (.d (.d .hb)) (.t .h (.t .h (.t .h (.t .h (.b .hb .n))))))
           refine o_storeW (vs := (cl_Image B0 D0 0)) hS (by exact rfl) (Upd.here _) (by exact sz_api_Image) (one_Image (E0).one (G0).one) ?_
           clear hS; intro w hS
           refine hb_next (fun h => absurd h (by decide)) ?_
           refine hb_done (by kernel_rfl) ?_
           obtain rfl := osi hF
           change ∃ _, _
           exact ⟨E1, G1, B0, D0, I0, J0, K0, D1, E0, G0, mk_exF, (hS.re (.b (.e (.d (.d (.d (.d .hb))))) (.b .hb (.t .h (.t (.d .h) .n)))))⟩
         refine o_allocP (cl := (cl_Image (.slice none 0 0) (.slice none 0 0) 0)) zr_api_Image rfl hS ?_
         clear hS; intro K0 w hS
         refine hb_next (fun _ => (hS.re (.t (.e .h) (.b (.e .hb) .n))).cb) ?_
         refine hb2 0 9 (by kernel_rfl) (hb_op rfl wn (nl (P := Try.prog) (fn := Try.f3)) ?_) (hb_op rfl wn (nl (P := Try.prog) (fn := Try.f3)) ?_)
         · skip
           refine o_buildT val_int ([0, 1, 1024, 1025] : List Int) hS el_int (fun _ => rfl) enc_len_int (by decide) rfl (by decide) (hp := rfl) (h := ?_)
           clear hS; intro X0 w hS B2
           have hS : St W g [] ([(X0, blk (([0, 1, 1024, 1025] : List Int).flatMap enc_int) 3)] ++ ((K0, blk (cl_Image (.slice none 0 0) (.slice none 0 0) 0) 37) :: ([(Y0, blk (([0, 1, 256, 257] : List Int).flatMap enc_int) 3)] ++ ((b1, blk (cl_Ask20 M0 N0 R0 T0 U0 V0) 33) :: [])))) w := hS
           have hC := (hS.re (.t (.d (.e .h)) (.b (.d (.e .hb)) .n))).cb
           refine hb_next (fun _ => hC) ?_
           obtain ⟨U3, V3, D3, K1, M1, N1, R1, T1⟩ := OwT.at R2 B2 enc_len_int
           refine hy0 2 rfl wn (by kernel_rfl) (nq (P := Try.prog) (fn := Try.f3)) (fun _ => hC) (y_index K1 M1 N1 underlying35 el_int.size) ?_
           refine hb_up (CB g ([(X0, blk (([0, 1, 1024, 1025] : List Int).flatMap enc_int) 3)] ++ ((K0, blk (cl_Image (.slice none 0 0) (.slice none 0 0) 0) 37) :: ([(Y0, blk (([0, 1, 256, 257] : List Int).flatMap enc_int) 3)] ++ ((b1, blk (cl_Ask20 M0 N0 R0 T0 U0 V0) 33) :: []))))) (fun w h => h.sub (.t (.d (.e .h)) (.b (.d (.e .hb)) .n))) ?_
           refine hy 3 rfl wn (by kernel_rfl) (nq (P := Try.prog) (fn := Try.f3)) hS.cb (y_load (fun w hS => hS.own (mA (mX R1))) underlying3 rfl (T1 0 _ rfl)) ?_
           refine hb2 4 9 (by kernel_rfl) (hb_op rfl wn (nl (P := Try.prog) (fn := Try.f3)) ?_) (hb_op rfl wn (nl (P := Try.prog) (fn := Try.f3)) ?_)
           · skip
             refine o_makeP Z0 hS el_api_Bundle enc_len_Bundle mz_Bundle (by decide) ?_
             clear hS; intro B0 I0 w E0 hS
             refine hb_next (fun _ => (hS.re (.t (.d .h) (.b (.d .hb) (.t (.d .h) (.b (.d .hb) .n))))).cb) ?_
             refine hb1 9 (by kernel_rfl) (hb_op rfl wn (nl (P := Try.prog) (fn := Try.f3)) ?_)
             refine o_makeP B1 hS el_uint32 enc_len_uint32 mz_uint32 (by decide) ?_
             clear hS; intro D0 J0 w G0 hS
             have hC := (hS.re (.t (.d (.d .h)) (.b (.d (.d .hb)) (.t (.d (.d .h)) (.b (.d (.d .hb)) .n))))).cb
             refine hb_next (fun _ => hC) ?_
             refine hy0 10 rfl wn (by kernel_rfl) (nq (P := Try.prog) (fn := Try.f3)) (fun _ => hC) (y_build (cl := (cl_Image B0 D0 0)) bt_api_Image rfl (fillS (vs := [B0]) rfl (E0).cell rfl rfl (fillS (vs := [D0]) rfl (G0).cell rfl rfl fillN))) ?_
             refine hb1 12 (by kernel_rfl) (hb_op rfl wn (nl (P := Try.prog) (fn := Try.f3)) ?_)
             have hS := hS.re (.b (.d (.d (.d .hb))) (.t .h (.t .h (.t .h (.t .h (.b .hb .n))))))
             refine o_storeW (vs := (cl_Image B0 D0 0)) hS (by exact rfl) (Upd.here _) (by exact sz_api_Image) (one_Image (E0).one (G0).one) ?_
             clear hS; intro w hS
             refine hb_next (fun h => absurd h (by decide)) ?_
             refine hb_done (by kernel_rfl) ?_
             obtain rfl := osi hF
             change ∃ _, _
             exact ⟨E1, G1, B0, D0, I0, J0, K0, D1, E0, G0, mk_exF, (hS.re (.b (.e (.d (.d (.d (.d .hb))))) (.b .hb (.t (.d .h) (.t .h .n)))))⟩
           refine o_makeP B1 hS el_uint32 enc_len_uint32 mz_uint32 (by decide) ?_
           clear hS; intro D0 J0 w G0 hS
           refine hb_next (fun _ => (hS.re (.t (.d .h) (.b (.d .hb) (.t (.d .h) (.b (.d .hb) .n))))).cb) ?_
           refine hb1 4 (by kernel_rfl) (hb_op rfl wn (nl (P := Try.prog) (fn := Try.f3)) ?_)
           refine o_makeP Z0 hS el_api_Bundle enc_len_Bundle mz_Bundle (by decide) ?_
           clear hS; intro B0 I0 w E0 hS
           have hC := (hS.re (.t (.d (.d .h)) (.b (.d (.d .hb)) (.t (.d (.d .h)) (.b (.d (.d .hb)) .n))))).cb
           refine hb_next (fun _ => hC) ?_
           refine hy0 10 rfl wn (by kernel_rfl) (nq (P := Try.prog) (fn := Try.f3)) (fun _ => hC) (y_build (cl := (cl_Image B0 D0 0)) bt_api_Image rfl (fillS (vs := [B0]) rfl (E0).cell rfl rfl (fillS (vs := [D0]) rfl (G0).cell rfl rfl fillN))) ?_
           refine hb1 12 (by kernel_rfl) (hb_op rfl wn (nl (P := Try.prog) (fn := Try.f3)) ?_)
           have hS := hS.re (.b (.d (.d (.d .hb))) (.t .h (.t .h (.t .h (.t .h (.b .hb .n))))))
           refine o_storeW (vs := (cl_Image B0 D0 0)) hS (by exact rfl) (Upd.here _) (by exact sz_api_Image) (one_Image (E0).one (G0).one) ?_
           clear hS; intro w hS
           refine hb_next (fun h => absurd h (by decide)) ?_
           refine hb_done (by kernel_rfl) ?_
           obtain rfl := osi hF
           change ∃ _, _
           exact ⟨E1, G1, B0, D0, I0, J0, K0, D1, E0, G0, mk_exF, (hS.re (.b (.e (.d (.d (.d (.d .hb))))) (.b .hb (.t .h (.t .h .n)))))⟩
         refine o_makeP B1 hS el_uint32 enc_len_uint32 mz_uint32 (by decide) ?_
         clear hS; intro D0 J0 w G0 hS
         refine hb_next (fun _ => (hS.re (.t (.d (.e .h)) (.b (.d (.e .hb)) .n))).cb) ?_
         refine hb1 0 (by kernel_rfl) (hb_op rfl wn (nl (P := Try.prog) (fn := Try.f3)) ?_)
         refine o_buildT val_int ([0, 1, 1024, 1025] : List Int) hS el_int (fun _ => rfl) enc_len_int (by decide) rfl (by decide) (hp := rfl) (h := ?_)
         clear hS; intro X0 w hS B2
         have hS : St W g [] ([(X0, blk (([0, 1, 1024, 1025] : List Int).flatMap enc_int) 3)] ++ (J0 ++ ((K0, blk (cl_Image (.slice none 0 0) (.slice none 0 0) 0) 37) :: ([(Y0, blk (([0, 1, 256, 257] : List Int).flatMap enc_int) 3)] ++ ((b1, blk (cl_Ask20 M0 N0 R0 T0 U0 V0) 33) :: []))))) w := hS
         have hC := (hS.re (.t (.d (.d (.e .h))) (.b (.d (.d (.e .hb))) .n))).cb
         refine hb_next (fun _ => hC) ?_
         obtain ⟨U3, V3, D3, K1, M1, N1, R1, T1⟩ := OwT.at R2 B2 enc_len_int
         refine hy0 2 rfl wn (by kernel_rfl) (nq (P := Try.prog) (fn := Try.f3)) (fun _ => hC) (y_index K1 M1 N1 underlying35 el_int.size) ?_
         refine hb_up (CB g ([(X0, blk (([0, 1, 1024, 1025] : List Int).flatMap enc_int) 3)] ++ (J0 ++ ((K0, blk (cl_Image (.slice none 0 0) (.slice none 0 0) 0) 37) :: ([(Y0, blk (([0, 1, 256, 257] : List Int).flatMap enc_int) 3)] ++ ((b1, blk (cl_Ask20 M0 N0 R0 T0 U0 V0) 33) :: [])))))) (fun w h => h.sub (.t (.d (.d (.e .h))) (.b (.d (.d (.e .hb))) .n))) ?_
         refine hy 3 rfl wn (by kernel_rfl) (nq (P := Try.prog) (fn := Try.f3)) hS.cb (y_load (fun w hS => hS.own (mA (mX R1))) underlying3 rfl (T1 0 _ rfl)) ?_
         refine hb1 4 (by kernel_rfl) (hb_op rfl wn (nl (P := Try.prog) (fn := Try.f3)) ?_)
         refine o_makeP Z0 hS el_api_Bundle enc_len_Bundle mz_Bundle (by decide) ?_
         clear hS; intro B0 I0 w E0 hS
         have hC := (hS.re (.t (.d .h) (.t (.d .h) (.b (.d .hb) (.t (.d .h) (.b (.d .hb) .n)))))).cb
         refine hb_next (fun _ => hC) ?_
         refine hy0 10 rfl wn (by kernel_rfl) (nq (P := Try.prog) (fn := Try.f3)) (fun _ => hC) (y_build (cl := (cl_Image B0 D0 0)) bt_api_Image rfl (fillS (vs := [B0]) rfl (E0).cell rfl rfl (fillS (vs := [D0]) rfl (G0).cell rfl rfl fillN))) ?_
         refine hb1 12 (by kernel_rfl) (hb_op rfl wn (nl (P := Try.prog) (fn := Try.f3)) ?_)
         have hS := hS.re (.b (.d (.d (.d .hb))) (.t .h (.t .h (.t .h (.t .h (.b .hb .n))))))
         refine o_storeW (vs := (cl_Image B0 D0 0)) hS (by exact rfl) (Upd.here _) (by exact sz_api_Image) (one_Image (E0).one (G0).one) ?_
         clear hS; intro w hS
         refine hb_next (fun h => absurd h (by decide)) ?_
         refine hb_done (by kernel_rfl) ?_
         obtain rfl := osi hF
         change ∃ _, _
         exact ⟨E1, G1, B0, D0, I0, J0, K0, D1, E0, G0, mk_exF, (hS.re (.b (.e (.d (.d (.d (.d .hb))))) (.b .hb (.t .h (.t (.d .h) .n)))))⟩
       refine o_allocP (cl := (cl_Image (.slice none 0 0) (.slice none 0 0) 0)) zr_api_Image rfl hS ?_
       clear hS; intro K0 w hS
       refine hb_next (fun _ => (hS.re (.b (.e .hb) .n)).cb) ?_
       refine hb2 0 5 (by kernel_rfl) (hb_op rfl wn (nl (P := Try.prog) (fn := Try.f3)) ?_) (hb_op rfl wn (nl (P := Try.prog) (fn := Try.f3)) ?_)
       · skip
         refine o_buildT val_int ([0, 1, 1024, 1025] : List Int) hS el_int (fun _ => rfl) enc_len_int (by decide) rfl (by decide) (hp := rfl) (h := ?_)
         clear hS; intro X0 w hS B2
         have hS : St W g [] ([(X0, blk (([0, 1, 1024, 1025] : List Int).flatMap enc_int) 3)] ++ ((K0, blk (cl_Image (.slice none 0 0) (.slice none 0 0) 0) 37) :: ((b1, blk (cl_Ask20 M0 N0 R0 T0 U0 V0) 33) :: []))) w := hS
         have hC := (hS.re (.b (.d (.e .hb)) .n)).cb
         refine hb_next (fun _ => hC) ?_
         obtain ⟨U3, V3, D3, K1, M1, N1, R1, T1⟩ := OwT.at R2 B2 enc_len_int
         refine hy0 2 rfl wn (by kernel_rfl) (nq (P := Try.prog) (fn := Try.f3)) (fun _ => hC) (y_index K1 M1 N1 underlying35 el_int.size) ?_
         refine hb_up (CB g ([(X0, blk (([0, 1, 1024, 1025] : List Int).flatMap enc_int) 3)] ++ ((K0, blk (cl_Image (.slice none 0 0) (.slice none 0 0) 0) 37) :: ((b1, blk (cl_Ask20 M0 N0 R0 T0 U0 V0) 33) :: [])))) (fun w h => h.sub (.b (.d (.e .hb)) .n)) ?_
         refine hy 3 rfl wn (by kernel_rfl) (nq (P := Try.prog) (fn := Try.f3)) hS.cb (y_load (fun w hS => hS.own (mA (mX R1))) underlying3 rfl (T1 0 _ rfl)) ?_
         refine hb2 4 5 (by kernel_rfl) (hb_op rfl wn (nl (P := Try.prog) (fn := Try.f3)) ?_) (hb_op rfl wn (nl (P := Try.prog) (fn := Try.f3)) ?_)
         · skip
           refine o_makeP Z0 hS el_api_Bundle enc_len_Bundle mz_Bundle (by decide) ?_
           clear hS; intro B0 I0 w E0 hS
           refine hb_next (fun _ => (hS.re (.t (.d .h) (.b (.d .hb) (.b (.d .hb) .n)))).cb) ?_
           refine hb1 5 (by kernel_rfl) (hb_op rfl wn (nl (P := Try.prog) (fn := Try.f3)) ?_)
           refine o_buildT val_int ([0, 1, 256, 257] : List Int) hS el_int (fun _ => rfl) enc_len_int (by decide) rfl (by decide) (hp := rfl) (h := ?_)
           clear hS; intro Y0 w hS D2
           have hS : St W g [] ([(Y0, blk (([0, 1, 256, 257] : List Int).flatMap enc_int) 3)] ++ (I0 ++ ([(X0, blk (([0, 1, 1024, 1025] : List Int).flatMap enc_int) 3)] ++ ((K0, blk (cl_Image (.slice none 0 0) (.slice none 0 0) 0) 37) :: ((b1, blk (cl_Ask20 M0 N0 R0 T0 U0 V0) 33) :: []))))) w := hS
           have hC := (hS.re (.t (.d (.d .h)) (.b (.d (.d .hb)) (.b (.d (.d .hb)) .n)))).cb
           refine hb_next (fun _ => hC) ?_
           obtain ⟨X3, Y3, E3, U1, V1, X1, Y1, Z1⟩ := OwT.at T2 D2 enc_len_int
           refine hy0 7 rfl wn (by kernel_rfl) (nq (P := Try.prog) (fn := Try.f3)) (fun _ => hC) (y_index U1 V1 X1 underlying35 el_int.size) ?_
           refine hb_up (CB g ([(Y0, blk (([0, 1, 256, 257] : List Int).flatMap enc_int) 3)] ++ (I0 ++ ([(X0, blk (([0, 1, 1024, 1025] : List Int).flatMap enc_int) 3)] ++ ((K0, blk (cl_Image (.slice none 0 0) (.slice none 0 0) 0) 37) :: ((b1, blk (cl_Ask20 M0 N0 R0 T0 U0 V0) 33) :: [])))))) (fun w h => h.sub (.t (.d (.d .h)) (.b (.d (.d .hb)) (.b (.d (.d .hb)) .n)))) ?_
           refine hy 8 rfl wn (by kernel_rfl) (nq (P := Try.prog) (fn := Try.f3)) hS.cb (y_load (fun w hS => hS.own (mA (mX Y1))) underlying3 rfl (Z1 0 _ rfl)) ?_
           refine hb1 9 (by kernel_rfl) (hb_op rfl wn (nl (P := Try.prog) (fn := Try.f3)) ?_)
           refine o_makeP B1 hS el_uint32 enc_len_uint32 mz_uint32 (by decide) ?_
           clear hS; intro D0 J0 w G0 hS
           have hC := (hS.re (.t (.d .h) (.t (.d .h) (.t (.d .h) (.b (.d .hb) (.b (.d .hb) .n)))))).cb
           refine hb_next (fun _ => hC) ?_
           refine hy0 10 rfl wn (by kernel_rfl) (nq (P := Try.prog) (fn := Try.f3)) (fun _ => hC) (y_build (cl := (cl_Image B0 D0 0)) bt_api_Image rfl (fillS (vs := [B0]) rfl (E0).cell rfl rfl (fillS (vs := [D0]) rfl (G0).cell rfl rfl fillN))) ?_
           refine hb1 12 (by kernel_rfl) (hb_op rfl wn (nl (P := Try.prog) (fn := Try.f3)) ?_)
           have hS := hS.re (.b (.d (.d (.d (.d .hb)))) (.t .h (.t .h (.t .h (.t .h (.b .hb .n))))))
           refine o_storeW (vs := (cl_Image B0 D0 0)) hS (by exact rfl) (Upd.here _) (by exact sz_api_Image) (one_Image (E0).one (G0).one) ?_
           clear hS; intro w hS
           refine hb_next (fun h => absurd h (by decide)) ?_
           refine hb_done (by kernel_rfl) ?_
           obtain rfl := osi hF
           change ∃ _, _
           exact ⟨E1, G1, B0, D0, I0, J0, K0, D1, E0, G0, mk_exF, (hS.re (.b (.e (.d (.d (.d (.d .hb))))) (.b .hb (.t (.d (.d .h)) (.t .h .n)))))⟩
         refine o_buildT val_int ([0, 1, 256, 257] : List Int) hS el_int (fun _ => rfl) enc_len_int (by decide) rfl (by decide) (hp := rfl) (h := ?_)
         clear hS; intro Y0 w hS D2
         have hS : St W g [] ([(Y0, blk (([0, 1, 256, 257] : List Int).flatMap enc_int) 3)] ++ ([(X0, blk (([0, 1, 1024, 1025] : List Int).flatMap enc_int) 3)] ++ ((K0, blk (cl_Image (.slice none 0 0) (.slice none 0 0) 0) 37) :: ((b1, blk (cl_Ask20 M0 N0 R0 T0 U0 V0) 33) :: [])))) w := hS
         have hC := (hS.re (.t (.d .h) (.b (.d .hb) (.b (.d .hb) .n)))).cb
         refine hb_next (fun _ => hC) ?_
         obtain ⟨X3, Y3, E3, U1, V1, X1, Y1, Z1⟩ := OwT.at T2 D2 enc_len_int
         refine hy0 7 rfl wn (by kernel_rfl) (nq (P := Try.prog) (fn := Try.f3)) (fun _ => hC) (y_index U1 V1 X1 underlying35 el_int.size) ?_
         refine hb_up (CB g ([(Y0, blk (([0, 1, 256, 257] : List Int).flatMap enc_int) 3)] ++ ([(X0, blk (([0, 1, 1024, 1025] : List Int).flatMap enc_int) 3)] ++ ((K0, blk (cl_Image (.slice none 0 0) (.slice none 0 0) 0) 37) :: ((b1, blk (cl_Ask20 M0 N0 R0 T0 U0 V0) 33) :: []))))) (fun w h => h.sub (.t (.d .h) (.b (.d .hb) (.b (.d .hb) .n)))) ?_
         refine hy 8 rfl wn (by kernel_rfl) (nq (P := Try.prog) (fn := Try.f3)) hS.cb (y_load (fun w hS => hS.own (mA (mX Y1))) underlying3 rfl (Z1 0 _ rfl)) ?_
         refine hb2 4 9 (by kernel_rfl) (hb_op rfl wn (nl (P := Try.prog) (fn := Try.f3)) ?_) (hb_op rfl wn (nl (P := Try.prog) (fn := Try.f3)) ?_)
         · skip
           refine o_makeP Z0 hS el_api_Bundle enc_len_Bundle mz_Bundle (by decide) ?_
           clear hS; intro B0 I0 w E0 hS
           refine hb_next (fun _ => (hS.re (.t (.d .h) (.t (.d .h) (.b (.d .hb) (.b (.d .hb) .n))))).cb) ?_
           refine hb1 9 (by kernel_rfl) (hb_op rfl wn (nl (P := Try.prog) (fn := Try.f3)) ?_)
           refine o_makeP B1 hS el_uint32 enc_len_uint32 mz_uint32 (by decide) ?_
           clear hS; intro D0 J0 w G0 hS
           have hC := (hS.re (.t (.d (.d .h)) (.t (.d (.d .h)) (.b (.d (.d .hb)) (.b (.d (.d .hb)) .n))))).cb
           refine hb_next (fun _ => hC) ?_
           refine hy0 10 rfl wn (by kernel_rfl) (nq (P := Try.prog) (fn := Try.f3)) (fun _ => hC) (y_build (cl := (cl_Image B0 D0 0)) bt_api_Image rfl (fillS (vs := [B0]) rfl (E0).cell rfl rfl (fillS (vs := [D0]) rfl (G0).cell rfl rfl fillN))) ?_
           refine hb1 12 (by kernel_rfl) (hb_op rfl wn (nl (P := Try.prog) (fn := Try.f3)) ?_)
           have hS := hS.re (.b (.d (.d (.d (.d .hb)))) (.t .h (.t .h (.t .h (.t .h (.b .hb .n))))))
           refine o_storeW (vs := (cl_Image B0 D0 0)) hS (by exact rfl) (Upd.here _) (by exact sz_api_Image) (one_Image (E0).one (G0).one) ?_
           clear hS; intro w hS
           refine hb_next (fun h => absurd h (by decide)) ?_
           refine hb_done (by kernel_rfl) ?_
           obtain rfl := osi hF
           change ∃ _, _
           exact ⟨E1, G1, B0, D0, I0, J0, K0, D1, E0, G0, mk_exF, (hS.re (.b (.e (.d (.d (.d (.d .hb))))) (.b .hb (.t (.d .h) (.t .h .n)))))⟩
         refine o_makeP B1 hS el_uint32 enc_len_uint32 mz_uint32 (by decide) ?_
         clear hS; intro D0 J0 w G0 hS
         refine hb_next (fun _ => (hS.re (.t (.d .h) (.t (.d .h) (.b (.d .hb) (.b (.d .hb) .n))))).cb) ?_
         refine hb1 4 (by kernel_rfl) (hb_op rfl wn (nl (P := Try.prog) (fn := Try.f3)) ?_)
         refine o_makeP Z0 hS el_api_Bundle enc_len_Bundle mz_Bundle (by decide) ?_
         clear hS; intro B0 I0 w E0 hS
         have hC := (hS.re (.t (.d (.d .h)) (.t (.d (.d .h)) (.b (.d (.d .hb)) (.b (.d (.d .hb)) .n))))).cb
         refine hb_next (fun _ => hC) ?_
         refine hy0 10 rfl wn (by kernel_rfl) (nq (P := Try.prog) (fn := Try.f3)) (fun _ => hC) (y_build (cl := (cl_Image B0 D0 0)) bt_api_Image rfl (fillS (vs := [B0]) rfl (E0).cell rfl rfl (fillS (vs := [D0]) rfl (G0).cell rfl rfl fillN))) ?_
         refine hb1 12 (by kernel_rfl) (hb_op rfl wn (nl (P := Try.prog) (fn := Try.f3)) ?_)
         have hS := hS.re (.b (.d (.d (.d (.d .hb)))) (.t .h (.t .h (.t .h (.t .h (.b .hb .n))))))
         refine o_storeW (vs := (cl_Image B0 D0 0)) hS (by exact rfl) (Upd.here _) (by exact sz_api_Image) (one_Image (E0).one (G0).one) ?_
         clear hS; intro w hS
         refine hb_next (fun h => absurd h (by decide)) ?_
         refine hb_done (by kernel_rfl) ?_
         obtain rfl := osi hF
         change ∃ _, _
         exact ⟨E1, G1, B0, D0, I0, J0, K0, D1, E0, G0, mk_exF, (hS.re (.b (.e (.d (.d (.d (.d .hb))))) (.b .hb (.t .h (.t .h .n)))))⟩
       refine o_buildT val_int ([0, 1, 256, 257] : List Int) hS el_int (fun _ => rfl) enc_len_int (by decide) rfl (by decide) (hp := rfl) (h := ?_)
       clear hS; intro Y0 w hS D2
       have hS : St W g [] ([(Y0, blk (([0, 1, 256, 257] : List Int).flatMap enc_int) 3)] ++ ((K0, blk (cl_Image (.slice none 0 0) (.slice none 0 0) 0) 37) :: ((b1, blk (cl_Ask20 M0 N0 R0 T0 U0 V0) 33) :: []))) w := hS
       have hC := (hS.re (.b (.d (.e .hb)) .n)).cb
       refine hb_next (fun _ => hC) ?_
       obtain ⟨X3, Y3, E3, U1, V1, X1, Y1, Z1⟩ := OwT.at T2 D2 enc_len_int
       refine hy0 7 rfl wn (by kernel_rfl) (nq (P := Try.prog) (fn := Try.f3)) (fun _ => hC) (y_index U1 V1 X1 underlying35 el_int.size) ?_
       refine hb_up (CB g ([(Y0, blk (([0, 1, 256, 257] : List Int).flatMap enc_int) 3)] ++ ((K0, blk (cl_Image (.slice none 0 0) (.slice none 0 0) 0) 37) :: ((b1, blk (cl_Ask20 M0 N0 R0 T0 U0 V0) 33) :: [])))) (fun w h => h.sub (.b (.d (.e .hb)) .n)) ?_
       refine hy 8 rfl wn (by kernel_rfl) (nq (P := Try.prog) (fn := Try.f3)) hS.cb (y_load (fun w hS => hS.own (mA (mX Y1))) underlying3 rfl (Z1 0 _ rfl)) ?_
       refine hb2 0 9 (by kernel_rfl) (hb_op rfl wn (nl (P := Try.prog) (fn := Try.f3)) ?_) (hb_op rfl wn (nl (P := Try.prog) (fn := Try.f3)) ?_)
       · skip
         refine o_buildT val_int ([0, 1, 1024, 1025] : List Int) hS el_int (fun _ => rfl) enc_len_int (by decide) rfl (by decide) (hp := rfl) (h := ?_)
         clear hS; intro X0 w hS B2
         have hS : St W g [] ([(X0, blk (([0, 1, 1024, 1025] : List Int).flatMap enc_int) 3)] ++ ([(Y0, blk (([0, 1, 256, 257] : List Int).flatMap enc_int) 3)] ++ ((K0, blk (cl_Image (.slice none 0 0) (.slice none 0 0) 0) 37) :: ((b1, blk (cl_Ask20 M0 N0 R0 T0 U0 V0) 33) :: [])))) w := hS
         have hC := (hS.re (.t (.d .h) (.b (.d .hb) (.b (.d .hb) .n)))).cb
         refine hb_next (fun _ => hC) ?_
         obtain ⟨U3, V3, D3, K1, M1, N1, R1, T1⟩ := OwT.at R2 B2 enc_len_int
         refine hy0 2 rfl wn (by kernel_rfl) (nq (P := Try.prog) (fn := Try.f3)) (fun _ => hC) (y_index K1 M1 N1 underlying35 el_int.size) ?_
         refine hb_up (CB g ([(X0, blk (([0, 1, 1024, 1025] : List Int).flatMap enc_int) 3)] ++ ([(Y0, blk (([0, 1, 256, 257] : List Int).flatMap enc_int) 3)] ++ ((K0, blk (cl_Image (.slice none 0 0) (.slice none 0 0) 0) 37) :: ((b1, blk (cl_Ask20 M0 N0 R0 T0 U0 V0) 33) :: []))))) (fun w h => h.sub (.t (.d .h) (.b (.d .hb) (.b (.d .hb) .n)))) ?_
         refine hy 3 rfl wn (by kernel_rfl) (nq (P := Try.prog) (fn := Try.f3)) hS.cb (y_load (fun w hS => hS.own (mA (mX R1))) underlying3 rfl (T1 0 _ rfl)) ?_
         refine hb2 4 9 (by kernel_rfl) (hb_op rfl wn (nl (P := Try.prog) (fn := Try.f3)) ?_) (hb_op rfl wn (nl (P := Try.prog) (fn := Try.f3)) ?_)
         · skip
           refine o_makeP Z0 hS el_api_Bundle enc_len_Bundle mz_Bundle (by decide) ?_
           clear hS; intro B0 I0 w E0 hS
           refine hb_next (fun _ => (hS.re (.t (.d .h) (.t (.d .h) (.b (.d .hb) (.b (.d .hb) .n))))).cb) ?_
           refine hb1 9 (by kernel_rfl) (hb_op rfl wn (nl (P := Try.prog) (fn := Try.f3)) ?_)
           refine o_makeP B1 hS el_uint32 enc_len_uint32 mz_uint32 (by decide) ?_
           clear hS; intro D0 J0 w G0 hS
           have hC := (hS.re (.t (.d (.d .h)) (.t (.d (.d .h)) (.b (.d (.d .hb)) (.b (.d (.d .hb)) .n))))).cb
           refine hb_next (fun _ => hC) ?_
           refine hy0 10 rfl wn (by kernel_rfl) (nq (P := Try.prog) (fn := Try.f3)) (fun _ => hC) (y_build (cl := (cl_Image B0 D0 0)) bt_api_Image rfl (fillS (vs := [B0]) rfl (E0).cell rfl rfl (fillS (vs := [D0]) rfl (G0).cell rfl rfl fillN))) ?_
           refine hb1 12 (by kernel_rfl) (hb_op rfl wn (nl (P := Try.prog) (fn := Try.f3)) ?_)
           have hS := hS.re (.b (.d (.d (.d (.d .hb)))) (.t .h (.t .h (.t .h (.t .h (.b .hb .n))))))
           refine o_storeW (vs := (cl_Image B0 D0 0)) hS (by exact rfl) (Upd.here _) (by exact sz_api_Image) (one_Image (E0).one (G0).one) ?_
           clear hS; intro w hS
           refine hb_next (fun h => absurd h (by decide)) ?_
           refine hb_done (by kernel_rfl) ?_
           obtain rfl := osi hF
           change ∃ _, _
           exact ⟨E1, G1, B0, D0, I0, J0, K0, D1, E0, G0, mk_exF, (hS.re (.b (.e (.d (.d (.d (.d .hb))))) (.b .hb (.t (.d .h) (.t .h .n)))))⟩
         refine o_makeP B1 hS el_uint32 enc_len_uint32 mz_uint32 (by decide) ?_
         clear hS; intro D0 J0 w G0 hS
         refine hb_next (fun _ => (hS.re (.t (.d .h) (.t (.d .h) (.b (.d .hb) (.b (.d .hb) .n))))).cb) ?_
         refine hb1 4 (by kernel_rfl) (hb_op rfl wn (nl (P := Try.prog) (fn := Try.f3)) ?_)
         refine o_makeP Z0 hS el_api_Bundle enc_len_Bundle mz_Bundle (by decide) ?_
         clear hS; intro B0 I0 w E0 hS
         have hC := (hS.re (.t (.d (.d .h)) (.t (.d (.d .h)) (.b (.d (.d .hb)) (.b (.d (.d .hb)) .n))))).cb
         refine hb_next (fun _ => hC) ?_
         refine hy0 10 rfl wn (by kernel_rfl) (nq (P := Try.prog) (fn := Try.f3)) (fun _ => hC) (y_build (cl := (cl_Image B0 D0 0)) bt_api_Image rfl (fillS (vs := [B0]) rfl (E0).cell rfl rfl (fillS (vs := [D0]) rfl (G0).cell rfl rfl fillN))) ?_
         refine hb1 12 (by kernel_rfl) (hb_op rfl wn (nl (P := Try.prog) (fn := Try.f3)) ?_)
         have hS := hS.re (.b (.d (.d (.d (.d .hb)))) (.t .h (.t .h (.t .h (.t .h (.b .hb .n))))))
         refine o_storeW (vs := (cl_Image B0 D0 0)) hS (by exact rfl) (Upd.here _) (by exact sz_api_Image) (one_Image (E0).one (G0).one) ?_
         clear hS; intro w hS
         refine hb_next (fun h => absurd h (by decide)) ?_
         refine hb_done (by kernel_rfl) ?_
         obtain rfl := osi hF
         change ∃ _, _
         exact ⟨E1, G1, B0, D0, I0, J0, K0, D1, E0, G0, mk_exF, (hS.re (.b (.e (.d (.d (.d (.d .hb))))) (.b .hb (.t .h (.t .h .n)))))⟩
       refine o_makeP B1 hS el_uint32 enc_len_uint32 mz_uint32 (by decide) ?_
       clear hS; intro D0 J0 w G0 hS
       refine hb_next (fun _ => (hS.re (.t (.d .h) (.b (.d .hb) (.b (.d .hb) .n)))).cb) ?_
       refine hb1 0 (by kernel_rfl) (hb_op rfl wn (nl (P := Try.prog) (fn := Try.f3)) ?_)
       refine o_buildT val_int ([0, 1, 1024, 1025] : List Int) hS el_int (fun _ => rfl) enc_len_int (by decide) rfl (by decide) (hp := rfl) (h := ?_)
       clear hS; intro X0 w hS B2
       have hS : St W g [] ([(X0, blk (([0, 1, 1024, 1025] : List Int).flatMap enc_int) 3)] ++ (J0 ++ ([(Y0, blk (([0, 1, 256, 257] : List Int).flatMap enc_int) 3)] ++ ((K0, blk (cl_Image (.slice none 0 0) (.slice none 0 0) 0) 37) :: ((b1, blk (cl_Ask20 M0 N0 R0 T0 U0 V0) 33) :: []))))) w := hS
       have hC := (hS.re (.t (.d (.d .h)) (.b (.d (.d .hb)) (.b (.d (.d .hb)) .n)))).cb
       refine hb_next (fun _ => hC) ?_
       obtain ⟨U3, V3, D3, K1, M1, N1, R1, T1⟩ := OwT.at R2 B2 enc_len_int
       refine hy0 2 rfl wn (by kernel_rfl) (nq (P := Try.prog) (fn := Try.f3)) (fun _ => hC) (y_index K1 M1 N1 underlying35 el_int.size) ?_
       refine hb_up (CB g ([(X0, blk (([0, 1, 1024, 1025] : List Int).flatMap enc_int) 3)] ++ (J0 ++ ([(Y0, blk (([0, 1, 256, 257] : List Int).flatMap enc_int) 3)] ++ ((K0, blk (cl_Image (.slice none 0 0) (.slice none 0 0) 0) 37) :: ((b1, blk (cl_Ask20 M0 N0 R0 T0 U0 V0) 33) :: [])))))) (fun w h => h.sub (.t (.d (.d .h)) (.b (.d (.d .hb)) (.b (.d (.d .hb)) .n)))) ?_
       refine hy 3 rfl wn (by kernel_rfl) (nq (P := Try.prog) (fn := Try.f3)) hS.cb (y_load (fun w hS => hS.own (mA (mX R1))) underlying3 rfl (T1 0 _ rfl)) ?_
       refine hb1 4 (by kernel_rfl) (hb_op rfl wn (nl (P := Try.prog) (fn := Try.f3)) ?_)
       refine o_makeP Z0 hS el_api_Bundle enc_len_Bundle mz_Bundle (by decide) ?_
       clear hS; intro B0 I0 w E0 hS
       have hC := (hS.re (.t (.d .h) (.t (.d .h) (.t (.d .h) (.b (.d .hb) (.b (.d .hb) .n)))))).cb
       refine hb_next (fun _ => hC) ?_
       refine hy0 10 rfl wn (by kernel_rfl) (nq (P := Try.prog) (fn := Try.f3)) (fun _ => hC) (y_build (cl := (cl_Image B0 D0 0)) bt_api_Image rfl (fillS (vs := [B0]) rfl (E0).cell rfl rfl (fillS (vs := [D0]) rfl (G0).cell rfl rfl fillN))) ?_
       refine hb1 12 (by kernel_rfl) (hb_op rfl wn (nl (P := Try.prog) (fn := Try.f3)) ?_)
       have hS := hS.re (.b (.d (.d (.d (.d .hb)))) (.t .h (.t .h (.t .h (.t .h (.b .hb .n))))))
       refine o_storeW (vs := (cl_Image B0 D0 0)) hS (by exact rfl) (Upd.here _) (by exact sz_api_Image) (one_Image (E0).one (G0).one) ?_
       clear hS; intro w hS
       refine hb_next (fun h => absurd h (by decide)) ?_
       refine hb_done (by kernel_rfl) ?_
       obtain rfl := osi hF
       change ∃ _, _
       exact ⟨E1, G1, B0, D0, I0, J0, K0, D1, E0, G0, mk_exF, (hS.re (.b (.e (.d (.d (.d (.d .hb))))) (.b .hb (.t .h (.t (.d .h) .n)))))⟩
     rintro a w ⟨I1, X5, M2, G2, J2, N4, K2, hF, D4, U8, ⟨Na, rfl⟩, hS⟩
     dsimp only [l20_ImageEdges_k3] at hF
     refine c_seq <| c_region <| oy hS (y_field fa_api_Image_0) <| oy hS (y_load (fun w hS => hS.own (mC (mH))) underlying34 rfl rfl) <| oy hS (y_lenO D4 underlying34) <| oy hS (y_field fa_api_Image_2) ?_
     refine o_storeA1 (o := 2) (cl' := (cl_Image M2 G2 (I1.length : Int))) hS (by kernel_rfl) (by exact Nat.le_of_ble_eq_true rfl) (Upd.there _ (Upd.here _)) (by exact sz_int) rfl rfl ?_
     clear hS; intro w hS
     refine n_thenN ?_
     obtain ⟨V8, hF, M7⟩ := cut_step hF
     refine c_cutP (fun a w' => ∃ (I3 : (List Int)) (G3 : Own), l20_ImageEdges_k4 I1 M4 I3 = some G7 ∧ OwT 38 enc_uint32 1 I3 G2 G3 ∧ (∃ s : Nat → Value, a = Ac (((((Fm.dead 139 s).upd 1 (.pointer (some ⟨b1, 0, none⟩))).upd 3 (.int .i64 T5)).upd 4 (.int .i64 M4)).upd 5 (.pointer (some ⟨K2, 0, none⟩)))) ∧ St W g [] ((b1, blk (cl_Ask20 M0 N0 R0 T0 U0 V0) 33) :: ((K2, blk (cl_Image M2 G2 (I1.length : Int)) 37) :: (J2 ++ (G3 ++ [])))) w') ?_ ?_
     · skip
       refine c_seq <| c_region <| oy hS y_assign <| n_thenN <| c_block ?_
       refine c_loopP hF (fun (q : (Int × (List Int))) a w' => ∃ (J4 : Own), OwT 38 enc_uint32 1 q.2 G2 J4 ∧ (∃ s : Nat → Value, a = Ac ((((((Fm.dead 139 s).upd 1 (.pointer (some ⟨b1, 0, none⟩))).upd 3 (.int .i64 T5)).upd 4 (.int .i64 M4)).upd 5 (.pointer (some ⟨K2, 0, none⟩))).upd 6 (.int .i64 q.1))) ∧ St W g [] ((b1, blk (cl_Ask20 M0 N0 R0 T0 U0 V0) 33) :: ((K2, blk (cl_Image M2 G2 (I1.length : Int)) 37) :: (J2 ++ (J4 ++ [])))) w') ⟨N4, U8, mk_exF, (hS.re (.b .hb (.b .hb (.t .h (.t .h .n)))))⟩ ?_
       clear hS hF
       intro Ra q a w hI hq
       obtain ⟨Ta, I7⟩ := q
       obtain ⟨J4, K4, ⟨Ua, rfl⟩, hS⟩ := hq
       replace K4 : OwT 38 enc_uint32 1 I7 G2 J4 := K4
       obtain ⟨Va, hF, E7⟩ := iter_step hI
       clear hI
       dsimp only [l20_ImageEdges_b5] at hF
       iterate 2 (refine c_seq ?_)
       refine c_region <| oy hS y_move <| oy hS (y_field fa_api_Image_1) <| oy hS (y_load (fun w hS => hS.own (mC (mH))) underlying31 rfl rfl) <| oy hS (y_lenO K4 underlying31) <| oy hS y_bin <| n_thenN ?_
       refine c_if (ht := fun Y5 => ?_) (hf := fun Y5 => ?_)
       · replace hF := bt Y5 hF
         refine wp_skip <| c_seq <| c_block <| c_region <| oy hS (y_field fa_api_Image_1) <| oy hS (y_load (fun w hS => hS.own (mC (mH))) underlying31 rfl rfl) ?_
         iterate 2 (refine oy hS y_move ?_)
         refine oy hS (y_field fa_sledgelaw20_Ask20_1) <| oy hS (y_load oH underlying29 rfl rfl) <| oy hS (y_lenN T8 underlying29) <| oy hS y_bin <| oy hS (y_conv underlying3 underlying38) ?_
         obtain ⟨M9, R5, hF⟩ := ob hF
         obtain ⟨Xa, Ya, N9, N7, R7, T7, U7⟩ := OwT.at_set R5 K4 enc_len_uint32
         refine oy hS (y_index N7 R7 T7 underlying31 el_uint32.size) ?_
         refine o_storeO (L' := fun X => ((b1, blk (cl_Ask20 M0 N0 R0 T0 U0 V0) 33) :: ((K2, blk (cl_Image M2 G2 (I1.length : Int)) 37) :: (J2 ++ (X ++ []))))) R5 hS K4 U7 (fun X => .thereb _ (.thereb _ (.there _ (.here _)))) enc_len_uint32 rfl (by exact sz_uint32) rfl rfl ?_
         clear hS; intro V7 w X8 hS
         refine n_anyN ?_
         refine c_region <| oy hS y_move <| oy hS y_bin <| oy hS y_assign <| n_thenN ?_
         obtain rfl := osi hF
         exact ⟨_, E7, V7, X8, mk_exF, (hS.re (.b .hb (.b .hb (.t .h (.t .h .n)))))⟩
       replace hF := bf Y5 hF
       refine wp_exit ?_
       obtain rfl := osi hF
       obtain rfl : _ = V8 := E7
       change ∃ _, _
       exact ⟨I7, J4, M7, K4, mk_exF, (hS.re (.b .hb (.b .hb (.t .h (.t .h .n)))))⟩
     rintro a w ⟨I3, G3, hF, E4, ⟨Za, rfl⟩, hS⟩
     dsimp only [l20_ImageEdges_k4] at hF
     refine c_seq <| c_region ?_
     refine oy hS (y_loadW (fun w hS => hS.own (mC (mH))) underlying37 rfl (by exact sz_api_Image)) ?_
     obtain ⟨Z5, X7, hF⟩ := ob hF
     refine o_callS hS func4 rfl rfl (hc := (w_image_Write (a0 := (⟨I1, I3, (I1.length : Int)⟩ : T_Image)) (h0 := ⟨_, _, rfl, (OwT.plus D4 hS (fun p hp => mC (mC (mA (hp))))), (OwT.plus E4 hS (fun p hp => mC (mC (mB (mA (hp))))))⟩) (hF := X7))) (h := ?_)
     clear hS; intro w hS
     refine oy hS y_move ?_
     iterate 2 (refine oy hS (y_extract rfl) ?_)
     iterate 2 (refine oy hS y_assign ?_)
     refine n_thenN <| c_seq <| c_region ?_
     refine oy hS (y_loadW (fun w hS => hS.own (mC (mH))) underlying37 rfl (by exact sz_api_Image)) ?_
     refine o_buildT val_uint32 ([1, 2] : List Int) hS el_uint32 (fun _ => rfl) enc_len_uint32 (by decide) rfl (by decide) (hp := rfl) (h := ?_)
     clear hS; intro R4 w hS Y8
     have hS : St W g [] ([(R4, blk (([1, 2] : List Int).flatMap enc_uint32) 38)] ++ ((b1, blk (cl_Ask20 M0 N0 R0 T0 U0 V0) 33) :: ((K2, blk (cl_Image M2 G2 (I1.length : Int)) 37) :: (J2 ++ (G3 ++ []))))) w := hS
     obtain ⟨J1, Y7, hF⟩ := ob hF
     refine o_call0 hS func5 rfl rfl (hc := (w_image_Load (a0 := (⟨I1, I3, (I1.length : Int)⟩ : T_Image)) (a1 := ([1, 2] : List Int)) (h0 := ⟨_, _, rfl, (OwT.plus D4 hS (fun p hp => mB (mC (mC (mA (hp)))))), (OwT.plus E4 hS (fun p hp => mB (mC (mC (mB (mA (hp)))))))⟩) (h1 := (OwT.plus Y8 hS (fun p hp => mA (hp)))) (hF := Y7))) (h := ?_)
     clear hS; intro Bb R9 w hS Z7
     obtain ⟨v_0_2488, LX_0_2489, rfl, rfl, h_0_2490⟩ := Z7
     obtain ⟨J3, K3, M3, N3, R3, T3, U2, V2, X2, Y2, Z2, B3, rfl, rfl, T4, U4, V4, X4, Y4, Z4⟩ := h_0_2490
     simp only [aa, ac, al] at hS
     have hS : St W g [] (U2 ++ (V2 ++ (X2 ++ (Y2 ++ (Z2 ++ (B3 ++ ([(R4, blk (([1, 2] : List Int).flatMap enc_uint32) 38)] ++ ((b1, blk (cl_Ask20 M0 N0 R0 T0 U0 V0) 33) :: ((K2, blk (cl_Image M2 G2 (I1.length : Int)) 37) :: (J2 ++ (G3 ++ []))))))))))) w := hS
     refine oy hS y_move ?_
     iterate 2 (refine oy hS (y_extract rfl) ?_)
     refine o_allocP (cl := (cl_State (.slice none 0 0) (.slice none 0 0) (.slice none 0 0) 0 (.slice none 0 0) 0 (.slice none 0 0) 0 (.slice none 0 0) 0 0)) zr_api_State rfl hS ?_
     clear hS; intro B6 w hS
     refine o_storeW (vs := (cl_State J3 K3 M3 J1.1.Taken N3 J1.1.PC R3 J1.1.Stop T3 J1.1.Jump J1.1.Delay)) hS (by exact rfl) (Upd.here _) (by exact sz_api_State) (one_State (T4).one (U4).one (V4).one (X4).one (Y4).one (Z4).one) ?_
     clear hS; intro w hS
     refine oy hS y_assign <| n_thenN ?_
     iterate 2 (refine c_seq ?_)
     refine c_region ?_
     refine oy hS (y_loadW (fun w hS => hS.own (mC (mB (mB (mB (mB (mB (mB (mB (mC (mH))))))))))) underlying37 rfl (by exact sz_api_Image)) ?_
     obtain ⟨Db, B8, hF⟩ := ob hF
     refine o_callS hS func6 rfl rfl (hc := (w_r19_Image (a0 := (⟨I1, I3, (I1.length : Int)⟩ : T_Image)) (h0 := ⟨_, _, rfl, (OwT.plus D4 hS (fun p hp => mC (mB (mB (mB (mB (mB (mB (mB (mC (mC (mA (hp))))))))))))), (OwT.plus E4 hS (fun p hp => mC (mB (mB (mB (mB (mB (mB (mB (mC (mC (mB (mA (hp))))))))))))))⟩) (hF := B8))) (h := ?_)
     clear hS; intro w hS
     refine oy hS y_not <| n_thenN ?_
     refine c_if (ht := fun D6 => ?_) (hf := fun D6 => ?_)
     · replace hF := bt D6 hF
       iterate 2 (refine c_seq ?_)
       refine c_region <| oy hS y_move ?_
       refine o_callS hS func7 rfl rfl (hc := (w_l20_num (a0 := Z5.2))) (h := ?_)
       clear hS; intro w hS
       refine oy hS y_bin ?_
       refine o_split (ht := fun E6 => ?_) (hf := fun E6 => ?_)
       · replace hF := bt E6 hF
         iterate 3 (refine o_sk rfl rfl ?_)
         refine oy hS y_pickT <| oy hS y_move ?_
         iterate 2 (refine o_sk rfl rfl ?_)
         refine oy hS y_pickT <| n_thenN ?_
         refine c_if_true (h := ?_)
         refine c_seq <| c_region <| oy hS y_assign <| n_thenN ?_
         obtain rfl := osi hF
         obtain rfl : _ = N2 := E2
         obtain rfl : _ = r := I2
         exact wp_ret (wr1 hS)
       replace hF := bf E6 hF
       refine o_gu rfl rfl rfl <| oy hS y_move <| o_gu rfl rfl rfl ?_
       refine o_callS hS func7 rfl rfl (hc := (w_l20_num (a0 := J1.2))) (h := ?_)
       clear hS; intro w hS
       refine o_gu rfl rfl rfl <| oy hS y_bin <| oy hS y_pickF ?_
       refine o_split (ht := fun G6 => ?_) (hf := fun G6 => ?_)
       · replace hF := bt G6 hF
         iterate 2 (refine o_sk rfl rfl ?_)
         refine oy hS y_pickT <| n_thenN ?_
         refine c_if_true (h := ?_)
         refine c_seq <| c_region <| oy hS y_assign <| n_thenN ?_
         obtain rfl := osi hF
         obtain rfl : _ = N2 := E2
         obtain rfl : _ = r := I2
         exact wp_ret (wr1 hS)
       replace hF := bf G6 hF
       refine o_gu rfl rfl rfl <| oy hS y_move <| o_gu rfl rfl rfl <| oy hS y_sneq <| oy hS y_pickF <| n_thenN ?_
       refine c_if (ht := fun I6 => ?_) (hf := fun I6 => ?_)
       · replace hF := bt I6 hF
         refine c_seq <| c_region <| oy hS y_assign <| n_thenN ?_
         obtain rfl := osi hF
         obtain rfl : _ = N2 := E2
         obtain rfl : _ = r := I2
         exact wp_ret (wr1 hS)
       replace hF := bf I6 hF
       refine wp_skip ?_
       refine wp_exit ?_
       refine c_region <| oy hS y_move <| oy hS y_bin <| oy hS y_assign <| n_thenN ?_
       obtain rfl := osi hF
       exact ⟨_, E2, mk_exF, (hS.re (.b (.e (.d (.d (.d (.d (.d (.d (.d .hb)))))))) .n))⟩
     replace hF := bf D6 hF
     refine wp_skip <| c_seq <| c_region <| oy hS y_move ?_
     obtain ⟨B5, D8, hF⟩ := ob hF
     refine o_call0 hS func8 rfl rfl (hc := (w_image_Read (a0 := Z5.1) (hF := D8))) (h := ?_)
     clear hS; intro Eb T9 w hS E8
     obtain ⟨v_0_2525, LX_0_2526, rfl, rfl, h_0_2527⟩ := E8
     obtain ⟨G4, I4, Z3, B4, rfl, rfl, D5, E5⟩ := h_0_2527
     simp only [aa, ac, al] at hS
     have hS : St W g [] (Z3 ++ (B4 ++ ((B6, blk (cl_State J3 K3 M3 J1.1.Taken N3 J1.1.PC R3 J1.1.Stop T3 J1.1.Jump J1.1.Delay) 44) :: (U2 ++ (V2 ++ (X2 ++ (Y2 ++ (Z2 ++ (B3 ++ ([(R4, blk (([1, 2] : List Int).flatMap enc_uint32) 38)] ++ ((b1, blk (cl_Ask20 M0 N0 R0 T0 U0 V0) 33) :: ((K2, blk (cl_Image M2 G2 (I1.length : Int)) 37) :: (J2 ++ (G3 ++ [])))))))))))))) w := hS
     refine oy hS y_move ?_
     iterate 2 (refine oy hS (y_extract rfl) ?_)
     refine o_allocP (cl := (cl_Image (.slice none 0 0) (.slice none 0 0) 0)) zr_api_Image rfl hS ?_
     clear hS; intro J7 w hS
     refine o_storeW (vs := (cl_Image G4 I4 B5.1.Entry)) hS (by exact rfl) (Upd.here _) (by exact sz_api_Image) (one_Image (D5).one (E5).one) ?_
     clear hS; intro w hS
     refine oy hS y_assign <| n_thenN <| c_seq ?_
     refine c_heldL 54 54 (by kernel_rfl) rfl hS ?_
     clear hS; intro w hS
     refine hy0 0 rfl wn (by kernel_rfl) (nq (P := Try.prog) (fn := Try.f3)) (fun _ => hS.cb) y_move ?_
     refine hb1 1 (by kernel_rfl) (hb_op rfl wn (nl (P := Try.prog) (fn := Try.f3)) ?_)
     refine o_callS hS func7 rfl rfl (hc := (w_l20_num (a0 := Z5.2))) (h := ?_)
     clear hS; intro w hS
     refine hb_next (fun _ => hS.cb) ?_
     refine hy0 2 rfl wn (by kernel_rfl) (nq (P := Try.prog) (fn := Try.f3)) (fun _ => hS.cb) y_bin ?_
     refine hsplit 3 rfl wn (by kernel_rfl) (nq (P := Try.prog) (fn := Try.f3)) (fun _ => hS.cb) (ht := fun J6 => ?_) (hff := fun J6 => ?_)
     · replace hF := bt J6 hF
       refine hskip 4 rfl (wf rfl rfl) (by kernel_rfl) (nq (P := Try.prog) (fn := Try.f3)) (fun _ => hS.cb) ?_
       refine hskip 5 rfl (wf rfl rfl) (by kernel_rfl) (nq (P := Try.prog) (fn := Try.f3)) (fun _ => hS.cb) ?_
       refine hskip 6 rfl (wf rfl rfl) (by kernel_rfl) (nq (P := Try.prog) (fn := Try.f3)) (fun _ => hS.cb) ?_
       refine hy0 7 rfl wn (by kernel_rfl) (nq (P := Try.prog) (fn := Try.f3)) (fun _ => hS.cb) y_pickT ?_
       refine hy0 8 rfl wn (by kernel_rfl) (nq (P := Try.prog) (fn := Try.f3)) (fun _ => hS.cb) y_move ?_
       refine hskip 9 rfl (wf rfl rfl) (by kernel_rfl) (nq (P := Try.prog) (fn := Try.f3)) (fun _ => hS.cb) ?_
       refine hskip 10 rfl (wf rfl rfl) (by kernel_rfl) (nq (P := Try.prog) (fn := Try.f3)) (fun _ => hS.cb) ?_
       refine hskip 11 rfl (wf rfl rfl) (by kernel_rfl) (nq (P := Try.prog) (fn := Try.f3)) (fun _ => hS.cb) ?_
       refine hy0 12 rfl wn (by kernel_rfl) (nq (P := Try.prog) (fn := Try.f3)) (fun _ => hS.cb) y_pickT ?_
       refine hy0 13 rfl wn (by kernel_rfl) (nq (P := Try.prog) (fn := Try.f3)) (fun _ => hS.cb) y_move ?_
       refine hskip 14 rfl (wf rfl rfl) (by kernel_rfl) (nq (P := Try.prog) (fn := Try.f3)) (fun _ => hS.cb) ?_
       refine hskip 15 rfl (wf rfl rfl) (by kernel_rfl) (nq (P := Try.prog) (fn := Try.f3)) (fun _ => hS.cb) ?_
       refine hskip 16 rfl (wf rfl rfl) (by kernel_rfl) (nq (P := Try.prog) (fn := Try.f3)) (fun _ => hS.cb) ?_
       refine hskip 17 rfl (wf rfl rfl) (by kernel_rfl) (nq (P := Try.prog) (fn := Try.f3)) (fun _ => hS.cb) ?_
       refine hy0 18 rfl wn (by kernel_rfl) (nq (P := Try.prog) (fn := Try.f3)) (fun _ => hS.cb) y_pickT ?_
       refine hy0 19 rfl wn (by kernel_rfl) (nq (P := Try.prog) (fn := Try.f3)) (fun _ => hS.cb) y_move ?_
       refine hskip 20 rfl (wf rfl rfl) (by kernel_rfl) (nq (P := Try.prog) (fn := Try.f3)) (fun _ => hS.cb) ?_
       refine hskip 21 rfl (wf rfl rfl) (by kernel_rfl) (nq (P := Try.prog) (fn := Try.f3)) (fun _ => hS.cb) ?_
       refine hskip 22 rfl (wf rfl rfl) (by kernel_rfl) (nq (P := Try.prog) (fn := Try.f3)) (fun _ => hS.cb) ?_
       refine hskip 23 rfl (wf rfl rfl) (by kernel_rfl) (nq (P := Try.prog) (fn := Try.f3)) (fun _ => hS.cb) ?_
       refine hy0 24 rfl wn (by kernel_rfl) (nq (P := Try.prog) (fn := Try.f3)) (fun _ => hS.cb) y_pickT ?_
       refine hy0 25 rfl wn (by kernel_rfl) (nq (P := Try.prog) (fn := Try.f3)) (fun _ => hS.cb) y_move ?_
       refine hskip 26 rfl (wf rfl rfl) (by kernel_rfl) (nq (P := Try.prog) (fn := Try.f3)) (fun _ => hS.cb) ?_
       refine hskip 27 rfl (wf rfl rfl) (by kernel_rfl) (nq (P := Try.prog) (fn := Try.f3)) (fun _ => hS.cb) ?_
       refine hskip 28 rfl (wf rfl rfl) (by kernel_rfl) (nq (P := Try.prog) (fn := Try.f3)) (fun _ => hS.cb) ?_
       refine hskip 29 rfl (wf rfl rfl) (by kernel_rfl) (nq (P := Try.prog) (fn := Try.f3)) (fun _ => hS.cb) ?_
       refine hskip 30 rfl (wf rfl rfl) (by kernel_rfl) (nq (P := Try.prog) (fn := Try.f3)) (fun _ => hS.cb) ?_
       refine hskip 31 rfl (wf rfl rfl) (by kernel_rfl) (nq (P := Try.prog) (fn := Try.f3)) (fun _ => hS.cb) ?_
       refine hskip 32 rfl (wf rfl rfl) (by kernel_rfl) (nq (P := Try.prog) (fn := Try.f3)) (fun _ => hS.cb) ?_
       refine hskip 33 rfl (wf rfl rfl) (by kernel_rfl) (nq (P := Try.prog) (fn := Try.f3)) (fun _ => hS.cb) ?_
       refine hskip 34 rfl (wf rfl rfl) (by kernel_rfl) (nq (P := Try.prog) (fn := Try.f3)) (fun _ => hS.cb) ?_
       refine hy0 35 rfl wn (by kernel_rfl) (nq (P := Try.prog) (fn := Try.f3)) (fun _ => hS.cb) y_pickT ?_
       refine hy0 36 rfl wn (by kernel_rfl) (nq (P := Try.prog) (fn := Try.f3)) (fun _ => hS.cb) y_move ?_
       refine hskip 37 rfl (wf rfl rfl) (by kernel_rfl) (nq (P := Try.prog) (fn := Try.f3)) (fun _ => hS.cb) ?_
       refine hskip 38 rfl (wf rfl rfl) (by kernel_rfl) (nq (P := Try.prog) (fn := Try.f3)) (fun _ => hS.cb) ?_
       refine hskip 39 rfl (wf rfl rfl) (by kernel_rfl) (nq (P := Try.prog) (fn := Try.f3)) (fun _ => hS.cb) ?_
       refine hskip 40 rfl (wf rfl rfl) (by kernel_rfl) (nq (P := Try.prog) (fn := Try.f3)) (fun _ => hS.cb) ?_
       refine hskip 41 rfl (wf rfl rfl) (by kernel_rfl) (nq (P := Try.prog) (fn := Try.f3)) (fun _ => hS.cb) ?_
       refine hskip 42 rfl (wf rfl rfl) (by kernel_rfl) (nq (P := Try.prog) (fn := Try.f3)) (fun _ => hS.cb) ?_
       refine hskip 43 rfl (wf rfl rfl) (by kernel_rfl) (nq (P := Try.prog) (fn := Try.f3)) (fun _ => hS.cb) ?_
       refine hskip 44 rfl (wf rfl rfl) (by kernel_rfl) (nq (P := Try.prog) (fn := Try.f3)) (fun _ => hS.cb) ?_
       refine hskip 45 rfl (wf rfl rfl) (by kernel_rfl) (nq (P := Try.prog) (fn := Try.f3)) (fun _ => hS.cb) ?_
       refine hskip 46 rfl (wf rfl rfl) (by kernel_rfl) (nq (P := Try.prog) (fn := Try.f3)) (fun _ => hS.cb) ?_
       refine hskip 47 rfl (wf rfl rfl) (by kernel_rfl) (nq (P := Try.prog) (fn := Try.f3)) (fun _ => hS.cb) ?_
       refine hskip 48 rfl (wf rfl rfl) (by kernel_rfl) (nq (P := Try.prog) (fn := Try.f3)) (fun _ => hS.cb) ?_
       refine hskip 49 rfl (wf rfl rfl) (by kernel_rfl) (nq (P := Try.prog) (fn := Try.f3)) (fun _ => hS.cb) ?_
       refine hskip 50 rfl (wf rfl rfl) (by kernel_rfl) (nq (P := Try.prog) (fn := Try.f3)) (fun _ => hS.cb) ?_
       refine hskip 51 rfl (wf rfl rfl) (by kernel_rfl) (nq (P := Try.prog) (fn := Try.f3)) (fun _ => hS.cb) ?_
       refine hskip 52 rfl (wf rfl rfl) (by kernel_rfl) (nq (P := Try.prog) (fn := Try.f3)) (fun _ => hS.cb) ?_
       refine hy0 53 rfl wn (by kernel_rfl) (nq (P := Try.prog) (fn := Try.f3)) (fun _ => hS.cb) y_pickT ?_
       refine hb_done (by kernel_rfl) ?_
       refine c_if_true (h := ?_)
       refine c_seq <| c_region <| oy hS y_assign <| n_thenN ?_
       obtain rfl := osi hF
       obtain rfl : _ = N2 := E2
       obtain rfl : _ = r := I2
       exact wp_ret (wr1 hS)
     replace hF := bf J6 hF
     refine hy0 4 rfl (wt rfl rfl rfl) (by kernel_rfl) (nq (P := Try.prog) (fn := Try.f3)) (fun _ => hS.cb) y_move ?_
     refine hb1 5 (by kernel_rfl) (hb_op rfl (wt rfl rfl rfl) (nl (P := Try.prog) (fn := Try.f3)) ?_)
     refine o_callS hS func7 rfl rfl (hc := (w_l20_num (a0 := J1.2))) (h := ?_)
     clear hS; intro w hS
     refine hb_next (fun _ => hS.cb) ?_
     refine hy0 6 rfl (wt rfl rfl rfl) (by kernel_rfl) (nq (P := Try.prog) (fn := Try.f3)) (fun _ => hS.cb) y_bin ?_
     refine hy0 7 rfl wn (by kernel_rfl) (nq (P := Try.prog) (fn := Try.f3)) (fun _ => hS.cb) y_pickF ?_
     refine hsplit 8 rfl wn (by kernel_rfl) (nq (P := Try.prog) (fn := Try.f3)) (fun _ => hS.cb) (ht := fun K6 => ?_) (hff := fun K6 => ?_)
     · replace hF := bt K6 hF
       refine hskip 9 rfl (wf rfl rfl) (by kernel_rfl) (nq (P := Try.prog) (fn := Try.f3)) (fun _ => hS.cb) ?_
       refine hskip 10 rfl (wf rfl rfl) (by kernel_rfl) (nq (P := Try.prog) (fn := Try.f3)) (fun _ => hS.cb) ?_
       refine hskip 11 rfl (wf rfl rfl) (by kernel_rfl) (nq (P := Try.prog) (fn := Try.f3)) (fun _ => hS.cb) ?_
       refine hy0 12 rfl wn (by kernel_rfl) (nq (P := Try.prog) (fn := Try.f3)) (fun _ => hS.cb) y_pickT ?_
       refine hy0 13 rfl wn (by kernel_rfl) (nq (P := Try.prog) (fn := Try.f3)) (fun _ => hS.cb) y_move ?_
       refine hskip 14 rfl (wf rfl rfl) (by kernel_rfl) (nq (P := Try.prog) (fn := Try.f3)) (fun _ => hS.cb) ?_
       refine hskip 15 rfl (wf rfl rfl) (by kernel_rfl) (nq (P := Try.prog) (fn := Try.f3)) (fun _ => hS.cb) ?_
       refine hskip 16 rfl (wf rfl rfl) (by kernel_rfl) (nq (P := Try.prog) (fn := Try.f3)) (fun _ => hS.cb) ?_
       refine hskip 17 rfl (wf rfl rfl) (by kernel_rfl) (nq (P := Try.prog) (fn := Try.f3)) (fun _ => hS.cb) ?_
       refine hy0 18 rfl wn (by kernel_rfl) (nq (P := Try.prog) (fn := Try.f3)) (fun _ => hS.cb) y_pickT ?_
       refine hy0 19 rfl wn (by kernel_rfl) (nq (P := Try.prog) (fn := Try.f3)) (fun _ => hS.cb) y_move ?_
       refine hskip 20 rfl (wf rfl rfl) (by kernel_rfl) (nq (P := Try.prog) (fn := Try.f3)) (fun _ => hS.cb) ?_
       refine hskip 21 rfl (wf rfl rfl) (by kernel_rfl) (nq (P := Try.prog) (fn := Try.f3)) (fun _ => hS.cb) ?_
       refine hskip 22 rfl (wf rfl rfl) (by kernel_rfl) (nq (P := Try.prog) (fn := Try.f3)) (fun _ => hS.cb) ?_
       refine hskip 23 rfl (wf rfl rfl) (by kernel_rfl) (nq (P := Try.prog) (fn := Try.f3)) (fun _ => hS.cb) ?_
       refine hy0 24 rfl wn (by kernel_rfl) (nq (P := Try.prog) (fn := Try.f3)) (fun _ => hS.cb) y_pickT ?_
       refine hy0 25 rfl wn (by kernel_rfl) (nq (P := Try.prog) (fn := Try.f3)) (fun _ => hS.cb) y_move ?_
       refine hskip 26 rfl (wf rfl rfl) (by kernel_rfl) (nq (P := Try.prog) (fn := Try.f3)) (fun _ => hS.cb) ?_
       refine hskip 27 rfl (wf rfl rfl) (by kernel_rfl) (nq (P := Try.prog) (fn := Try.f3)) (fun _ => hS.cb) ?_
       refine hskip 28 rfl (wf rfl rfl) (by kernel_rfl) (nq (P := Try.prog) (fn := Try.f3)) (fun _ => hS.cb) ?_
       refine hskip 29 rfl (wf rfl rfl) (by kernel_rfl) (nq (P := Try.prog) (fn := Try.f3)) (fun _ => hS.cb) ?_
       refine hskip 30 rfl (wf rfl rfl) (by kernel_rfl) (nq (P := Try.prog) (fn := Try.f3)) (fun _ => hS.cb) ?_
       refine hskip 31 rfl (wf rfl rfl) (by kernel_rfl) (nq (P := Try.prog) (fn := Try.f3)) (fun _ => hS.cb) ?_
       refine hskip 32 rfl (wf rfl rfl) (by kernel_rfl) (nq (P := Try.prog) (fn := Try.f3)) (fun _ => hS.cb) ?_
       refine hskip 33 rfl (wf rfl rfl) (by kernel_rfl) (nq (P := Try.prog) (fn := Try.f3)) (fun _ => hS.cb) ?_
       refine hskip 34 rfl (wf rfl rfl) (by kernel_rfl) (nq (P := Try.prog) (fn := Try.f3)) (fun _ => hS.cb) ?_
       refine hy0 35 rfl wn (by kernel_rfl) (nq (P := Try.prog) (fn := Try.f3)) (fun _ => hS.cb) y_pickT ?_
       refine hy0 36 rfl wn (by kernel_rfl) (nq (P := Try.prog) (fn := Try.f3)) (fun _ => hS.cb) y_move ?_
       refine hskip 37 rfl (wf rfl rfl) (by kernel_rfl) (nq (P := Try.prog) (fn := Try.f3)) (fun _ => hS.cb) ?_
       refine hskip 38 rfl (wf rfl rfl) (by kernel_rfl) (nq (P := Try.prog) (fn := Try.f3)) (fun _ => hS.cb) ?_
       refine hskip 39 rfl (wf rfl rfl) (by kernel_rfl) (nq (P := Try.prog) (fn := Try.f3)) (fun _ => hS.cb) ?_
       refine hskip 40 rfl (wf rfl rfl) (by kernel_rfl) (nq (P := Try.prog) (fn := Try.f3)) (fun _ => hS.cb) ?_
       refine hskip 41 rfl (wf rfl rfl) (by kernel_rfl) (nq (P := Try.prog) (fn := Try.f3)) (fun _ => hS.cb) ?_
       refine hskip 42 rfl (wf rfl rfl) (by kernel_rfl) (nq (P := Try.prog) (fn := Try.f3)) (fun _ => hS.cb) ?_
       refine hskip 43 rfl (wf rfl rfl) (by kernel_rfl) (nq (P := Try.prog) (fn := Try.f3)) (fun _ => hS.cb) ?_
       refine hskip 44 rfl (wf rfl rfl) (by kernel_rfl) (nq (P := Try.prog) (fn := Try.f3)) (fun _ => hS.cb) ?_
       refine hskip 45 rfl (wf rfl rfl) (by kernel_rfl) (nq (P := Try.prog) (fn := Try.f3)) (fun _ => hS.cb) ?_
       refine hskip 46 rfl (wf rfl rfl) (by kernel_rfl) (nq (P := Try.prog) (fn := Try.f3)) (fun _ => hS.cb) ?_
       refine hskip 47 rfl (wf rfl rfl) (by kernel_rfl) (nq (P := Try.prog) (fn := Try.f3)) (fun _ => hS.cb) ?_
       refine hskip 48 rfl (wf rfl rfl) (by kernel_rfl) (nq (P := Try.prog) (fn := Try.f3)) (fun _ => hS.cb) ?_
       refine hskip 49 rfl (wf rfl rfl) (by kernel_rfl) (nq (P := Try.prog) (fn := Try.f3)) (fun _ => hS.cb) ?_
       refine hskip 50 rfl (wf rfl rfl) (by kernel_rfl) (nq (P := Try.prog) (fn := Try.f3)) (fun _ => hS.cb) ?_
       refine hskip 51 rfl (wf rfl rfl) (by kernel_rfl) (nq (P := Try.prog) (fn := Try.f3)) (fun _ => hS.cb) ?_
       refine hskip 52 rfl (wf rfl rfl) (by kernel_rfl) (nq (P := Try.prog) (fn := Try.f3)) (fun _ => hS.cb) ?_
       refine hy0 53 rfl wn (by kernel_rfl) (nq (P := Try.prog) (fn := Try.f3)) (fun _ => hS.cb) y_pickT ?_
       refine hb_done (by kernel_rfl) ?_
       refine c_if_true (h := ?_)
       refine c_seq <| c_region <| oy hS y_assign <| n_thenN ?_
       obtain rfl := osi hF
       obtain rfl : _ = N2 := E2
       obtain rfl : _ = r := I2
       exact wp_ret (wr1 hS)
     replace hF := bf K6 hF
     refine hy0 9 rfl (wt rfl rfl rfl) (by kernel_rfl) (nq (P := Try.prog) (fn := Try.f3)) (fun _ => hS.cb) y_move ?_
     refine hb1 10 (by kernel_rfl) (hb_op rfl (wt rfl rfl rfl) (nl (P := Try.prog) (fn := Try.f3)) ?_)
     refine o_callS hS func7 rfl rfl (hc := (w_l20_num (a0 := B5.2))) (h := ?_)
     clear hS; intro w hS
     refine hb_next (fun _ => hS.cb) ?_
     refine hy0 11 rfl (wt rfl rfl rfl) (by kernel_rfl) (nq (P := Try.prog) (fn := Try.f3)) (fun _ => hS.cb) y_bin ?_
     refine hy0 12 rfl wn (by kernel_rfl) (nq (P := Try.prog) (fn := Try.f3)) (fun _ => hS.cb) y_pickF ?_
     refine hsplit 13 rfl wn (by kernel_rfl) (nq (P := Try.prog) (fn := Try.f3)) (fun _ => hS.cb) (ht := fun M6 => ?_) (hff := fun M6 => ?_)
     · replace hF := bt M6 hF
       refine hskip 14 rfl (wf rfl rfl) (by kernel_rfl) (nq (P := Try.prog) (fn := Try.f3)) (fun _ => hS.cb) ?_
       refine hskip 15 rfl (wf rfl rfl) (by kernel_rfl) (nq (P := Try.prog) (fn := Try.f3)) (fun _ => hS.cb) ?_
       refine hskip 16 rfl (wf rfl rfl) (by kernel_rfl) (nq (P := Try.prog) (fn := Try.f3)) (fun _ => hS.cb) ?_
       refine hskip 17 rfl (wf rfl rfl) (by kernel_rfl) (nq (P := Try.prog) (fn := Try.f3)) (fun _ => hS.cb) ?_
       refine hy0 18 rfl wn (by kernel_rfl) (nq (P := Try.prog) (fn := Try.f3)) (fun _ => hS.cb) y_pickT ?_
       refine hy0 19 rfl wn (by kernel_rfl) (nq (P := Try.prog) (fn := Try.f3)) (fun _ => hS.cb) y_move ?_
       refine hskip 20 rfl (wf rfl rfl) (by kernel_rfl) (nq (P := Try.prog) (fn := Try.f3)) (fun _ => hS.cb) ?_
       refine hskip 21 rfl (wf rfl rfl) (by kernel_rfl) (nq (P := Try.prog) (fn := Try.f3)) (fun _ => hS.cb) ?_
       refine hskip 22 rfl (wf rfl rfl) (by kernel_rfl) (nq (P := Try.prog) (fn := Try.f3)) (fun _ => hS.cb) ?_
       refine hskip 23 rfl (wf rfl rfl) (by kernel_rfl) (nq (P := Try.prog) (fn := Try.f3)) (fun _ => hS.cb) ?_
       refine hy0 24 rfl wn (by kernel_rfl) (nq (P := Try.prog) (fn := Try.f3)) (fun _ => hS.cb) y_pickT ?_
       refine hy0 25 rfl wn (by kernel_rfl) (nq (P := Try.prog) (fn := Try.f3)) (fun _ => hS.cb) y_move ?_
       refine hskip 26 rfl (wf rfl rfl) (by kernel_rfl) (nq (P := Try.prog) (fn := Try.f3)) (fun _ => hS.cb) ?_
       refine hskip 27 rfl (wf rfl rfl) (by kernel_rfl) (nq (P := Try.prog) (fn := Try.f3)) (fun _ => hS.cb) ?_
       refine hskip 28 rfl (wf rfl rfl) (by kernel_rfl) (nq (P := Try.prog) (fn := Try.f3)) (fun _ => hS.cb) ?_
       refine hskip 29 rfl (wf rfl rfl) (by kernel_rfl) (nq (P := Try.prog) (fn := Try.f3)) (fun _ => hS.cb) ?_
       refine hskip 30 rfl (wf rfl rfl) (by kernel_rfl) (nq (P := Try.prog) (fn := Try.f3)) (fun _ => hS.cb) ?_
       refine hskip 31 rfl (wf rfl rfl) (by kernel_rfl) (nq (P := Try.prog) (fn := Try.f3)) (fun _ => hS.cb) ?_
       refine hskip 32 rfl (wf rfl rfl) (by kernel_rfl) (nq (P := Try.prog) (fn := Try.f3)) (fun _ => hS.cb) ?_
       refine hskip 33 rfl (wf rfl rfl) (by kernel_rfl) (nq (P := Try.prog) (fn := Try.f3)) (fun _ => hS.cb) ?_
       refine hskip 34 rfl (wf rfl rfl) (by kernel_rfl) (nq (P := Try.prog) (fn := Try.f3)) (fun _ => hS.cb) ?_
       refine hy0 35 rfl wn (by kernel_rfl) (nq (P := Try.prog) (fn := Try.f3)) (fun _ => hS.cb) y_pickT ?_
       refine hy0 36 rfl wn (by kernel_rfl) (nq (P := Try.prog) (fn := Try.f3)) (fun _ => hS.cb) y_move ?_
       refine hskip 37 rfl (wf rfl rfl) (by kernel_rfl) (nq (P := Try.prog) (fn := Try.f3)) (fun _ => hS.cb) ?_
       refine hskip 38 rfl (wf rfl rfl) (by kernel_rfl) (nq (P := Try.prog) (fn := Try.f3)) (fun _ => hS.cb) ?_
       refine hskip 39 rfl (wf rfl rfl) (by kernel_rfl) (nq (P := Try.prog) (fn := Try.f3)) (fun _ => hS.cb) ?_
       refine hskip 40 rfl (wf rfl rfl) (by kernel_rfl) (nq (P := Try.prog) (fn := Try.f3)) (fun _ => hS.cb) ?_
       refine hskip 41 rfl (wf rfl rfl) (by kernel_rfl) (nq (P := Try.prog) (fn := Try.f3)) (fun _ => hS.cb) ?_
       refine hskip 42 rfl (wf rfl rfl) (by kernel_rfl) (nq (P := Try.prog) (fn := Try.f3)) (fun _ => hS.cb) ?_
       refine hskip 43 rfl (wf rfl rfl) (by kernel_rfl) (nq (P := Try.prog) (fn := Try.f3)) (fun _ => hS.cb) ?_
       refine hskip 44 rfl (wf rfl rfl) (by kernel_rfl) (nq (P := Try.prog) (fn := Try.f3)) (fun _ => hS.cb) ?_
       refine hskip 45 rfl (wf rfl rfl) (by kernel_rfl) (nq (P := Try.prog) (fn := Try.f3)) (fun _ => hS.cb) ?_
       refine hskip 46 rfl (wf rfl rfl) (by kernel_rfl) (nq (P := Try.prog) (fn := Try.f3)) (fun _ => hS.cb) ?_
       refine hskip 47 rfl (wf rfl rfl) (by kernel_rfl) (nq (P := Try.prog) (fn := Try.f3)) (fun _ => hS.cb) ?_
       refine hskip 48 rfl (wf rfl rfl) (by kernel_rfl) (nq (P := Try.prog) (fn := Try.f3)) (fun _ => hS.cb) ?_
       refine hskip 49 rfl (wf rfl rfl) (by kernel_rfl) (nq (P := Try.prog) (fn := Try.f3)) (fun _ => hS.cb) ?_
       refine hskip 50 rfl (wf rfl rfl) (by kernel_rfl) (nq (P := Try.prog) (fn := Try.f3)) (fun _ => hS.cb) ?_
       refine hskip 51 rfl (wf rfl rfl) (by kernel_rfl) (nq (P := Try.prog) (fn := Try.f3)) (fun _ => hS.cb) ?_
       refine hskip 52 rfl (wf rfl rfl) (by kernel_rfl) (nq (P := Try.prog) (fn := Try.f3)) (fun _ => hS.cb) ?_
       refine hy0 53 rfl wn (by kernel_rfl) (nq (P := Try.prog) (fn := Try.f3)) (fun _ => hS.cb) y_pickT ?_
       refine hb_done (by kernel_rfl) ?_
       refine c_if_true (h := ?_)
       refine c_seq <| c_region <| oy hS y_assign <| n_thenN ?_
       obtain rfl := osi hF
       obtain rfl : _ = N2 := E2
       obtain rfl : _ = r := I2
       exact wp_ret (wr1 hS)
     replace hF := bf M6 hF
     refine hy0 14 rfl (wt rfl rfl rfl) (by kernel_rfl) (nq (P := Try.prog) (fn := Try.f3)) (fun _ => hS.cb) y_move ?_
     refine hy 15 rfl (wt rfl rfl rfl) (by kernel_rfl) (nq (P := Try.prog) (fn := Try.f3)) hS.cb (y_loadW (fun w hS => hS.own (mC (mB (mB (mC (mB (mB (mB (mB (mB (mB (mB (mC (mH)))))))))))))) underlying37 rfl (by exact sz_api_Image)) ?_
     refine hb1 16 (by kernel_rfl) (hb_op rfl (wt rfl rfl rfl) (nl (P := Try.prog) (fn := Try.f3)) ?_)
     obtain ⟨Gb, G8, hF⟩ := ob hF
     refine o_callS hS func9 rfl rfl (hc := (w_r19_Write (a0 := (⟨I1, I3, (I1.length : Int)⟩ : T_Image)) (h0 := ⟨_, _, rfl, (OwT.plus D4 hS (fun p hp => mC (mB (mB (mC (mB (mB (mB (mB (mB (mB (mB (mC (mC (mA (hp)))))))))))))))), (OwT.plus E4 hS (fun p hp => mC (mB (mB (mC (mB (mB (mB (mB (mB (mB (mB (mC (mC (mB (mA (hp)))))))))))))))))⟩) (hF := G8))) (h := ?_)
     clear hS; intro w hS
     refine hb_next (fun _ => hS.cb) ?_
     refine hy0 17 rfl (wt rfl rfl rfl) (by kernel_rfl) (nq (P := Try.prog) (fn := Try.f3)) (fun _ => hS.cb) y_sneq ?_
     refine hy0 18 rfl wn (by kernel_rfl) (nq (P := Try.prog) (fn := Try.f3)) (fun _ => hS.cb) y_pickF ?_
     refine hsplit 19 rfl wn (by kernel_rfl) (nq (P := Try.prog) (fn := Try.f3)) (fun _ => hS.cb) (ht := fun N6 => ?_) (hff := fun N6 => ?_)
     · replace hF := bt N6 hF
       refine hskip 20 rfl (wf rfl rfl) (by kernel_rfl) (nq (P := Try.prog) (fn := Try.f3)) (fun _ => hS.cb) ?_
       refine hskip 21 rfl (wf rfl rfl) (by kernel_rfl) (nq (P := Try.prog) (fn := Try.f3)) (fun _ => hS.cb) ?_
       refine hskip 22 rfl (wf rfl rfl) (by kernel_rfl) (nq (P := Try.prog) (fn := Try.f3)) (fun _ => hS.cb) ?_
       refine hskip 23 rfl (wf rfl rfl) (by kernel_rfl) (nq (P := Try.prog) (fn := Try.f3)) (fun _ => hS.cb) ?_
       refine hy0 24 rfl wn (by kernel_rfl) (nq (P := Try.prog) (fn := Try.f3)) (fun _ => hS.cb) y_pickT ?_
       refine hy0 25 rfl wn (by kernel_rfl) (nq (P := Try.prog) (fn := Try.f3)) (fun _ => hS.cb) y_move ?_
       refine hskip 26 rfl (wf rfl rfl) (by kernel_rfl) (nq (P := Try.prog) (fn := Try.f3)) (fun _ => hS.cb) ?_
       refine hskip 27 rfl (wf rfl rfl) (by kernel_rfl) (nq (P := Try.prog) (fn := Try.f3)) (fun _ => hS.cb) ?_
       refine hskip 28 rfl (wf rfl rfl) (by kernel_rfl) (nq (P := Try.prog) (fn := Try.f3)) (fun _ => hS.cb) ?_
       refine hskip 29 rfl (wf rfl rfl) (by kernel_rfl) (nq (P := Try.prog) (fn := Try.f3)) (fun _ => hS.cb) ?_
       refine hskip 30 rfl (wf rfl rfl) (by kernel_rfl) (nq (P := Try.prog) (fn := Try.f3)) (fun _ => hS.cb) ?_
       refine hskip 31 rfl (wf rfl rfl) (by kernel_rfl) (nq (P := Try.prog) (fn := Try.f3)) (fun _ => hS.cb) ?_
       refine hskip 32 rfl (wf rfl rfl) (by kernel_rfl) (nq (P := Try.prog) (fn := Try.f3)) (fun _ => hS.cb) ?_
       refine hskip 33 rfl (wf rfl rfl) (by kernel_rfl) (nq (P := Try.prog) (fn := Try.f3)) (fun _ => hS.cb) ?_
       refine hskip 34 rfl (wf rfl rfl) (by kernel_rfl) (nq (P := Try.prog) (fn := Try.f3)) (fun _ => hS.cb) ?_
       refine hy0 35 rfl wn (by kernel_rfl) (nq (P := Try.prog) (fn := Try.f3)) (fun _ => hS.cb) y_pickT ?_
       refine hy0 36 rfl wn (by kernel_rfl) (nq (P := Try.prog) (fn := Try.f3)) (fun _ => hS.cb) y_move ?_
       refine hskip 37 rfl (wf rfl rfl) (by kernel_rfl) (nq (P := Try.prog) (fn := Try.f3)) (fun _ => hS.cb) ?_
       refine hskip 38 rfl (wf rfl rfl) (by kernel_rfl) (nq (P := Try.prog) (fn := Try.f3)) (fun _ => hS.cb) ?_
       refine hskip 39 rfl (wf rfl rfl) (by kernel_rfl) (nq (P := Try.prog) (fn := Try.f3)) (fun _ => hS.cb) ?_
       refine hskip 40 rfl (wf rfl rfl) (by kernel_rfl) (nq (P := Try.prog) (fn := Try.f3)) (fun _ => hS.cb) ?_
       refine hskip 41 rfl (wf rfl rfl) (by kernel_rfl) (nq (P := Try.prog) (fn := Try.f3)) (fun _ => hS.cb) ?_
       refine hskip 42 rfl (wf rfl rfl) (by kernel_rfl) (nq (P := Try.prog) (fn := Try.f3)) (fun _ => hS.cb) ?_
       refine hskip 43 rfl (wf rfl rfl) (by kernel_rfl) (nq (P := Try.prog) (fn := Try.f3)) (fun _ => hS.cb) ?_
       refine hskip 44 rfl (wf rfl rfl) (by kernel_rfl) (nq (P := Try.prog) (fn := Try.f3)) (fun _ => hS.cb) ?_
       refine hskip 45 rfl (wf rfl rfl) (by kernel_rfl) (nq (P := Try.prog) (fn := Try.f3)) (fun _ => hS.cb) ?_
       refine hskip 46 rfl (wf rfl rfl) (by kernel_rfl) (nq (P := Try.prog) (fn := Try.f3)) (fun _ => hS.cb) ?_
       refine hskip 47 rfl (wf rfl rfl) (by kernel_rfl) (nq (P := Try.prog) (fn := Try.f3)) (fun _ => hS.cb) ?_
       refine hskip 48 rfl (wf rfl rfl) (by kernel_rfl) (nq (P := Try.prog) (fn := Try.f3)) (fun _ => hS.cb) ?_
       refine hskip 49 rfl (wf rfl rfl) (by kernel_rfl) (nq (P := Try.prog) (fn := Try.f3)) (fun _ => hS.cb) ?_
       refine hskip 50 rfl (wf rfl rfl) (by kernel_rfl) (nq (P := Try.prog) (fn := Try.f3)) (fun _ => hS.cb) ?_
       refine hskip 51 rfl (wf rfl rfl) (by kernel_rfl) (nq (P := Try.prog) (fn := Try.f3)) (fun _ => hS.cb) ?_
       refine hskip 52 rfl (wf rfl rfl) (by kernel_rfl) (nq (P := Try.prog) (fn := Try.f3)) (fun _ => hS.cb) ?_
       refine hy0 53 rfl wn (by kernel_rfl) (nq (P := Try.prog) (fn := Try.f3)) (fun _ => hS.cb) y_pickT ?_
       refine hb_done (by kernel_rfl) ?_
       refine c_if_true (h := ?_)
       refine c_seq <| c_region <| oy hS y_assign <| n_thenN ?_
       obtain rfl := osi hF
       obtain rfl : _ = N2 := E2
       obtain rfl : _ = r := I2
       exact wp_ret (wr1 hS)
     replace hF := bf N6 hF
     refine hy 20 rfl (wt rfl rfl rfl) (by kernel_rfl) (nq (P := Try.prog) (fn := Try.f3)) hS.cb (y_loadW (fun w hS => hS.own (mC (mB (mB (mC (mB (mB (mB (mB (mB (mB (mB (mC (mH)))))))))))))) underlying37 rfl (by exact sz_api_Image)) ?_
     refine hy 21 rfl (wt rfl rfl rfl) (by kernel_rfl) (nq (P := Try.prog) (fn := Try.f3)) hS.cb (y_loadW (fun w hS => hS.own (mH)) underlying37 rfl (by exact sz_api_Image)) ?_
     refine hb1 22 (by kernel_rfl) (hb_op rfl (wt rfl rfl rfl) (nl (P := Try.prog) (fn := Try.f3)) ?_)
     obtain ⟨Ib, I8, hF⟩ := ob hF
     refine o_callS hS func10 rfl rfl (hc := (w_r0_EqImage (a0 := (⟨I1, I3, (I1.length : Int)⟩ : T_Image)) (a1 := B5.1) (h0 := ⟨_, _, rfl, (OwT.plus D4 hS (fun p hp => mC (mB (mB (mC (mB (mB (mB (mB (mB (mB (mB (mC (mC (mA (hp)))))))))))))))), (OwT.plus E4 hS (fun p hp => mC (mB (mB (mC (mB (mB (mB (mB (mB (mB (mB (mC (mC (mB (mA (hp)))))))))))))))))⟩) (h1 := ⟨_, _, rfl, (OwT.plus D5 hS (fun p hp => mC (mA (hp)))), (OwT.plus E5 hS (fun p hp => mC (mB (mA (hp)))))⟩) (hF := I8))) (h := ?_)
     clear hS; intro w hS
     refine hb_next (fun _ => hS.cb) ?_
     refine hy0 23 rfl (wt rfl rfl rfl) (by kernel_rfl) (nq (P := Try.prog) (fn := Try.f3)) (fun _ => hS.cb) y_not ?_
     refine hy0 24 rfl wn (by kernel_rfl) (nq (P := Try.prog) (fn := Try.f3)) (fun _ => hS.cb) y_pickF ?_
     refine hsplit 25 rfl wn (by kernel_rfl) (nq (P := Try.prog) (fn := Try.f3)) (fun _ => hS.cb) (ht := fun R6 => ?_) (hff := fun R6 => ?_)
     · replace hF := bt R6 hF
       refine hskip 26 rfl (wf rfl rfl) (by kernel_rfl) (nq (P := Try.prog) (fn := Try.f3)) (fun _ => hS.cb) ?_
       refine hskip 27 rfl (wf rfl rfl) (by kernel_rfl) (nq (P := Try.prog) (fn := Try.f3)) (fun _ => hS.cb) ?_
       refine hskip 28 rfl (wf rfl rfl) (by kernel_rfl) (nq (P := Try.prog) (fn := Try.f3)) (fun _ => hS.cb) ?_
       refine hskip 29 rfl (wf rfl rfl) (by kernel_rfl) (nq (P := Try.prog) (fn := Try.f3)) (fun _ => hS.cb) ?_
       refine hskip 30 rfl (wf rfl rfl) (by kernel_rfl) (nq (P := Try.prog) (fn := Try.f3)) (fun _ => hS.cb) ?_
       refine hskip 31 rfl (wf rfl rfl) (by kernel_rfl) (nq (P := Try.prog) (fn := Try.f3)) (fun _ => hS.cb) ?_
       refine hskip 32 rfl (wf rfl rfl) (by kernel_rfl) (nq (P := Try.prog) (fn := Try.f3)) (fun _ => hS.cb) ?_
       refine hskip 33 rfl (wf rfl rfl) (by kernel_rfl) (nq (P := Try.prog) (fn := Try.f3)) (fun _ => hS.cb) ?_
       refine hskip 34 rfl (wf rfl rfl) (by kernel_rfl) (nq (P := Try.prog) (fn := Try.f3)) (fun _ => hS.cb) ?_
       refine hy0 35 rfl wn (by kernel_rfl) (nq (P := Try.prog) (fn := Try.f3)) (fun _ => hS.cb) y_pickT ?_
       refine hy0 36 rfl wn (by kernel_rfl) (nq (P := Try.prog) (fn := Try.f3)) (fun _ => hS.cb) y_move ?_
       refine hskip 37 rfl (wf rfl rfl) (by kernel_rfl) (nq (P := Try.prog) (fn := Try.f3)) (fun _ => hS.cb) ?_
       refine hskip 38 rfl (wf rfl rfl) (by kernel_rfl) (nq (P := Try.prog) (fn := Try.f3)) (fun _ => hS.cb) ?_
       refine hskip 39 rfl (wf rfl rfl) (by kernel_rfl) (nq (P := Try.prog) (fn := Try.f3)) (fun _ => hS.cb) ?_
       refine hskip 40 rfl (wf rfl rfl) (by kernel_rfl) (nq (P := Try.prog) (fn := Try.f3)) (fun _ => hS.cb) ?_
       refine hskip 41 rfl (wf rfl rfl) (by kernel_rfl) (nq (P := Try.prog) (fn := Try.f3)) (fun _ => hS.cb) ?_
       refine hskip 42 rfl (wf rfl rfl) (by kernel_rfl) (nq (P := Try.prog) (fn := Try.f3)) (fun _ => hS.cb) ?_
       refine hskip 43 rfl (wf rfl rfl) (by kernel_rfl) (nq (P := Try.prog) (fn := Try.f3)) (fun _ => hS.cb) ?_
       refine hskip 44 rfl (wf rfl rfl) (by kernel_rfl) (nq (P := Try.prog) (fn := Try.f3)) (fun _ => hS.cb) ?_
       refine hskip 45 rfl (wf rfl rfl) (by kernel_rfl) (nq (P := Try.prog) (fn := Try.f3)) (fun _ => hS.cb) ?_
       refine hskip 46 rfl (wf rfl rfl) (by kernel_rfl) (nq (P := Try.prog) (fn := Try.f3)) (fun _ => hS.cb) ?_
       refine hskip 47 rfl (wf rfl rfl) (by kernel_rfl) (nq (P := Try.prog) (fn := Try.f3)) (fun _ => hS.cb) ?_
       refine hskip 48 rfl (wf rfl rfl) (by kernel_rfl) (nq (P := Try.prog) (fn := Try.f3)) (fun _ => hS.cb) ?_
       refine hskip 49 rfl (wf rfl rfl) (by kernel_rfl) (nq (P := Try.prog) (fn := Try.f3)) (fun _ => hS.cb) ?_
       refine hskip 50 rfl (wf rfl rfl) (by kernel_rfl) (nq (P := Try.prog) (fn := Try.f3)) (fun _ => hS.cb) ?_
       refine hskip 51 rfl (wf rfl rfl) (by kernel_rfl) (nq (P := Try.prog) (fn := Try.f3)) (fun _ => hS.cb) ?_
       refine hskip 52 rfl (wf rfl rfl) (by kernel_rfl) (nq (P := Try.prog) (fn := Try.f3)) (fun _ => hS.cb) ?_
       refine hy0 53 rfl wn (by kernel_rfl) (nq (P := Try.prog) (fn := Try.f3)) (fun _ => hS.cb) y_pickT ?_
       refine hb_done (by kernel_rfl) ?_
       refine c_if_true (h := ?_)
       refine c_seq <| c_region <| oy hS y_assign <| n_thenN ?_
       obtain rfl := osi hF
       obtain rfl : _ = N2 := E2
       obtain rfl : _ = r := I2
       exact wp_ret (wr1 hS)
     replace hF := bf R6 hF
     refine hy 26 rfl (wt rfl rfl rfl) (by kernel_rfl) (nq (P := Try.prog) (fn := Try.f3)) hS.cb (y_loadW (fun w hS => hS.own (mC (mB (mB (mH))))) underlying44 rfl (by exact sz_api_State)) ?_
     refine hy0 27 rfl (wt rfl rfl rfl) (by kernel_rfl) (nq (P := Try.prog) (fn := Try.f3)) (fun _ => hS.cb) (y_field fa_api_Image_1) ?_
     refine hy 28 rfl (wt rfl rfl rfl) (by kernel_rfl) (nq (P := Try.prog) (fn := Try.f3)) hS.cb (y_load (fun w hS => hS.own (mC (mB (mB (mC (mB (mB (mB (mB (mB (mB (mB (mC (mH)))))))))))))) underlying31 rfl rfl) ?_
     refine hy0 29 rfl (wt rfl rfl rfl) (by kernel_rfl) (nq (P := Try.prog) (fn := Try.f3)) (fun _ => hS.cb) (y_field fa_api_Image_2) ?_
     refine hy 30 rfl (wt rfl rfl rfl) (by kernel_rfl) (nq (P := Try.prog) (fn := Try.f3)) hS.cb (y_load (fun w hS => hS.own (mC (mB (mB (mC (mB (mB (mB (mB (mB (mB (mB (mC (mH)))))))))))))) underlying3 rfl rfl) ?_
     refine hb1 31 (by kernel_rfl) (hb_op rfl (wt rfl rfl rfl) (nl (P := Try.prog) (fn := Try.f3)) ?_)
     refine o_buildT val_uint32 ([1, 2] : List Int) hS el_uint32 (fun _ => rfl) enc_len_uint32 (by decide) rfl (by decide) (hp := rfl) (h := ?_)
     clear hS; intro K7 w hS Z8
     have hS : St W g [] ([(K7, blk (([1, 2] : List Int).flatMap enc_uint32) 38)] ++ ((J7, blk (cl_Image G4 I4 B5.1.Entry) 37) :: (Z3 ++ (B4 ++ ((B6, blk (cl_State J3 K3 M3 J1.1.Taken N3 J1.1.PC R3 J1.1.Stop T3 J1.1.Jump J1.1.Delay) 44) :: (U2 ++ (V2 ++ (X2 ++ (Y2 ++ (Z2 ++ (B3 ++ ([(R4, blk (([1, 2] : List Int).flatMap enc_uint32) 38)] ++ ((b1, blk (cl_Ask20 M0 N0 R0 T0 U0 V0) 33) :: ((K2, blk (cl_Image M2 G2 (I1.length : Int)) 37) :: (J2 ++ (G3 ++ [])))))))))))))))) w := hS
     refine hb_next (fun _ => (hS.re (.b (.d .hb) (.t (.d .h) (.t (.d .h) (.b (.d .hb) (.t (.d .h) (.t (.d .h) (.t (.d .h) (.t (.d .h) (.t (.d .h) (.t (.d .h) (.t (.d .h) (.b (.d .hb) (.b (.d .hb) (.t (.d .h) (.t (.d .h) .n)))))))))))))))).cb) ?_
     refine hb1 32 (by kernel_rfl) (hb_op rfl (wt rfl rfl rfl) (nl (P := Try.prog) (fn := Try.f3)) ?_)
     obtain ⟨B9, J8, hF⟩ := ob hF
     refine o_call0 hS func12 rfl rfl (hc := (w_r19_Load (a0 := I3) (a1 := (I1.length : Int)) (a2 := ([1, 2] : List Int)) (h0 := (OwT.plus E4 hS (fun p hp => mB (mC (mB (mB (mC (mB (mB (mB (mB (mB (mB (mB (mC (mC (mB (mA (hp))))))))))))))))))) (h2 := (OwT.plus Z8 hS (fun p hp => mA (hp)))) (hF := J8))) (h := ?_)
     clear hS; intro Jb U9 w hS K8
     obtain ⟨v_0_2551, LX_0_2552, rfl, rfl, h_0_2553⟩ := K8
     obtain ⟨D9, E9, G9, I9, J9, K9, G5, I5, J5, K5, M5, N5, rfl, rfl, T6, U6, V6, X6, Y6, Z6⟩ := h_0_2553
     simp only [aa, ac, al] at hS
     have hS : St W g [] (G5 ++ (I5 ++ (J5 ++ (K5 ++ (M5 ++ (N5 ++ ([(K7, blk (([1, 2] : List Int).flatMap enc_uint32) 38)] ++ ((J7, blk (cl_Image G4 I4 B5.1.Entry) 37) :: (Z3 ++ (B4 ++ ((B6, blk (cl_State J3 K3 M3 J1.1.Taken N3 J1.1.PC R3 J1.1.Stop T3 J1.1.Jump J1.1.Delay) 44) :: (U2 ++ (V2 ++ (X2 ++ (Y2 ++ (Z2 ++ (B3 ++ ([(R4, blk (([1, 2] : List Int).flatMap enc_uint32) 38)] ++ ((b1, blk (cl_Ask20 M0 N0 R0 T0 U0 V0) 33) :: ((K2, blk (cl_Image M2 G2 (I1.length : Int)) 37) :: (J2 ++ (G3 ++ [])))))))))))))))))))))) w := hS
     refine hb_next (fun _ => (hS.re (.b (.d (.d (.d (.d (.d (.d (.d .hb))))))) (.t (.d (.d (.d (.d (.d (.d (.d .h))))))) (.t (.d (.d (.d (.d (.d (.d (.d .h))))))) (.b (.d (.d (.d (.d (.d (.d (.d .hb))))))) (.t (.d (.d (.d (.d (.d (.d (.d .h))))))) (.t (.d (.d (.d (.d (.d (.d (.d .h))))))) (.t (.d (.d (.d (.d (.d (.d (.d .h))))))) (.t (.d (.d (.d (.d (.d (.d (.d .h))))))) (.t (.d (.d (.d (.d (.d (.d (.d .h))))))) (.t (.d (.d (.d (.d (.d (.d (.d .h))))))) (.t (.d (.d (.d (.d (.d (.d (.d .h))))))) (.b (.d (.d (.d (.d (.d (.d (.d .hb))))))) (.b (.d (.d (.d (.d (.d (.d (.d .hb))))))) (.t (.d (.d (.d (.d (.d (.d (.d .h))))))) (.t (.d (.d (.d (.d (.d (.d (.d .h))))))) .n)))))))))))))))).cb) ?_
     refine hb1 33 (by kernel_rfl) (hb_op rfl (wt rfl rfl rfl) (nl (P := Try.prog) (fn := Try.f3)) ?_)
     obtain ⟨Kb, M8, hF⟩ := ob hF
     refine o_callS hS func11 rfl rfl (hc := (w_r0_EqState (a0 := J1.1) (a1 := B9) (h0 := ⟨_, _, _, _, _, _, rfl, (OwT.plus T4 hS (fun p hp => mB (mB (mB (mB (mB (mB (mB (mC (mB (mB (mC (mA (hp)))))))))))))), (OwT.plus U4 hS (fun p hp => mB (mB (mB (mB (mB (mB (mB (mC (mB (mB (mC (mB (mA (hp))))))))))))))), (OwT.plus V4 hS (fun p hp => mB (mB (mB (mB (mB (mB (mB (mC (mB (mB (mC (mB (mB (mA (hp)))))))))))))))), (OwT.plus X4 hS (fun p hp => mB (mB (mB (mB (mB (mB (mB (mC (mB (mB (mC (mB (mB (mB (mA (hp))))))))))))))))), (OwT.plus Y4 hS (fun p hp => mB (mB (mB (mB (mB (mB (mB (mC (mB (mB (mC (mB (mB (mB (mB (mA (hp)))))))))))))))))), (OwT.plus Z4 hS (fun p hp => mB (mB (mB (mB (mB (mB (mB (mC (mB (mB (mC (mB (mB (mB (mB (mB (mA (hp)))))))))))))))))))⟩) (h1 := ⟨_, _, _, _, _, _, rfl, (OwT.plus T6 hS (fun p hp => mA (hp))), (OwT.plus U6 hS (fun p hp => mB (mA (hp)))), (OwT.plus V6 hS (fun p hp => mB (mB (mA (hp))))), (OwT.plus X6 hS (fun p hp => mB (mB (mB (mA (hp)))))), (OwT.plus Y6 hS (fun p hp => mB (mB (mB (mB (mA (hp))))))), (OwT.plus Z6 hS (fun p hp => mB (mB (mB (mB (mB (mA (hp))))))))⟩) (hF := M8))) (h := ?_)
     clear hS; intro w hS
     have hC := (hS.re (.b (.d (.d (.d (.d (.d (.d (.d .hb))))))) (.t (.d (.d (.d (.d (.d (.d (.d .h))))))) (.t (.d (.d (.d (.d (.d (.d (.d .h))))))) (.b (.d (.d (.d (.d (.d (.d (.d .hb))))))) (.t (.d (.d (.d (.d (.d (.d (.d .h))))))) (.t (.d (.d (.d (.d (.d (.d (.d .h))))))) (.t (.d (.d (.d (.d (.d (.d (.d .h))))))) (.t (.d (.d (.d (.d (.d (.d (.d .h))))))) (.t (.d (.d (.d (.d (.d (.d (.d .h))))))) (.t (.d (.d (.d (.d (.d (.d (.d .h))))))) (.t (.d (.d (.d (.d (.d (.d (.d .h))))))) (.b (.d (.d (.d (.d (.d (.d (.d .hb))))))) (.b (.d (.d (.d (.d (.d (.d (.d .hb))))))) (.t (.d (.d (.d (.d (.d (.d (.d .h))))))) (.t (.d (.d (.d (.d (.d (.d (.d .h))))))) .n)))))))))))))))).cb
     refine hb_next (fun _ => hC) ?_
     refine hy0 34 rfl (wt rfl rfl rfl) (by kernel_rfl) (nq (P := Try.prog) (fn := Try.f3)) (fun _ => hC) y_not ?_
     refine hy0 35 rfl wn (by kernel_rfl) (nq (P := Try.prog) (fn := Try.f3)) (fun _ => hC) y_pickF ?_
     refine hsplit 36 rfl wn (by kernel_rfl) (nq (P := Try.prog) (fn := Try.f3)) (fun _ => hC) (ht := fun B7 => ?_) (hff := fun B7 => ?_)
     · replace hF := bt B7 hF
       refine hskip 37 rfl (wf rfl rfl) (by kernel_rfl) (nq (P := Try.prog) (fn := Try.f3)) (fun _ => hC) ?_
       refine hskip 38 rfl (wf rfl rfl) (by kernel_rfl) (nq (P := Try.prog) (fn := Try.f3)) (fun _ => hC) ?_
       refine hskip 39 rfl (wf rfl rfl) (by kernel_rfl) (nq (P := Try.prog) (fn := Try.f3)) (fun _ => hC) ?_
       refine hskip 40 rfl (wf rfl rfl) (by kernel_rfl) (nq (P := Try.prog) (fn := Try.f3)) (fun _ => hC) ?_
       refine hskip 41 rfl (wf rfl rfl) (by kernel_rfl) (nq (P := Try.prog) (fn := Try.f3)) (fun _ => hC) ?_
       refine hskip 42 rfl (wf rfl rfl) (by kernel_rfl) (nq (P := Try.prog) (fn := Try.f3)) (fun _ => hC) ?_
       refine hskip 43 rfl (wf rfl rfl) (by kernel_rfl) (nq (P := Try.prog) (fn := Try.f3)) (fun _ => hC) ?_
       refine hskip 44 rfl (wf rfl rfl) (by kernel_rfl) (nq (P := Try.prog) (fn := Try.f3)) (fun _ => hC) ?_
       refine hskip 45 rfl (wf rfl rfl) (by kernel_rfl) (nq (P := Try.prog) (fn := Try.f3)) (fun _ => hC) ?_
       refine hskip 46 rfl (wf rfl rfl) (by kernel_rfl) (nq (P := Try.prog) (fn := Try.f3)) (fun _ => hC) ?_
       refine hskip 47 rfl (wf rfl rfl) (by kernel_rfl) (nq (P := Try.prog) (fn := Try.f3)) (fun _ => hC) ?_
       refine hskip 48 rfl (wf rfl rfl) (by kernel_rfl) (nq (P := Try.prog) (fn := Try.f3)) (fun _ => hC) ?_
       refine hskip 49 rfl (wf rfl rfl) (by kernel_rfl) (nq (P := Try.prog) (fn := Try.f3)) (fun _ => hC) ?_
       refine hskip 50 rfl (wf rfl rfl) (by kernel_rfl) (nq (P := Try.prog) (fn := Try.f3)) (fun _ => hC) ?_
       refine hskip 51 rfl (wf rfl rfl) (by kernel_rfl) (nq (P := Try.prog) (fn := Try.f3)) (fun _ => hC) ?_
       refine hskip 52 rfl (wf rfl rfl) (by kernel_rfl) (nq (P := Try.prog) (fn := Try.f3)) (fun _ => hC) ?_
       refine hy0 53 rfl wn (by kernel_rfl) (nq (P := Try.prog) (fn := Try.f3)) (fun _ => hC) y_pickT ?_
       refine hb_done (by kernel_rfl) ?_
       refine c_if_true (h := ?_)
       refine c_seq <| c_region <| oy hS y_assign <| n_thenN ?_
       obtain rfl := osi hF
       obtain rfl : _ = N2 := E2
       obtain rfl : _ = r := I2
       exact wp_ret (wr1 hS)
     replace hF := bf B7 hF
     refine hy0 37 rfl (wt rfl rfl rfl) (by kernel_rfl) (nq (P := Try.prog) (fn := Try.f3)) (fun _ => hC) y_move ?_
     refine hy0 38 rfl (wt rfl rfl rfl) (by kernel_rfl) (nq (P := Try.prog) (fn := Try.f3)) (fun _ => hC) (y_lens underlying9) ?_
     refine hy0 42 rfl (wt rfl rfl rfl) (by kernel_rfl) (nq (P := Try.prog) (fn := Try.f3)) (fun _ => hC) (y_field fa_api_Image_0) ?_
     refine hy 43 rfl (wt rfl rfl rfl) (by kernel_rfl) (nq (P := Try.prog) (fn := Try.f3)) (hC) (y_load (fun w hS => hS.own (mC (mB (mB (mC (mB (mB (mB (mB (mB (mB (mB (mC (mH)))))))))))))) underlying34 rfl rfl) ?_
     refine hy0 44 rfl (wt rfl rfl rfl) (by kernel_rfl) (nq (P := Try.prog) (fn := Try.f3)) (fun _ => hC) (y_lenO D4 underlying34) ?_
     refine hy0 45 rfl (wt rfl rfl rfl) (by kernel_rfl) (nq (P := Try.prog) (fn := Try.f3)) (fun _ => hC) y_bin ?_
     refine hy0 47 rfl (wt rfl rfl rfl) (by kernel_rfl) (nq (P := Try.prog) (fn := Try.f3)) (fun _ => hC) (y_field fa_api_Image_1) ?_
     refine hy 48 rfl (wt rfl rfl rfl) (by kernel_rfl) (nq (P := Try.prog) (fn := Try.f3)) (hC) (y_load (fun w hS => hS.own (mC (mB (mB (mC (mB (mB (mB (mB (mB (mB (mB (mC (mH)))))))))))))) underlying31 rfl rfl) ?_
     refine hy0 49 rfl (wt rfl rfl rfl) (by kernel_rfl) (nq (P := Try.prog) (fn := Try.f3)) (fun _ => hC) (y_lenO E4 underlying31) ?_
     refine hy0 50 rfl (wt rfl rfl rfl) (by kernel_rfl) (nq (P := Try.prog) (fn := Try.f3)) (fun _ => hC) y_bin ?_
     refine hb1 39 (by kernel_rfl) (hb_op rfl (wt rfl rfl rfl) (nl (P := Try.prog) (fn := Try.f3)) ?_)
     obtain ⟨Mb, N8, hF⟩ := ob hF
     refine o_callS hS func13 rfl rfl (hc := (w_r16_Summed (a0 := (ByteArray.mk #[105, 109, 97, 103, 101])) (hF := N8))) (h := ?_)
     clear hS; intro w hS
     have hC := (hS.re (.b (.d (.d (.d (.d (.d (.d (.d .hb))))))) (.t (.d (.d (.d (.d (.d (.d (.d .h))))))) (.t (.d (.d (.d (.d (.d (.d (.d .h))))))) (.b (.d (.d (.d (.d (.d (.d (.d .hb))))))) (.t (.d (.d (.d (.d (.d (.d (.d .h))))))) (.t (.d (.d (.d (.d (.d (.d (.d .h))))))) (.t (.d (.d (.d (.d (.d (.d (.d .h))))))) (.t (.d (.d (.d (.d (.d (.d (.d .h))))))) (.t (.d (.d (.d (.d (.d (.d (.d .h))))))) (.t (.d (.d (.d (.d (.d (.d (.d .h))))))) (.t (.d (.d (.d (.d (.d (.d (.d .h))))))) (.b (.d (.d (.d (.d (.d (.d (.d .hb))))))) (.b (.d (.d (.d (.d (.d (.d (.d .hb))))))) (.t (.d (.d (.d (.d (.d (.d (.d .h))))))) (.t (.d (.d (.d (.d (.d (.d (.d .h))))))) .n)))))))))))))))).cb
     refine hb_next (fun _ => hC) ?_
     refine hy0 40 rfl (wt rfl rfl rfl) (by kernel_rfl) (nq (P := Try.prog) (fn := Try.f3)) (fun _ => hC) (y_lens underlying9) ?_
     refine hy0 41 rfl (wt rfl rfl rfl) (by kernel_rfl) (nq (P := Try.prog) (fn := Try.f3)) (fun _ => hC) y_bin ?_
     refine hy0 46 rfl (wt rfl rfl rfl) (by kernel_rfl) (nq (P := Try.prog) (fn := Try.f3)) (fun _ => hC) y_bin ?_
     refine hy0 51 rfl (wt rfl rfl rfl) (by kernel_rfl) (nq (P := Try.prog) (fn := Try.f3)) (fun _ => hC) y_bin ?_
     refine hy0 52 rfl (wt rfl rfl rfl) (by kernel_rfl) (nq (P := Try.prog) (fn := Try.f3)) (fun _ => hC) y_bin ?_
     refine hy0 53 rfl wn (by kernel_rfl) (nq (P := Try.prog) (fn := Try.f3)) (fun _ => hC) y_pickF ?_
     refine hb_done (by kernel_rfl) ?_
     refine c_if (ht := fun D7 => ?_) (hf := fun D7 => ?_)
     · replace hF := bt D7 hF
       refine c_seq <| c_region <| oy hS y_assign <| n_thenN ?_
       obtain rfl := osi hF
       obtain rfl : _ = N2 := E2
       obtain rfl : _ = r := I2
       exact wp_ret (wr1 hS)
     replace hF := bf D7 hF
     refine wp_skip <| c_region <| oy hS y_move <| oy hS y_bin <| oy hS y_assign <| n_thenN ?_
     obtain rfl := osi hF
     exact ⟨_, E2, mk_exF, (hS.re (.b (.d (.d (.d (.d (.d (.d (.d (.e (.d (.d (.e (.d (.d (.d (.d (.d (.d (.d .hb)))))))))))))))))) .n))⟩
   replace hF := bf V5 hF
   refine wp_exit ?_
   refine c_region <| oy hS y_move <| oy hS y_bin <| oy hS y_assign <| n_thenN ?_
   obtain rfl := osi hF
   obtain rfl : _ = N2 := E2
   exact ⟨_, I2, mk_exF, (hS.re (.b .hb .n))⟩
 replace hF := bf U5 hF
 refine wp_exit ?_
 refine c_seq <| c_region ?_
 obtain ⟨Nb, R8, hF⟩ := ob hF
 refine o_callS hS func14 rfl rfl (hc := (w_l20_wakes  (hF := R8))) (h := ?_)
 clear hS; intro w hS
 refine oy hS y_assign <| n_thenN ?_
 obtain rfl := osi hF
 obtain rfl : _ = r := I2
 exact wp_ret (wr1 hS)
theorem w_l20_ImageEdges {g : Frag} {a0 : T_Ask20} {v0_ : Value} {r : Bool} (h0 : Rd_Ask20 g a0 v0_) (hF : l20_ImageEdges a0 = some r) : LCs Try.prog 3 #[v0_] g (.bool r) := w_l20_ImageEdges_ h0 hF
end Go.Proofs.Ytjmmkbehdbpklaa
