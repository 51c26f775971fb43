/- Functions, lifted. Printed by lift.py. -/
import Derived.Test.YtjmmkbehdbpklaaProg
import Derived.Test.YtjmmkbehdbpklaaP4
import Derived.KernelRfl
namespace Go.Proofs.Ytjmmkbehdbpklaa
open Go Go.RowKit Fr
set_option linter.unusedVariables false
set_option linter.unusedSimpArgs false
set_option maxRecDepth 20000
open Try
set_option maxHeartbeats 2000000
noncomputable def l20_wakes  : Option Bool :=
  (image_Write (⟨([(⟨(⟨33, 0, 0, 0, 0, ByteArray.empty⟩ : T_Ins), (⟨0, 0, 0, 0, 0, ByteArray.empty⟩ : T_Ins), (⟨0, 0, 0, 0, 0, ByteArray.empty⟩ : T_Ins), (⟨0, 0, 0, 0, 0, ByteArray.empty⟩ : T_Ins)⟩ : (A4 T_Ins))] : List (A4 T_Ins)), ([7] : List Int), 1⟩ : T_Image)).bind fun r8 => (image_Read r8.1).bind fun r9 => (image_Load (⟨([(⟨(⟨33, 0, 0, 0, 0, ByteArray.empty⟩ : T_Ins), (⟨0, 0, 0, 0, 0, ByteArray.empty⟩ : T_Ins), (⟨0, 0, 0, 0, 0, ByteArray.empty⟩ : T_Ins), (⟨0, 0, 0, 0, 0, ByteArray.empty⟩ : T_Ins)⟩ : (A4 T_Ins))] : List (A4 T_Ins)), ([7] : List Int), 1⟩ : T_Image) ([5] : List Int)).bind fun r28 => bif decide ((l20_num r8.2) = 0) then bif decide ((l20_num r9.2) = 0) then bif decide ((l20_num r28.2) = 0) then (r0_EqImage (⟨([(⟨(⟨33, 0, 0, 0, 0, ByteArray.empty⟩ : T_Ins), (⟨0, 0, 0, 0, 0, ByteArray.empty⟩ : T_Ins), (⟨0, 0, 0, 0, 0, ByteArray.empty⟩ : T_Ins), (⟨0, 0, 0, 0, 0, ByteArray.empty⟩ : T_Ins)⟩ : (A4 T_Ins))] : List (A4 T_Ins)), ([7] : List Int), 1⟩ : T_Image) r9.1).bind fun r63 => bif r63 then bif decide (r28.1.PC = 1) then bif decide ((r28.1.Mem.length : Int) = 256) then (at' r28.1.Mem 0).bind fun x67 => bif decide (x67 = 7) then some (decide ((r28.1.In_.length : Int) = 1)) else some (false) else some (false) else some (false) else some (false) else some (false) else some (false) else some (false)
theorem w_l20_wakes_ {g : Frag}  {r : Bool}  (hF : l20_wakes = some r) : LCs Try.prog 14 #[] g (.bool r) := by
 unfold l20_wakes at hF
 refine lc_body (k := 71) (av := []) func14 rfl rfl (h := fun W hS => ?_)
 refine c_seq <| c_region <| oy hS y_assign <| n_thenN <| c_seq <| c_region ?_
 refine oy hS (y_build (cl := (enc_Ins ⟨33, 0, 0, 0, 0, ByteArray.empty⟩)) bt_api_Ins rfl (by kernel_rfl)) ?_
 refine oy hS (y_buildA (cl := (enc_Bundle ⟨(⟨33, 0, 0, 0, 0, ByteArray.empty⟩ : T_Ins), (⟨0, 0, 0, 0, 0, ByteArray.empty⟩ : T_Ins), (⟨0, 0, 0, 0, 0, ByteArray.empty⟩ : T_Ins), (⟨0, 0, 0, 0, 0, ByteArray.empty⟩ : T_Ins)⟩)) bta_api_Bundle rfl (by kernel_rfl)) ?_
 refine o_buildT val_Bundle ([(⟨(⟨33, 0, 0, 0, 0, ByteArray.empty⟩ : T_Ins), (⟨0, 0, 0, 0, 0, ByteArray.empty⟩ : T_Ins), (⟨0, 0, 0, 0, 0, ByteArray.empty⟩ : T_Ins), (⟨0, 0, 0, 0, 0, ByteArray.empty⟩ : T_Ins)⟩ : (A4 T_Ins))] : List (A4 T_Ins)) hS el_api_Bundle (fun _ => rfl) enc_len_Bundle (by decide) rfl (by decide) (hp := rfl) (h := ?_)
 clear hS; intro b1 w hS h2
 have hS : St W g [] ([(b1, blk (([(⟨(⟨33, 0, 0, 0, 0, ByteArray.empty⟩ : T_Ins), (⟨0, 0, 0, 0, 0, ByteArray.empty⟩ : T_Ins), (⟨0, 0, 0, 0, 0, ByteArray.empty⟩ : T_Ins), (⟨0, 0, 0, 0, 0, ByteArray.empty⟩ : T_Ins)⟩ : (A4 T_Ins))] : List (A4 T_Ins)).flatMap enc_Bundle) 80)] ++ []) w := hS
 refine o_buildT val_uint32 ([7] : List Int) hS el_uint32 (fun _ => rfl) enc_len_uint32 (by decide) rfl (by decide) (hp := rfl) (h := ?_)
 clear hS; intro b4 w hS h5
 have hS : St W g [] ([(b4, blk (([7] : List Int).flatMap enc_uint32) 38)] ++ ([(b1, blk (([(⟨(⟨33, 0, 0, 0, 0, ByteArray.empty⟩ : T_Ins), (⟨0, 0, 0, 0, 0, ByteArray.empty⟩ : T_Ins), (⟨0, 0, 0, 0, 0, ByteArray.empty⟩ : T_Ins), (⟨0, 0, 0, 0, 0, ByteArray.empty⟩ : T_Ins)⟩ : (A4 T_Ins))] : List (A4 T_Ins)).flatMap enc_Bundle) 80)] ++ [])) w := hS
 refine oy hS (y_build (cl := (cl_Image (.slice (some ⟨b1, 0, none⟩) 1 1) (.slice (some ⟨b4, 0, none⟩) 1 1) 1)) bt_api_Image rfl (fillS (vs := [(.slice (some ⟨b1, 0, none⟩) 1 1)]) rfl (h2).cell rfl rfl (fillS (vs := [(.slice (some ⟨b4, 0, none⟩) 1 1)]) rfl (h5).cell rfl rfl (fillS (vs := [.int .i64 1]) rfl rfl rfl rfl fillN)))) ?_
 refine o_allocP (cl := (cl_Image (.slice none 0 0) (.slice none 0 0) 0)) zr_api_Image rfl hS ?_
 clear hS; intro b7 w hS
 refine o_storeW (vs := (cl_Image (.slice (some ⟨b1, 0, none⟩) 1 1) (.slice (some ⟨b4, 0, none⟩) 1 1) 1)) hS (by exact rfl) (Upd.here _) (by exact sz_api_Image) (one_Image (h2).one (h5).one) ?_
 clear hS; intro w hS
 refine n_thenN <| c_seq <| c_region ?_
 refine oy hS (y_loadW oH underlying37 rfl (by exact sz_api_Image)) ?_
 obtain ⟨r8, hr8, hF⟩ := ob hF
 refine o_callS hS func4 rfl rfl (hc := (w_image_Write (a0 := (⟨([(⟨(⟨33, 0, 0, 0, 0, ByteArray.empty⟩ : T_Ins), (⟨0, 0, 0, 0, 0, ByteArray.empty⟩ : T_Ins), (⟨0, 0, 0, 0, 0, ByteArray.empty⟩ : T_Ins), (⟨0, 0, 0, 0, 0, ByteArray.empty⟩ : T_Ins)⟩ : (A4 T_Ins))] : List (A4 T_Ins)), ([7] : List Int), 1⟩ : T_Image)) (h0 := ⟨_, _, rfl, (OwT.plus h2 hS (fun p hp => mC (mB (mA (hp))))), (OwT.plus h5 hS (fun p hp => mC (mA (hp))))⟩) (hF := hr8))) (h := ?_)
 clear hS; intro w hS
 refine oy hS y_move ?_
 iterate 2 (refine oy hS (y_extract rfl) ?_)
 iterate 2 (refine oy hS y_assign ?_)
 refine n_thenN <| c_seq <| c_region <| oy hS y_move ?_
 obtain ⟨r9, hr9, hF⟩ := ob hF
 refine o_call0 hS func8 rfl rfl (hc := (w_image_Read (a0 := r8.1) (hF := hr9))) (h := ?_)
 clear hS; intro v10 E2 w hS N1
 obtain ⟨v_0_13, LX_0_14, rfl, rfl, h_0_15⟩ := N1
 obtain ⟨E0, G0, B0, D0, rfl, rfl, J0, K0⟩ := h_0_15
 simp only [aa, ac, al] at hS
 have hS : St W g [] (B0 ++ (D0 ++ ((b7, blk (cl_Image (.slice (some ⟨b1, 0, none⟩) 1 1) (.slice (some ⟨b4, 0, none⟩) 1 1) 1) 37) :: ([(b4, blk (([7] : List Int).flatMap enc_uint32) 38)] ++ ([(b1, blk (([(⟨(⟨33, 0, 0, 0, 0, ByteArray.empty⟩ : T_Ins), (⟨0, 0, 0, 0, 0, ByteArray.empty⟩ : T_Ins), (⟨0, 0, 0, 0, 0, ByteArray.empty⟩ : T_Ins), (⟨0, 0, 0, 0, 0, ByteArray.empty⟩ : T_Ins)⟩ : (A4 T_Ins))] : List (A4 T_Ins)).flatMap enc_Bundle) 80)] ++ []))))) w := hS
 refine oy hS y_move ?_
 iterate 2 (refine oy hS (y_extract rfl) ?_)
 refine o_allocP (cl := (cl_Image (.slice none 0 0) (.slice none 0 0) 0)) zr_api_Image rfl hS ?_
 clear hS; intro b24 w hS
 refine o_storeW (vs := (cl_Image E0 G0 r9.1.Entry)) hS (by exact rfl) (Upd.here _) (by exact sz_api_Image) (one_Image (J0).one (K0).one) ?_
 clear hS; intro w hS
 refine oy hS y_assign <| n_thenN <| c_seq <| c_region ?_
 refine oy hS (y_loadW (fun w hS => hS.own (mC (mB (mB (mH))))) underlying37 rfl (by exact sz_api_Image)) ?_
 refine o_buildT val_uint32 ([5] : List Int) hS el_uint32 (fun _ => rfl) enc_len_uint32 (by decide) rfl (by decide) (hp := rfl) (h := ?_)
 clear hS; intro b25 w hS h26
 have hS : St W g [] ([(b25, blk (([5] : List Int).flatMap enc_uint32) 38)] ++ ((b24, blk (cl_Image E0 G0 r9.1.Entry) 37) :: (B0 ++ (D0 ++ ((b7, blk (cl_Image (.slice (some ⟨b1, 0, none⟩) 1 1) (.slice (some ⟨b4, 0, none⟩) 1 1) 1) 37) :: ([(b4, blk (([7] : List Int).flatMap enc_uint32) 38)] ++ ([(b1, blk (([(⟨(⟨33, 0, 0, 0, 0, ByteArray.empty⟩ : T_Ins), (⟨0, 0, 0, 0, 0, ByteArray.empty⟩ : T_Ins), (⟨0, 0, 0, 0, 0, ByteArray.empty⟩ : T_Ins), (⟨0, 0, 0, 0, 0, ByteArray.empty⟩ : T_Ins)⟩ : (A4 T_Ins))] : List (A4 T_Ins)).flatMap enc_Bundle) 80)] ++ []))))))) w := hS
 obtain ⟨r28, R1, hF⟩ := ob hF
 refine o_call0 hS func5 rfl rfl (hc := (w_image_Load (a0 := (⟨([(⟨(⟨33, 0, 0, 0, 0, ByteArray.empty⟩ : T_Ins), (⟨0, 0, 0, 0, 0, ByteArray.empty⟩ : T_Ins), (⟨0, 0, 0, 0, 0, ByteArray.empty⟩ : T_Ins), (⟨0, 0, 0, 0, 0, ByteArray.empty⟩ : T_Ins)⟩ : (A4 T_Ins))] : List (A4 T_Ins)), ([7] : List Int), 1⟩ : T_Image)) (a1 := ([5] : List Int)) (h0 := ⟨_, _, rfl, (OwT.plus h2 hS (fun p hp => mB (mC (mB (mB (mC (mB (mA (hp))))))))), (OwT.plus h5 hS (fun p hp => mB (mC (mB (mB (mC (mA (hp))))))))⟩) (h1 := (OwT.plus h26 hS (fun p hp => mA (hp)))) (hF := R1))) (h := ?_)
 clear hS; intro v29 G2 w hS T1
 obtain ⟨v_0_32, LX_0_33, rfl, rfl, h_0_34⟩ := T1
 obtain ⟨Y0, Z0, B1, D1, E1, G1, N0, R0, T0, U0, V0, X0, rfl, rfl, I1, I0, M0, J1, K1, M1⟩ := h_0_34
 simp only [aa, ac, al] at hS
 have hS : St W g [] (N0 ++ (R0 ++ (T0 ++ (U0 ++ (V0 ++ (X0 ++ ([(b25, blk (([5] : List Int).flatMap enc_uint32) 38)] ++ ((b24, blk (cl_Image E0 G0 r9.1.Entry) 37) :: (B0 ++ (D0 ++ ((b7, blk (cl_Image (.slice (some ⟨b1, 0, none⟩) 1 1) (.slice (some ⟨b4, 0, none⟩) 1 1) 1) 37) :: ([(b4, blk (([7] : List Int).flatMap enc_uint32) 38)] ++ ([(b1, blk (([(⟨(⟨33, 0, 0, 0, 0, ByteArray.empty⟩ : T_Ins), (⟨0, 0, 0, 0, 0, ByteArray.empty⟩ : T_Ins), (⟨0, 0, 0, 0, 0, ByteArray.empty⟩ : T_Ins), (⟨0, 0, 0, 0, 0, ByteArray.empty⟩ : T_Ins)⟩ : (A4 T_Ins))] : List (A4 T_Ins)).flatMap enc_Bundle) 80)] ++ []))))))))))))) w := hS
 refine oy hS y_move ?_
 iterate 2 (refine oy hS (y_extract rfl) ?_)
 refine o_allocP (cl := (cl_State (.slice none 0 0) (.slice none 0 0) (.slice none 0 0) 0 (.slice none 0 0) 0 (.slice none 0 0) 0 (.slice none 0 0) 0 0)) zr_api_State rfl hS ?_
 clear hS; intro b59 w hS
 refine o_storeW (vs := (cl_State Y0 Z0 B1 r28.1.Taken D1 r28.1.PC E1 r28.1.Stop G1 r28.1.Jump r28.1.Delay)) hS (by exact rfl) (Upd.here _) (by exact sz_api_State) (one_State (I1).one (I0).one (M0).one (J1).one (K1).one (M1).one) ?_
 clear hS; intro w hS
 refine oy hS y_assign <| n_thenN <| c_seq <| c_region <| oy hS y_move ?_
 refine o_callS hS func7 rfl rfl (hc := (w_l20_num (a0 := r8.2))) (h := ?_)
 clear hS; intro w hS
 refine oy hS y_bin ?_
 refine o_split (ht := fun c60 => ?_) (hf := fun c60 => ?_)
 · replace hF := bt c60 hF
   refine o_gu rfl rfl rfl <| oy hS y_move <| o_gu rfl rfl rfl ?_
   refine o_callS hS func7 rfl rfl (hc := (w_l20_num (a0 := r9.2))) (h := ?_)
   clear hS; intro w hS
   refine o_gu rfl rfl rfl <| oy hS y_bin <| oy hS y_pickT ?_
   refine o_split (ht := fun c61 => ?_) (hf := fun c61 => ?_)
   · replace hF := bt c61 hF
     refine o_gu rfl rfl rfl <| oy hS y_move <| o_gu rfl rfl rfl ?_
     refine o_callS hS func7 rfl rfl (hc := (w_l20_num (a0 := r28.2))) (h := ?_)
     clear hS; intro w hS
     refine o_gu rfl rfl rfl <| oy hS y_bin <| oy hS y_pickT ?_
     refine o_split (ht := fun c62 => ?_) (hf := fun c62 => ?_)
     · replace hF := bt c62 hF
       refine o_gu rfl rfl rfl ?_
       refine oy hS (y_loadW (fun w hS => hS.own (mC (mB (mB (mB (mB (mB (mB (mB (mC (mB (mB (mH))))))))))))) underlying37 rfl (by exact sz_api_Image)) ?_
       refine o_gu rfl rfl rfl ?_
       refine oy hS (y_loadW (fun w hS => hS.own (mC (mB (mB (mB (mB (mB (mB (mB (mH)))))))))) underlying37 rfl (by exact sz_api_Image)) ?_
       refine o_gu rfl rfl rfl ?_
       obtain ⟨r63, U1, hF⟩ := ob hF
       refine o_callS hS func10 rfl rfl (hc := (w_r0_EqImage (a0 := (⟨([(⟨(⟨33, 0, 0, 0, 0, ByteArray.empty⟩ : T_Ins), (⟨0, 0, 0, 0, 0, ByteArray.empty⟩ : T_Ins), (⟨0, 0, 0, 0, 0, ByteArray.empty⟩ : T_Ins), (⟨0, 0, 0, 0, 0, ByteArray.empty⟩ : T_Ins)⟩ : (A4 T_Ins))] : List (A4 T_Ins)), ([7] : List Int), 1⟩ : T_Image)) (a1 := r9.1) (h0 := ⟨_, _, rfl, (OwT.plus h2 hS (fun p hp => mC (mB (mB (mB (mB (mB (mB (mB (mC (mB (mB (mC (mB (mA (hp)))))))))))))))), (OwT.plus h5 hS (fun p hp => mC (mB (mB (mB (mB (mB (mB (mB (mC (mB (mB (mC (mA (hp)))))))))))))))⟩) (h1 := ⟨_, _, rfl, (OwT.plus J0 hS (fun p hp => mC (mB (mB (mB (mB (mB (mB (mB (mC (mA (hp)))))))))))), (OwT.plus K0 hS (fun p hp => mC (mB (mB (mB (mB (mB (mB (mB (mC (mB (mA (hp)))))))))))))⟩) (hF := U1))) (h := ?_)
       clear hS; intro w hS
       refine oy hS y_pickT ?_
       refine o_split (ht := fun c64 => ?_) (hf := fun c64 => ?_)
       · replace hF := bt c64 hF
         refine o_gu rfl rfl rfl <| oy hS (y_field fa_api_State_5) <| o_gu rfl rfl rfl <| oy hS (y_load oH underlying3 rfl rfl) <| o_gu rfl rfl rfl <| oy hS y_bin <| oy hS y_pickT ?_
         refine o_split (ht := fun c65 => ?_) (hf := fun c65 => ?_)
         · replace hF := bt c65 hF
           refine o_gu rfl rfl rfl <| oy hS (y_field fa_api_State_1) <| o_gu rfl rfl rfl <| oy hS (y_load oH underlying31 rfl rfl) <| o_gu rfl rfl rfl <| oy hS (y_lenO I0 underlying31) <| o_gu rfl rfl rfl <| oy hS y_bin ?_
           refine oy hS y_pickT ?_
           refine o_split (ht := fun c66 => ?_) (hf := fun c66 => ?_)
           · replace hF := bt c66 hF
             refine o_gu rfl rfl rfl <| oy hS (y_field fa_api_State_1) <| o_gu rfl rfl rfl <| oy hS (y_load oH underlying31 rfl rfl) <| o_gu rfl rfl rfl ?_
             obtain ⟨x67, V1, hF⟩ := ob hF
             obtain ⟨b68, c69, I2, X1, Y1, Z1, B2, D2⟩ := OwT.at V1 I0 enc_len_uint32
             refine oy hS (y_index X1 Y1 Z1 underlying31 el_uint32.size) <| o_gu rfl rfl rfl <| oy hS (y_load (fun w hS => hS.own (mC (mB (mA (mX B2))))) underlying38 rfl (D2 0 _ rfl)) <| o_gu rfl rfl rfl <| oy hS y_bin <| oy hS y_pickT ?_
             refine o_split (ht := fun c76 => ?_) (hf := fun c76 => ?_)
             · replace hF := bt c76 hF
               refine o_gu rfl rfl rfl <| oy hS (y_field fa_api_State_2) <| o_gu rfl rfl rfl <| oy hS (y_load oH underlying31 rfl rfl) <| o_gu rfl rfl rfl <| oy hS (y_lenO M0 underlying31) <| o_gu rfl rfl rfl <| oy hS y_bin ?_
               refine oy hS y_pickT <| oy hS y_assign <| n_thenN ?_
               obtain rfl := osi hF
               exact wp_ret (wr1 hS)
             replace hF := bf c76 hF
             iterate 4 (refine o_sk rfl rfl ?_)
             refine oy hS y_pickF <| oy hS y_assign <| n_thenN ?_
             obtain rfl := osi hF
             exact wp_ret (wr1 hS)
           replace hF := bf c66 hF
           iterate 5 (refine o_sk rfl rfl ?_)
           refine oy hS y_pickF <| oy hS y_move ?_
           iterate 4 (refine o_sk rfl rfl ?_)
           refine oy hS y_pickF <| oy hS y_assign <| n_thenN ?_
           obtain rfl := osi hF
           exact wp_ret (wr1 hS)
         replace hF := bf c65 hF
         iterate 4 (refine o_sk rfl rfl ?_)
         refine oy hS y_pickF <| oy hS y_move ?_
         iterate 5 (refine o_sk rfl rfl ?_)
         refine oy hS y_pickF <| oy hS y_move ?_
         iterate 4 (refine o_sk rfl rfl ?_)
         refine oy hS y_pickF <| oy hS y_assign <| n_thenN ?_
         obtain rfl := osi hF
         exact wp_ret (wr1 hS)
       replace hF := bf c64 hF
       iterate 3 (refine o_sk rfl rfl ?_)
       refine oy hS y_pickF <| oy hS y_move ?_
       iterate 4 (refine o_sk rfl rfl ?_)
       refine oy hS y_pickF <| oy hS y_move ?_
       iterate 5 (refine o_sk rfl rfl ?_)
       refine oy hS y_pickF <| oy hS y_move ?_
       iterate 4 (refine o_sk rfl rfl ?_)
       refine oy hS y_pickF <| oy hS y_assign <| n_thenN ?_
       obtain rfl := osi hF
       exact wp_ret (wr1 hS)
     replace hF := bf c62 hF
     iterate 3 (refine o_sk rfl rfl ?_)
     refine oy hS y_pickF <| oy hS y_move ?_
     iterate 3 (refine o_sk rfl rfl ?_)
     refine oy hS y_pickF <| oy hS y_move ?_
     iterate 4 (refine o_sk rfl rfl ?_)
     refine oy hS y_pickF <| oy hS y_move ?_
     iterate 5 (refine o_sk rfl rfl ?_)
     refine oy hS y_pickF <| oy hS y_move ?_
     iterate 4 (refine o_sk rfl rfl ?_)
     refine oy hS y_pickF <| oy hS y_assign <| n_thenN ?_
     obtain rfl := osi hF
     exact wp_ret (wr1 hS)
   replace hF := bf c61 hF
   iterate 3 (refine o_sk rfl rfl ?_)
   refine oy hS y_pickF <| oy hS y_move ?_
   iterate 3 (refine o_sk rfl rfl ?_)
   refine oy hS y_pickF <| oy hS y_move ?_
   iterate 3 (refine o_sk rfl rfl ?_)
   refine oy hS y_pickF <| oy hS y_move ?_
   iterate 4 (refine o_sk rfl rfl ?_)
   refine oy hS y_pickF <| oy hS y_move ?_
   iterate 5 (refine o_sk rfl rfl ?_)
   refine oy hS y_pickF <| oy hS y_move ?_
   iterate 4 (refine o_sk rfl rfl ?_)
   refine oy hS y_pickF <| oy hS y_assign <| n_thenN ?_
   obtain rfl := osi hF
   exact wp_ret (wr1 hS)
 replace hF := bf c60 hF
 iterate 3 (refine o_sk rfl rfl ?_)
 refine oy hS y_pickF <| oy hS y_move ?_
 iterate 3 (refine o_sk rfl rfl ?_)
 refine oy hS y_pickF <| oy hS y_move ?_
 iterate 3 (refine o_sk rfl rfl ?_)
 refine oy hS y_pickF <| oy hS y_move ?_
 iterate 3 (refine o_sk rfl rfl ?_)
 refine oy hS y_pickF <| oy hS y_move ?_
 iterate 4 (refine o_sk rfl rfl ?_)
 refine oy hS y_pickF <| oy hS y_move ?_
 iterate 5 (refine o_sk rfl rfl ?_)
 refine oy hS y_pickF <| oy hS y_move ?_
 iterate 4 (refine o_sk rfl rfl ?_)
 refine oy hS y_pickF <| oy hS y_assign <| n_thenN ?_
 obtain rfl := osi hF
 exact wp_ret (wr1 hS)
theorem w_l20_wakes {g : Frag}  {r : Bool}  (hF : l20_wakes = some r) : LCs Try.prog 14 #[] g (.bool r) := w_l20_wakes_  hF
end Go.Proofs.Ytjmmkbehdbpklaa
