/- Functions, lifted. Printed by lift.py. -/
import Derived.Test.YtaplgcdpppcajaaDoorProg
import Derived.Test.YtaplgcdpppcajaaDoorP1
import Derived.KernelRfl
namespace Go.Proofs.YtaplgcdpppcajaaDoor
open Go Go.RowKit Fr
set_option linter.unusedVariables false
set_option linter.unusedSimpArgs false
set_option maxRecDepth 20000
open Tryd
set_option maxHeartbeats 2000000
noncomputable def r3_Text_b6 (D0 : (List ByteArray)) : (ByteArray × Int) → Option (Step (ByteArray × Int) ByteArray) := fun (E0, B0) => bif decide (B0 < (D0.length : Int)) then bif decide (B0 = 0) then (cat' E0 (ByteArray.mk #[32])).bind fun G0 => (at' D0 B0).bind fun I0 => (cat' G0 I0).bind fun J0 => some (.next (J0, IntKind.i64.wrap (B0 + 1))) else (cat' E0 (ByteArray.mk #[44, 32])).bind fun K0 => (at' D0 B0).bind fun M0 => (cat' K0 M0).bind fun N0 => some (.next (N0, IntKind.i64.wrap (B0 + 1))) else some (.done (E0))
noncomputable def r3_Text_k5 (a0 : T_Ins) : (List ByteArray) → Option ByteArray := fun B0 => (at' r3_Names a0.Op).bind fun D0 => loop (σ := (ByteArray × Int)) (r3_Text_b6 B0) (D0, 0)
noncomputable def r3_Text_k4 (r2 : Int) (a0 : T_Ins) : (List ByteArray) → Option ByteArray := fun x99 => cut (σ := (List ByteArray)) (bif decide (0 < (r3_Bits r2)) then (strconv_Itoa a0.Imm).bind fun K0 => bif !(decide (a0.Sym = (ByteArray.mk #[]))) then bif decide (0 < a0.Imm) then (cat' a0.Sym (ByteArray.mk #[43])).bind fun M0 => (strconv_Itoa a0.Imm).bind fun N0 => (cat' M0 N0).bind fun B0 => bif decide (a0.Imm < 0) then (strconv_Itoa a0.Imm).bind fun R0 => (cat' B0 R0).bind fun T0 => (app' x99 ([T0] : List ByteArray)).bind fun D0 => some (.next D0) else (app' x99 ([B0] : List ByteArray)).bind fun E0 => some (.next E0) else bif decide (a0.Imm < 0) then (strconv_Itoa a0.Imm).bind fun U0 => (cat' a0.Sym U0).bind fun V0 => (app' x99 ([V0] : List ByteArray)).bind fun G0 => some (.next G0) else (app' x99 ([a0.Sym] : List ByteArray)).bind fun I0 => some (.next I0) else (app' x99 ([K0] : List ByteArray)).bind fun J0 => some (.next J0) else some (.next x99)) (r3_Text_k5 a0)
noncomputable def r3_Text_k3 (r2 : Int) (a0 : T_Ins) : (List ByteArray) → Option ByteArray := fun x71 => cut (σ := (List ByteArray)) (bif decide (r2 = 1) then (r3_register a0.B).bind fun D0 => (app' x71 ([D0] : List ByteArray)).bind fun B0 => some (.next B0) else some (.next x71)) (r3_Text_k4 r2 a0)
noncomputable def r3_Text_k2 (r2 : Int) (a0 : T_Ins) : (List ByteArray) → Option ByteArray := fun x43 => cut (σ := (List ByteArray)) (bif (r3_HasA r2) then (r3_register a0.A).bind fun r79 => (app' x43 ([r79] : List ByteArray)).bind fun B0 => some (.next B0) else some (.next x43)) (r3_Text_k3 r2 a0)
noncomputable def r3_Text_k1 (r2 : Int) (a0 : T_Ins) : (List ByteArray) → Option ByteArray := fun x14 => cut (σ := (List ByteArray)) (bif decide (r2 = 5) then (r3_register a0.B).bind fun r51 => (app' x14 ([r51] : List ByteArray)).bind fun B0 => some (.next B0) else some (.next x14)) (r3_Text_k2 r2 a0)
noncomputable def r3_Text (a0 : T_Ins) : Option ByteArray :=
  (r3_Form a0.Op).bind fun r2 => (r3_register a0.D).bind fun r3 => cut (σ := (List ByteArray)) (bif (r3_HasD r2) then (app' ([]) ([r3] : List ByteArray)).bind fun B0 => some (.next B0) else some (.next ([]))) (r3_Text_k1 r2 a0)
theorem w_r3_Text_ {g : Frag} {a0 : T_Ins} {r : ByteArray} (hG : GT g) (hF : r3_Text a0 = some r) : LCs Tryd.prog 18 #[.agg (enc_Ins a0).toArray] g (.string r) := by
 unfold r3_Text at hF
 refine lc_body (k := 105) (av := [.agg (enc_Ins a0).toArray]) func18 rfl rfl (h := fun W hS => ?_)
 refine c_seq <| c_region ?_
 refine o_boxP (cl := (enc_Ins a0)) rfl hS ?_
 clear hS; intro b1 w hS
 refine oy hS y_assign <| n_thenN <| c_seq <| c_region <| oy hS (y_field fa_api_Ins_0) <| oy hS (y_load oH underlying3 rfl rfl) ?_
 obtain ⟨r2, hr2, hF⟩ := ob hF
 refine o_callS hS func6 rfl rfl (hc := (w_r3_Form (a0 := a0.Op) (hF := hr2))) (h := ?_)
 clear hS; intro w hS
 refine oy hS y_assign <| n_thenN <| c_seq <| c_region <| oy hS y_assign <| n_thenN <| c_seq <| c_region ?_
 refine oy hS (y_field fa_api_Ins_1) <| oy hS (y_load oH underlying3 rfl rfl) ?_
 obtain ⟨r3, hr3, hF⟩ := ob hF
 refine o_callS hS func57 rfl rfl (hc := (w_r3_register (a0 := a0.D) (hG := hG.plus) (hF := hr3))) (h := ?_)
 clear hS; intro w hS
 refine oy hS y_assign <| n_thenN ?_
 obtain ⟨z19, hF, T1⟩ := cut_step hF
 refine c_cutP (fun a w' => ∃ (x14 : (List ByteArray)) (v15 : Value) (G0 : Own), r3_Text_k1 r2 a0 x14 = some r ∧ OwT 9 enc_string 1 x14 v15 G0 ∧ (∃ s : Nat → Value, a = Ac ((((Fm.dead 105 s).upd 1 (.pointer (some ⟨b1, 0, none⟩))).upd 3 (.int .i64 r2)).upd 4 v15)) ∧ St W g [] ((b1, blk (enc_Ins a0) 27) :: (G0 ++ [])) w') ?_ ?_
 · skip
   refine c_seq <| c_region <| oy hS y_move ?_
   refine o_callS hS func7 rfl rfl (hc := (w_r3_HasD (a0 := r2))) (h := ?_)
   clear hS; intro w hS
   refine n_thenN ?_
   refine c_if (ht := fun c21 => ?_) (hf := fun c21 => ?_)
   · replace hF := bt c21 hF
     refine c_region ?_
     iterate 2 (refine oy hS y_move ?_)
     refine o_buildT val_string ([r3] : List ByteArray) hS el_string (fun _ => rfl) enc_len_string (by decide) rfl (by decide) (hp := rfl) (h := ?_)
     clear hS; intro b22 w hS h23
     have hS : St W g [] ([(b22, blk (([r3] : List ByteArray).flatMap enc_string) 9)] ++ ((b1, blk (enc_Ins a0) 27) :: [])) w := hS
     obtain ⟨E5, G2, hF⟩ := ob hF
     refine o_appPn (ys := ([r3] : List ByteArray)) (LX := []) G2 hS el_string (OwT.nil _ _ _) rfl enc_len_string (enc_ones_string _) (by decide) ?_
     clear hS; intro v26 G5 w h28 hS
     refine oy hS y_assign <| n_thenN ?_
     obtain rfl := osi hF
     change ∃ _, _
     exact ⟨E5, v26, G5, T1, h28, mk_exF, (hS.re (.b (.d .hb) (.t .h .n)))⟩
   replace hF := bf c21 hF
   refine wp_skip ?_
   obtain rfl := osi hF
   change ∃ _, _
   exact ⟨[], (.slice none 0 0), [], T1, (OwT.nil _ _ _), mk_exF, (hS.re (.b .hb (.take (X := []) (.here [] _) .n)))⟩
 rintro a w ⟨x14, v15, G0, hF, h16, ⟨s32, rfl⟩, hS⟩
 dsimp only [r3_Text_k1] at hF
 obtain ⟨z48, hF, U1⟩ := cut_step hF
 refine c_cutP (fun a w' => ∃ (x43 : (List ByteArray)) (v44 : Value) (I0 : Own), r3_Text_k2 r2 a0 x43 = some r ∧ OwT 9 enc_string 1 x43 v44 I0 ∧ (∃ s : Nat → Value, a = Ac ((((Fm.dead 105 s).upd 1 (.pointer (some ⟨b1, 0, none⟩))).upd 3 (.int .i64 r2)).upd 4 v44)) ∧ St W g [] ((b1, blk (enc_Ins a0) 27) :: (I0 ++ [])) w') ?_ ?_
 · skip
   refine c_seq <| c_region <| oy hS y_move <| oy hS y_bin <| n_thenN ?_
   refine c_if (ht := fun c50 => ?_) (hf := fun c50 => ?_)
   · replace hF := bt c50 hF
     refine c_region <| oy hS y_move <| oy hS (y_field fa_api_Ins_3) <| oy hS (y_load oH underlying3 rfl rfl) ?_
     obtain ⟨r51, I5, hF⟩ := ob hF
     refine o_callS hS func57 rfl rfl (hc := (w_r3_register (a0 := a0.B) (hG := hG.plus) (hF := I5))) (h := ?_)
     clear hS; intro w hS
     refine o_buildT val_string ([r51] : List ByteArray) hS el_string (fun _ => rfl) enc_len_string (by decide) rfl (by decide) (hp := rfl) (h := ?_)
     clear hS; intro b52 w hS h53
     have hS : St W g [] ([(b52, blk (([r51] : List ByteArray).flatMap enc_string) 9)] ++ ((b1, blk (enc_Ins a0) 27) :: (G0 ++ []))) w := hS
     obtain ⟨J5, I2, hF⟩ := ob hF
     have hS := hS.re (.t .h (.t (.e .h) (.b .hb .n)))
     refine o_appPn (ys := ([r51] : List ByteArray)) (LX := G0) I2 hS el_string h16 rfl enc_len_string (enc_ones_string _) (by decide) ?_
     clear hS; intro v55 K5 w h57 hS
     refine oy hS y_assign <| n_thenN ?_
     obtain rfl := osi hF
     change ∃ _, _
     exact ⟨J5, v55, K5, U1, h57, mk_exF, (hS.re (.b (.d .hb) (.t .h .n)))⟩
   replace hF := bf c50 hF
   refine wp_skip ?_
   obtain rfl := osi hF
   change ∃ _, _
   exact ⟨x14, v15, G0, U1, h16, mk_exF, (hS.re (.b .hb (.t .h .n)))⟩
 rintro a w ⟨x43, v44, I0, hF, h45, ⟨s60, rfl⟩, hS⟩
 dsimp only [r3_Text_k2] at hF
 obtain ⟨z76, hF, V1⟩ := cut_step hF
 refine c_cutP (fun a w' => ∃ (x71 : (List ByteArray)) (v72 : Value) (J0 : Own), r3_Text_k3 r2 a0 x71 = some r ∧ OwT 9 enc_string 1 x71 v72 J0 ∧ (∃ s : Nat → Value, a = Ac ((((Fm.dead 105 s).upd 1 (.pointer (some ⟨b1, 0, none⟩))).upd 3 (.int .i64 r2)).upd 4 v72)) ∧ St W g [] ((b1, blk (enc_Ins a0) 27) :: (J0 ++ [])) w') ?_ ?_
 · skip
   refine c_seq <| c_region <| oy hS y_move ?_
   refine o_callS hS func8 rfl rfl (hc := (w_r3_HasA (a0 := r2))) (h := ?_)
   clear hS; intro w hS
   refine n_thenN ?_
   refine c_if (ht := fun c78 => ?_) (hf := fun c78 => ?_)
   · replace hF := bt c78 hF
     refine c_region <| oy hS y_move <| oy hS (y_field fa_api_Ins_2) <| oy hS (y_load oH underlying3 rfl rfl) ?_
     obtain ⟨r79, M5, hF⟩ := ob hF
     refine o_callS hS func57 rfl rfl (hc := (w_r3_register (a0 := a0.A) (hG := hG.plus) (hF := M5))) (h := ?_)
     clear hS; intro w hS
     refine o_buildT val_string ([r79] : List ByteArray) hS el_string (fun _ => rfl) enc_len_string (by decide) rfl (by decide) (hp := rfl) (h := ?_)
     clear hS; intro b80 w hS h81
     have hS : St W g [] ([(b80, blk (([r79] : List ByteArray).flatMap enc_string) 9)] ++ ((b1, blk (enc_Ins a0) 27) :: (I0 ++ []))) w := hS
     obtain ⟨N5, J2, hF⟩ := ob hF
     have hS := hS.re (.t .h (.t (.e .h) (.b .hb .n)))
     refine o_appPn (ys := ([r79] : List ByteArray)) (LX := I0) J2 hS el_string h45 rfl enc_len_string (enc_ones_string _) (by decide) ?_
     clear hS; intro v83 R5 w h85 hS
     refine oy hS y_assign <| n_thenN ?_
     obtain rfl := osi hF
     change ∃ _, _
     exact ⟨N5, v83, R5, V1, h85, mk_exF, (hS.re (.b (.d .hb) (.t .h .n)))⟩
   replace hF := bf c78 hF
   refine wp_skip ?_
   obtain rfl := osi hF
   change ∃ _, _
   exact ⟨x43, v44, I0, V1, h45, mk_exF, (hS.re (.b .hb (.t .h .n)))⟩
 rintro a w ⟨x71, v72, J0, hF, h73, ⟨s88, rfl⟩, hS⟩
 dsimp only [r3_Text_k3] at hF
 obtain ⟨B7, hF, R1⟩ := cut_step hF
 refine c_cutP (fun a w' => ∃ (x99 : (List ByteArray)) (M0 : Value) (B0 : Own), r3_Text_k4 r2 a0 x99 = some r ∧ OwT 9 enc_string 1 x99 M0 B0 ∧ (∃ s : Nat → Value, a = Ac ((((Fm.dead 105 s).upd 1 (.pointer (some ⟨b1, 0, none⟩))).upd 3 (.int .i64 r2)).upd 4 M0)) ∧ St W g [] ((b1, blk (enc_Ins a0) 27) :: (B0 ++ [])) w') ?_ ?_
 · skip
   refine c_seq <| c_region <| oy hS y_move <| oy hS y_bin <| n_thenN ?_
   refine c_if (ht := fun T0 => ?_) (hf := fun T0 => ?_)
   · replace hF := bt T0 hF
     refine c_region <| oy hS y_move <| oy hS (y_field fa_api_Ins_3) <| oy hS (y_load oH underlying3 rfl rfl) ?_
     obtain ⟨U0, K2, hF⟩ := ob hF
     refine o_callS hS func57 rfl rfl (hc := (w_r3_register (a0 := a0.B) (hG := hG.plus) (hF := K2))) (h := ?_)
     clear hS; intro w hS
     refine o_buildT val_string ([U0] : List ByteArray) hS el_string (fun _ => rfl) enc_len_string (by decide) rfl (by decide) (hp := rfl) (h := ?_)
     clear hS; intro T5 w hS D7
     have hS : St W g [] ([(T5, blk (([U0] : List ByteArray).flatMap enc_string) 9)] ++ ((b1, blk (enc_Ins a0) 27) :: (J0 ++ []))) w := hS
     obtain ⟨M2, X1, hF⟩ := ob hF
     have hS := hS.re (.t .h (.t (.e .h) (.b .hb .n)))
     refine o_appPn (ys := ([U0] : List ByteArray)) (LX := J0) X1 hS el_string h73 rfl enc_len_string (enc_ones_string _) (by decide) ?_
     clear hS; intro U5 N2 w V5 hS
     refine oy hS y_assign <| n_thenN ?_
     obtain rfl := osi hF
     change ∃ _, _
     exact ⟨M2, U5, N2, R1, V5, mk_exF, (hS.re (.b (.d .hb) (.t .h .n)))⟩
   replace hF := bf T0 hF
   refine wp_skip ?_
   obtain rfl := osi hF
   change ∃ _, _
   exact ⟨x71, v72, J0, R1, h73, mk_exF, (hS.re (.b .hb (.t .h .n)))⟩
 rintro a w ⟨x99, M0, B0, hF, K0, ⟨E7, rfl⟩, hS⟩
 dsimp only [r3_Text_k4] at hF
 obtain ⟨G7, hF, D0⟩ := cut_step hF
 refine c_cutP (fun a w' => ∃ (V0 : (List ByteArray)) (N0 : Value) (E0 : Own), r3_Text_k5 a0 V0 = some r ∧ OwT 9 enc_string 1 V0 N0 E0 ∧ (∃ s : Nat → Value, a = Ac (((Fm.dead 105 s).upd 1 (.pointer (some ⟨b1, 0, none⟩))).upd 4 N0)) ∧ St W g [] ((b1, blk (enc_Ins a0) 27) :: (E0 ++ [])) w') ?_ ?_
 · skip
   refine c_seq <| c_region <| oy hS y_move ?_
   refine o_callS hS func46 rfl rfl (hc := (w_r3_Bits (a0 := r2))) (h := ?_)
   clear hS; intro w hS
   refine oy hS y_bin <| n_thenN ?_
   refine c_if (ht := fun X0 => ?_) (hf := fun X0 => ?_)
   · replace hF := bt X0 hF
     refine c_seq <| c_region <| oy hS (y_field fa_api_Ins_4) <| oy hS (y_load oH underlying3 rfl rfl) ?_
     obtain ⟨Y0, R2, hF⟩ := ob hF
     refine o_callS hS func49 rfl rfl (hc := (w_strconv_Itoa (a0 := a0.Imm) (hG := hG.plus) (hF := R2))) (h := ?_)
     clear hS; intro w hS
     refine oy hS y_assign <| n_thenN ?_
     iterate 2 (refine c_seq ?_)
     refine c_region <| oy hS (y_field fa_api_Ins_5) <| oy hS (y_load oH underlying9 rfl rfl) <| oy hS y_sneq <| n_thenN ?_
     refine c_if (ht := fun Z0 => ?_) (hf := fun Z0 => ?_)
     · replace hF := bt Z0 hF
       refine c_seq <| c_region <| oy hS (y_field fa_api_Ins_5) <| oy hS (y_load oH underlying9 rfl rfl) <| oy hS y_assign <| n_thenN ?_
       iterate 2 (refine c_seq ?_)
       refine c_region <| oy hS (y_field fa_api_Ins_4) <| oy hS (y_load oH underlying3 rfl rfl) <| oy hS y_bin <| n_thenN ?_
       refine c_if (ht := fun B1 => ?_) (hf := fun B1 => ?_)
       · replace hF := bt B1 hF
         refine c_region <| oy hS y_move ?_
         obtain ⟨I7, T2, hF⟩ := ob hF
         refine oy hS (y_cat T2) <| oy hS (y_field fa_api_Ins_4) <| oy hS (y_load oH underlying3 rfl rfl) ?_
         obtain ⟨J7, U2, hF⟩ := ob hF
         refine o_callS hS func49 rfl rfl (hc := (w_strconv_Itoa (a0 := a0.Imm) (hG := hG.plus) (hF := U2))) (h := ?_)
         clear hS; intro w hS
         obtain ⟨D1, V2, hF⟩ := ob hF
         refine oy hS (y_cat V2) <| oy hS y_assign <| n_thenN <| c_seq <| c_region <| oy hS (y_field fa_api_Ins_4) <| oy hS (y_load oH underlying3 rfl rfl) <| oy hS y_bin ?_
         refine n_thenN ?_
         refine c_if (ht := fun E1 => ?_) (hf := fun E1 => ?_)
         · replace hF := bt E1 hF
           refine c_region <| oy hS y_move <| oy hS (y_field fa_api_Ins_4) <| oy hS (y_load oH underlying3 rfl rfl) ?_
           obtain ⟨K7, X2, hF⟩ := ob hF
           refine o_callS hS func49 rfl rfl (hc := (w_strconv_Itoa (a0 := a0.Imm) (hG := hG.plus) (hF := X2))) (h := ?_)
           clear hS; intro w hS
           obtain ⟨G1, Y2, hF⟩ := ob hF
           refine oy hS (y_cat Y2) <| oy hS y_assign <| n_thenN <| c_region ?_
           iterate 2 (refine oy hS y_move ?_)
           refine o_buildT val_string ([G1] : List ByteArray) hS el_string (fun _ => rfl) enc_len_string (by decide) rfl (by decide) (hp := rfl) (h := ?_)
           clear hS; intro X5 w hS M7
           have hS : St W g [] ([(X5, blk (([G1] : List ByteArray).flatMap enc_string) 9)] ++ ((b1, blk (enc_Ins a0) 27) :: (B0 ++ []))) w := hS
           obtain ⟨Z2, Y1, hF⟩ := ob hF
           have hS := hS.re (.t .h (.t (.e .h) (.b .hb .n)))
           refine o_appPn (ys := ([G1] : List ByteArray)) (LX := B0) Y1 hS el_string K0 rfl enc_len_string (enc_ones_string _) (by decide) ?_
           clear hS; intro Y5 B3 w Z5 hS
           refine oy hS y_assign <| n_thenN ?_
           obtain rfl := osi hF
           change ∃ _, _
           exact ⟨Z2, Y5, B3, D0, Z5, mk_exF, (hS.re (.b (.d .hb) (.t .h .n)))⟩
         replace hF := bf E1 hF
         refine wp_skip <| c_region ?_
         iterate 2 (refine oy hS y_move ?_)
         refine o_buildT val_string ([D1] : List ByteArray) hS el_string (fun _ => rfl) enc_len_string (by decide) rfl (by decide) (hp := rfl) (h := ?_)
         clear hS; intro B6 w hS N7
         have hS : St W g [] ([(B6, blk (([D1] : List ByteArray).flatMap enc_string) 9)] ++ ((b1, blk (enc_Ins a0) 27) :: (B0 ++ []))) w := hS
         obtain ⟨D3, Z1, hF⟩ := ob hF
         have hS := hS.re (.t .h (.t (.e .h) (.b .hb .n)))
         refine o_appPn (ys := ([D1] : List ByteArray)) (LX := B0) Z1 hS el_string K0 rfl enc_len_string (enc_ones_string _) (by decide) ?_
         clear hS; intro D6 E3 w E6 hS
         refine oy hS y_assign <| n_thenN ?_
         obtain rfl := osi hF
         change ∃ _, _
         exact ⟨D3, D6, E3, D0, E6, mk_exF, (hS.re (.b (.d .hb) (.t .h .n)))⟩
       replace hF := bf B1 hF
       refine wp_skip <| c_seq <| c_region <| oy hS (y_field fa_api_Ins_4) <| oy hS (y_load oH underlying3 rfl rfl) <| oy hS y_bin <| n_thenN ?_
       refine c_if (ht := fun I1 => ?_) (hf := fun I1 => ?_)
       · replace hF := bt I1 hF
         refine c_region <| oy hS y_move <| oy hS (y_field fa_api_Ins_4) <| oy hS (y_load oH underlying3 rfl rfl) ?_
         obtain ⟨R7, G3, hF⟩ := ob hF
         refine o_callS hS func49 rfl rfl (hc := (w_strconv_Itoa (a0 := a0.Imm) (hG := hG.plus) (hF := G3))) (h := ?_)
         clear hS; intro w hS
         obtain ⟨J1, I3, hF⟩ := ob hF
         refine oy hS (y_cat I3) <| oy hS y_assign <| n_thenN <| c_region ?_
         iterate 2 (refine oy hS y_move ?_)
         refine o_buildT val_string ([J1] : List ByteArray) hS el_string (fun _ => rfl) enc_len_string (by decide) rfl (by decide) (hp := rfl) (h := ?_)
         clear hS; intro G6 w hS T7
         have hS : St W g [] ([(G6, blk (([J1] : List ByteArray).flatMap enc_string) 9)] ++ ((b1, blk (enc_Ins a0) 27) :: (B0 ++ []))) w := hS
         obtain ⟨J3, B2, hF⟩ := ob hF
         have hS := hS.re (.t .h (.t (.e .h) (.b .hb .n)))
         refine o_appPn (ys := ([J1] : List ByteArray)) (LX := B0) B2 hS el_string K0 rfl enc_len_string (enc_ones_string _) (by decide) ?_
         clear hS; intro I6 K3 w J6 hS
         refine oy hS y_assign <| n_thenN ?_
         obtain rfl := osi hF
         change ∃ _, _
         exact ⟨J3, I6, K3, D0, J6, mk_exF, (hS.re (.b (.d .hb) (.t .h .n)))⟩
       replace hF := bf I1 hF
       refine wp_skip <| c_region ?_
       iterate 2 (refine oy hS y_move ?_)
       refine o_buildT val_string ([a0.Sym] : List ByteArray) hS el_string (fun _ => rfl) enc_len_string (by decide) rfl (by decide) (hp := rfl) (h := ?_)
       clear hS; intro K6 w hS U7
       have hS : St W g [] ([(K6, blk (([a0.Sym] : List ByteArray).flatMap enc_string) 9)] ++ ((b1, blk (enc_Ins a0) 27) :: (B0 ++ []))) w := hS
       obtain ⟨M3, D2, hF⟩ := ob hF
       have hS := hS.re (.t .h (.t (.e .h) (.b .hb .n)))
       refine o_appPn (ys := ([a0.Sym] : List ByteArray)) (LX := B0) D2 hS el_string K0 rfl enc_len_string (enc_ones_string _) (by decide) ?_
       clear hS; intro M6 N3 w N6 hS
       refine oy hS y_assign <| n_thenN ?_
       obtain rfl := osi hF
       change ∃ _, _
       exact ⟨M3, M6, N3, D0, N6, mk_exF, (hS.re (.b (.d .hb) (.t .h .n)))⟩
     replace hF := bf Z0 hF
     refine wp_skip <| c_region ?_
     iterate 2 (refine oy hS y_move ?_)
     refine o_buildT val_string ([Y0] : List ByteArray) hS el_string (fun _ => rfl) enc_len_string (by decide) rfl (by decide) (hp := rfl) (h := ?_)
     clear hS; intro R6 w hS V7
     have hS : St W g [] ([(R6, blk (([Y0] : List ByteArray).flatMap enc_string) 9)] ++ ((b1, blk (enc_Ins a0) 27) :: (B0 ++ []))) w := hS
     obtain ⟨R3, E2, hF⟩ := ob hF
     have hS := hS.re (.t .h (.t (.e .h) (.b .hb .n)))
     refine o_appPn (ys := ([Y0] : List ByteArray)) (LX := B0) E2 hS el_string K0 rfl enc_len_string (enc_ones_string _) (by decide) ?_
     clear hS; intro T6 T3 w U6 hS
     refine oy hS y_assign <| n_thenN ?_
     obtain rfl := osi hF
     change ∃ _, _
     exact ⟨R3, T6, T3, D0, U6, mk_exF, (hS.re (.b (.d .hb) (.t .h .n)))⟩
   replace hF := bf X0 hF
   refine wp_skip ?_
   obtain rfl := osi hF
   change ∃ _, _
   exact ⟨x99, M0, B0, D0, K0, mk_exF, (hS.re (.b .hb (.t .h .n)))⟩
 rintro a w ⟨V0, N0, E0, hF, K1, ⟨X7, rfl⟩, hS⟩
 dsimp only [r3_Text_k5] at hF
 refine c_seq ?_
 refine c_heldL 6 6 (by kernel_rfl) rfl hS ?_
 clear hS; intro w hS
 refine hy0 1 rfl wn (by kernel_rfl) (nq (P := Tryd.prog) (fn := Tryd.f18)) (fun _ => hS.cb) (y_field fa_api_Ins_0) ?_
 refine hy 2 rfl wn (by kernel_rfl) (nq (P := Tryd.prog) (fn := Tryd.f18)) hS.cb (y_load (fun w hS => hS.own (mH)) underlying3 rfl rfl) ?_
 refine hb1 0 (by kernel_rfl) (hb_op rfl wn (nl (P := Tryd.prog) (fn := Tryd.f18)) ?_)
 refine o_call0 hS func27 rfl rfl (hc := (w_r3_Names )) (h := ?_)
 clear hS; intro Y7 V6 w hS U3
 obtain ⟨v_0_234, LX_0_235, rfl, rfl, h_0_236⟩ := U3
 simp only [aa, ac, al] at hS
 have hC := (hS.re (.b (.d .hb) (.t (.d .h) .n))).cb
 refine hb_next (fun _ => hC) ?_
 obtain ⟨Z7, V3, hF⟩ := ob hF
 obtain ⟨B8, D8, X6, X3, Y3, Z3, B4, D4⟩ := OwT.at V3 h_0_236 enc_len_string
 refine hy0 3 rfl wn (by kernel_rfl) (nq (P := Tryd.prog) (fn := Tryd.f18)) (fun _ => hC) (y_index X3 Y3 Z3 underlying23 el_string.size) ?_
 refine hb_up (CB g (LX_0_235 ++ ((b1, blk (enc_Ins a0) 27) :: (E0 ++ [])))) (fun w h => h.sub (.b (.d .hb) (.t (.d .h) .n))) ?_
 refine hy 4 rfl wn (by kernel_rfl) (nq (P := Tryd.prog) (fn := Tryd.f18)) hS.cb (y_load (fun w hS => hS.own (mA (mX B4))) underlying9 rfl (D4 0 _ rfl)) ?_
 refine hy0 5 rfl wn (by kernel_rfl) (nq (P := Tryd.prog) (fn := Tryd.f18)) (fun _ => hS.cb) y_assign ?_
 refine hb_done (by kernel_rfl) ?_
 iterate 2 (refine c_seq ?_)
 refine c_region <| oy hS y_assign <| n_thenN <| c_block ?_
 refine c_loopP hF (fun (q : (ByteArray × Int)) a w' => (∃ s : Nat → Value, a = Ac ((((Fm.dead 105 s).upd 4 N0).upd 7 (.string q.1)).upd 8 (.int .i64 q.2))) ∧ St W g [] (E0 ++ []) w') ⟨mk_exF, (hS.re (.t (.d (.e .h)) .n))⟩ ?_
 clear hS hF
 intro E8 q a w hI hq
 obtain ⟨G8, I8⟩ := q
 obtain ⟨⟨J8, rfl⟩, hS⟩ := hq
 obtain ⟨K8, hF, R0⟩ := iter_step hI
 clear hI
 dsimp only [r3_Text_b6] at hF
 iterate 2 (refine c_seq ?_)
 refine c_region ?_
 iterate 2 (refine oy hS y_move ?_)
 refine oy hS (y_lenO K1 underlying23) <| oy hS y_bin <| n_thenN ?_
 refine c_if (ht := fun M1 => ?_) (hf := fun M1 => ?_)
 · replace hF := bt M1 hF
   refine wp_skip <| c_seq <| c_block <| c_seq <| c_region <| oy hS y_move <| oy hS y_bin <| n_thenN ?_
   refine c_if (ht := fun N1 => ?_) (hf := fun N1 => ?_)
   · replace hF := bt N1 hF
     refine c_region <| oy hS y_move ?_
     obtain ⟨M8, E4, hF⟩ := ob hF
     refine oy hS (y_cat E4) ?_
     iterate 2 (refine oy hS y_move ?_)
     obtain ⟨N8, G4, hF⟩ := ob hF
     obtain ⟨R8, T8, Y6, I4, J4, K4, M4, N4⟩ := OwT.at G4 K1 enc_len_string
     refine oy hS (y_index I4 J4 K4 underlying23 el_string.size) <| oy hS (y_load (fun w hS => hS.own (mA (mX M4))) underlying9 rfl (N4 0 _ rfl)) ?_
     obtain ⟨U8, R4, hF⟩ := ob hF
     refine oy hS (y_cat R4) <| oy hS y_assign ?_
     refine n_anyN ?_
     refine c_region <| oy hS y_move <| oy hS y_bin <| oy hS y_assign <| n_thenN ?_
     obtain rfl := osi hF
     exact ⟨_, R0, mk_exF, (hS.re (.t .h .n))⟩
   replace hF := bf N1 hF
   refine c_region <| oy hS y_move ?_
   obtain ⟨V8, T4, hF⟩ := ob hF
   refine oy hS (y_cat T4) ?_
   iterate 2 (refine oy hS y_move ?_)
   obtain ⟨X8, U4, hF⟩ := ob hF
   obtain ⟨Y8, Z8, Z6, V4, X4, Y4, Z4, B5⟩ := OwT.at U4 K1 enc_len_string
   refine oy hS (y_index V4 X4 Y4 underlying23 el_string.size) <| oy hS (y_load (fun w hS => hS.own (mA (mX Z4))) underlying9 rfl (B5 0 _ rfl)) ?_
   obtain ⟨B9, D5, hF⟩ := ob hF
   refine oy hS (y_cat D5) <| oy hS y_assign ?_
   refine n_anyN ?_
   refine c_region <| oy hS y_move <| oy hS y_bin <| oy hS y_assign <| n_thenN ?_
   obtain rfl := osi hF
   exact ⟨_, R0, mk_exF, (hS.re (.t .h .n))⟩
 replace hF := bf M1 hF
 refine wp_exit ?_
 refine c_seq <| c_region <| oy hS y_move <| oy hS y_assign <| n_thenN ?_
 obtain rfl := osi hF
 obtain rfl : _ = r := R0
 exact wp_ret (wr1 hS)
theorem w_r3_Text {g : Frag} {a0 : T_Ins} {r : ByteArray} (hG : GT g) (hF : r3_Text a0 = some r) : LCs Tryd.prog 18 #[.agg (enc_Ins a0).toArray] g (.string r) := w_r3_Text_ hG hF

noncomputable def r3_Reads (a0 : T_Ins) : Option (List Int) :=
  (r3_Form a0.Op).bind fun r2 => bif (r3_HasA r2) then (app' ([]) ([a0.A] : List Int)).bind fun B0 => bif (r3_HasB r2) then (app' B0 ([a0.B] : List Int)).bind fun D0 => some (D0) else some (B0) else bif (r3_HasB r2) then (app' ([]) ([a0.B] : List Int)).bind fun E0 => some (E0) else some ([])
theorem w_r3_Reads_ {g : Frag} {a0 : T_Ins} {r : (List Int)}  (hF : r3_Reads a0 = some r) : LC Tryd.prog 19 #[.agg (enc_Ins a0).toArray] g [] (fun v L => ∃ (u0 : Value) (M0 : Own), u0 = v ∧ L = (M0 ++ []) ∧ OwT 3 enc_int 1 r u0 M0) := by
 unfold r3_Reads at hF
 refine lc_body (k := 23) (av := [.agg (enc_Ins a0).toArray]) func19 rfl rfl (h := fun W hS => ?_)
 refine c_seq <| c_region ?_
 refine o_boxP (cl := (enc_Ins a0)) rfl hS ?_
 clear hS; intro b1 w hS
 refine oy hS y_assign <| n_thenN <| c_seq <| c_region <| oy hS y_assign <| n_thenN <| c_seq <| c_region ?_
 refine oy hS (y_field fa_api_Ins_0) <| oy hS (y_load oH underlying3 rfl rfl) ?_
 obtain ⟨r2, hr2, hF⟩ := ob hF
 refine o_callS hS func6 rfl rfl (hc := (w_r3_Form (a0 := a0.Op) (hF := hr2))) (h := ?_)
 clear hS; intro w hS
 refine oy hS y_assign <| n_thenN ?_
 iterate 2 (refine c_seq ?_)
 refine c_region <| oy hS y_move ?_
 refine o_callS hS func8 rfl rfl (hc := (w_r3_HasA (a0 := r2))) (h := ?_)
 clear hS; intro w hS
 refine n_thenN ?_
 refine c_if (ht := fun c3 => ?_) (hf := fun c3 => ?_)
 · replace hF := bt c3 hF
   refine c_region <| oy hS y_move <| oy hS (y_field fa_api_Ins_2) <| oy hS (y_load oH underlying3 rfl rfl) ?_
   refine o_buildT val_int ([a0.A] : List Int) hS el_int (fun _ => rfl) enc_len_int (by decide) rfl (by decide) (hp := rfl) (h := ?_)
   clear hS; intro b4 w hS h5
   have hS : St W g [] ([(b4, blk (([a0.A] : List Int).flatMap enc_int) 3)] ++ ((b1, blk (enc_Ins a0) 27) :: [])) w := hS
   obtain ⟨G0, B0, hF⟩ := ob hF
   refine o_appPn (ys := ([a0.A] : List Int)) (LX := []) B0 hS el_int (OwT.nil _ _ _) rfl enc_len_int (enc_ones_int _) (by decide) ?_
   clear hS; intro v8 LX9 w h10 hS
   refine oy hS y_assign <| n_thenN ?_
   iterate 2 (refine c_seq ?_)
   refine c_region <| oy hS y_move ?_
   refine o_callS hS func9 rfl rfl (hc := (w_r3_HasB (a0 := r2))) (h := ?_)
   clear hS; intro w hS
   refine n_thenN ?_
   refine c_if (ht := fun c13 => ?_) (hf := fun c13 => ?_)
   · replace hF := bt c13 hF
     refine c_region <| oy hS y_move <| oy hS (y_field fa_api_Ins_3) <| oy hS (y_load (fun w hS => hS.own (mB (mH))) underlying3 rfl rfl) ?_
     refine o_buildT val_int ([a0.B] : List Int) hS el_int (fun _ => rfl) enc_len_int (by decide) rfl (by decide) (hp := rfl) (h := ?_)
     clear hS; intro b14 w hS h15
     have hS : St W g [] ([(b14, blk (([a0.B] : List Int).flatMap enc_int) 3)] ++ (LX9 ++ ((b1, blk (enc_Ins a0) 27) :: []))) w := hS
     obtain ⟨I0, D0, hF⟩ := ob hF
     refine o_appPn (ys := ([a0.B] : List Int)) (LX := LX9) D0 hS el_int h10 rfl enc_len_int (enc_ones_int _) (by decide) ?_
     clear hS; intro v17 J0 w h19 hS
     refine oy hS y_assign <| n_thenN <| c_seq <| c_region <| oy hS y_move <| oy hS y_assign <| n_thenN ?_
     obtain rfl := osi hF
     refine wp_ret (r_ret (vs := [v17]) (hS.re (.t .h .n)) (rsC res_tmp rsN) rfl ⟨_, _, rfl, (by first | rfl | simp only [aa, ac, al, an]), h19⟩)
   replace hF := bf c13 hF
   refine wp_skip <| c_seq <| c_region <| oy hS y_move <| oy hS y_assign <| n_thenN ?_
   obtain rfl := osi hF
   refine wp_ret (r_ret (vs := [v8]) (hS.re (.t .h .n)) (rsC res_tmp rsN) rfl ⟨_, _, rfl, (by first | rfl | simp only [aa, ac, al, an]), h10⟩)
 replace hF := bf c3 hF
 refine wp_skip ?_
 iterate 2 (refine c_seq ?_)
 refine c_region <| oy hS y_move ?_
 refine o_callS hS func9 rfl rfl (hc := (w_r3_HasB (a0 := r2))) (h := ?_)
 clear hS; intro w hS
 refine n_thenN ?_
 refine c_if (ht := fun c22 => ?_) (hf := fun c22 => ?_)
 · replace hF := bt c22 hF
   refine c_region <| oy hS y_move <| oy hS (y_field fa_api_Ins_3) <| oy hS (y_load oH underlying3 rfl rfl) ?_
   refine o_buildT val_int ([a0.B] : List Int) hS el_int (fun _ => rfl) enc_len_int (by decide) rfl (by decide) (hp := rfl) (h := ?_)
   clear hS; intro b23 w hS h24
   have hS : St W g [] ([(b23, blk (([a0.B] : List Int).flatMap enc_int) 3)] ++ ((b1, blk (enc_Ins a0) 27) :: [])) w := hS
   obtain ⟨K0, E0, hF⟩ := ob hF
   refine o_appPn (ys := ([a0.B] : List Int)) (LX := []) E0 hS el_int (OwT.nil _ _ _) rfl enc_len_int (enc_ones_int _) (by decide) ?_
   clear hS; intro v27 N0 w h29 hS
   refine oy hS y_assign <| n_thenN <| c_seq <| c_region <| oy hS y_move <| oy hS y_assign <| n_thenN ?_
   obtain rfl := osi hF
   refine wp_ret (r_ret (vs := [v27]) (hS.re (.t .h .n)) (rsC res_tmp rsN) rfl ⟨_, _, rfl, (by first | rfl | simp only [aa, ac, al, an]), h29⟩)
 replace hF := bf c22 hF
 refine wp_skip <| c_seq <| c_region <| oy hS y_move <| oy hS y_assign <| n_thenN ?_
 obtain rfl := osi hF
 refine wp_ret (r_ret (vs := [(.slice none 0 0)]) (hS.re (.n)) (rsC res_tmp rsN) rfl ⟨_, _, rfl, (by first | rfl | simp only [aa, ac, al, an]), (OwT.nil _ _ _)⟩)
theorem w_r3_Reads {g : Frag} {a0 : T_Ins} {r : (List Int)}  (hF : r3_Reads a0 = some r) : LC Tryd.prog 19 #[.agg (enc_Ins a0).toArray] g [] (fun v L => ∃ (u0 : Value) (M0 : Own), u0 = v ∧ L = (M0 ++ []) ∧ OwT 3 enc_int 1 r u0 M0) := w_r3_Reads_  hF

noncomputable def r3_Writes (a0 : T_Ins) : Option Int :=
  (r3_Form a0.Op).bind fun r2 => bif (r3_HasD r2) then some (a0.D) else some (-1)
theorem w_r3_Writes_ {g : Frag} {a0 : T_Ins} {r : Int}  (hF : r3_Writes a0 = some r) : LCs Tryd.prog 20 #[.agg (enc_Ins a0).toArray] g (.int .i64 r) := by
 unfold r3_Writes at hF
 refine lc_body (k := 9) (av := [.agg (enc_Ins a0).toArray]) func20 rfl rfl (h := fun W hS => ?_)
 refine c_seq <| c_region ?_
 refine o_boxP (cl := (enc_Ins a0)) rfl hS ?_
 clear hS; intro b1 w hS
 refine oy hS y_assign <| n_thenN ?_
 iterate 2 (refine c_seq ?_)
 refine c_region <| oy hS (y_field fa_api_Ins_0) <| oy hS (y_load oH underlying3 rfl rfl) ?_
 obtain ⟨r2, hr2, hF⟩ := ob hF
 refine o_callS hS func6 rfl rfl (hc := (w_r3_Form (a0 := a0.Op) (hF := hr2))) (h := ?_)
 clear hS; intro w hS
 refine o_callS hS func7 rfl rfl (hc := (w_r3_HasD (a0 := r2))) (h := ?_)
 clear hS; intro w hS
 refine n_thenN ?_
 refine c_if (ht := fun c3 => ?_) (hf := fun c3 => ?_)
 · replace hF := bt c3 hF
   refine c_seq <| c_region <| oy hS (y_field fa_api_Ins_1) <| oy hS (y_load oH underlying3 rfl rfl) <| oy hS y_assign <| n_thenN ?_
   obtain rfl := osi hF
   exact wp_ret (wr1 hS)
 replace hF := bf c3 hF
 refine wp_skip <| c_seq <| c_region <| oy hS y_assign <| n_thenN ?_
 obtain rfl := osi hF
 exact wp_ret (wr1 hS)
theorem w_r3_Writes {g : Frag} {a0 : T_Ins} {r : Int}  (hF : r3_Writes a0 = some r) : LCs Tryd.prog 20 #[.agg (enc_Ins a0).toArray] g (.int .i64 r) := w_r3_Writes_  hF

noncomputable def r0_EqNumbers_b1 (a0 : (List Int)) (a1 : (List Int)) : Int → Option (Step Int Bool) := fun x28 => bif decide (x28 < (a0.length : Int)) then (at' a0 x28).bind fun x60 => (at' a1 x28).bind fun x72 => bif decide (x60 ≠ x72) then some (.done (false)) else some (.next (IntKind.i64.wrap (x28 + 1))) else some (.done (true))
noncomputable def r0_EqNumbers (a0 : (List Int)) (a1 : (List Int)) : Option Bool :=
  bif decide ((a0.length : Int) ≠ (a1.length : Int)) then some (false) else loop (σ := Int) (r0_EqNumbers_b1 a0 a1) 0
theorem w_r0_EqNumbers_ {g : Frag} {a0 : (List Int)} {v0_ : Value} {a1 : (List Int)} {v1_ : Value} {r : Bool} (h0 : SlT g enc_int 1 a0 v0_) (h1 : SlT g enc_int 1 a1 v1_) (hF : r0_EqNumbers a0 a1 = some r) : LCs Tryd.prog 21 #[v0_, v1_] g (.bool r) := by
 unfold r0_EqNumbers at hF
 refine lc_body (k := 26) (av := [v0_, v1_]) func21 rfl rfl (h := fun W hS => ?_)
 refine c_seq <| c_region <| oy hS y_assign <| n_thenN ?_
 iterate 2 (refine c_seq ?_)
 refine c_region <| oy hS y_move <| oy hS (y_len h0 underlying30) <| oy hS y_move <| oy hS (y_len h1 underlying30) <| oy hS y_bin <| n_thenN ?_
 refine c_if (ht := fun c1 => ?_) (hf := fun c1 => ?_)
 · replace hF := bt c1 hF
   refine c_seq <| c_region <| oy hS y_assign <| n_thenN ?_
   obtain rfl := osi hF
   exact wp_ret (wr1 hS)
 replace hF := bf c1 hF
 refine wp_skip ?_
 iterate 2 (refine c_seq ?_)
 refine c_region <| oy hS y_assign <| n_thenN <| c_block ?_
 refine c_loopP hF (fun (q : Int) a w' => (∃ s : Nat → Value, a = Ac ((((Fm.dead 26 s).upd 0 v0_).upd 1 v1_).upd 5 (.int .i64 q))) ∧ St W g [] [] w') ⟨mk_exF, (hS.re (.n))⟩ ?_
 clear hS hF
 intro n57 q a w hI hq
 revert hq hI; revert q; intro x28 hI hq
 obtain ⟨⟨s58, rfl⟩, hS⟩ := hq
 obtain ⟨z55, hF, B0⟩ := iter_step hI
 clear hI
 dsimp only [r0_EqNumbers_b1] at hF
 iterate 2 (refine c_seq ?_)
 refine c_region ?_
 iterate 2 (refine oy hS y_move ?_)
 refine oy hS (y_len h0 underlying30) <| oy hS y_bin <| n_thenN ?_
 refine c_if (ht := fun c59 => ?_) (hf := fun c59 => ?_)
 · replace hF := bt c59 hF
   refine wp_skip <| c_seq <| c_block <| c_seq ?_
   refine c_quiet (by kernel_rfl) (by kernel_rfl) hS ?_
   iterate 2 (refine qy y_move ?_)
   obtain ⟨x60, D0, hF⟩ := ob hF
   obtain ⟨b61, o62, c63, X0, e65, Y0, E0, G0, I0, J0, K0⟩ := SlT.at D0 h0 enc_len_int
   refine qy (y_index E0 G0 I0 underlying30 el_int.size) <| qy (y_load (fun w hS => hS.block J0) underlying3 rfl (K0 0 _ rfl)) ?_
   iterate 2 (refine qy y_move ?_)
   obtain ⟨x72, M0, hF⟩ := ob hF
   obtain ⟨b73, o74, c75, Z0, e77, B1, N0, R0, T0, U0, V0⟩ := SlT.at M0 h1 enc_len_int
   refine qy (y_index N0 R0 T0 underlying30 el_int.size) <| qy (y_load (fun w hS => hS.block U0) underlying3 rfl (V0 0 _ rfl)) <| qy y_bin ?_
   refine q_nilN (h := ?_)
   clear hS; intro w hS
   refine c_if (ht := fun c84 => ?_) (hf := fun c84 => ?_)
   · replace hF := bt c84 hF
     refine c_seq <| c_region <| oy hS y_assign <| n_thenN ?_
     obtain rfl := osi hF
     obtain rfl : _ = r := B0
     exact wp_ret (wr1 hS)
   replace hF := bf c84 hF
   refine wp_skip <| c_region <| oy hS y_move <| oy hS y_bin <| oy hS y_assign <| n_thenN ?_
   obtain rfl := osi hF
   exact ⟨_, B0, mk_exF, (hS.re (.n))⟩
 replace hF := bf c59 hF
 refine wp_exit ?_
 refine c_seq <| c_region <| oy hS y_assign <| n_thenN ?_
 obtain rfl := osi hF
 obtain rfl : _ = r := B0
 exact wp_ret (wr1 hS)
theorem w_r0_EqNumbers {g : Frag} {a0 : (List Int)} {v0_ : Value} {a1 : (List Int)} {v1_ : Value} {r : Bool} (h0 : SlT g enc_int 1 a0 v0_) (h1 : SlT g enc_int 1 a1 v1_) (hF : r0_EqNumbers a0 a1 = some r) : LCs Tryd.prog 21 #[v0_, v1_] g (.bool r) := w_r0_EqNumbers_ h0 h1 hF

noncomputable def isa_Name (a0 : Int) : Option (ByteArray × Int) :=
  bif !(isa_Is a0) then some ((ByteArray.mk #[]), 1) else (isa_names).bind fun r2 => (at' r2 a0).bind fun x10 => some (x10, 0)
theorem w_isa_Name_ {g : Frag} {a0 : Int} {r : (ByteArray × Int)} (hG : GT g) (hF : isa_Name a0 = some r) : LCs Tryd.prog 22 #[.int .i64 a0] g (.tuple #[.string r.1, .int .i64 r.2]) := by
 unfold isa_Name at hF
 refine lc_body (k := 11) (av := [.int .i64 a0]) func22 rfl rfl (h := fun W hS => ?_)
 refine c_seq <| c_region ?_
 iterate 2 (refine oy hS y_assign ?_)
 refine n_thenN ?_
 iterate 2 (refine c_seq ?_)
 refine c_region <| oy hS y_move ?_
 refine o_callS hS func58 rfl rfl (hc := (w_isa_Is (a0 := a0))) (h := ?_)
 clear hS; intro w hS
 refine oy hS y_not <| n_thenN ?_
 refine c_if (ht := fun c1 => ?_) (hf := fun c1 => ?_)
 · replace hF := bt c1 hF
   refine c_seq <| c_region ?_
   iterate 2 (refine oy hS y_assign ?_)
   refine n_thenN ?_
   obtain rfl := osi hF
   exact wp_ret (wr2 hS)
 replace hF := bf c1 hF
 refine wp_skip <| c_seq <| c_region ?_
 obtain ⟨r2, hr2, hF⟩ := ob hF
 refine o_call0 hS func54 rfl rfl (hc := (w_isa_names (hG := hG.plus) (hF := hr2))) (h := ?_)
 clear hS; intro v3 LY4 w hS hr5
 obtain ⟨v_0_6, LX_0_7, rfl, rfl, h_0_8⟩ := hr5
 simp only [aa, ac, al] at hS
 refine oy hS y_move ?_
 obtain ⟨x10, B0, hF⟩ := ob hF
 obtain ⟨b11, c12, K0, D0, E0, G0, I0, J0⟩ := OwT.at B0 h_0_8 enc_len_string
 refine oy hS (y_index D0 E0 G0 underlying23 el_string.size) <| oy hS (y_load (fun w hS => hS.own (mA (mX I0))) underlying9 rfl (J0 0 _ rfl)) ?_
 iterate 2 (refine oy hS y_assign ?_)
 refine n_thenN ?_
 obtain rfl := osi hF
 exact wp_ret (wr2 hS)
theorem w_isa_Name {g : Frag} {a0 : Int} {r : (ByteArray × Int)} (hG : GT g) (hF : isa_Name a0 = some r) : LCs Tryd.prog 22 #[.int .i64 a0] g (.tuple #[.string r.1, .int .i64 r.2]) := w_isa_Name_ hG hF

def isa_Form (a0 : Int) : (Int × Int) :=
  bif !(isa_Is a0) then (0, 1) else ((isa_Shape a0), 0)
theorem w_isa_Form_ {g : Frag} {a0 : Int} {r : (Int × Int)}  (hF : isa_Form a0 = r) : LCs Tryd.prog 23 #[.int .i64 a0] g (.tuple #[.int .i64 r.1, .int .i64 r.2]) := by
 unfold isa_Form at hF
 refine lc_body (k := 9) (av := [.int .i64 a0]) func23 rfl rfl (h := fun W hS => ?_)
 refine c_seq <| c_region ?_
 iterate 2 (refine oy hS y_assign ?_)
 refine n_thenN ?_
 iterate 2 (refine c_seq ?_)
 refine c_region <| oy hS y_move ?_
 refine o_callS hS func58 rfl rfl (hc := (w_isa_Is (a0 := a0))) (h := ?_)
 clear hS; intro w hS
 refine oy hS y_not <| n_thenN ?_
 refine c_if (ht := fun c1 => ?_) (hf := fun c1 => ?_)
 · replace hF := bt c1 hF
   refine c_seq <| c_region ?_
   iterate 2 (refine oy hS y_assign ?_)
   refine n_thenN ?_
   subst hF
   exact wp_ret (wr2 hS)
 replace hF := bf c1 hF
 refine wp_skip <| c_seq <| c_region <| oy hS y_move ?_
 refine o_callS hS func47 rfl rfl (hc := (w_isa_Shape (a0 := a0))) (h := ?_)
 clear hS; intro w hS
 iterate 2 (refine oy hS y_assign ?_)
 refine n_thenN ?_
 subst hF
 exact wp_ret (wr2 hS)
theorem w_isa_Form {g : Frag} {a0 : Int}  : LCs Tryd.prog 23 #[.int .i64 a0] g (.tuple #[.int .i64 (isa_Form a0).1, .int .i64 (isa_Form a0).2]) := w_isa_Form_  rfl

def isa_Late (a0 : Int) : Int :=
  bif decide (a0 = 14) then 2 else bif decide (a0 = 15) then 2 else bif decide (a0 = 26) then 2 else bif decide (a0 = 20) then 3 else bif decide (a0 = 24) then 3 else bif decide (a0 = 16) then 4 else bif decide (a0 = 17) then 4 else 1
theorem w_isa_Late_ {g : Frag} {a0 : Int} {r : Int}  (hF : isa_Late a0 = r) : LCs Tryd.prog 59 #[.int .i64 a0] g (.int .i64 r) := by
 unfold isa_Late at hF
 refine lc_body (k := 14) (av := [.int .i64 a0]) func59 rfl rfl (h := fun W hS => ?_)
 refine c_seq <| c_region <| oy hS y_assign <| n_thenN ?_
 iterate 2 (refine c_seq ?_)
 refine c_region <| oy hS y_move <| n_thenN <| c_block ?_
 iterate 2 (refine c_seq ?_)
 refine c_region <| oy hS y_bin <| oy hS y_assign <| n_thenN ?_
 refine c_if (ht := fun c1 => ?_) (hf := fun c1 => ?_)
 · replace hF := bt c1 hF
   refine wp_skip ?_
   refine c_ifT c1 ?_
   refine c_seq <| c_region <| oy hS y_assign <| n_thenN ?_
   subst hF
   exact wp_ret (wr1 hS)
 replace hF := bf c1 hF
 refine c_seq <| c_region <| oy hS y_bin <| oy hS y_assign <| n_thenN ?_
 refine c_if (ht := fun c2 => ?_) (hf := fun c2 => ?_)
 · replace hF := bt c2 hF
   refine wp_skip ?_
   refine c_ifT c2 ?_
   refine c_seq <| c_region <| oy hS y_assign <| n_thenN ?_
   subst hF
   exact wp_ret (wr1 hS)
 replace hF := bf c2 hF
 refine c_region <| oy hS y_bin <| oy hS y_assign <| n_thenN ?_
 refine c_if (ht := fun c3 => ?_) (hf := fun c3 => ?_)
 · replace hF := bt c3 hF
   refine c_seq <| c_region <| oy hS y_assign <| n_thenN ?_
   subst hF
   exact wp_ret (wr1 hS)
 replace hF := bf c3 hF
 iterate 2 (refine c_seq ?_)
 refine c_region <| oy hS y_bin <| oy hS y_assign <| n_thenN ?_
 refine c_if (ht := fun c4 => ?_) (hf := fun c4 => ?_)
 · replace hF := bt c4 hF
   refine wp_skip ?_
   refine c_ifT c4 ?_
   refine c_seq <| c_region <| oy hS y_assign <| n_thenN ?_
   subst hF
   exact wp_ret (wr1 hS)
 replace hF := bf c4 hF
 refine c_region <| oy hS y_bin <| oy hS y_assign <| n_thenN ?_
 refine c_if (ht := fun c5 => ?_) (hf := fun c5 => ?_)
 · replace hF := bt c5 hF
   refine c_seq <| c_region <| oy hS y_assign <| n_thenN ?_
   subst hF
   exact wp_ret (wr1 hS)
 replace hF := bf c5 hF
 iterate 2 (refine c_seq ?_)
 refine c_region <| oy hS y_bin <| oy hS y_assign <| n_thenN ?_
 refine c_if (ht := fun c6 => ?_) (hf := fun c6 => ?_)
 · replace hF := bt c6 hF
   refine wp_skip ?_
   refine c_ifT c6 ?_
   refine c_seq <| c_region <| oy hS y_assign <| n_thenN ?_
   subst hF
   exact wp_ret (wr1 hS)
 replace hF := bf c6 hF
 refine c_region <| oy hS y_bin <| oy hS y_assign <| n_thenN ?_
 refine c_if (ht := fun c7 => ?_) (hf := fun c7 => ?_)
 · replace hF := bt c7 hF
   refine c_seq <| c_region <| oy hS y_assign <| n_thenN ?_
   subst hF
   exact wp_ret (wr1 hS)
 replace hF := bf c7 hF
 refine wp_skip <| c_seq <| c_region <| oy hS y_assign <| n_thenN ?_
 subst hF
 exact wp_ret (wr1 hS)
theorem w_isa_Late {g : Frag} {a0 : Int}  : LCs Tryd.prog 59 #[.int .i64 a0] g (.int .i64 (isa_Late a0)) := w_isa_Late_  rfl

def isa_Latency (a0 : Int) : (Int × Int) :=
  bif !(isa_Is a0) then (0, 1) else ((isa_Late a0), 0)
theorem w_isa_Latency_ {g : Frag} {a0 : Int} {r : (Int × Int)}  (hF : isa_Latency a0 = r) : LCs Tryd.prog 24 #[.int .i64 a0] g (.tuple #[.int .i64 r.1, .int .i64 r.2]) := by
 unfold isa_Latency at hF
 refine lc_body (k := 9) (av := [.int .i64 a0]) func24 rfl rfl (h := fun W hS => ?_)
 refine c_seq <| c_region ?_
 iterate 2 (refine oy hS y_assign ?_)
 refine n_thenN ?_
 iterate 2 (refine c_seq ?_)
 refine c_region <| oy hS y_move ?_
 refine o_callS hS func58 rfl rfl (hc := (w_isa_Is (a0 := a0))) (h := ?_)
 clear hS; intro w hS
 refine oy hS y_not <| n_thenN ?_
 refine c_if (ht := fun c1 => ?_) (hf := fun c1 => ?_)
 · replace hF := bt c1 hF
   refine c_seq <| c_region ?_
   iterate 2 (refine oy hS y_assign ?_)
   refine n_thenN ?_
   subst hF
   exact wp_ret (wr2 hS)
 replace hF := bf c1 hF
 refine wp_skip <| c_seq <| c_region <| oy hS y_move ?_
 refine o_callS hS func59 rfl rfl (hc := (w_isa_Late (a0 := a0))) (h := ?_)
 clear hS; intro w hS
 iterate 2 (refine oy hS y_assign ?_)
 refine n_thenN ?_
 subst hF
 exact wp_ret (wr2 hS)
theorem w_isa_Latency {g : Frag} {a0 : Int}  : LCs Tryd.prog 24 #[.int .i64 a0] g (.tuple #[.int .i64 (isa_Latency a0).1, .int .i64 (isa_Latency a0).2]) := w_isa_Latency_  rfl

def isa_Ends (a0 : Int) : Bool :=
  bif decide (28 ≤ a0) then decide (a0 ≤ 33) else false
theorem w_isa_Ends_ {g : Frag} {a0 : Int} {r : Bool}  (hF : isa_Ends a0 = r) : LCs Tryd.prog 31 #[.int .i64 a0] g (.bool r) := by
 unfold isa_Ends at hF
 refine lc_body (k := 9) (av := [.int .i64 a0]) func31 rfl rfl (h := fun W hS => ?_)
 refine c_seq <| c_region <| oy hS y_assign <| n_thenN <| c_seq <| c_region <| oy hS y_move <| oy hS y_bin ?_
 refine o_split (ht := fun c1 => ?_) (hf := fun c1 => ?_)
 · replace hF := bt c1 hF
   refine o_gu rfl rfl rfl <| oy hS y_move <| o_gu rfl rfl rfl <| oy hS y_bin <| oy hS y_pickT <| oy hS y_assign <| n_thenN ?_
   subst hF
   exact wp_ret (wr1 hS)
 replace hF := bf c1 hF
 iterate 2 (refine o_sk rfl rfl ?_)
 refine oy hS y_pickF <| oy hS y_assign <| n_thenN ?_
 subst hF
 exact wp_ret (wr1 hS)
theorem w_isa_Ends {g : Frag} {a0 : Int}  : LCs Tryd.prog 31 #[.int .i64 a0] g (.bool (isa_Ends a0)) := w_isa_Ends_  rfl

def isa_May (a0 : Int) (a1 : Int) : Bool :=
  bif !(isa_Is a0) then false else bif decide (a1 < 0) then false else bif decide (3 < a1) then false else bif decide (a0 = 0) then true else bif decide (a0 = 14) then decide (a1 = 3) else bif decide (a0 = 15) then decide (a1 = 3) else bif decide (a0 = 16) then decide (a1 = 3) else bif decide (a0 = 17) then decide (a1 = 3) else bif decide (a0 = 20) then decide (a1 = 3) else bif decide (a0 = 18) then decide (a1 = 1) else bif decide (a0 = 19) then decide (a1 = 1) else bif decide (a0 = 21) then decide (a1 = 1) else bif decide (a0 = 24) then decide (a1 = 2) else bif decide (a0 = 25) then decide (a1 = 2) else bif decide (a0 = 26) then decide (a1 = 2) else bif decide (a0 = 27) then decide (a1 = 2) else bif decide (a1 = 0) then true else bif decide (a1 = 1) then !(isa_Ends a0) else false
theorem w_isa_May_ {g : Frag} {a0 : Int} {a1 : Int} {r : Bool}  (hF : isa_May a0 a1 = r) : LCs Tryd.prog 35 #[.int .i64 a0, .int .i64 a1] g (.bool r) := by
 unfold isa_May at hF
 refine lc_body (k := 51) (av := [.int .i64 a0, .int .i64 a1]) func35 rfl rfl (h := fun W hS => ?_)
 refine c_seq <| c_region <| oy hS y_assign <| n_thenN ?_
 iterate 2 (refine c_seq ?_)
 refine c_region <| oy hS y_move ?_
 refine o_callS hS func58 rfl rfl (hc := (w_isa_Is (a0 := a0))) (h := ?_)
 clear hS; intro w hS
 refine oy hS y_not ?_
 refine o_split (ht := fun c1 => ?_) (hf := fun c1 => ?_)
 · replace hF := bt c1 hF
   iterate 2 (refine o_sk rfl rfl ?_)
   refine oy hS y_pickT <| oy hS y_move ?_
   iterate 2 (refine o_sk rfl rfl ?_)
   refine oy hS y_pickT <| n_thenN ?_
   refine c_if_true (h := ?_)
   refine c_seq <| c_region <| oy hS y_assign <| n_thenN ?_
   subst hF
   exact wp_ret (wr1 hS)
 replace hF := bf c1 hF
 refine o_gu rfl rfl rfl <| oy hS y_move <| o_gu rfl rfl rfl <| oy hS y_bin <| oy hS y_pickF ?_
 refine o_split (ht := fun c2 => ?_) (hf := fun c2 => ?_)
 · replace hF := bt c2 hF
   iterate 2 (refine o_sk rfl rfl ?_)
   refine oy hS y_pickT <| n_thenN ?_
   refine c_if_true (h := ?_)
   refine c_seq <| c_region <| oy hS y_assign <| n_thenN ?_
   subst hF
   exact wp_ret (wr1 hS)
 replace hF := bf c2 hF
 refine o_gu rfl rfl rfl <| oy hS y_move <| o_gu rfl rfl rfl <| oy hS y_bin <| oy hS y_pickF <| n_thenN ?_
 refine c_if (ht := fun c3 => ?_) (hf := fun c3 => ?_)
 · replace hF := bt c3 hF
   refine c_seq <| c_region <| oy hS y_assign <| n_thenN ?_
   subst hF
   exact wp_ret (wr1 hS)
 replace hF := bf c3 hF
 refine wp_skip ?_
 iterate 2 (refine c_seq ?_)
 refine c_region <| oy hS y_move <| n_thenN <| c_block <| c_seq <| c_region <| oy hS y_bin <| oy hS y_assign ?_
 refine n_thenN ?_
 refine c_if (ht := fun c4 => ?_) (hf := fun c4 => ?_)
 · replace hF := bt c4 hF
   refine c_seq <| c_region <| oy hS y_assign <| n_thenN ?_
   subst hF
   exact wp_ret (wr1 hS)
 replace hF := bf c4 hF
 iterate 2 (refine c_seq ?_)
 refine c_region <| oy hS y_bin <| oy hS y_assign <| n_thenN ?_
 refine c_if (ht := fun c5 => ?_) (hf := fun c5 => ?_)
 · replace hF := bt c5 hF
   refine wp_skip ?_
   refine c_ifT c5 ?_
   refine c_seq <| c_region <| oy hS y_move <| oy hS y_bin <| oy hS y_assign <| n_thenN ?_
   subst hF
   exact wp_ret (wr1 hS)
 replace hF := bf c5 hF
 refine c_seq <| c_region <| oy hS y_bin <| oy hS y_assign <| n_thenN ?_
 refine c_if (ht := fun c6 => ?_) (hf := fun c6 => ?_)
 · replace hF := bt c6 hF
   refine wp_skip ?_
   refine c_ifT c6 ?_
   refine c_seq <| c_region <| oy hS y_move <| oy hS y_bin <| oy hS y_assign <| n_thenN ?_
   subst hF
   exact wp_ret (wr1 hS)
 replace hF := bf c6 hF
 refine c_seq <| c_region <| oy hS y_bin <| oy hS y_assign <| n_thenN ?_
 refine c_if (ht := fun c7 => ?_) (hf := fun c7 => ?_)
 · replace hF := bt c7 hF
   refine wp_skip ?_
   refine c_ifT c7 ?_
   refine c_seq <| c_region <| oy hS y_move <| oy hS y_bin <| oy hS y_assign <| n_thenN ?_
   subst hF
   exact wp_ret (wr1 hS)
 replace hF := bf c7 hF
 refine c_seq <| c_region <| oy hS y_bin <| oy hS y_assign <| n_thenN ?_
 refine c_if (ht := fun c8 => ?_) (hf := fun c8 => ?_)
 · replace hF := bt c8 hF
   refine wp_skip ?_
   refine c_ifT c8 ?_
   refine c_seq <| c_region <| oy hS y_move <| oy hS y_bin <| oy hS y_assign <| n_thenN ?_
   subst hF
   exact wp_ret (wr1 hS)
 replace hF := bf c8 hF
 refine c_region <| oy hS y_bin <| oy hS y_assign <| n_thenN ?_
 refine c_if (ht := fun c9 => ?_) (hf := fun c9 => ?_)
 · replace hF := bt c9 hF
   refine c_seq <| c_region <| oy hS y_move <| oy hS y_bin <| oy hS y_assign <| n_thenN ?_
   subst hF
   exact wp_ret (wr1 hS)
 replace hF := bf c9 hF
 iterate 2 (refine c_seq ?_)
 refine c_region <| oy hS y_bin <| oy hS y_assign <| n_thenN ?_
 refine c_if (ht := fun c10 => ?_) (hf := fun c10 => ?_)
 · replace hF := bt c10 hF
   refine wp_skip ?_
   refine c_ifT c10 ?_
   refine c_seq <| c_region <| oy hS y_move <| oy hS y_bin <| oy hS y_assign <| n_thenN ?_
   subst hF
   exact wp_ret (wr1 hS)
 replace hF := bf c10 hF
 refine c_seq <| c_region <| oy hS y_bin <| oy hS y_assign <| n_thenN ?_
 refine c_if (ht := fun c11 => ?_) (hf := fun c11 => ?_)
 · replace hF := bt c11 hF
   refine wp_skip ?_
   refine c_ifT c11 ?_
   refine c_seq <| c_region <| oy hS y_move <| oy hS y_bin <| oy hS y_assign <| n_thenN ?_
   subst hF
   exact wp_ret (wr1 hS)
 replace hF := bf c11 hF
 refine c_region <| oy hS y_bin <| oy hS y_assign <| n_thenN ?_
 refine c_if (ht := fun c12 => ?_) (hf := fun c12 => ?_)
 · replace hF := bt c12 hF
   refine c_seq <| c_region <| oy hS y_move <| oy hS y_bin <| oy hS y_assign <| n_thenN ?_
   subst hF
   exact wp_ret (wr1 hS)
 replace hF := bf c12 hF
 iterate 2 (refine c_seq ?_)
 refine c_region <| oy hS y_bin <| oy hS y_assign <| n_thenN ?_
 refine c_if (ht := fun c13 => ?_) (hf := fun c13 => ?_)
 · replace hF := bt c13 hF
   refine wp_skip ?_
   refine c_ifT c13 ?_
   refine c_seq <| c_region <| oy hS y_move <| oy hS y_bin <| oy hS y_assign <| n_thenN ?_
   subst hF
   exact wp_ret (wr1 hS)
 replace hF := bf c13 hF
 refine c_seq <| c_region <| oy hS y_bin <| oy hS y_assign <| n_thenN ?_
 refine c_if (ht := fun c14 => ?_) (hf := fun c14 => ?_)
 · replace hF := bt c14 hF
   refine wp_skip ?_
   refine c_ifT c14 ?_
   refine c_seq <| c_region <| oy hS y_move <| oy hS y_bin <| oy hS y_assign <| n_thenN ?_
   subst hF
   exact wp_ret (wr1 hS)
 replace hF := bf c14 hF
 refine c_seq <| c_region <| oy hS y_bin <| oy hS y_assign <| n_thenN ?_
 refine c_if (ht := fun c15 => ?_) (hf := fun c15 => ?_)
 · replace hF := bt c15 hF
   refine wp_skip ?_
   refine c_ifT c15 ?_
   refine c_seq <| c_region <| oy hS y_move <| oy hS y_bin <| oy hS y_assign <| n_thenN ?_
   subst hF
   exact wp_ret (wr1 hS)
 replace hF := bf c15 hF
 refine c_region <| oy hS y_bin <| oy hS y_assign <| n_thenN ?_
 refine c_if (ht := fun c16 => ?_) (hf := fun c16 => ?_)
 · replace hF := bt c16 hF
   refine c_seq <| c_region <| oy hS y_move <| oy hS y_bin <| oy hS y_assign <| n_thenN ?_
   subst hF
   exact wp_ret (wr1 hS)
 replace hF := bf c16 hF
 refine wp_skip <| c_seq <| c_region <| oy hS y_move <| oy hS y_bin ?_
 refine o_split (ht := fun c17 => ?_) (hf := fun c17 => ?_)
 · replace hF := bt c17 hF
   iterate 3 (refine o_sk rfl rfl ?_)
   iterate 3 (refine o_sku rfl rfl ?_)
   refine o_sk rfl rfl ?_
   refine oy hS y_pickT <| oy hS y_assign <| n_thenN ?_
   subst hF
   exact wp_ret (wr1 hS)
 replace hF := bf c17 hF
 refine o_gu rfl rfl rfl <| oy hS y_move <| o_gu rfl rfl rfl <| oy hS y_bin <| o_gu rfl rfl rfl ?_
 refine o_split (ht := fun c18 => ?_) (hf := fun c18 => ?_)
 · replace hF := bt c18 hF
   refine o_gu rfl rfl rfl <| oy hS y_move <| o_gu rfl rfl rfl ?_
   refine o_callS hS func31 rfl rfl (hc := (w_isa_Ends (a0 := a0))) (h := ?_)
   clear hS; intro w hS
   refine o_gu rfl rfl rfl <| oy hS y_not <| o_gu rfl rfl rfl <| oy hS y_pickT <| oy hS y_pickF <| oy hS y_assign <| n_thenN ?_
   subst hF
   exact wp_ret (wr1 hS)
 replace hF := bf c18 hF
 iterate 3 (refine o_sk rfl rfl ?_)
 refine o_gu rfl rfl rfl ?_
 iterate 2 (refine oy hS y_pickF ?_)
 refine oy hS y_assign <| n_thenN ?_
 subst hF
 exact wp_ret (wr1 hS)
theorem w_isa_May {g : Frag} {a0 : Int} {a1 : Int}  : LCs Tryd.prog 35 #[.int .i64 a0, .int .i64 a1] g (.bool (isa_May a0 a1)) := w_isa_May_  rfl

def isa_Slots_1 (a0 : Int) (a1 : Int) : Bool :=
  !(isa_May a1 a0)
theorem w_isa_Slots_1_ {g : Frag} {a0 : Int} {a1 : Int} {c1_ : Nat} {r : Bool} (h1 : g c1_ = some (blk [.int .i64 a1] 3)) (hF : isa_Slots_1 a0 a1 = r) : LCs Tryd.prog 61 #[.int .i64 a0, .pointer (some ⟨c1_, 0, none⟩)] g (.bool r) := by
 unfold isa_Slots_1 at hF
 refine lc_body (k := 8) (av := [.int .i64 a0, .pointer (some ⟨c1_, 0, none⟩)]) func61 rfl rfl (h := fun W hS => ?_)
 refine c_seq <| c_region <| oy hS y_assign <| n_thenN <| c_seq <| c_region <| oy hS (y_load (fun w hS => hS.block h1) underlying3 rfl rfl) <| oy hS y_move ?_
 refine o_callS hS func35 rfl rfl (hc := (w_isa_May (a0 := a1) (a1 := a0))) (h := ?_)
 clear hS; intro w hS
 refine oy hS y_not <| oy hS y_assign <| n_thenN ?_
 subst hF
 exact wp_ret (wr1 hS)
theorem w_isa_Slots_1 {g : Frag} {a0 : Int} {a1 : Int} {c1_ : Nat} (h1 : g c1_ = some (blk [.int .i64 a1] 3)) : LCs Tryd.prog 61 #[.int .i64 a0, .pointer (some ⟨c1_, 0, none⟩)] g (.bool (isa_Slots_1 a0 a1)) := w_isa_Slots_1_ h1 rfl

noncomputable def slices_IndexFunc_int_int_isa_Slots_1_b1 (a0 : (List Int)) (B0 : Int) : Int → Option (Step Int Int) := fun x15 => bif decide (x15 < (a0.length : Int)) then (at' a0 x15).bind fun x35 => bif (isa_Slots_1 x35 B0) then some (.done (x15)) else some (.next (IntKind.i64.wrap (x15 + 1))) else some (.done ((-1)))
noncomputable def slices_IndexFunc_int_int_isa_Slots_1 (a0 : (List Int)) (B0 : Int) : Option Int :=
  loop (σ := Int) (slices_IndexFunc_int_int_isa_Slots_1_b1 a0 B0) 0
theorem w_slices_IndexFunc_int_int_isa_Slots_1_ {g : Frag} {a0 : (List Int)} {v0_ : Value} {a1_0 : Int} {c1_0 : Nat} {r : Int} (h0 : SlT g enc_int 1 a0 v0_) (h1_0 : g c1_0 = some (blk [.int .i64 a1_0] 3)) (hF : slices_IndexFunc_int_int_isa_Slots_1 a0 a1_0 = some r) : LCs Tryd.prog 73 #[v0_, .func (.func 61) #[] #[.pointer (some ⟨c1_0, 0, none⟩)]] g (.int .i64 r) := by
 unfold slices_IndexFunc_int_int_isa_Slots_1 at hF
 refine lc_body (k := 19) (av := [v0_, .func (.func 61) #[] #[.pointer (some ⟨c1_0, 0, none⟩)]]) func73 rfl rfl (h := fun W hS => ?_)
 refine c_seq <| c_region <| oy hS y_assign <| n_thenN ?_
 iterate 2 (refine c_seq ?_)
 refine c_region <| oy hS y_move <| oy hS (y_len h0 underlying30) <| oy hS y_move <| n_thenN <| c_block ?_
 refine c_loopP hF (fun (q : Int) a w' => (∃ s : Nat → Value, a = Ac (((((Fm.dead 19 s).upd 0 v0_).upd 1 (.func (.func 61) #[] #[.pointer (some ⟨c1_0, 0, none⟩)])).upd 7 (.int .i64 (a0.length : Int))).upd 8 (.int .i64 q))) ∧ St W g [] [] w') ⟨mk_exF, (hS.re (.n))⟩ ?_
 clear hS hF
 intro n32 q a w hI hq
 revert hq hI; revert q; intro x15 hI hq
 obtain ⟨⟨s33, rfl⟩, hS⟩ := hq
 obtain ⟨z30, hF, B0⟩ := iter_step hI
 clear hI
 dsimp only [slices_IndexFunc_int_int_isa_Slots_1_b1] at hF
 refine c_seq <| c_region <| oy hS y_bin <| n_thenN <| c_seq ?_
 refine c_if (ht := fun c34 => ?_) (hf := fun c34 => ?_)
 · replace hF := bt c34 hF
   refine wp_skip <| c_seq <| c_block <| c_seq <| c_region <| oy hS y_move <| oy hS y_assign <| n_thenN ?_
   refine c_seq <| c_region ?_
   iterate 3 (refine oy hS y_move ?_)
   obtain ⟨x35, D0, hF⟩ := ob hF
   obtain ⟨b36, o37, c38, M0, e40, N0, E0, G0, I0, J0, K0⟩ := SlT.at D0 h0 enc_len_int
   refine oy hS (y_index E0 G0 I0 underlying30 el_int.size) <| oy hS (y_load (fun w hS => hS.block J0) underlying3 rfl (K0 0 _ rfl)) ?_
   refine o_callVS2 hS func61 rfl rfl (hc := (w_isa_Slots_1 (a0 := x35) (a1 := a1_0) (h1 := (Frag.le_plus _ _ _ _ h1_0)))) (h := ?_)
   clear hS; intro w hS
   refine n_thenN ?_
   refine c_if (ht := fun c47 => ?_) (hf := fun c47 => ?_)
   · replace hF := bt c47 hF
     refine c_seq <| c_region <| oy hS y_move <| oy hS y_assign <| n_thenN ?_
     obtain rfl := osi hF
     obtain rfl : _ = r := B0
     exact wp_ret (wr1 hS)
   replace hF := bf c47 hF
   refine wp_skip <| c_region <| oy hS y_bin <| oy hS y_move <| n_thenN ?_
   obtain rfl := osi hF
   exact ⟨_, B0, mk_exF, (hS.re (.n))⟩
 replace hF := bf c34 hF
 refine wp_exit ?_
 refine c_seq <| c_region <| oy hS y_assign <| n_thenN ?_
 obtain rfl := osi hF
 obtain rfl : _ = r := B0
 exact wp_ret (wr1 hS)
theorem w_slices_IndexFunc_int_int_isa_Slots_1 {g : Frag} {a0 : (List Int)} {v0_ : Value} {a1_0 : Int} {c1_0 : Nat} {r : Int} (h0 : SlT g enc_int 1 a0 v0_) (h1_0 : g c1_0 = some (blk [.int .i64 a1_0] 3)) (hF : slices_IndexFunc_int_int_isa_Slots_1 a0 a1_0 = some r) : LCs Tryd.prog 73 #[v0_, .func (.func 61) #[] #[.pointer (some ⟨c1_0, 0, none⟩)]] g (.int .i64 r) := w_slices_IndexFunc_int_int_isa_Slots_1_ h0 h1_0 hF

noncomputable def slices_DeleteFunc_int_int_isa_Slots_1_b2 (J0 : Int) : ((List Int) × Int × Int) → Option (Step ((List Int) × Int × Int) (Step ((List Int) × Int) (List Int))) := fun (B0, D0, E0) => bif decide (E0 < (B0.length : Int)) then (at' B0 E0).bind fun G0 => bif !(isa_Slots_1 G0 J0) then (set' B0 D0 G0).bind fun I0 => some (.next (I0, IntKind.i64.wrap (D0 + 1), IntKind.i64.wrap (E0 + 1))) else some (.next (B0, D0, IntKind.i64.wrap (E0 + 1))) else some (.done (.next (B0, D0)))
noncomputable def slices_DeleteFunc_int_int_isa_Slots_1_k1  : ((List Int) × Int) → Option (List Int) := fun (x79, x83) => (sub' x79 x83 (x79.length : Int)).bind fun D0 => (upto' (clr x79 x83 (0 : Int)) x83).bind fun B0 => some (B0)
noncomputable def slices_DeleteFunc_int_int_isa_Slots_1 (a0 : (List Int)) (B0 : Int) : Option (List Int) :=
  (slices_IndexFunc_int_int_isa_Slots_1 a0 B0).bind fun r1 => bif decide (r1 = (-1)) then some (a0) else cut (σ := ((List Int) × Int)) (loop (σ := ((List Int) × Int × Int)) (slices_DeleteFunc_int_int_isa_Slots_1_b2 B0) (a0, r1, IntKind.i64.wrap (r1 + 1))) (slices_DeleteFunc_int_int_isa_Slots_1_k1)
theorem w_slices_DeleteFunc_int_int_isa_Slots_1_ {g : Frag} {a0 : (List Int)} {v0_ : Value} {LB0_ : Own} {a1_0 : Int} {c1_0 : Nat} {r : (List Int)} (h0 : OwT 3 enc_int 1 a0 v0_ LB0_) (h1_0 : g c1_0 = some (blk [.int .i64 a1_0] 3)) (hF : slices_DeleteFunc_int_int_isa_Slots_1 a0 a1_0 = some r) : LC Tryd.prog 60 #[v0_, .func (.func 61) #[] #[.pointer (some ⟨c1_0, 0, none⟩)]] g (LB0_ ++ []) (fun v L => ∃ (u0 : Value) (M0 : Own), u0 = v ∧ L = (M0 ++ []) ∧ OwT 3 enc_int 1 r u0 M0) := by
 unfold slices_DeleteFunc_int_int_isa_Slots_1 at hF
 refine lc_body (k := 42) (av := [v0_, .func (.func 61) #[] #[.pointer (some ⟨c1_0, 0, none⟩)]]) func60 rfl rfl (h := fun W hS => ?_)
 refine c_seq <| c_region <| oy hS y_assign <| n_thenN <| c_seq <| c_region ?_
 iterate 2 (refine oy hS y_move ?_)
 obtain ⟨r1, hr1, hF⟩ := ob hF
 refine o_callS hS func73 rfl rfl (hc := (w_slices_IndexFunc_int_int_isa_Slots_1 (a0 := a0) (a1_0 := a1_0) (h0 := (OwT.plus h0 hS (fun p hp => mA (hp)))) (h1_0 := (Frag.le_plus _ _ _ _ h1_0)) (hF := hr1))) (h := ?_)
 clear hS; intro w hS
 refine oy hS y_assign <| n_thenN ?_
 iterate 2 (refine c_seq ?_)
 refine c_region <| oy hS y_move <| oy hS y_bin <| n_thenN ?_
 refine c_if (ht := fun c2 => ?_) (hf := fun c2 => ?_)
 · replace hF := bt c2 hF
   refine c_seq <| c_region <| oy hS y_move <| oy hS y_assign <| n_thenN ?_
   obtain rfl := osi hF
   refine wp_ret (r_ret (vs := [v0_]) (hS.re (.t .h .n)) (rsC res_tmp rsN) rfl ⟨_, _, rfl, (by first | rfl | simp only [aa, ac, al, an]), h0⟩)
 replace hF := bf c2 hF
 refine wp_skip ?_
 obtain ⟨z84, hF, K1⟩ := cut_step hF
 refine c_cutP (fun a w' => ∃ (x79 : (List Int)) (x83 : Int) (E0 : Own), slices_DeleteFunc_int_int_isa_Slots_1_k1 (x79, x83) = some r ∧ OwT 3 enc_int 1 x79 v0_ E0 ∧ (∃ s : Nat → Value, a = Ac (((Fm.dead 42 s).upd 0 v0_).upd 5 (.int .i64 x83))) ∧ St W g ((LB0_ ++ [])) (E0 ++ []) w') ?_ ?_
 · skip
   refine c_seq <| c_region <| oy hS y_move <| oy hS y_bin <| oy hS y_assign <| n_thenN <| c_block ?_
   refine c_loopP hF (fun (q : ((List Int) × Int × Int)) a w' => ∃ (D0 : Own), OwT 3 enc_int 1 q.1 v0_ D0 ∧ (∃ s : Nat → Value, a = Ac (((((Fm.dead 42 s).upd 0 v0_).upd 1 (.func (.func 61) #[] #[.pointer (some ⟨c1_0, 0, none⟩)])).upd 5 (.int .i64 q.2.1)).upd 6 (.int .i64 q.2.2))) ∧ St W g ((LB0_ ++ [])) (D0 ++ []) w') ⟨LB0_, h0, mk_exF, (hS.re (.t .h .n))⟩ ?_
   clear hS hF
   intro G2 q a w hI hq
   obtain ⟨R0, M1, I2⟩ := q
   obtain ⟨D0, B0, ⟨J2, rfl⟩, hS⟩ := hq
   replace B0 : OwT 3 enc_int 1 R0 v0_ D0 := B0
   obtain ⟨K2, hF, G0⟩ := iter_step hI
   clear hI
   dsimp only [slices_DeleteFunc_int_int_isa_Slots_1_b2] at hF
   iterate 2 (refine c_seq ?_)
   refine c_region ?_
   iterate 2 (refine oy hS y_move ?_)
   refine oy hS (y_lenO B0 underlying30) <| oy hS y_bin <| n_thenN ?_
   refine c_if (ht := fun K0 => ?_) (hf := fun K0 => ?_)
   · replace hF := bt K0 hF
     refine wp_skip <| c_seq <| c_block <| c_seq <| c_region ?_
     iterate 2 (refine oy hS y_move ?_)
     obtain ⟨N1, U0, hF⟩ := ob hF
     obtain ⟨M2, N2, X1, V0, X0, Y0, Z0, B1⟩ := OwT.at U0 B0 enc_len_int
     refine oy hS (y_index V0 X0 Y0 underlying30 el_int.size) <| oy hS (y_load (fun w hS => hS.own (mA (mX Z0))) underlying3 rfl (B1 0 _ rfl)) <| oy hS y_assign <| n_thenN <| c_seq <| c_region ?_
     iterate 2 (refine oy hS y_move ?_)
     refine o_callVS2 hS func61 rfl rfl (hc := (w_isa_Slots_1 (a0 := N1) (a1 := a1_0) (h1 := (Frag.le_plus _ _ _ _ h1_0)))) (h := ?_)
     clear hS; intro w hS
     refine oy hS y_not <| n_thenN ?_
     refine c_if (ht := fun N0 => ?_) (hf := fun N0 => ?_)
     · replace hF := bt N0 hF
       refine c_seq <| c_region ?_
       iterate 3 (refine oy hS y_move ?_)
       obtain ⟨Y1, I0, hF⟩ := ob hF
       obtain ⟨R2, T2, Z1, D1, E1, G1, I1⟩ := OwT.at_set I0 B0 enc_len_int
       refine oy hS (y_index D1 E1 G1 underlying30 el_int.size) ?_
       refine o_storeO (L' := fun X => (X ++ [])) I0 hS B0 I1 (fun X => .here _) enc_len_int rfl (by exact sz_int) rfl rfl ?_
       clear hS; intro J1 w R1 hS
       refine n_thenN <| c_region <| oy hS y_move <| oy hS y_bin <| oy hS y_assign ?_
       refine n_anyN ?_
       refine c_region <| oy hS y_move <| oy hS y_bin <| oy hS y_assign <| n_thenN ?_
       obtain rfl := osi hF
       exact ⟨_, G0, J1, R1, mk_exF, (hS.re (.t .h .n))⟩
     replace hF := bf N0 hF
     refine wp_skip <| c_region <| oy hS y_move <| oy hS y_bin <| oy hS y_assign <| n_thenN ?_
     obtain rfl := osi hF
     exact ⟨_, G0, D0, B0, mk_exF, (hS.re (.t .h .n))⟩
   replace hF := bf K0 hF
   refine wp_exit ?_
   obtain rfl := osi hF
   obtain rfl : _ = z84 := G0
   change ∃ _, _
   exact ⟨R0, M1, D0, K1, B0, mk_exF, (hS.re (.t .h .n))⟩
 rintro a w ⟨x79, x83, E0, hF, h80, ⟨U2, rfl⟩, hS⟩
 dsimp only [slices_DeleteFunc_int_int_isa_Slots_1_k1] at hF
 refine c_seq <| c_region ?_
 iterate 2 (refine oy hS y_move ?_)
 obtain ⟨B2, J0, hF⟩ := ob hF
 refine oy hS (y_slD J0 (OwT.plus h80 hS (fun p hp => mA (hp))) underlying30 el_int.size) ?_
 refine o_clearV (LX := E0) (z := (0 : Int)) hS h80 J0 enc_len_int rfl zr_int rfl rfl underlying30 ?_
 clear hS; intro D2 w T1 hS
 refine n_thenN <| c_seq <| c_region ?_
 iterate 2 (refine oy hS y_move ?_)
 obtain ⟨E2, T0, hF⟩ := ob hF
 refine o_uptoP T0 T1 enc_len_int underlying30 el_int.size ?_
 intro U1 V1
 refine oy hS y_assign <| n_thenN ?_
 obtain rfl := osi hF
 refine wp_ret (r_ret (vs := [U1]) (hS.re (.t .h .n)) (rsC res_tmp rsN) rfl ⟨_, _, rfl, (by first | rfl | simp only [aa, ac, al, an]), V1⟩)
theorem w_slices_DeleteFunc_int_int_isa_Slots_1 {g : Frag} {a0 : (List Int)} {v0_ : Value} {LB0_ : Own} {a1_0 : Int} {c1_0 : Nat} {r : (List Int)} (h0 : OwT 3 enc_int 1 a0 v0_ LB0_) (h1_0 : g c1_0 = some (blk [.int .i64 a1_0] 3)) (hF : slices_DeleteFunc_int_int_isa_Slots_1 a0 a1_0 = some r) : LC Tryd.prog 60 #[v0_, .func (.func 61) #[] #[.pointer (some ⟨c1_0, 0, none⟩)]] g (LB0_ ++ []) (fun v L => ∃ (u0 : Value) (M0 : Own), u0 = v ∧ L = (M0 ++ []) ∧ OwT 3 enc_int 1 r u0 M0) := w_slices_DeleteFunc_int_int_isa_Slots_1_ h0 h1_0 hF

noncomputable def isa_Slots (a0 : Int) : Option ((List Int) × Int) :=
  bif !(isa_Is a0) then some ([], 1) else (slices_DeleteFunc_int_int_isa_Slots_1 ([0, 1, 2, 3] : List Int) a0).bind fun r7 => some (r7, 0)
theorem w_isa_Slots_ {g : Frag} {a0 : Int} {r : ((List Int) × Int)}  (hF : isa_Slots a0 = some r) : LC Tryd.prog 25 #[.int .i64 a0] g [] (fun v L => ∃ (u0 : Value) (M0 : Own), v = .tuple #[u0, .int .i64 r.2] ∧ L = (M0 ++ []) ∧ OwT 3 enc_int 1 r.1 u0 M0) := by
 unfold isa_Slots at hF
 refine lc_body (k := 10) (av := [.int .i64 a0]) func25 rfl rfl (h := fun W hS => ?_)
 refine c_seq <| c_region ?_
 refine o_boxP (cl := [.int .i64 a0]) rfl hS ?_
 clear hS; intro b1 w hS
 iterate 2 (refine oy hS y_assign ?_)
 refine n_thenN ?_
 iterate 2 (refine c_seq ?_)
 refine c_region <| oy hS (y_load oH underlying3 rfl rfl) ?_
 refine o_callS hS func58 rfl rfl (hc := (w_isa_Is (a0 := a0))) (h := ?_)
 clear hS; intro w hS
 refine oy hS y_not <| n_thenN ?_
 refine c_if (ht := fun c2 => ?_) (hf := fun c2 => ?_)
 · replace hF := bt c2 hF
   refine c_seq <| c_region ?_
   iterate 2 (refine oy hS y_assign ?_)
   refine n_thenN ?_
   obtain rfl := osi hF
   refine wp_ret (r_ret (vs := [(.slice none 0 0), .int .i64 1]) (hS.re (.n)) (rsC res_tmp (rsC res_tmp rsN)) rfl ⟨_, _, rfl, (by first | rfl | simp only [aa, ac, al, an]), (OwT.nil _ _ _)⟩)
 replace hF := bf c2 hF
 refine wp_skip <| c_seq <| c_region ?_
 refine o_buildT val_int ([0, 1, 2, 3] : List Int) hS el_int (fun _ => rfl) enc_len_int (by decide) rfl (by decide) (hp := rfl) (h := ?_)
 clear hS; intro b4 w hS h5
 have hS : St W g [] ([(b4, blk (([0, 1, 2, 3] : List Int).flatMap enc_int) 3)] ++ ((b1, blk [.int .i64 a0] 3) :: [])) w := hS
 refine oy hS (y_makeFunc av0 (av1 (by (conv => lhs; whnf) <;> exact rfl))) ?_
 have hS2 := hS.spl (.app _ (.nil _))
 obtain ⟨r7, hr7, hF⟩ := ob hF
 refine o_call hS2 func60 rfl rfl (hc := (w_slices_DeleteFunc_int_int_isa_Slots_1 (a0 := ([0, 1, 2, 3] : List Int)) (a1_0 := a0) (h0 := h5) (h1_0 := (plus2 hS2 (mH))) (hF := hr7))) (h := ?_)
 clear hS; intro v8 LY9 w hS B0
 clear hS2
 obtain ⟨v_0_11, LX_0_12, rfl, rfl, h_0_13⟩ := B0
 simp only [aa, ac, al] at hS
 iterate 2 (refine oy hS y_assign ?_)
 refine n_thenN ?_
 obtain rfl := osi hF
 refine wp_ret (r_ret (vs := [v_0_11, .int .i64 0]) (hS.re (.t .h .n)) (rsC res_tmp (rsC res_tmp rsN)) rfl ⟨_, _, rfl, (by first | rfl | simp only [aa, ac, al, an]), h_0_13⟩)
theorem w_isa_Slots {g : Frag} {a0 : Int} {r : ((List Int) × Int)}  (hF : isa_Slots a0 = some r) : LC Tryd.prog 25 #[.int .i64 a0] g [] (fun v L => ∃ (u0 : Value) (M0 : Own), v = .tuple #[u0, .int .i64 r.2] ∧ L = (M0 ++ []) ∧ OwT 3 enc_int 1 r.1 u0 M0) := w_isa_Slots_  hF

def r3_Latency (a0 : Int) : Int :=
  bif decide (a0 = 14) then 2 else bif decide (a0 = 15) then 2 else bif decide (a0 = 26) then 2 else bif decide (a0 = 20) then 3 else bif decide (a0 = 24) then 3 else bif decide (a0 = 16) then 4 else bif decide (a0 = 17) then 4 else 1
theorem w_r3_Latency_ {g : Frag} {a0 : Int} {r : Int}  (hF : r3_Latency a0 = r) : LCs Tryd.prog 28 #[.int .i64 a0] g (.int .i64 r) := by
 unfold r3_Latency at hF
 refine lc_body (k := 14) (av := [.int .i64 a0]) func28 rfl rfl (h := fun W hS => ?_)
 refine c_seq <| c_region <| oy hS y_assign <| n_thenN ?_
 iterate 2 (refine c_seq ?_)
 refine c_region <| oy hS y_move <| n_thenN <| c_block ?_
 iterate 2 (refine c_seq ?_)
 refine c_region <| oy hS y_bin <| oy hS y_assign <| n_thenN ?_
 refine c_if (ht := fun c1 => ?_) (hf := fun c1 => ?_)
 · replace hF := bt c1 hF
   refine wp_skip ?_
   refine c_ifT c1 ?_
   refine c_seq <| c_region <| oy hS y_assign <| n_thenN ?_
   subst hF
   exact wp_ret (wr1 hS)
 replace hF := bf c1 hF
 refine c_seq <| c_region <| oy hS y_bin <| oy hS y_assign <| n_thenN ?_
 refine c_if (ht := fun c2 => ?_) (hf := fun c2 => ?_)
 · replace hF := bt c2 hF
   refine wp_skip ?_
   refine c_ifT c2 ?_
   refine c_seq <| c_region <| oy hS y_assign <| n_thenN ?_
   subst hF
   exact wp_ret (wr1 hS)
 replace hF := bf c2 hF
 refine c_region <| oy hS y_bin <| oy hS y_assign <| n_thenN ?_
 refine c_if (ht := fun c3 => ?_) (hf := fun c3 => ?_)
 · replace hF := bt c3 hF
   refine c_seq <| c_region <| oy hS y_assign <| n_thenN ?_
   subst hF
   exact wp_ret (wr1 hS)
 replace hF := bf c3 hF
 iterate 2 (refine c_seq ?_)
 refine c_region <| oy hS y_bin <| oy hS y_assign <| n_thenN ?_
 refine c_if (ht := fun c4 => ?_) (hf := fun c4 => ?_)
 · replace hF := bt c4 hF
   refine wp_skip ?_
   refine c_ifT c4 ?_
   refine c_seq <| c_region <| oy hS y_assign <| n_thenN ?_
   subst hF
   exact wp_ret (wr1 hS)
 replace hF := bf c4 hF
 refine c_region <| oy hS y_bin <| oy hS y_assign <| n_thenN ?_
 refine c_if (ht := fun c5 => ?_) (hf := fun c5 => ?_)
 · replace hF := bt c5 hF
   refine c_seq <| c_region <| oy hS y_assign <| n_thenN ?_
   subst hF
   exact wp_ret (wr1 hS)
 replace hF := bf c5 hF
 iterate 2 (refine c_seq ?_)
 refine c_region <| oy hS y_bin <| oy hS y_assign <| n_thenN ?_
 refine c_if (ht := fun c6 => ?_) (hf := fun c6 => ?_)
 · replace hF := bt c6 hF
   refine wp_skip ?_
   refine c_ifT c6 ?_
   refine c_seq <| c_region <| oy hS y_assign <| n_thenN ?_
   subst hF
   exact wp_ret (wr1 hS)
 replace hF := bf c6 hF
 refine c_region <| oy hS y_bin <| oy hS y_assign <| n_thenN ?_
 refine c_if (ht := fun c7 => ?_) (hf := fun c7 => ?_)
 · replace hF := bt c7 hF
   refine c_seq <| c_region <| oy hS y_assign <| n_thenN ?_
   subst hF
   exact wp_ret (wr1 hS)
 replace hF := bf c7 hF
 refine wp_skip <| c_seq <| c_region <| oy hS y_assign <| n_thenN ?_
 subst hF
 exact wp_ret (wr1 hS)
theorem w_r3_Latency {g : Frag} {a0 : Int}  : LCs Tryd.prog 28 #[.int .i64 a0] g (.int .i64 (r3_Latency a0)) := w_r3_Latency_  rfl

def r3_Ends (a0 : Int) : Bool :=
  (r0_Between a0 28 33)
theorem w_r3_Ends_ {g : Frag} {a0 : Int} {r : Bool}  (hF : r3_Ends a0 = r) : LCs Tryd.prog 32 #[.int .i64 a0] g (.bool r) := by
 unfold r3_Ends at hF
 refine lc_body (k := 5) (av := [.int .i64 a0]) func32 rfl rfl (h := fun W hS => ?_)
 refine c_seq <| c_region <| oy hS y_assign <| n_thenN <| c_seq <| c_region <| oy hS y_move ?_
 refine o_callS hS func40 rfl rfl (hc := (w_r0_Between (a0 := a0) (a1 := 28) (a2 := 33))) (h := ?_)
 clear hS; intro w hS
 refine oy hS y_assign <| n_thenN ?_
 subst hF
 exact wp_ret (wr1 hS)
theorem w_r3_Ends {g : Frag} {a0 : Int}  : LCs Tryd.prog 32 #[.int .i64 a0] g (.bool (r3_Ends a0)) := w_r3_Ends_  rfl

def r3_Slots (a0 : Int) : (List Int) :=
  bif decide (a0 = 0) then ([0, 1, 2, 3] : List Int) else bif decide (a0 = 18) then ([1] : List Int) else bif decide (a0 = 19) then ([1] : List Int) else bif decide (a0 = 21) then ([1] : List Int) else bif (r0_Between a0 14 17) then ([3] : List Int) else bif decide (a0 = 20) then ([3] : List Int) else bif (r0_Between a0 24 27) then ([2] : List Int) else bif (r3_Ends a0) then ([0] : List Int) else ([0, 1] : List Int)
theorem w_r3_Slots_ {g : Frag} {a0 : Int} {r : (List Int)}  (hF : r3_Slots a0 = r) : LC Tryd.prog 29 #[.int .i64 a0] g [] (fun v L => ∃ (u0 : Value) (M0 : Own), u0 = v ∧ L = (M0 ++ []) ∧ OwT 3 enc_int 1 r u0 M0) := by
 unfold r3_Slots at hF
 refine lc_body (k := 36) (av := [.int .i64 a0]) func29 rfl rfl (h := fun W hS => ?_)
 refine c_seq <| c_region <| oy hS y_assign <| n_thenN <| c_seq <| c_block <| c_seq <| c_region ?_
 refine oy hS y_move <| oy hS y_bin <| oy hS y_assign <| n_thenN ?_
 refine c_if (ht := fun c1 => ?_) (hf := fun c1 => ?_)
 · replace hF := bt c1 hF
   refine c_seq <| c_region ?_
   refine o_buildT val_int ([0, 1, 2, 3] : List Int) hS el_int (fun _ => rfl) enc_len_int (by decide) rfl (by decide) (hp := rfl) (h := ?_)
   clear hS; intro b2 w hS h3
   have hS : St W g [] ([(b2, blk (([0, 1, 2, 3] : List Int).flatMap enc_int) 3)] ++ []) w := hS
   refine oy hS y_assign <| n_thenN ?_
   subst hF
   refine wp_ret (r_ret (vs := [(.slice (some ⟨b2, 0, none⟩) 4 4)]) (hS.re (.t .h .n)) (rsC res_tmp rsN) rfl ⟨_, _, rfl, (by first | rfl | simp only [aa, ac, al, an]), h3⟩)
 replace hF := bf c1 hF
 refine c_seq <| c_region <| oy hS y_move <| oy hS y_bin ?_
 refine o_split (ht := fun c5 => ?_) (hf := fun c5 => ?_)
 · replace hF := bt c5 hF
   iterate 2 (refine o_sk rfl rfl ?_)
   refine oy hS y_pickT <| oy hS y_move ?_
   iterate 2 (refine o_sk rfl rfl ?_)
   refine oy hS y_pickT <| oy hS y_assign <| n_thenN ?_
   refine c_if_true (h := ?_)
   refine c_seq <| c_region ?_
   refine o_buildT val_int ([1] : List Int) hS el_int (fun _ => rfl) enc_len_int (by decide) rfl (by decide) (hp := rfl) (h := ?_)
   clear hS; intro b6 w hS h7
   have hS : St W g [] ([(b6, blk (([1] : List Int).flatMap enc_int) 3)] ++ []) w := hS
   refine oy hS y_assign <| n_thenN ?_
   subst hF
   refine wp_ret (r_ret (vs := [(.slice (some ⟨b6, 0, none⟩) 1 1)]) (hS.re (.t .h .n)) (rsC res_tmp rsN) rfl ⟨_, _, rfl, (by first | rfl | simp only [aa, ac, al, an]), h7⟩)
 replace hF := bf c5 hF
 refine o_gu rfl rfl rfl <| oy hS y_move <| o_gu rfl rfl rfl <| oy hS y_bin <| oy hS y_pickF ?_
 refine o_split (ht := fun c9 => ?_) (hf := fun c9 => ?_)
 · replace hF := bt c9 hF
   iterate 2 (refine o_sk rfl rfl ?_)
   refine oy hS y_pickT <| oy hS y_assign <| n_thenN ?_
   refine c_if_true (h := ?_)
   refine c_seq <| c_region ?_
   refine o_buildT val_int ([1] : List Int) hS el_int (fun _ => rfl) enc_len_int (by decide) rfl (by decide) (hp := rfl) (h := ?_)
   clear hS; intro b10 w hS h11
   have hS : St W g [] ([(b10, blk (([1] : List Int).flatMap enc_int) 3)] ++ []) w := hS
   refine oy hS y_assign <| n_thenN ?_
   subst hF
   refine wp_ret (r_ret (vs := [(.slice (some ⟨b10, 0, none⟩) 1 1)]) (hS.re (.t .h .n)) (rsC res_tmp rsN) rfl ⟨_, _, rfl, (by first | rfl | simp only [aa, ac, al, an]), h11⟩)
 replace hF := bf c9 hF
 refine o_gu rfl rfl rfl <| oy hS y_move <| o_gu rfl rfl rfl <| oy hS y_bin <| oy hS y_pickF <| oy hS y_assign <| n_thenN ?_
 refine c_if (ht := fun c13 => ?_) (hf := fun c13 => ?_)
 · replace hF := bt c13 hF
   refine c_seq <| c_region ?_
   refine o_buildT val_int ([1] : List Int) hS el_int (fun _ => rfl) enc_len_int (by decide) rfl (by decide) (hp := rfl) (h := ?_)
   clear hS; intro b14 w hS h15
   have hS : St W g [] ([(b14, blk (([1] : List Int).flatMap enc_int) 3)] ++ []) w := hS
   refine oy hS y_assign <| n_thenN ?_
   subst hF
   refine wp_ret (r_ret (vs := [(.slice (some ⟨b14, 0, none⟩) 1 1)]) (hS.re (.t .h .n)) (rsC res_tmp rsN) rfl ⟨_, _, rfl, (by first | rfl | simp only [aa, ac, al, an]), h15⟩)
 replace hF := bf c13 hF
 refine c_seq <| c_region <| oy hS y_move ?_
 refine o_callS hS func40 rfl rfl (hc := (w_r0_Between (a0 := a0) (a1 := 14) (a2 := 17))) (h := ?_)
 clear hS; intro w hS
 refine o_split (ht := fun c17 => ?_) (hf := fun c17 => ?_)
 · replace hF := bt c17 hF
   iterate 2 (refine o_sk rfl rfl ?_)
   refine oy hS y_pickT <| oy hS y_assign <| n_thenN ?_
   refine c_if_true (h := ?_)
   refine c_seq <| c_region ?_
   refine o_buildT val_int ([3] : List Int) hS el_int (fun _ => rfl) enc_len_int (by decide) rfl (by decide) (hp := rfl) (h := ?_)
   clear hS; intro b18 w hS h19
   have hS : St W g [] ([(b18, blk (([3] : List Int).flatMap enc_int) 3)] ++ []) w := hS
   refine oy hS y_assign <| n_thenN ?_
   subst hF
   refine wp_ret (r_ret (vs := [(.slice (some ⟨b18, 0, none⟩) 1 1)]) (hS.re (.t .h .n)) (rsC res_tmp rsN) rfl ⟨_, _, rfl, (by first | rfl | simp only [aa, ac, al, an]), h19⟩)
 replace hF := bf c17 hF
 refine o_gu rfl rfl rfl <| oy hS y_move <| o_gu rfl rfl rfl <| oy hS y_bin <| oy hS y_pickF <| oy hS y_assign <| n_thenN ?_
 refine c_if (ht := fun c21 => ?_) (hf := fun c21 => ?_)
 · replace hF := bt c21 hF
   refine c_seq <| c_region ?_
   refine o_buildT val_int ([3] : List Int) hS el_int (fun _ => rfl) enc_len_int (by decide) rfl (by decide) (hp := rfl) (h := ?_)
   clear hS; intro b22 w hS h23
   have hS : St W g [] ([(b22, blk (([3] : List Int).flatMap enc_int) 3)] ++ []) w := hS
   refine oy hS y_assign <| n_thenN ?_
   subst hF
   refine wp_ret (r_ret (vs := [(.slice (some ⟨b22, 0, none⟩) 1 1)]) (hS.re (.t .h .n)) (rsC res_tmp rsN) rfl ⟨_, _, rfl, (by first | rfl | simp only [aa, ac, al, an]), h23⟩)
 replace hF := bf c21 hF
 refine c_seq <| c_region <| oy hS y_move ?_
 refine o_callS hS func40 rfl rfl (hc := (w_r0_Between (a0 := a0) (a1 := 24) (a2 := 27))) (h := ?_)
 clear hS; intro w hS
 refine oy hS y_assign <| n_thenN ?_
 refine c_if (ht := fun c25 => ?_) (hf := fun c25 => ?_)
 · replace hF := bt c25 hF
   refine c_seq <| c_region ?_
   refine o_buildT val_int ([2] : List Int) hS el_int (fun _ => rfl) enc_len_int (by decide) rfl (by decide) (hp := rfl) (h := ?_)
   clear hS; intro b26 w hS h27
   have hS : St W g [] ([(b26, blk (([2] : List Int).flatMap enc_int) 3)] ++ []) w := hS
   refine oy hS y_assign <| n_thenN ?_
   subst hF
   refine wp_ret (r_ret (vs := [(.slice (some ⟨b26, 0, none⟩) 1 1)]) (hS.re (.t .h .n)) (rsC res_tmp rsN) rfl ⟨_, _, rfl, (by first | rfl | simp only [aa, ac, al, an]), h27⟩)
 replace hF := bf c25 hF
 refine c_seq <| c_region <| oy hS y_move ?_
 refine o_callS hS func32 rfl rfl (hc := (w_r3_Ends (a0 := a0))) (h := ?_)
 clear hS; intro w hS
 refine oy hS y_assign <| n_thenN ?_
 refine c_if (ht := fun c29 => ?_) (hf := fun c29 => ?_)
 · replace hF := bt c29 hF
   refine c_seq <| c_region ?_
   refine o_buildT val_int ([0] : List Int) hS el_int (fun _ => rfl) enc_len_int (by decide) rfl (by decide) (hp := rfl) (h := ?_)
   clear hS; intro b30 w hS h31
   have hS : St W g [] ([(b30, blk (([0] : List Int).flatMap enc_int) 3)] ++ []) w := hS
   refine oy hS y_assign <| n_thenN ?_
   subst hF
   refine wp_ret (r_ret (vs := [(.slice (some ⟨b30, 0, none⟩) 1 1)]) (hS.re (.t .h .n)) (rsC res_tmp rsN) rfl ⟨_, _, rfl, (by first | rfl | simp only [aa, ac, al, an]), h31⟩)
 replace hF := bf c29 hF
 refine wp_skip <| c_seq <| c_region ?_
 refine o_buildT val_int ([0, 1] : List Int) hS el_int (fun _ => rfl) enc_len_int (by decide) rfl (by decide) (hp := rfl) (h := ?_)
 clear hS; intro b33 w hS h34
 have hS : St W g [] ([(b33, blk (([0, 1] : List Int).flatMap enc_int) 3)] ++ []) w := hS
 refine oy hS y_assign <| n_thenN ?_
 subst hF
 refine wp_ret (r_ret (vs := [(.slice (some ⟨b33, 0, none⟩) 2 2)]) (hS.re (.t .h .n)) (rsC res_tmp rsN) rfl ⟨_, _, rfl, (by first | rfl | simp only [aa, ac, al, an]), h34⟩)
theorem w_r3_Slots {g : Frag} {a0 : Int}  : LC Tryd.prog 29 #[.int .i64 a0] g [] (fun v L => ∃ (u0 : Value) (M0 : Own), u0 = v ∧ L = (M0 ++ []) ∧ OwT 3 enc_int 1 (r3_Slots a0) u0 M0) := w_r3_Slots_  rfl
end Go.Proofs.YtaplgcdpppcajaaDoor
