/- The law IsaFields, lifted. Printed by lift.py. -/
import Derived.Test.YtaplgcdpppcajaaDoorProg
import Derived.Test.YtaplgcdpppcajaaDoorP1
import Derived.KernelRfl
namespace Go.Proofs.YtaplgcdpppcajaaDoor
open Go Go.RowKit Fr
set_option linter.unusedVariables false
set_option linter.unusedSimpArgs false
set_option maxRecDepth 20000
open Tryd
set_option maxHeartbeats 2000000
noncomputable def l3_IsaFields_k6 (B0 : Int) (D0 : Int) (E0 : Int) (G0 : Int) : Int → Option (Step Int (Step Int (Step Unit Bool))) := fun I0 => (quo' .i64 B0 4).bind fun J0 => bif decide (J0 = 1) then (rem' B0 4).bind fun Y0 => (at' ([(-1), 16, 1, 0] : List Int) Y0).bind fun K0 => (isa_Check (⟨D0, K0, E0, I0, 0, ByteArray.empty⟩ : T_Ins)).bind fun Z0 => (r3_Ins (⟨D0, K0, E0, I0, 0, ByteArray.empty⟩ : T_Ins)).bind fun B1 => bif (decide ((l3_num Z0) = 0)) != B1 then some (.done (.done (.done (false)))) else some (.next (IntKind.i64.wrap (B0 + 1))) else bif decide (J0 = 2) then (rem' B0 4).bind fun D1 => (at' ([(-1), 16, 1, 0] : List Int) D1).bind fun M0 => (isa_Check (⟨D0, G0, M0, I0, 0, ByteArray.empty⟩ : T_Ins)).bind fun E1 => (r3_Ins (⟨D0, G0, M0, I0, 0, ByteArray.empty⟩ : T_Ins)).bind fun G1 => bif (decide ((l3_num E1) = 0)) != G1 then some (.done (.done (.done (false)))) else some (.next (IntKind.i64.wrap (B0 + 1))) else bif decide (J0 = 3) then (rem' B0 4).bind fun I1 => (at' ([(-1), 16, 1, 0] : List Int) I1).bind fun N0 => (isa_Check (⟨D0, G0, E0, N0, 0, ByteArray.empty⟩ : T_Ins)).bind fun J1 => (r3_Ins (⟨D0, G0, E0, N0, 0, ByteArray.empty⟩ : T_Ins)).bind fun K1 => bif (decide ((l3_num J1) = 0)) != K1 then some (.done (.done (.done (false)))) else some (.next (IntKind.i64.wrap (B0 + 1))) else bif decide (J0 = 4) then (rem' B0 4).bind fun M1 => (at' ([8191, 8192, (-8192), (-8193)] : List Int) M1).bind fun R0 => (isa_Check (⟨D0, G0, E0, I0, R0, ByteArray.empty⟩ : T_Ins)).bind fun N1 => (r3_Ins (⟨D0, G0, E0, I0, R0, ByteArray.empty⟩ : T_Ins)).bind fun R1 => bif (decide ((l3_num N1) = 0)) != R1 then some (.done (.done (.done (false)))) else some (.next (IntKind.i64.wrap (B0 + 1))) else bif decide (J0 = 5) then (rem' B0 4).bind fun T1 => (at' ([131071, 131072, (-131072), (-131073)] : List Int) T1).bind fun T0 => (isa_Check (⟨D0, G0, E0, I0, T0, ByteArray.empty⟩ : T_Ins)).bind fun U1 => (r3_Ins (⟨D0, G0, E0, I0, T0, ByteArray.empty⟩ : T_Ins)).bind fun V1 => bif (decide ((l3_num U1) = 0)) != V1 then some (.done (.done (.done (false)))) else some (.next (IntKind.i64.wrap (B0 + 1))) else bif decide (J0 = 6) then (rem' B0 4).bind fun X1 => (at' ([1, 1023, 1024, (-1)] : List Int) X1).bind fun U0 => (isa_Check (⟨D0, G0, E0, I0, U0, ByteArray.empty⟩ : T_Ins)).bind fun Y1 => (r3_Ins (⟨D0, G0, E0, I0, U0, ByteArray.empty⟩ : T_Ins)).bind fun Z1 => bif (decide ((l3_num Y1) = 0)) != Z1 then some (.done (.done (.done (false)))) else some (.next (IntKind.i64.wrap (B0 + 1))) else bif decide (J0 = 7) then (rem' B0 4).bind fun B2 => (at' ([(ByteArray.mk #[97]), (ByteArray.mk #[49]), (ByteArray.mk #[46, 97]), (ByteArray.mk #[97, 98, 99, 100, 101, 102, 103, 104, 105, 106, 107, 108, 109])] : List ByteArray) B2).bind fun V0 => (isa_Check (⟨D0, G0, E0, I0, 0, V0⟩ : T_Ins)).bind fun D2 => (r3_Ins (⟨D0, G0, E0, I0, 0, V0⟩ : T_Ins)).bind fun E2 => bif (decide ((l3_num D2) = 0)) != E2 then some (.done (.done (.done (false)))) else some (.next (IntKind.i64.wrap (B0 + 1))) else bif decide (J0 = 8) then (rem' B0 4).bind fun G2 => (at' ([0, 1, (-1), 131072] : List Int) G2).bind fun X0 => (isa_Check (⟨D0, G0, E0, I0, X0, (ByteArray.mk #[97])⟩ : T_Ins)).bind fun I2 => (r3_Ins (⟨D0, G0, E0, I0, X0, (ByteArray.mk #[97])⟩ : T_Ins)).bind fun J2 => bif (decide ((l3_num I2) = 0)) != J2 then some (.done (.done (.done (false)))) else some (.next (IntKind.i64.wrap (B0 + 1))) else (isa_Check (⟨D0, G0, E0, I0, 0, ByteArray.empty⟩ : T_Ins)).bind fun K2 => (r3_Ins (⟨D0, G0, E0, I0, 0, ByteArray.empty⟩ : T_Ins)).bind fun M2 => bif (decide ((l3_num K2) = 0)) != M2 then some (.done (.done (.done (false)))) else some (.next (IntKind.i64.wrap (B0 + 1)))
noncomputable def l3_IsaFields_k5 (D0 : Int) (B0 : Int) (E0 : Int) (G0 : Int) : Int → Option (Step Int (Step Int (Step Unit Bool))) := fun I0 => cut (σ := Int) (bif (r3_HasB D0) then (rem' (IntKind.i64.wrap (B0 * 5)) 16).bind fun J0 => some (.next J0) else some (.next 0)) (l3_IsaFields_k6 B0 E0 I0 G0)
noncomputable def l3_IsaFields_k4 (B0 : Int) (D0 : Int) (E0 : Int) : Int → Option (Step Int (Step Int (Step Unit Bool))) := fun G0 => cut (σ := Int) (bif (r3_HasA B0) then (rem' (IntKind.i64.wrap (D0 * 3)) 16).bind fun I0 => some (.next I0) else some (.next 0)) (l3_IsaFields_k5 B0 D0 E0 G0)
noncomputable def l3_IsaFields_b3 (B0 : Int) : Int → Option (Step Int (Step Int (Step Unit Bool))) := fun D0 => bif decide (D0 < 40) then (r3_Form B0).bind fun E0 => cut (σ := Int) (bif (r3_HasD E0) then (rem' D0 16).bind fun G0 => some (.next G0) else some (.next 0)) (l3_IsaFields_k4 E0 D0 B0) else some (.done (.next (IntKind.i64.wrap (B0 + 1))))
noncomputable def l3_IsaFields_b2  : Int → Option (Step Int (Step Unit Bool)) := fun B0 => bif decide (B0 ≤ 33) then loop (σ := Int) (l3_IsaFields_b3 B0) 0 else some (.done (.next ()))
noncomputable def l3_IsaFields_k1 (a0 : T_Ask) : Unit → Option Bool := fun _ => bif decide (0 ≤ (a0.I.length : Int)) then bif (r1_Has 1) then (l3_wakes).bind fun B0 => some (B0) else some (false) else some (false)
noncomputable def l3_IsaFields (a0 : T_Ask) : Option Bool :=
  cut (σ := Unit) (loop (σ := Int) (l3_IsaFields_b2) 0) (l3_IsaFields_k1 a0)
theorem w_l3_IsaFields_ {g : Frag} {a0 : T_Ask} {v0_ : Value} {r : Bool} (h0 : Rd_Ask g a0 v0_) (hG : GT g) (hF : l3_IsaFields a0 = some r) : LCs Tryd.prog 3 #[v0_] g (.bool r) := by
 obtain ⟨J0, K0, rfl, U8, Xa⟩ := h0
 unfold l3_IsaFields at hF
 refine lc_body (k := 121) (av := [.agg (cl_Ask J0 K0).toArray]) func3 rfl rfl (h := fun W hS => ?_)
 refine c_seq <| c_region ?_
 refine o_boxP (cl := (cl_Ask J0 K0)) rfl hS ?_
 clear hS; intro b1 w hS
 refine oy hS y_assign <| n_thenN ?_
 obtain ⟨T0, hF, R0⟩ := cut_step hF
 refine c_cutP (fun a w' => l3_IsaFields_k1 a0 () = some r ∧ (∃ s : Nat → Value, a = Ac ((Fm.dead 121 s).upd 1 (.pointer (some ⟨b1, 0, none⟩)))) ∧ St W g [] ((b1, blk (cl_Ask J0 K0) 25) :: []) w') ?_ ?_
 · skip
   refine c_seq <| c_region <| oy hS y_assign <| n_thenN <| c_block ?_
   refine c_loopP hF (fun (q : Int) a w' => (∃ s : Nat → Value, a = Ac (((Fm.dead 121 s).upd 1 (.pointer (some ⟨b1, 0, none⟩))).upd 3 (.int .i64 q))) ∧ St W g [] ((b1, blk (cl_Ask J0 K0) 25) :: []) w') ⟨mk_exF, (hS.re (.b .hb .n))⟩ ?_
   clear hS hF
   intro Ya q a w hI hq
   revert hq hI; revert q; intro B0 hI hq
   obtain ⟨⟨Za, rfl⟩, hS⟩ := hq
   obtain ⟨U0, hF, N0⟩ := iter_step hI
   clear hI
   dsimp only [l3_IsaFields_b2] at hF
   iterate 2 (refine c_seq ?_)
   refine c_region <| oy hS y_move <| oy hS y_bin <| n_thenN ?_
   refine c_if (ht := fun K1 => ?_) (hf := fun K1 => ?_)
   · replace hF := bt K1 hF
     refine wp_skip <| c_seq <| c_block <| c_seq <| c_region <| oy hS y_assign <| n_thenN <| c_block ?_
     refine c_loopP hF (fun (q : Int) a w' => (∃ s : Nat → Value, a = Ac ((((Fm.dead 121 s).upd 1 (.pointer (some ⟨b1, 0, none⟩))).upd 3 (.int .i64 B0)).upd 4 (.int .i64 q))) ∧ St W g [] ((b1, blk (cl_Ask J0 K0) 25) :: []) w') ⟨mk_exF, (hS.re (.b .hb .n))⟩ ?_
     clear hS hF
     intro Bb q a w hI hq
     revert hq hI; revert q; intro X0 hI hq
     obtain ⟨⟨Db, rfl⟩, hS⟩ := hq
     obtain ⟨M1, hF, I0⟩ := iter_step hI
     clear hI
     dsimp only [l3_IsaFields_b3] at hF
     iterate 2 (refine c_seq ?_)
     refine c_region <| oy hS y_move <| oy hS y_bin <| n_thenN ?_
     refine c_if (ht := fun N1 => ?_) (hf := fun N1 => ?_)
     · replace hF := bt N1 hF
       refine wp_skip <| c_seq <| c_block <| c_seq <| c_region <| oy hS y_move ?_
       refine oy hS (y_build (cl := (enc_Ins ⟨B0, 0, 0, 0, 0, ByteArray.empty⟩)) bt_api_Ins rfl (by kernel_rfl)) ?_
       refine o_allocP (cl := (enc_Ins ⟨0, 0, 0, 0, 0, ByteArray.empty⟩)) zr_api_Ins rfl hS ?_
       clear hS; intro M0 w hS
       refine o_storeW (vs := (enc_Ins ⟨B0, 0, 0, 0, 0, ByteArray.empty⟩)) hS (by exact rfl) (Upd.here _) (by exact sz_api_Ins) (enc_one_Ins _) ?_
       clear hS; intro w hS
       refine n_thenN <| c_seq <| c_region <| oy hS y_move ?_
       obtain ⟨V0, Y3, hF⟩ := ob hF
       refine o_callS hS func6 rfl rfl (hc := (w_r3_Form (a0 := B0) (hF := Y3))) (h := ?_)
       clear hS; intro w hS
       refine oy hS y_assign <| n_thenN ?_
       obtain ⟨Eb, hF, M3⟩ := cut_step hF
       refine c_cutP (fun a w' => ∃ (D0 : Int), l3_IsaFields_k4 V0 X0 B0 D0 = some M1 ∧ (∃ s : Nat → Value, a = Ac ((((((Fm.dead 121 s).upd 1 (.pointer (some ⟨b1, 0, none⟩))).upd 3 (.int .i64 B0)).upd 4 (.int .i64 X0)).upd 5 (.pointer (some ⟨M0, 0, none⟩))).upd 6 (.int .i64 V0))) ∧ St W g [] ((b1, blk (cl_Ask J0 K0) 25) :: ((M0, blk (enc_Ins ⟨B0, D0, 0, 0, 0, ByteArray.empty⟩) 27) :: [])) w') ?_ ?_
       · skip
         refine c_seq <| c_region <| oy hS y_move ?_
         refine o_callS hS func7 rfl rfl (hc := (w_r3_HasD (a0 := V0))) (h := ?_)
         clear hS; intro w hS
         refine n_thenN ?_
         refine c_if (ht := fun R1 => ?_) (hf := fun R1 => ?_)
         · replace hF := bt R1 hF
           refine c_region <| oy hS y_move ?_
           obtain ⟨U3, Z3, hF⟩ := ob hF
           refine oy hS (y_rem Z3) <| oy hS (y_field fa_api_Ins_1) ?_
           refine o_storeA1 (o := 1) (cl' := (enc_Ins ⟨B0, U3, 0, 0, 0, ByteArray.empty⟩)) hS (by kernel_rfl) (by exact Nat.le_of_ble_eq_true rfl) (Upd.here _) (by exact sz_int) rfl rfl ?_
           clear hS; intro w hS
           refine n_thenN ?_
           obtain rfl := osi hF
           change ∃ _, _
           exact ⟨U3, M3, mk_exF, (hS.re (.b (.e .hb) (.b .hb .n)))⟩
         replace hF := bf R1 hF
         refine wp_skip ?_
         obtain rfl := osi hF
         change ∃ _, _
         exact ⟨0, M3, mk_exF, (hS.re (.b (.e .hb) (.b .hb .n)))⟩
       rintro a w ⟨D0, hF, ⟨Gb, rfl⟩, hS⟩
       dsimp only [l3_IsaFields_k4] at hF
       obtain ⟨Ib, hF, N3⟩ := cut_step hF
       refine c_cutP (fun a w' => ∃ (E0 : Int), l3_IsaFields_k5 V0 X0 B0 D0 E0 = some M1 ∧ (∃ s : Nat → Value, a = Ac ((((((Fm.dead 121 s).upd 1 (.pointer (some ⟨b1, 0, none⟩))).upd 3 (.int .i64 B0)).upd 4 (.int .i64 X0)).upd 5 (.pointer (some ⟨M0, 0, none⟩))).upd 6 (.int .i64 V0))) ∧ St W g [] ((b1, blk (cl_Ask J0 K0) 25) :: ((M0, blk (enc_Ins ⟨B0, D0, E0, 0, 0, ByteArray.empty⟩) 27) :: [])) w') ?_ ?_
       · skip
         refine c_seq <| c_region <| oy hS y_move ?_
         refine o_callS hS func8 rfl rfl (hc := (w_r3_HasA (a0 := V0))) (h := ?_)
         clear hS; intro w hS
         refine n_thenN ?_
         refine c_if (ht := fun T1 => ?_) (hf := fun T1 => ?_)
         · replace hF := bt T1 hF
           refine c_region <| oy hS y_move <| oy hS y_bin ?_
           obtain ⟨V3, B4, hF⟩ := ob hF
           refine oy hS (y_rem B4) <| oy hS (y_field fa_api_Ins_2) ?_
           refine o_storeA1 (o := 2) (cl' := (enc_Ins ⟨B0, D0, V3, 0, 0, ByteArray.empty⟩)) hS (by kernel_rfl) (by exact Nat.le_of_ble_eq_true rfl) (Upd.there _ (Upd.here _)) (by exact sz_int) rfl rfl ?_
           clear hS; intro w hS
           refine n_thenN ?_
           obtain rfl := osi hF
           change ∃ _, _
           exact ⟨V3, N3, mk_exF, (hS.re (.b .hb (.b .hb .n)))⟩
         replace hF := bf T1 hF
         refine wp_skip ?_
         obtain rfl := osi hF
         change ∃ _, _
         exact ⟨0, N3, mk_exF, (hS.re (.b .hb (.b .hb .n)))⟩
       rintro a w ⟨E0, hF, ⟨Jb, rfl⟩, hS⟩
       dsimp only [l3_IsaFields_k5] at hF
       obtain ⟨Kb, hF, R3⟩ := cut_step hF
       refine c_cutP (fun a w' => ∃ (G0 : Int), l3_IsaFields_k6 X0 B0 E0 D0 G0 = some M1 ∧ (∃ s : Nat → Value, a = Ac (((((Fm.dead 121 s).upd 1 (.pointer (some ⟨b1, 0, none⟩))).upd 3 (.int .i64 B0)).upd 4 (.int .i64 X0)).upd 5 (.pointer (some ⟨M0, 0, none⟩)))) ∧ St W g [] ((b1, blk (cl_Ask J0 K0) 25) :: ((M0, blk (enc_Ins ⟨B0, D0, E0, G0, 0, ByteArray.empty⟩) 27) :: [])) w') ?_ ?_
       · skip
         refine c_seq <| c_region <| oy hS y_move ?_
         refine o_callS hS func9 rfl rfl (hc := (w_r3_HasB (a0 := V0))) (h := ?_)
         clear hS; intro w hS
         refine n_thenN ?_
         refine c_if (ht := fun U1 => ?_) (hf := fun U1 => ?_)
         · replace hF := bt U1 hF
           refine c_region <| oy hS y_move <| oy hS y_bin ?_
           obtain ⟨X3, D4, hF⟩ := ob hF
           refine oy hS (y_rem D4) <| oy hS (y_field fa_api_Ins_3) ?_
           refine o_storeA1 (o := 3) (cl' := (enc_Ins ⟨B0, D0, E0, X3, 0, ByteArray.empty⟩)) hS (by kernel_rfl) (by exact Nat.le_of_ble_eq_true rfl) (Upd.there _ (Upd.here _)) (by exact sz_int) rfl rfl ?_
           clear hS; intro w hS
           refine n_thenN ?_
           obtain rfl := osi hF
           change ∃ _, _
           exact ⟨X3, R3, mk_exF, (hS.re (.b .hb (.b .hb .n)))⟩
         replace hF := bf U1 hF
         refine wp_skip ?_
         obtain rfl := osi hF
         change ∃ _, _
         exact ⟨0, R3, mk_exF, (hS.re (.b .hb (.b .hb .n)))⟩
       rintro a w ⟨G0, hF, ⟨Mb, rfl⟩, hS⟩
       dsimp only [l3_IsaFields_k6] at hF
       iterate 2 (refine c_seq ?_)
       refine c_region <| oy hS y_move ?_
       obtain ⟨Nb, E4, hF⟩ := ob hF
       refine oy hS (y_quo E4) <| n_thenN <| c_block <| c_seq <| c_region <| oy hS y_bin <| oy hS y_assign <| n_thenN ?_
       refine c_if (ht := fun V1 => ?_) (hf := fun V1 => ?_)
       · replace hF := bt V1 hF
         refine c_region ?_
         refine o_buildT val_int ([(-1), 16, 1, 0] : List Int) hS el_int (fun _ => rfl) enc_len_int (by decide) rfl (by decide) (hp := rfl) (h := ?_)
         clear hS; intro V8 w hS X8
         have hS : St W g [] ([(V8, blk (([(-1), 16, 1, 0] : List Int).flatMap enc_int) 3)] ++ ((b1, blk (cl_Ask J0 K0) 25) :: ((M0, blk (enc_Ins ⟨B0, D0, E0, G0, 0, ByteArray.empty⟩) 27) :: []))) w := hS
         refine oy hS y_move ?_
         obtain ⟨Rb, G4, hF⟩ := ob hF
         refine oy hS (y_rem G4) ?_
         obtain ⟨X1, I4, hF⟩ := ob hF
         obtain ⟨Tb, Ub, Ka, J4, K4, M4, N4, R4⟩ := OwT.at I4 X8 enc_len_int
         refine oy hS (y_index J4 K4 M4 underlying30 el_int.size) <| oy hS (y_load (fun w hS => hS.own (mA (mX N4))) underlying3 rfl (R4 0 _ rfl)) <| oy hS (y_field fa_api_Ins_1) ?_
         have hS := hS.re (.b (.d (.e .hb)) (.t .h (.b .hb .n)))
         refine o_storeA1 (o := 1) (cl' := (enc_Ins ⟨B0, X1, E0, G0, 0, ByteArray.empty⟩)) hS (by kernel_rfl) (by exact Nat.le_of_ble_eq_true rfl) (Upd.here _) (by exact sz_int) rfl rfl ?_
         clear hS; intro w hS
         refine n_anyN ?_
         refine c_seq ?_
         refine c_quiet (by kernel_rfl) (by kernel_rfl) hS ?_
         refine qy (y_loadW (fun w hS => hS.own (mH)) underlying27 rfl (by exact sz_api_Ins)) ?_
         obtain ⟨Y8, T4, hF⟩ := ob hF
         refine q_callS func11 rfl rfl (hc := (w_isa_Check (a0 := (⟨B0, X1, E0, G0, 0, ByteArray.empty⟩ : T_Ins)) (hF := T4))) (h := ?_)
         refine q_callS func10 rfl rfl (hc := (w_l3_num (a0 := Y8))) (h := ?_)
         refine qy y_bin ?_
         refine qy (y_loadW (fun w hS => hS.own (mH)) underlying27 rfl (by exact sz_api_Ins)) ?_
         obtain ⟨Vb, U4, hF⟩ := ob hF
         refine q_callS func12 rfl rfl (hc := (w_r3_Ins (a0 := (⟨B0, X1, E0, G0, 0, ByteArray.empty⟩ : T_Ins)) (hF := U4))) (h := ?_)
         refine qy (y_bneq underlying4) ?_
         refine q_nilN (h := ?_)
         clear hS; intro w hS
         refine c_if (ht := fun Y1 => ?_) (hf := fun Y1 => ?_)
         · replace hF := bt Y1 hF
           refine c_seq <| c_region <| oy hS y_assign <| n_thenN ?_
           obtain rfl := osi hF
           obtain rfl : _ = U0 := I0
           obtain rfl : _ = T0 := N0
           obtain rfl : _ = r := R0
           exact wp_ret (wr1 hS)
         replace hF := bf Y1 hF
         refine wp_skip <| c_region <| oy hS y_move <| oy hS y_bin <| oy hS y_assign <| n_thenN ?_
         obtain rfl := osi hF
         exact ⟨_, I0, mk_exF, (hS.re (.b (.e (.d .hb)) .n))⟩
       replace hF := bf V1 hF
       refine c_seq <| c_region <| oy hS y_bin <| oy hS y_assign <| n_thenN ?_
       refine c_if (ht := fun Z1 => ?_) (hf := fun Z1 => ?_)
       · replace hF := bt Z1 hF
         refine c_region ?_
         refine o_buildT val_int ([(-1), 16, 1, 0] : List Int) hS el_int (fun _ => rfl) enc_len_int (by decide) rfl (by decide) (hp := rfl) (h := ?_)
         clear hS; intro Z8 w hS B9
         have hS : St W g [] ([(Z8, blk (([(-1), 16, 1, 0] : List Int).flatMap enc_int) 3)] ++ ((b1, blk (cl_Ask J0 K0) 25) :: ((M0, blk (enc_Ins ⟨B0, D0, E0, G0, 0, ByteArray.empty⟩) 27) :: []))) w := hS
         refine oy hS y_move ?_
         obtain ⟨Xb, V4, hF⟩ := ob hF
         refine oy hS (y_rem V4) ?_
         obtain ⟨B2, X4, hF⟩ := ob hF
         obtain ⟨Yb, Zb, Ma, Y4, Z4, B5, D5, E5⟩ := OwT.at X4 B9 enc_len_int
         refine oy hS (y_index Y4 Z4 B5 underlying30 el_int.size) <| oy hS (y_load (fun w hS => hS.own (mA (mX D5))) underlying3 rfl (E5 0 _ rfl)) <| oy hS (y_field fa_api_Ins_2) ?_
         have hS := hS.re (.b (.d (.e .hb)) (.t .h (.b .hb .n)))
         refine o_storeA1 (o := 2) (cl' := (enc_Ins ⟨B0, D0, B2, G0, 0, ByteArray.empty⟩)) hS (by kernel_rfl) (by exact Nat.le_of_ble_eq_true rfl) (Upd.here _) (by exact sz_int) rfl rfl ?_
         clear hS; intro w hS
         refine n_anyN ?_
         refine c_seq ?_
         refine c_quiet (by kernel_rfl) (by kernel_rfl) hS ?_
         refine qy (y_loadW (fun w hS => hS.own (mH)) underlying27 rfl (by exact sz_api_Ins)) ?_
         obtain ⟨D9, G5, hF⟩ := ob hF
         refine q_callS func11 rfl rfl (hc := (w_isa_Check (a0 := (⟨B0, D0, B2, G0, 0, ByteArray.empty⟩ : T_Ins)) (hF := G5))) (h := ?_)
         refine q_callS func10 rfl rfl (hc := (w_l3_num (a0 := D9))) (h := ?_)
         refine qy y_bin ?_
         refine qy (y_loadW (fun w hS => hS.own (mH)) underlying27 rfl (by exact sz_api_Ins)) ?_
         obtain ⟨Bc, I5, hF⟩ := ob hF
         refine q_callS func12 rfl rfl (hc := (w_r3_Ins (a0 := (⟨B0, D0, B2, G0, 0, ByteArray.empty⟩ : T_Ins)) (hF := I5))) (h := ?_)
         refine qy (y_bneq underlying4) ?_
         refine q_nilN (h := ?_)
         clear hS; intro w hS
         refine c_if (ht := fun D2 => ?_) (hf := fun D2 => ?_)
         · replace hF := bt D2 hF
           refine c_seq <| c_region <| oy hS y_assign <| n_thenN ?_
           obtain rfl := osi hF
           obtain rfl : _ = U0 := I0
           obtain rfl : _ = T0 := N0
           obtain rfl : _ = r := R0
           exact wp_ret (wr1 hS)
         replace hF := bf D2 hF
         refine wp_skip <| c_region <| oy hS y_move <| oy hS y_bin <| oy hS y_assign <| n_thenN ?_
         obtain rfl := osi hF
         exact ⟨_, I0, mk_exF, (hS.re (.b (.e (.d .hb)) .n))⟩
       replace hF := bf Z1 hF
       refine c_seq <| c_region <| oy hS y_bin <| oy hS y_assign <| n_thenN ?_
       refine c_if (ht := fun E2 => ?_) (hf := fun E2 => ?_)
       · replace hF := bt E2 hF
         refine c_region ?_
         refine o_buildT val_int ([(-1), 16, 1, 0] : List Int) hS el_int (fun _ => rfl) enc_len_int (by decide) rfl (by decide) (hp := rfl) (h := ?_)
         clear hS; intro E9 w hS G9
         have hS : St W g [] ([(E9, blk (([(-1), 16, 1, 0] : List Int).flatMap enc_int) 3)] ++ ((b1, blk (cl_Ask J0 K0) 25) :: ((M0, blk (enc_Ins ⟨B0, D0, E0, G0, 0, ByteArray.empty⟩) 27) :: []))) w := hS
         refine oy hS y_move ?_
         obtain ⟨Dc, J5, hF⟩ := ob hF
         refine oy hS (y_rem J5) ?_
         obtain ⟨G2, K5, hF⟩ := ob hF
         obtain ⟨Ec, Gc, Na, M5, N5, R5, T5, U5⟩ := OwT.at K5 G9 enc_len_int
         refine oy hS (y_index M5 N5 R5 underlying30 el_int.size) <| oy hS (y_load (fun w hS => hS.own (mA (mX T5))) underlying3 rfl (U5 0 _ rfl)) <| oy hS (y_field fa_api_Ins_3) ?_
         have hS := hS.re (.b (.d (.e .hb)) (.t .h (.b .hb .n)))
         refine o_storeA1 (o := 3) (cl' := (enc_Ins ⟨B0, D0, E0, G2, 0, ByteArray.empty⟩)) hS (by kernel_rfl) (by exact Nat.le_of_ble_eq_true rfl) (Upd.here _) (by exact sz_int) rfl rfl ?_
         clear hS; intro w hS
         refine n_anyN ?_
         refine c_seq ?_
         refine c_quiet (by kernel_rfl) (by kernel_rfl) hS ?_
         refine qy (y_loadW (fun w hS => hS.own (mH)) underlying27 rfl (by exact sz_api_Ins)) ?_
         obtain ⟨I9, V5, hF⟩ := ob hF
         refine q_callS func11 rfl rfl (hc := (w_isa_Check (a0 := (⟨B0, D0, E0, G2, 0, ByteArray.empty⟩ : T_Ins)) (hF := V5))) (h := ?_)
         refine q_callS func10 rfl rfl (hc := (w_l3_num (a0 := I9))) (h := ?_)
         refine qy y_bin ?_
         refine qy (y_loadW (fun w hS => hS.own (mH)) underlying27 rfl (by exact sz_api_Ins)) ?_
         obtain ⟨Ic, X5, hF⟩ := ob hF
         refine q_callS func12 rfl rfl (hc := (w_r3_Ins (a0 := (⟨B0, D0, E0, G2, 0, ByteArray.empty⟩ : T_Ins)) (hF := X5))) (h := ?_)
         refine qy (y_bneq underlying4) ?_
         refine q_nilN (h := ?_)
         clear hS; intro w hS
         refine c_if (ht := fun I2 => ?_) (hf := fun I2 => ?_)
         · replace hF := bt I2 hF
           refine c_seq <| c_region <| oy hS y_assign <| n_thenN ?_
           obtain rfl := osi hF
           obtain rfl : _ = U0 := I0
           obtain rfl : _ = T0 := N0
           obtain rfl : _ = r := R0
           exact wp_ret (wr1 hS)
         replace hF := bf I2 hF
         refine wp_skip <| c_region <| oy hS y_move <| oy hS y_bin <| oy hS y_assign <| n_thenN ?_
         obtain rfl := osi hF
         exact ⟨_, I0, mk_exF, (hS.re (.b (.e (.d .hb)) .n))⟩
       replace hF := bf E2 hF
       refine c_seq <| c_region <| oy hS y_bin <| oy hS y_assign <| n_thenN ?_
       refine c_if (ht := fun J2 => ?_) (hf := fun J2 => ?_)
       · replace hF := bt J2 hF
         refine c_region ?_
         refine o_buildT val_int ([8191, 8192, (-8192), (-8193)] : List Int) hS el_int (fun _ => rfl) enc_len_int (by decide) rfl (by decide) (hp := rfl) (h := ?_)
         clear hS; intro J9 w hS K9
         have hS : St W g [] ([(J9, blk (([8191, 8192, (-8192), (-8193)] : List Int).flatMap enc_int) 3)] ++ ((b1, blk (cl_Ask J0 K0) 25) :: ((M0, blk (enc_Ins ⟨B0, D0, E0, G0, 0, ByteArray.empty⟩) 27) :: []))) w := hS
         refine oy hS y_move ?_
         obtain ⟨Jc, Y5, hF⟩ := ob hF
         refine oy hS (y_rem Y5) ?_
         obtain ⟨K2, Z5, hF⟩ := ob hF
         obtain ⟨Kc, Mc, Ra, B6, D6, E6, G6, I6⟩ := OwT.at Z5 K9 enc_len_int
         refine oy hS (y_index B6 D6 E6 underlying30 el_int.size) <| oy hS (y_load (fun w hS => hS.own (mA (mX G6))) underlying3 rfl (I6 0 _ rfl)) <| oy hS (y_field fa_api_Ins_4) ?_
         have hS := hS.re (.b (.d (.e .hb)) (.t .h (.b .hb .n)))
         refine o_storeA1 (o := 4) (cl' := (enc_Ins ⟨B0, D0, E0, G0, K2, ByteArray.empty⟩)) hS (by kernel_rfl) (by exact Nat.le_of_ble_eq_true rfl) (Upd.here _) (by exact sz_int) rfl rfl ?_
         clear hS; intro w hS
         refine n_anyN ?_
         refine c_seq ?_
         refine c_quiet (by kernel_rfl) (by kernel_rfl) hS ?_
         refine qy (y_loadW (fun w hS => hS.own (mH)) underlying27 rfl (by exact sz_api_Ins)) ?_
         obtain ⟨M9, J6, hF⟩ := ob hF
         refine q_callS func11 rfl rfl (hc := (w_isa_Check (a0 := (⟨B0, D0, E0, G0, K2, ByteArray.empty⟩ : T_Ins)) (hF := J6))) (h := ?_)
         refine q_callS func10 rfl rfl (hc := (w_l3_num (a0 := M9))) (h := ?_)
         refine qy y_bin ?_
         refine qy (y_loadW (fun w hS => hS.own (mH)) underlying27 rfl (by exact sz_api_Ins)) ?_
         obtain ⟨Nc, K6, hF⟩ := ob hF
         refine q_callS func12 rfl rfl (hc := (w_r3_Ins (a0 := (⟨B0, D0, E0, G0, K2, ByteArray.empty⟩ : T_Ins)) (hF := K6))) (h := ?_)
         refine qy (y_bneq underlying4) ?_
         refine q_nilN (h := ?_)
         clear hS; intro w hS
         refine c_if (ht := fun M2 => ?_) (hf := fun M2 => ?_)
         · replace hF := bt M2 hF
           refine c_seq <| c_region <| oy hS y_assign <| n_thenN ?_
           obtain rfl := osi hF
           obtain rfl : _ = U0 := I0
           obtain rfl : _ = T0 := N0
           obtain rfl : _ = r := R0
           exact wp_ret (wr1 hS)
         replace hF := bf M2 hF
         refine wp_skip <| c_region <| oy hS y_move <| oy hS y_bin <| oy hS y_assign <| n_thenN ?_
         obtain rfl := osi hF
         exact ⟨_, I0, mk_exF, (hS.re (.b (.e (.d .hb)) .n))⟩
       replace hF := bf J2 hF
       refine c_seq <| c_region <| oy hS y_bin <| oy hS y_assign <| n_thenN ?_
       refine c_if (ht := fun N2 => ?_) (hf := fun N2 => ?_)
       · replace hF := bt N2 hF
         refine c_region ?_
         refine o_buildT val_int ([131071, 131072, (-131072), (-131073)] : List Int) hS el_int (fun _ => rfl) enc_len_int (by decide) rfl (by decide) (hp := rfl) (h := ?_)
         clear hS; intro N9 w hS R9
         have hS : St W g [] ([(N9, blk (([131071, 131072, (-131072), (-131073)] : List Int).flatMap enc_int) 3)] ++ ((b1, blk (cl_Ask J0 K0) 25) :: ((M0, blk (enc_Ins ⟨B0, D0, E0, G0, 0, ByteArray.empty⟩) 27) :: []))) w := hS
         refine oy hS y_move ?_
         obtain ⟨Rc, M6, hF⟩ := ob hF
         refine oy hS (y_rem M6) ?_
         obtain ⟨R2, N6, hF⟩ := ob hF
         obtain ⟨Tc, Uc, Ta, R6, T6, U6, V6, X6⟩ := OwT.at N6 R9 enc_len_int
         refine oy hS (y_index R6 T6 U6 underlying30 el_int.size) <| oy hS (y_load (fun w hS => hS.own (mA (mX V6))) underlying3 rfl (X6 0 _ rfl)) <| oy hS (y_field fa_api_Ins_4) ?_
         have hS := hS.re (.b (.d (.e .hb)) (.t .h (.b .hb .n)))
         refine o_storeA1 (o := 4) (cl' := (enc_Ins ⟨B0, D0, E0, G0, R2, ByteArray.empty⟩)) hS (by kernel_rfl) (by exact Nat.le_of_ble_eq_true rfl) (Upd.here _) (by exact sz_int) rfl rfl ?_
         clear hS; intro w hS
         refine n_anyN ?_
         refine c_seq ?_
         refine c_quiet (by kernel_rfl) (by kernel_rfl) hS ?_
         refine qy (y_loadW (fun w hS => hS.own (mH)) underlying27 rfl (by exact sz_api_Ins)) ?_
         obtain ⟨T9, Y6, hF⟩ := ob hF
         refine q_callS func11 rfl rfl (hc := (w_isa_Check (a0 := (⟨B0, D0, E0, G0, R2, ByteArray.empty⟩ : T_Ins)) (hF := Y6))) (h := ?_)
         refine q_callS func10 rfl rfl (hc := (w_l3_num (a0 := T9))) (h := ?_)
         refine qy y_bin ?_
         refine qy (y_loadW (fun w hS => hS.own (mH)) underlying27 rfl (by exact sz_api_Ins)) ?_
         obtain ⟨Vc, Z6, hF⟩ := ob hF
         refine q_callS func12 rfl rfl (hc := (w_r3_Ins (a0 := (⟨B0, D0, E0, G0, R2, ByteArray.empty⟩ : T_Ins)) (hF := Z6))) (h := ?_)
         refine qy (y_bneq underlying4) ?_
         refine q_nilN (h := ?_)
         clear hS; intro w hS
         refine c_if (ht := fun T2 => ?_) (hf := fun T2 => ?_)
         · replace hF := bt T2 hF
           refine c_seq <| c_region <| oy hS y_assign <| n_thenN ?_
           obtain rfl := osi hF
           obtain rfl : _ = U0 := I0
           obtain rfl : _ = T0 := N0
           obtain rfl : _ = r := R0
           exact wp_ret (wr1 hS)
         replace hF := bf T2 hF
         refine wp_skip <| c_region <| oy hS y_move <| oy hS y_bin <| oy hS y_assign <| n_thenN ?_
         obtain rfl := osi hF
         exact ⟨_, I0, mk_exF, (hS.re (.b (.e (.d .hb)) .n))⟩
       replace hF := bf N2 hF
       refine c_seq <| c_region <| oy hS y_bin <| oy hS y_assign <| n_thenN ?_
       refine c_if (ht := fun U2 => ?_) (hf := fun U2 => ?_)
       · replace hF := bt U2 hF
         refine c_region ?_
         refine o_buildT val_int ([1, 1023, 1024, (-1)] : List Int) hS el_int (fun _ => rfl) enc_len_int (by decide) rfl (by decide) (hp := rfl) (h := ?_)
         clear hS; intro U9 w hS V9
         have hS : St W g [] ([(U9, blk (([1, 1023, 1024, (-1)] : List Int).flatMap enc_int) 3)] ++ ((b1, blk (cl_Ask J0 K0) 25) :: ((M0, blk (enc_Ins ⟨B0, D0, E0, G0, 0, ByteArray.empty⟩) 27) :: []))) w := hS
         refine oy hS y_move ?_
         obtain ⟨Xc, B7, hF⟩ := ob hF
         refine oy hS (y_rem B7) ?_
         obtain ⟨V2, D7, hF⟩ := ob hF
         obtain ⟨Yc, Zc, Ua, E7, G7, I7, J7, K7⟩ := OwT.at D7 V9 enc_len_int
         refine oy hS (y_index E7 G7 I7 underlying30 el_int.size) <| oy hS (y_load (fun w hS => hS.own (mA (mX J7))) underlying3 rfl (K7 0 _ rfl)) <| oy hS (y_field fa_api_Ins_4) ?_
         have hS := hS.re (.b (.d (.e .hb)) (.t .h (.b .hb .n)))
         refine o_storeA1 (o := 4) (cl' := (enc_Ins ⟨B0, D0, E0, G0, V2, ByteArray.empty⟩)) hS (by kernel_rfl) (by exact Nat.le_of_ble_eq_true rfl) (Upd.here _) (by exact sz_int) rfl rfl ?_
         clear hS; intro w hS
         refine n_anyN ?_
         refine c_seq ?_
         refine c_quiet (by kernel_rfl) (by kernel_rfl) hS ?_
         refine qy (y_loadW (fun w hS => hS.own (mH)) underlying27 rfl (by exact sz_api_Ins)) ?_
         obtain ⟨X9, M7, hF⟩ := ob hF
         refine q_callS func11 rfl rfl (hc := (w_isa_Check (a0 := (⟨B0, D0, E0, G0, V2, ByteArray.empty⟩ : T_Ins)) (hF := M7))) (h := ?_)
         refine q_callS func10 rfl rfl (hc := (w_l3_num (a0 := X9))) (h := ?_)
         refine qy y_bin ?_
         refine qy (y_loadW (fun w hS => hS.own (mH)) underlying27 rfl (by exact sz_api_Ins)) ?_
         obtain ⟨Bd, N7, hF⟩ := ob hF
         refine q_callS func12 rfl rfl (hc := (w_r3_Ins (a0 := (⟨B0, D0, E0, G0, V2, ByteArray.empty⟩ : T_Ins)) (hF := N7))) (h := ?_)
         refine qy (y_bneq underlying4) ?_
         refine q_nilN (h := ?_)
         clear hS; intro w hS
         refine c_if (ht := fun X2 => ?_) (hf := fun X2 => ?_)
         · replace hF := bt X2 hF
           refine c_seq <| c_region <| oy hS y_assign <| n_thenN ?_
           obtain rfl := osi hF
           obtain rfl : _ = U0 := I0
           obtain rfl : _ = T0 := N0
           obtain rfl : _ = r := R0
           exact wp_ret (wr1 hS)
         replace hF := bf X2 hF
         refine wp_skip <| c_region <| oy hS y_move <| oy hS y_bin <| oy hS y_assign <| n_thenN ?_
         obtain rfl := osi hF
         exact ⟨_, I0, mk_exF, (hS.re (.b (.e (.d .hb)) .n))⟩
       replace hF := bf U2 hF
       refine c_seq <| c_region <| oy hS y_bin <| oy hS y_assign <| n_thenN ?_
       refine c_if (ht := fun Y2 => ?_) (hf := fun Y2 => ?_)
       · replace hF := bt Y2 hF
         refine c_region ?_
         refine o_buildT val_string ([(ByteArray.mk #[97]), (ByteArray.mk #[49]), (ByteArray.mk #[46, 97]), (ByteArray.mk #[97, 98, 99, 100, 101, 102, 103, 104, 105, 106, 107, 108, 109])] : List ByteArray) hS el_string (fun _ => rfl) enc_len_string (by decide) rfl (by decide) (hp := rfl) (h := ?_)
         clear hS; intro Y9 w hS Z9
         have hS : St W g [] ([(Y9, blk (([(ByteArray.mk #[97]), (ByteArray.mk #[49]), (ByteArray.mk #[46, 97]), (ByteArray.mk #[97, 98, 99, 100, 101, 102, 103, 104, 105, 106, 107, 108, 109])] : List ByteArray).flatMap enc_string) 9)] ++ ((b1, blk (cl_Ask J0 K0) 25) :: ((M0, blk (enc_Ins ⟨B0, D0, E0, G0, 0, ByteArray.empty⟩) 27) :: []))) w := hS
         refine oy hS y_move ?_
         obtain ⟨Dd, R7, hF⟩ := ob hF
         refine oy hS (y_rem R7) ?_
         obtain ⟨B1, T7, hF⟩ := ob hF
         obtain ⟨Ed, Gd, Va, U7, V7, X7, Y7, Z7⟩ := OwT.at T7 Z9 enc_len_string
         refine oy hS (y_index U7 V7 X7 underlying23 el_string.size) <| oy hS (y_load (fun w hS => hS.own (mA (mX Y7))) underlying9 rfl (Z7 0 _ rfl)) <| oy hS (y_field fa_api_Ins_5) ?_
         have hS := hS.re (.b (.d (.e .hb)) (.t .h (.b .hb .n)))
         refine o_storeA1 (o := 5) (cl' := (enc_Ins ⟨B0, D0, E0, G0, 0, B1⟩)) hS (by kernel_rfl) (by exact Nat.le_of_ble_eq_true rfl) (Upd.here _) (by exact sz_string) rfl rfl ?_
         clear hS; intro w hS
         refine oy hS (y_field fa_api_Ins_4) ?_
         refine o_storeA1 (o := 4) (cl' := (enc_Ins ⟨B0, D0, E0, G0, 0, B1⟩)) hS (by kernel_rfl) (by exact Nat.le_of_ble_eq_true rfl) (Upd.here _) (by exact sz_int) rfl rfl ?_
         clear hS; intro w hS
         refine n_anyN ?_
         refine c_seq ?_
         refine c_quiet (by kernel_rfl) (by kernel_rfl) hS ?_
         refine qy (y_loadW (fun w hS => hS.own (mH)) underlying27 rfl (by exact sz_api_Ins)) ?_
         obtain ⟨Ba, B8, hF⟩ := ob hF
         refine q_callS func11 rfl rfl (hc := (w_isa_Check (a0 := (⟨B0, D0, E0, G0, 0, B1⟩ : T_Ins)) (hF := B8))) (h := ?_)
         refine q_callS func10 rfl rfl (hc := (w_l3_num (a0 := Ba))) (h := ?_)
         refine qy y_bin ?_
         refine qy (y_loadW (fun w hS => hS.own (mH)) underlying27 rfl (by exact sz_api_Ins)) ?_
         obtain ⟨Id, D8, hF⟩ := ob hF
         refine q_callS func12 rfl rfl (hc := (w_r3_Ins (a0 := (⟨B0, D0, E0, G0, 0, B1⟩ : T_Ins)) (hF := D8))) (h := ?_)
         refine qy (y_bneq underlying4) ?_
         refine q_nilN (h := ?_)
         clear hS; intro w hS
         refine c_if (ht := fun Z2 => ?_) (hf := fun Z2 => ?_)
         · replace hF := bt Z2 hF
           refine c_seq <| c_region <| oy hS y_assign <| n_thenN ?_
           obtain rfl := osi hF
           obtain rfl : _ = U0 := I0
           obtain rfl : _ = T0 := N0
           obtain rfl : _ = r := R0
           exact wp_ret (wr1 hS)
         replace hF := bf Z2 hF
         refine wp_skip <| c_region <| oy hS y_move <| oy hS y_bin <| oy hS y_assign <| n_thenN ?_
         obtain rfl := osi hF
         exact ⟨_, I0, mk_exF, (hS.re (.b (.e (.d .hb)) .n))⟩
       replace hF := bf Y2 hF
       refine c_seq <| c_region <| oy hS y_bin <| oy hS y_assign <| n_thenN ?_
       refine c_if (ht := fun B3 => ?_) (hf := fun B3 => ?_)
       · replace hF := bt B3 hF
         obtain ⟨Jd, E8, hF⟩ := ob hF
         obtain ⟨Y0, T3, hF⟩ := ob hF
         refine c_heldB (CB g ((b1, blk (cl_Ask J0 K0) 25) :: [])) 9 9 (by kernel_rfl) rfl hS ?_
         clear hS; intro w hS
         refine hy0 1 rfl wn (by kernel_rfl) (nq (P := Tryd.prog) (fn := Tryd.f3)) (fun _ => (hS.re (.b .hb .n)).cb) y_move ?_
         refine hy0 2 rfl wn (by kernel_rfl) (nq (P := Tryd.prog) (fn := Tryd.f3)) (fun _ => (hS.re (.b .hb .n)).cb) (y_rem E8) ?_
         refine hy0 5 rfl wn (by kernel_rfl) (nq (P := Tryd.prog) (fn := Tryd.f3)) (fun _ => (hS.re (.b .hb .n)).cb) (y_field fa_api_Ins_5) ?_
         refine hb2 0 6 (by kernel_rfl) (hb_op rfl wn (nl (P := Tryd.prog) (fn := Tryd.f3)) ?_) (hb_op rfl wn (nl (P := Tryd.prog) (fn := Tryd.f3)) ?_)
         · skip
           refine o_buildT val_int ([0, 1, (-1), 131072] : List Int) hS el_int (fun _ => rfl) enc_len_int (by decide) rfl (by decide) (hp := rfl) (h := ?_)
           clear hS; intro Z0 w hS D3
           have hS : St W g [] ([(Z0, blk (([0, 1, (-1), 131072] : List Int).flatMap enc_int) 3)] ++ ((b1, blk (cl_Ask J0 K0) 25) :: ((M0, blk (enc_Ins ⟨B0, D0, E0, G0, 0, ByteArray.empty⟩) 27) :: []))) w := hS
           refine hb_next (fun _ => (hS.re (.b (.d .hb) .n)).cb) ?_
           obtain ⟨Da, Ea, G8, D1, E1, G1, I1, J1⟩ := OwT.at T3 D3 enc_len_int
           refine hy0 3 rfl wn (by kernel_rfl) (nq (P := Tryd.prog) (fn := Tryd.f3)) (fun _ => (hS.re (.b (.d .hb) .n)).cb) (y_index D1 E1 G1 underlying30 el_int.size) ?_
           refine hb_up (CB g ([(Z0, blk (([0, 1, (-1), 131072] : List Int).flatMap enc_int) 3)] ++ ((b1, blk (cl_Ask J0 K0) 25) :: []))) (fun w h => h.sub (.b (.d .hb) .n)) ?_
           refine hy 4 rfl wn (by kernel_rfl) (nq (P := Tryd.prog) (fn := Tryd.f3)) ((hS.re (.t .h (.b .hb .n))).cb) (y_load (fun w hS => hS.own (mA (mX I1))) underlying3 rfl (J1 0 _ rfl)) ?_
           refine hb1 6 (by kernel_rfl) (hb_op rfl wn (nl (P := Tryd.prog) (fn := Tryd.f3)) ?_)
           have hS := hS.re (.b (.d (.e .hb)) (.t .h (.b .hb .n)))
           refine o_storeA1 (o := 5) (cl' := (enc_Ins ⟨B0, D0, E0, G0, 0, (ByteArray.mk #[97])⟩)) hS (by kernel_rfl) (by exact Nat.le_of_ble_eq_true rfl) (Upd.here _) (by exact sz_string) rfl rfl ?_
           clear hS; intro w hS
           have hC := (hS.re (.t (.e .h) (.b (.e .hb) .n))).cb
           refine hb_next (fun _ => hC) ?_
           refine hy0 7 rfl wn (by kernel_rfl) (nq (P := Tryd.prog) (fn := Tryd.f3)) (fun _ => hC) (y_field fa_api_Ins_4) ?_
           refine hb1 8 (by kernel_rfl) (hb_op rfl wn (nl (P := Tryd.prog) (fn := Tryd.f3)) ?_)
           refine o_storeA1 (o := 4) (cl' := (enc_Ins ⟨B0, D0, E0, G0, Y0, (ByteArray.mk #[97])⟩)) hS (by kernel_rfl) (by exact Nat.le_of_ble_eq_true rfl) (Upd.here _) (by exact sz_int) rfl rfl ?_
           clear hS; intro w hS
           refine hb_next (fun _ => (hS.re (.t (.e .h) (.b (.e .hb) .n))).cb) ?_
           refine hb_done (by kernel_rfl) ?_
           refine c_seq ?_
           refine c_quiet (by kernel_rfl) (by kernel_rfl) hS ?_
           refine qy (y_loadW (fun w hS => hS.own (mH)) underlying27 rfl (by exact sz_api_Ins)) ?_
           obtain ⟨Ga, I8, hF⟩ := ob hF
           refine q_callS func11 rfl rfl (hc := (w_isa_Check (a0 := (⟨B0, D0, E0, G0, Y0, (ByteArray.mk #[97])⟩ : T_Ins)) (hF := I8))) (h := ?_)
           refine q_callS func10 rfl rfl (hc := (w_l3_num (a0 := Ga))) (h := ?_)
           refine qy y_bin ?_
           refine qy (y_loadW (fun w hS => hS.own (mH)) underlying27 rfl (by exact sz_api_Ins)) ?_
           obtain ⟨Kd, J8, hF⟩ := ob hF
           refine q_callS func12 rfl rfl (hc := (w_r3_Ins (a0 := (⟨B0, D0, E0, G0, Y0, (ByteArray.mk #[97])⟩ : T_Ins)) (hF := J8))) (h := ?_)
           refine qy (y_bneq underlying4) ?_
           refine q_nilN (h := ?_)
           clear hS; intro w hS
           refine c_if (ht := fun E3 => ?_) (hf := fun E3 => ?_)
           · replace hF := bt E3 hF
             refine c_seq <| c_region <| oy hS y_assign <| n_thenN ?_
             obtain rfl := osi hF
             obtain rfl : _ = U0 := I0
             obtain rfl : _ = T0 := N0
             obtain rfl : _ = r := R0
             exact wp_ret (wr1 hS)
           replace hF := bf E3 hF
           refine wp_skip <| c_region <| oy hS y_move <| oy hS y_bin <| oy hS y_assign <| n_thenN ?_
           obtain rfl := osi hF
           exact ⟨_, I0, mk_exF, (hS.re (.b (.e (.d .hb)) .n))⟩
         refine o_storeA1 (o := 5) (cl' := (enc_Ins ⟨B0, D0, E0, G0, 0, (ByteArray.mk #[97])⟩)) hS (by kernel_rfl) (by exact Nat.le_of_ble_eq_true rfl) (Upd.there _ (Upd.here _)) (by exact sz_string) rfl rfl ?_
         clear hS; intro w hS
         refine hb_next (fun _ => (hS.re (.b .hb .n)).cb) ?_
         refine hb1 0 (by kernel_rfl) (hb_op rfl wn (nl (P := Tryd.prog) (fn := Tryd.f3)) ?_)
         refine o_buildT val_int ([0, 1, (-1), 131072] : List Int) hS el_int (fun _ => rfl) enc_len_int (by decide) rfl (by decide) (hp := rfl) (h := ?_)
         clear hS; intro Z0 w hS D3
         have hS : St W g [] ([(Z0, blk (([0, 1, (-1), 131072] : List Int).flatMap enc_int) 3)] ++ ((b1, blk (cl_Ask J0 K0) 25) :: ((M0, blk (enc_Ins ⟨B0, D0, E0, G0, 0, (ByteArray.mk #[97])⟩) 27) :: []))) w := hS
         refine hb_next (fun _ => (hS.re (.b (.d .hb) .n)).cb) ?_
         obtain ⟨Da, Ea, G8, D1, E1, G1, I1, J1⟩ := OwT.at T3 D3 enc_len_int
         refine hy0 3 rfl wn (by kernel_rfl) (nq (P := Tryd.prog) (fn := Tryd.f3)) (fun _ => (hS.re (.b (.d .hb) .n)).cb) (y_index D1 E1 G1 underlying30 el_int.size) ?_
         refine hb_up (CB g ([(Z0, blk (([0, 1, (-1), 131072] : List Int).flatMap enc_int) 3)] ++ ((b1, blk (cl_Ask J0 K0) 25) :: []))) (fun w h => h.sub (.b (.d .hb) .n)) ?_
         refine hy 4 rfl wn (by kernel_rfl) (nq (P := Tryd.prog) (fn := Tryd.f3)) ((hS.re (.t .h (.b .hb .n))).cb) (y_load (fun w hS => hS.own (mA (mX I1))) underlying3 rfl (J1 0 _ rfl)) ?_
         refine hy0 7 rfl wn (by kernel_rfl) (nq (P := Tryd.prog) (fn := Tryd.f3)) (fun _ => (hS.re (.t .h (.b .hb .n))).cb) (y_field fa_api_Ins_4) ?_
         refine hb1 8 (by kernel_rfl) (hb_op rfl wn (nl (P := Tryd.prog) (fn := Tryd.f3)) ?_)
         have hS := hS.re (.b (.d (.e .hb)) (.t .h (.b .hb .n)))
         refine o_storeA1 (o := 4) (cl' := (enc_Ins ⟨B0, D0, E0, G0, Y0, (ByteArray.mk #[97])⟩)) hS (by kernel_rfl) (by exact Nat.le_of_ble_eq_true rfl) (Upd.here _) (by exact sz_int) rfl rfl ?_
         clear hS; intro w hS
         refine hb_next (fun _ => (hS.re (.t (.e .h) (.b (.e .hb) .n))).cb) ?_
         refine hb_done (by kernel_rfl) ?_
         refine c_seq ?_
         refine c_quiet (by kernel_rfl) (by kernel_rfl) hS ?_
         refine qy (y_loadW (fun w hS => hS.own (mH)) underlying27 rfl (by exact sz_api_Ins)) ?_
         obtain ⟨Ia, K8, hF⟩ := ob hF
         refine q_callS func11 rfl rfl (hc := (w_isa_Check (a0 := (⟨B0, D0, E0, G0, Y0, (ByteArray.mk #[97])⟩ : T_Ins)) (hF := K8))) (h := ?_)
         refine q_callS func10 rfl rfl (hc := (w_l3_num (a0 := Ia))) (h := ?_)
         refine qy y_bin ?_
         refine qy (y_loadW (fun w hS => hS.own (mH)) underlying27 rfl (by exact sz_api_Ins)) ?_
         obtain ⟨Md, M8, hF⟩ := ob hF
         refine q_callS func12 rfl rfl (hc := (w_r3_Ins (a0 := (⟨B0, D0, E0, G0, Y0, (ByteArray.mk #[97])⟩ : T_Ins)) (hF := M8))) (h := ?_)
         refine qy (y_bneq underlying4) ?_
         refine q_nilN (h := ?_)
         clear hS; intro w hS
         refine c_if (ht := fun G3 => ?_) (hf := fun G3 => ?_)
         · replace hF := bt G3 hF
           refine c_seq <| c_region <| oy hS y_assign <| n_thenN ?_
           obtain rfl := osi hF
           obtain rfl : _ = U0 := I0
           obtain rfl : _ = T0 := N0
           obtain rfl : _ = r := R0
           exact wp_ret (wr1 hS)
         replace hF := bf G3 hF
         refine wp_skip <| c_region <| oy hS y_move <| oy hS y_bin <| oy hS y_assign <| n_thenN ?_
         obtain rfl := osi hF
         exact ⟨_, I0, mk_exF, (hS.re (.b (.e (.d .hb)) .n))⟩
       replace hF := bf B3 hF
       refine wp_skip <| c_seq ?_
       refine c_quiet (by kernel_rfl) (by kernel_rfl) hS ?_
       refine qy (y_loadW (fun w hS => hS.own (mC (mH))) underlying27 rfl (by exact sz_api_Ins)) ?_
       obtain ⟨Ja, N8, hF⟩ := ob hF
       refine q_callS func11 rfl rfl (hc := (w_isa_Check (a0 := (⟨B0, D0, E0, G0, 0, ByteArray.empty⟩ : T_Ins)) (hF := N8))) (h := ?_)
       refine q_callS func10 rfl rfl (hc := (w_l3_num (a0 := Ja))) (h := ?_)
       refine qy y_bin ?_
       refine qy (y_loadW (fun w hS => hS.own (mC (mH))) underlying27 rfl (by exact sz_api_Ins)) ?_
       obtain ⟨Nd, R8, hF⟩ := ob hF
       refine q_callS func12 rfl rfl (hc := (w_r3_Ins (a0 := (⟨B0, D0, E0, G0, 0, ByteArray.empty⟩ : T_Ins)) (hF := R8))) (h := ?_)
       refine qy (y_bneq underlying4) ?_
       refine q_nilN (h := ?_)
       clear hS; intro w hS
       refine c_if (ht := fun I3 => ?_) (hf := fun I3 => ?_)
       · replace hF := bt I3 hF
         refine c_seq <| c_region <| oy hS y_assign <| n_thenN ?_
         obtain rfl := osi hF
         obtain rfl : _ = U0 := I0
         obtain rfl : _ = T0 := N0
         obtain rfl : _ = r := R0
         exact wp_ret (wr1 hS)
       replace hF := bf I3 hF
       refine wp_skip <| c_region <| oy hS y_move <| oy hS y_bin <| oy hS y_assign <| n_thenN ?_
       obtain rfl := osi hF
       exact ⟨_, I0, mk_exF, (hS.re (.b .hb .n))⟩
     replace hF := bf N1 hF
     refine wp_exit ?_
     refine c_region <| oy hS y_move <| oy hS y_bin <| oy hS y_assign <| n_thenN ?_
     obtain rfl := osi hF
     obtain rfl : _ = U0 := I0
     exact ⟨_, N0, mk_exF, (hS.re (.b .hb .n))⟩
   replace hF := bf K1 hF
   refine wp_exit ?_
   obtain rfl := osi hF
   obtain rfl : _ = T0 := N0
   change _ ∧ _
   exact ⟨R0, mk_exF, (hS.re (.b .hb .n))⟩
 rintro a w ⟨hF, ⟨Rd, rfl⟩, hS⟩
 dsimp only [l3_IsaFields_k1] at hF
 refine c_seq <| c_region <| oy hS (y_field fa_sledgelaw3_Ask_0) <| oy hS (y_load oH underlying22 rfl rfl) <| oy hS (y_len U8 underlying22) <| oy hS y_bin ?_
 refine o_split (ht := fun J3 => ?_) (hf := fun J3 => ?_)
 · replace hF := bt J3 hF
   refine o_gu rfl rfl rfl ?_
   refine o_callS hS func13 rfl rfl (hc := (w_r1_Has (a0 := 1))) (h := ?_)
   clear hS; intro w hS
   refine oy hS y_pickT ?_
   refine o_split (ht := fun K3 => ?_) (hf := fun K3 => ?_)
   · replace hF := bt K3 hF
     refine o_gu rfl rfl rfl ?_
     obtain ⟨Td, T8, hF⟩ := ob hF
     refine o_callS hS func14 rfl rfl (hc := (w_l3_wakes (hG := hG.plus) (hF := T8))) (h := ?_)
     clear hS; intro w hS
     refine oy hS y_pickT <| oy hS y_assign <| n_thenN ?_
     obtain rfl := osi hF
     exact wp_ret (wr1 hS)
   replace hF := bf K3 hF
   refine o_sk rfl rfl ?_
   refine oy hS y_pickF <| oy hS y_assign <| n_thenN ?_
   obtain rfl := osi hF
   exact wp_ret (wr1 hS)
 replace hF := bf J3 hF
 refine o_sk rfl rfl ?_
 refine oy hS y_pickF <| oy hS y_move ?_
 refine o_sk rfl rfl ?_
 refine oy hS y_pickF <| oy hS y_assign <| n_thenN ?_
 obtain rfl := osi hF
 exact wp_ret (wr1 hS)
theorem w_l3_IsaFields {g : Frag} {a0 : T_Ask} {v0_ : Value} {r : Bool} (h0 : Rd_Ask g a0 v0_) (hG : GT g) (hF : l3_IsaFields a0 = some r) : LCs Tryd.prog 3 #[v0_] g (.bool r) := w_l3_IsaFields_ h0 hG hF
end Go.Proofs.YtaplgcdpppcajaaDoor
