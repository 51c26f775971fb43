/- The law IsaTells, lifted. Printed by lift.py. -/
import Derived.Test.YtaplgcdpppcajaaDoorProg
import Derived.Test.YtaplgcdpppcajaaDoorP2
import Derived.KernelRfl
namespace Go.Proofs.YtaplgcdpppcajaaDoor
open Go Go.RowKit Fr
set_option linter.unusedVariables false
set_option linter.unusedSimpArgs false
set_option maxRecDepth 20000
open Tryd
set_option maxHeartbeats 2000000
noncomputable def l3_IsaTells_k3 (I0 : T_Ins) (D0 : (ByteArray × Int)) (E0 : ((List Int) × Int)) (G0 : (Int × Int)) (x84 : Int) : (Int × Int × ByteArray × Int × (List Int)) → Option (Step Int Bool) := fun (B0, J0, K0, M0, N0) => (isa_Check I0).bind fun R0 => bif decide ((l3_num R0) ≠ B0) then some (.done (false)) else bif decide ((l3_num D0.2) ≠ B0) then some (.done (false)) else bif !(decide (D0.1 = K0)) then some (.done (false)) else bif decide ((l3_num E0.2) ≠ B0) then some (.done (false)) else (r0_EqNumbers E0.1 N0).bind fun T0 => bif !T0 then some (.done (false)) else bif decide ((l3_num G0.2) ≠ J0) then some (.done (false)) else bif decide (G0.1 ≠ M0) then some (.done (false)) else some (.next (IntKind.i64.wrap (x84 + 1)))
noncomputable def l3_IsaTells_k2 (a0 : T_Ask) (x84 : Int) : Unit → Option (Step Int Bool) := fun _ => (at' a0.I x84).bind fun B0 => (isa_Text B0).bind fun I0 => (isa_Reads B0).bind fun J0 => (isa_Writes B0).bind fun K0 => cut (σ := (Int × Int × ByteArray × Int × (List Int))) ((r3_Ins B0).bind fun M0 => bif M0 then (r3_Text B0).bind fun D0 => (r3_Reads B0).bind fun E0 => (r3_Writes B0).bind fun G0 => bif decide (0 ≤ G0) then some (.next (0, 0, D0, G0, E0)) else some (.next (0, 9, D0, 0, E0)) else some (.next (1, 1, (ByteArray.mk #[]), 0, []))) (l3_IsaTells_k3 B0 I0 J0 K0 x84)
noncomputable def l3_IsaTells_b1 (a0 : T_Ask) : Int → Option (Step Int Bool) := fun x84 => cut (σ := Unit) (bif decide (x84 < (a0.I.length : Int)) then bif decide (x84 < 20) then some (.next ()) else (l3_wakes).bind fun B0 => some (.done (.done (B0))) else (l3_wakes).bind fun D0 => some (.done (.done (D0)))) (l3_IsaTells_k2 a0 x84)
noncomputable def l3_IsaTells (a0 : T_Ask) : Option Bool :=
  loop (σ := Int) (l3_IsaTells_b1 a0) 0
theorem w_l3_IsaTells_ {g : Frag} {a0 : T_Ask} {v0_ : Value} {r : Bool} (h0 : Rd_Ask g a0 v0_) (hG : GT g) (hF : l3_IsaTells a0 = some r) : LCs Tryd.prog 4 #[v0_] g (.bool r) := by
 obtain ⟨E0, G0, rfl, V1, K3⟩ := h0
 unfold l3_IsaTells at hF
 refine lc_body (k := 99) (av := [.agg (cl_Ask E0 G0).toArray]) func4 rfl rfl (h := fun W hS => ?_)
 refine c_seq <| c_region ?_
 refine o_boxP (cl := (cl_Ask E0 G0)) rfl hS ?_
 clear hS; intro b1 w hS
 refine oy hS y_assign <| n_thenN ?_
 iterate 2 (refine c_seq ?_)
 refine c_region <| oy hS y_assign <| n_thenN <| c_block ?_
 refine c_loopP hF (fun (q : Int) a w' => (∃ s : Nat → Value, a = Ac (((Fm.dead 99 s).upd 1 (.pointer (some ⟨b1, 0, none⟩))).upd 3 (.int .i64 q))) ∧ St W g [] ((b1, blk (cl_Ask E0 G0) 25) :: []) w') ⟨mk_exF, (hS.re (.b .hb .n))⟩ ?_
 clear hS hF
 intro U3 q a w hI hq
 revert hq hI; revert q; intro x84 hI hq
 obtain ⟨⟨V3, rfl⟩, hS⟩ := hq
 obtain ⟨I0, hF, B0⟩ := iter_step hI
 clear hI
 dsimp only [l3_IsaTells_b1] at hF
 obtain ⟨X3, hF, J0⟩ := cut_step hF
 refine c_cutP (fun a w' => l3_IsaTells_k2 a0 x84 () = some I0 ∧ (∃ s : Nat → Value, a = Ac (((Fm.dead 99 s).upd 1 (.pointer (some ⟨b1, 0, none⟩))).upd 3 (.int .i64 x84))) ∧ St W g [] ((b1, blk (cl_Ask E0 G0) 25) :: []) w') ?_ ?_
 · skip
   refine c_seq <| c_region <| oy hS y_move <| oy hS (y_field fa_sledgelaw3_Ask_0) <| oy hS (y_load oH underlying22 rfl rfl) <| oy hS (y_len V1 underlying22) <| oy hS y_bin ?_
   refine o_split (ht := fun V0 => ?_) (hf := fun V0 => ?_)
   · replace hF := bt V0 hF
     refine o_gu rfl rfl rfl <| oy hS y_move <| o_gu rfl rfl rfl <| oy hS y_bin <| oy hS y_pickT <| n_thenN ?_
     refine c_if (ht := fun X0 => ?_) (hf := fun X0 => ?_)
     · replace hF := bt X0 hF
       refine wp_skip ?_
       obtain rfl := osi hF
       change _ ∧ _
       exact ⟨J0, mk_exF, (hS.re (.b .hb .n))⟩
     replace hF := bf X0 hF
     refine wp_exit ?_
     refine c_seq <| c_region ?_
     obtain ⟨Y3, B2, hF⟩ := ob hF
     refine o_callS hS func14 rfl rfl (hc := (w_l3_wakes (hG := hG.plus) (hF := B2))) (h := ?_)
     clear hS; intro w hS
     refine oy hS y_assign <| n_thenN ?_
     obtain rfl := osi hF
     obtain rfl : _ = I0 := J0
     obtain rfl : _ = r := B0
     exact wp_ret (wr1 hS)
   replace hF := bf V0 hF
   iterate 2 (refine o_sk rfl rfl ?_)
   refine oy hS y_pickF <| n_thenN ?_
   refine c_if_false (h := ?_)
   refine wp_exit ?_
   refine c_seq <| c_region ?_
   obtain ⟨Z3, D2, hF⟩ := ob hF
   refine o_callS hS func14 rfl rfl (hc := (w_l3_wakes (hG := hG.plus) (hF := D2))) (h := ?_)
   clear hS; intro w hS
   refine oy hS y_assign <| n_thenN ?_
   obtain rfl := osi hF
   obtain rfl : _ = I0 := J0
   obtain rfl : _ = r := B0
   exact wp_ret (wr1 hS)
 rintro a w ⟨hF, ⟨B4, rfl⟩, hS⟩
 dsimp only [l3_IsaTells_k2] at hF
 refine c_seq <| c_block <| c_seq <| c_region <| oy hS (y_field fa_sledgelaw3_Ask_0) <| oy hS (y_load oH underlying22 rfl rfl) <| oy hS y_move ?_
 obtain ⟨D0, E2, hF⟩ := ob hF
 obtain ⟨D4, E4, G4, M3, I4, N3, G2, I2, J2, K2, M2⟩ := SlT.at E2 V1 enc_len_Ins
 refine oy hS (y_index G2 I2 J2 underlying22 el_api_Ins.size) ?_
 refine oy hS (y_loadN (vs := (enc_Ins D0)) (fun w hS => hS.block K2) underlying27 rfl (by exact sz_api_Ins) (fun j u hj => M2 j u hj)) ?_
 refine o_allocP (cl := (enc_Ins ⟨0, 0, 0, 0, 0, ByteArray.empty⟩)) zr_api_Ins rfl hS ?_
 clear hS; intro X1 w hS
 refine o_storeW (vs := (enc_Ins D0)) hS (by exact rfl) (Upd.here _) (by exact sz_api_Ins) (enc_one_Ins _) ?_
 clear hS; intro w hS
 refine n_thenN <| c_seq <| c_region ?_
 refine oy hS (y_loadW oH underlying27 rfl (by exact sz_api_Ins)) ?_
 obtain ⟨K0, N2, hF⟩ := ob hF
 refine o_callS hS func15 rfl rfl (hc := (w_isa_Text (a0 := D0) (hG := hG.plus) (hF := N2))) (h := ?_)
 clear hS; intro w hS
 refine oy hS y_move ?_
 iterate 2 (refine oy hS (y_extract rfl) ?_)
 iterate 2 (refine oy hS y_assign ?_)
 refine n_thenN <| c_seq <| c_region ?_
 refine oy hS (y_loadW oH underlying27 rfl (by exact sz_api_Ins)) ?_
 obtain ⟨M0, R2, hF⟩ := ob hF
 refine o_call0 hS func16 rfl rfl (hc := (w_isa_Reads (a0 := D0) (hF := R2))) (h := ?_)
 clear hS; intro J4 R3 w hS T2
 obtain ⟨v_0_200, LX_0_201, rfl, rfl, h_0_202⟩ := T2
 simp only [aa, ac, al] at hS
 refine oy hS y_move ?_
 iterate 2 (refine oy hS (y_extract rfl) ?_)
 iterate 2 (refine oy hS y_assign ?_)
 refine n_thenN <| c_seq <| c_region ?_
 refine oy hS (y_loadW (fun w hS => hS.own (mB (mH))) underlying27 rfl (by exact sz_api_Ins)) ?_
 obtain ⟨N0, U2, hF⟩ := ob hF
 refine o_callS hS func17 rfl rfl (hc := (w_isa_Writes (a0 := D0) (hF := U2))) (h := ?_)
 clear hS; intro w hS
 refine oy hS y_move ?_
 iterate 2 (refine oy hS (y_extract rfl) ?_)
 iterate 2 (refine oy hS y_assign ?_)
 refine n_thenN <| c_seq <| c_region ?_
 iterate 4 (refine oy hS y_assign ?_)
 refine n_thenN <| c_seq <| c_region <| oy hS y_assign <| n_thenN ?_
 obtain ⟨K4, hF, R0⟩ := cut_step hF
 refine c_cutP (fun a w' => ∃ (Y0 : Int) (Z0 : Int) (B1 : ByteArray) (D1 : Int) (T0 : (List Int)) (E1 : Value) (U0 : Own), l3_IsaTells_k3 D0 K0 M0 N0 x84 (Y0, Z0, B1, D1, T0) = some I0 ∧ OwT 3 enc_int 1 T0 E1 U0 ∧ (∃ s : Nat → Value, a = Ac (((((((((((((((Fm.dead 99 s).upd 1 (.pointer (some ⟨b1, 0, none⟩))).upd 3 (.int .i64 x84)).upd 4 (.pointer (some ⟨X1, 0, none⟩))).upd 5 (.string K0.1)).upd 6 (.int .i64 K0.2)).upd 7 v_0_200).upd 8 (.int .i64 M0.2)).upd 9 (.int .i64 N0.1)).upd 10 (.int .i64 N0.2)).upd 11 (.int .i64 Y0)).upd 12 (.int .i64 Z0)).upd 13 (.string B1)).upd 14 (.int .i64 D1)).upd 15 E1)) ∧ St W g [] ((b1, blk (cl_Ask E0 G0) 25) :: ((X1, blk (enc_Ins D0) 27) :: (LX_0_201 ++ (U0 ++ [])))) w') ?_ ?_
 · skip
   refine c_seq <| c_region ?_
   refine oy hS (y_loadW (fun w hS => hS.own (mB (mH))) underlying27 rfl (by exact sz_api_Ins)) ?_
   obtain ⟨M4, V2, hF⟩ := ob hF
   refine o_callS hS func12 rfl rfl (hc := (w_r3_Ins (a0 := D0) (hF := V2))) (h := ?_)
   clear hS; intro w hS
   refine n_thenN ?_
   refine c_if (ht := fun G1 => ?_) (hf := fun G1 => ?_)
   · replace hF := bt G1 hF
     refine c_seq ?_
     refine c_heldL 8 8 (by kernel_rfl) rfl hS ?_
     clear hS; intro w hS
     refine hy 0 rfl wn (by kernel_rfl) (nq (P := Tryd.prog) (fn := Tryd.f4)) hS.cb (y_loadW (fun w hS => hS.own (mB (mH))) underlying27 rfl (by exact sz_api_Ins)) ?_
     refine hy 2 rfl wn (by kernel_rfl) (nq (P := Tryd.prog) (fn := Tryd.f4)) hS.cb (y_loadW (fun w hS => hS.own (mB (mH))) underlying27 rfl (by exact sz_api_Ins)) ?_
     refine hb1 1 (by kernel_rfl) (hb_op rfl wn (nl (P := Tryd.prog) (fn := Tryd.f4)) ?_)
     obtain ⟨Y1, X2, hF⟩ := ob hF
     refine o_callS hS func18 rfl rfl (hc := (w_r3_Text (a0 := D0) (hG := hG.plus) (hF := X2))) (h := ?_)
     clear hS; intro w hS
     refine hb_next (fun _ => hS.cb) ?_
     refine hb1 3 (by kernel_rfl) (hb_op rfl wn (nl (P := Tryd.prog) (fn := Tryd.f4)) ?_)
     obtain ⟨Z1, Y2, hF⟩ := ob hF
     refine o_call0 hS func19 rfl rfl (hc := (w_r3_Reads (a0 := D0) (hF := Y2))) (h := ?_)
     clear hS; intro N4 T3 w hS Z2
     obtain ⟨v_0_236, LX_0_237, rfl, rfl, h_0_238⟩ := Z2
     simp only [aa, ac, al] at hS
     have hC := (hS.re (.t (.d .h) (.b (.d .hb) (.b (.d .hb) .n)))).cb
     refine hb_next (fun _ => hC) ?_
     refine hy0 4 rfl wn (by kernel_rfl) (nq (P := Tryd.prog) (fn := Tryd.f4)) (fun _ => hC) y_assign ?_
     refine hy0 5 rfl wn (by kernel_rfl) (nq (P := Tryd.prog) (fn := Tryd.f4)) (fun _ => hC) y_assign ?_
     refine hy0 6 rfl wn (by kernel_rfl) (nq (P := Tryd.prog) (fn := Tryd.f4)) (fun _ => hC) y_assign ?_
     refine hy0 7 rfl wn (by kernel_rfl) (nq (P := Tryd.prog) (fn := Tryd.f4)) (fun _ => hC) y_assign ?_
     refine hb_done (by kernel_rfl) ?_
     refine c_seq <| c_region ?_
     refine oy hS (y_loadW (fun w hS => hS.own (mB (mB (mH)))) underlying27 rfl (by exact sz_api_Ins)) ?_
     obtain ⟨G3, B3, hF⟩ := ob hF
     refine o_callS hS func20 rfl rfl (hc := (w_r3_Writes (a0 := D0) (hF := B3))) (h := ?_)
     clear hS; intro w hS
     refine oy hS y_assign <| n_thenN <| c_seq <| c_region <| oy hS y_move <| oy hS y_bin <| n_thenN ?_
     refine c_if (ht := fun I1 => ?_) (hf := fun I1 => ?_)
     · replace hF := bt I1 hF
       refine c_region <| oy hS y_move ?_
       iterate 2 (refine oy hS y_assign ?_)
       refine n_thenN ?_
       obtain rfl := osi hF
       change ∃ _, _
       exact ⟨0, 0, Y1, G3, Z1, v_0_236, LX_0_237, R0, h_0_238, mk_exF, (hS.re (.b (.d (.d (.e .hb))) (.b (.d (.d .hb)) (.t (.d .h) (.t .h .n)))))⟩
     replace hF := bf I1 hF
     refine wp_skip ?_
     obtain rfl := osi hF
     change ∃ _, _
     exact ⟨0, 9, Y1, 0, Z1, v_0_236, LX_0_237, R0, h_0_238, mk_exF, (hS.re (.b (.d (.d (.e .hb))) (.b (.d (.d .hb)) (.t (.d .h) (.t .h .n)))))⟩
   replace hF := bf G1 hF
   refine wp_skip ?_
   obtain rfl := osi hF
   change ∃ _, _
   exact ⟨1, 1, (ByteArray.mk #[]), 0, [], (.slice none 0 0), [], R0, (OwT.nil _ _ _), mk_exF, (hS.re (.b (.d (.e .hb)) (.b (.d .hb) (.t .h (.take (X := []) (.here [] _) .n)))))⟩
 rintro a w ⟨Y0, Z0, B1, D1, T0, E1, U0, hF, I3, ⟨R4, rfl⟩, hS⟩
 dsimp only [l3_IsaTells_k3] at hF
 refine c_seq <| c_region ?_
 refine oy hS (y_loadW (fun w hS => hS.own (mC (mH))) underlying27 rfl (by exact sz_api_Ins)) ?_
 obtain ⟨J3, D3, hF⟩ := ob hF
 refine o_callS hS func11 rfl rfl (hc := (w_isa_Check (a0 := D0) (hF := D3))) (h := ?_)
 clear hS; intro w hS
 refine o_callS hS func10 rfl rfl (hc := (w_l3_num (a0 := J3))) (h := ?_)
 clear hS; intro w hS
 refine oy hS y_move <| oy hS y_bin ?_
 refine o_split (ht := fun J1 => ?_) (hf := fun J1 => ?_)
 · replace hF := bt J1 hF
   iterate 4 (refine o_sk rfl rfl ?_)
   refine oy hS y_pickT <| oy hS y_move ?_
   iterate 3 (refine o_sk rfl rfl ?_)
   refine oy hS y_pickT <| oy hS y_move ?_
   iterate 4 (refine o_sk rfl rfl ?_)
   refine oy hS y_pickT <| oy hS y_move ?_
   iterate 4 (refine o_sk rfl rfl ?_)
   refine oy hS y_pickT <| oy hS y_move ?_
   iterate 4 (refine o_sk rfl rfl ?_)
   refine oy hS y_pickT <| oy hS y_move ?_
   iterate 3 (refine o_sk rfl rfl ?_)
   refine oy hS y_pickT <| n_thenN ?_
   refine c_if_true (h := ?_)
   refine c_seq <| c_region <| oy hS y_assign <| n_thenN ?_
   obtain rfl := osi hF
   obtain rfl : _ = r := B0
   exact wp_ret (wr1 hS)
 replace hF := bf J1 hF
 refine o_gu rfl rfl rfl <| oy hS y_move <| o_gu rfl rfl rfl ?_
 refine o_callS hS func10 rfl rfl (hc := (w_l3_num (a0 := K0.2))) (h := ?_)
 clear hS; intro w hS
 refine o_gu rfl rfl rfl <| oy hS y_move <| o_gu rfl rfl rfl <| oy hS y_bin <| oy hS y_pickF ?_
 refine o_split (ht := fun K1 => ?_) (hf := fun K1 => ?_)
 · replace hF := bt K1 hF
   iterate 3 (refine o_sk rfl rfl ?_)
   refine oy hS y_pickT <| oy hS y_move ?_
   iterate 4 (refine o_sk rfl rfl ?_)
   refine oy hS y_pickT <| oy hS y_move ?_
   iterate 4 (refine o_sk rfl rfl ?_)
   refine oy hS y_pickT <| oy hS y_move ?_
   iterate 4 (refine o_sk rfl rfl ?_)
   refine oy hS y_pickT <| oy hS y_move ?_
   iterate 3 (refine o_sk rfl rfl ?_)
   refine oy hS y_pickT <| n_thenN ?_
   refine c_if_true (h := ?_)
   refine c_seq <| c_region <| oy hS y_assign <| n_thenN ?_
   obtain rfl := osi hF
   obtain rfl : _ = r := B0
   exact wp_ret (wr1 hS)
 replace hF := bf K1 hF
 refine o_gu rfl rfl rfl <| oy hS y_move <| o_gu rfl rfl rfl <| oy hS y_move <| o_gu rfl rfl rfl <| oy hS y_sneq <| oy hS y_pickF ?_
 refine o_split (ht := fun M1 => ?_) (hf := fun M1 => ?_)
 · replace hF := bt M1 hF
   iterate 4 (refine o_sk rfl rfl ?_)
   refine oy hS y_pickT <| oy hS y_move ?_
   iterate 4 (refine o_sk rfl rfl ?_)
   refine oy hS y_pickT <| oy hS y_move ?_
   iterate 4 (refine o_sk rfl rfl ?_)
   refine oy hS y_pickT <| oy hS y_move ?_
   iterate 3 (refine o_sk rfl rfl ?_)
   refine oy hS y_pickT <| n_thenN ?_
   refine c_if_true (h := ?_)
   refine c_seq <| c_region <| oy hS y_assign <| n_thenN ?_
   obtain rfl := osi hF
   obtain rfl : _ = r := B0
   exact wp_ret (wr1 hS)
 replace hF := bf M1 hF
 refine o_gu rfl rfl rfl <| oy hS y_move <| o_gu rfl rfl rfl ?_
 refine o_callS hS func10 rfl rfl (hc := (w_l3_num (a0 := M0.2))) (h := ?_)
 clear hS; intro w hS
 refine o_gu rfl rfl rfl <| oy hS y_move <| o_gu rfl rfl rfl <| oy hS y_bin <| oy hS y_pickF ?_
 refine o_split (ht := fun N1 => ?_) (hf := fun N1 => ?_)
 · replace hF := bt N1 hF
   iterate 4 (refine o_sk rfl rfl ?_)
   refine oy hS y_pickT <| oy hS y_move ?_
   iterate 4 (refine o_sk rfl rfl ?_)
   refine oy hS y_pickT <| oy hS y_move ?_
   iterate 3 (refine o_sk rfl rfl ?_)
   refine oy hS y_pickT <| n_thenN ?_
   refine c_if_true (h := ?_)
   refine c_seq <| c_region <| oy hS y_assign <| n_thenN ?_
   obtain rfl := osi hF
   obtain rfl : _ = r := B0
   exact wp_ret (wr1 hS)
 replace hF := bf N1 hF
 refine o_gu rfl rfl rfl <| oy hS y_move <| o_gu rfl rfl rfl <| oy hS y_move <| o_gu rfl rfl rfl ?_
 obtain ⟨T4, E3, hF⟩ := ob hF
 refine o_callS hS func21 rfl rfl (hc := (w_r0_EqNumbers (a0 := M0.1) (a1 := T0) (h0 := (OwT.plus h_0_202 hS (fun p hp => mC (mC (mA (hp)))))) (h1 := (OwT.plus I3 hS (fun p hp => mC (mC (mB (mA (hp))))))) (hF := E3))) (h := ?_)
 clear hS; intro w hS
 refine o_gu rfl rfl rfl <| oy hS y_not <| oy hS y_pickF ?_
 refine o_split (ht := fun R1 => ?_) (hf := fun R1 => ?_)
 · replace hF := bt R1 hF
   iterate 4 (refine o_sk rfl rfl ?_)
   refine oy hS y_pickT <| oy hS y_move ?_
   iterate 3 (refine o_sk rfl rfl ?_)
   refine oy hS y_pickT <| n_thenN ?_
   refine c_if_true (h := ?_)
   refine c_seq <| c_region <| oy hS y_assign <| n_thenN ?_
   obtain rfl := osi hF
   obtain rfl : _ = r := B0
   exact wp_ret (wr1 hS)
 replace hF := bf R1 hF
 refine o_gu rfl rfl rfl <| oy hS y_move <| o_gu rfl rfl rfl ?_
 refine o_callS hS func10 rfl rfl (hc := (w_l3_num (a0 := N0.2))) (h := ?_)
 clear hS; intro w hS
 refine o_gu rfl rfl rfl <| oy hS y_move <| o_gu rfl rfl rfl <| oy hS y_bin <| oy hS y_pickF ?_
 refine o_split (ht := fun T1 => ?_) (hf := fun T1 => ?_)
 · replace hF := bt T1 hF
   iterate 3 (refine o_sk rfl rfl ?_)
   refine oy hS y_pickT <| n_thenN ?_
   refine c_if_true (h := ?_)
   refine c_seq <| c_region <| oy hS y_assign <| n_thenN ?_
   obtain rfl := osi hF
   obtain rfl : _ = r := B0
   exact wp_ret (wr1 hS)
 replace hF := bf T1 hF
 refine o_gu rfl rfl rfl <| oy hS y_move <| o_gu rfl rfl rfl <| oy hS y_move <| o_gu rfl rfl rfl <| oy hS y_bin <| oy hS y_pickF <| n_thenN ?_
 refine c_if (ht := fun U1 => ?_) (hf := fun U1 => ?_)
 · replace hF := bt U1 hF
   refine c_seq <| c_region <| oy hS y_assign <| n_thenN ?_
   obtain rfl := osi hF
   obtain rfl : _ = r := B0
   exact wp_ret (wr1 hS)
 replace hF := bf U1 hF
 refine wp_skip <| c_region <| oy hS y_move <| oy hS y_bin <| oy hS y_assign <| n_thenN ?_
 obtain rfl := osi hF
 exact ⟨_, B0, mk_exF, (hS.re (.b .hb .n))⟩
theorem w_l3_IsaTells {g : Frag} {a0 : T_Ask} {v0_ : Value} {r : Bool} (h0 : Rd_Ask g a0 v0_) (hG : GT g) (hF : l3_IsaTells a0 = some r) : LCs Tryd.prog 4 #[v0_] g (.bool r) := w_l3_IsaTells_ h0 hG hF
end Go.Proofs.YtaplgcdpppcajaaDoor
