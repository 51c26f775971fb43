/- The law IsaTable, lifted. Printed by lift.py. -/
import Derived.Test.YtaplgcdpppcajaaDoorProg
import Derived.Test.YtaplgcdpppcajaaDoorP3
import Derived.KernelRfl
namespace Go.Proofs.YtaplgcdpppcajaaDoor
open Go Go.RowKit Fr
set_option linter.unusedVariables false
set_option linter.unusedSimpArgs false
set_option maxRecDepth 20000
open Tryd
set_option maxHeartbeats 2000000
noncomputable def l3_IsaTable_b5 (D0 : Int) : Int → Option (Step Int (Step Int (Step Unit Bool))) := fun B0 => bif decide (B0 ≤ 5) then (r3_May D0 B0).bind fun E0 => bif (isa_May D0 B0) != E0 then some (.done (.done (.done (false)))) else some (.next (IntKind.i64.wrap (B0 + 1))) else some (.done (.next (IntKind.i64.wrap (D0 + 1))))
noncomputable def l3_IsaTable_k4 (B0 : Int) : Unit → Option (Step Int (Step Unit Bool)) := fun _ => loop (σ := Int) (l3_IsaTable_b5 B0) (-1)
noncomputable def l3_IsaTable_k3 (E0 : (ByteArray × Int)) (B0 : Int) (G0 : ((List Int) × Int)) : (Int × ByteArray × Int × Int × (List Int)) → Option (Step Int (Step Unit Bool)) := fun (D0, I0, J0, K0, M0) => cut (σ := Unit) (bif decide ((l3_num E0.2) ≠ D0) then some (.done (.done (.done (false)))) else bif !(decide (E0.1 = I0)) then some (.done (.done (.done (false)))) else bif decide ((l3_num ((isa_Form B0).2)) ≠ D0) then some (.done (.done (.done (false)))) else bif decide (((isa_Form B0).1) ≠ J0) then some (.done (.done (.done (false)))) else bif decide ((l3_num ((isa_Latency B0).2)) ≠ D0) then some (.done (.done (.done (false)))) else bif decide (((isa_Latency B0).1) ≠ K0) then some (.done (.done (.done (false)))) else bif decide ((l3_num G0.2) ≠ D0) then some (.done (.done (.done (false)))) else (r0_EqNumbers G0.1 M0).bind fun N0 => bif !N0 then some (.done (.done (.done (false)))) else bif (isa_Ends B0) != (r3_Ends B0) then some (.done (.done (.done (false)))) else bif (isa_Effect B0) != (r3_Effect B0) then some (.done (.done (.done (false)))) else some (.next ())) (l3_IsaTable_k4 B0)
noncomputable def l3_IsaTable_b2  : Int → Option (Step Int (Step Unit Bool)) := fun B0 => bif decide (B0 ≤ 35) then (isa_Name B0).bind fun G0 => (isa_Slots B0).bind fun I0 => cut (σ := (Int × ByteArray × Int × Int × (List Int))) (bif (r3_Valid B0) then (at' r3_Names B0).bind fun D0 => (r3_Form B0).bind fun J0 => (isa_Op D0).bind fun E0 => bif decide ((l3_num E0.2) ≠ 0) then some (.done (.done (.done (false)))) else bif decide (E0.1 ≠ B0) then some (.done (.done (.done (false)))) else some (.next (0, D0, J0, (r3_Latency B0), (r3_Slots B0))) else some (.next (1, (ByteArray.mk #[]), 0, 0, []))) (l3_IsaTable_k3 G0 B0 I0) else some (.done (.next ()))
noncomputable def l3_IsaTable_k7 (D0 : (List ByteArray)) (B0 : Int) : Unit → Option (Step Int Bool) := fun _ => (at' D0 B0).bind fun I0 => (isa_Op I0).bind fun E0 => (at' D0 B0).bind fun J0 => (r0_At r3_Names J0).bind fun G0 => bif decide (0 ≤ G0) then bif decide ((l3_num E0.2) ≠ 0) then some (.done (false)) else bif decide (E0.1 ≠ G0) then some (.done (false)) else bif decide (G0 < 0) then bif decide ((l3_num E0.2) ≠ 9) then some (.done (false)) else bif decide (E0.1 ≠ 0) then some (.done (false)) else (at' D0 B0).bind fun K0 => (isa_Name2 K0).bind fun M0 => (at' D0 B0).bind fun N0 => (r3_Name N0).bind fun R0 => bif M0 != R0 then some (.done (false)) else some (.next (IntKind.i64.wrap (B0 + 1))) else (at' D0 B0).bind fun T0 => (isa_Name2 T0).bind fun U0 => (at' D0 B0).bind fun V0 => (r3_Name V0).bind fun X0 => bif U0 != X0 then some (.done (false)) else some (.next (IntKind.i64.wrap (B0 + 1))) else bif decide (G0 < 0) then bif decide ((l3_num E0.2) ≠ 9) then some (.done (false)) else bif decide (E0.1 ≠ 0) then some (.done (false)) else (at' D0 B0).bind fun Y0 => (isa_Name2 Y0).bind fun Z0 => (at' D0 B0).bind fun B1 => (r3_Name B1).bind fun D1 => bif Z0 != D1 then some (.done (false)) else some (.next (IntKind.i64.wrap (B0 + 1))) else (at' D0 B0).bind fun E1 => (isa_Name2 E1).bind fun G1 => (at' D0 B0).bind fun I1 => (r3_Name I1).bind fun J1 => bif G1 != J1 then some (.done (false)) else some (.next (IntKind.i64.wrap (B0 + 1)))
noncomputable def l3_IsaTable_b6 (D0 : (List ByteArray)) : Int → Option (Step Int Bool) := fun B0 => cut (σ := Unit) (bif decide (B0 < (D0.length : Int)) then bif decide (B0 < 20) then some (.next ()) else (l3_wakes).bind fun E0 => some (.done (.done (E0))) else (l3_wakes).bind fun G0 => some (.done (.done (G0)))) (l3_IsaTable_k7 D0 B0)
noncomputable def l3_IsaTable_k1 (a0 : T_Ask) : Unit → Option Bool := fun _ => (appW 16 ([(ByteArray.mk #[]), (ByteArray.mk #[65, 68, 68]), (ByteArray.mk #[97, 100]), (ByteArray.mk #[110, 111, 112, 32]), (ByteArray.mk #[46, 99, 111, 100, 101])] : List ByteArray) a0.S).bind fun B0 => loop (σ := Int) (l3_IsaTable_b6 B0) 0
noncomputable def l3_IsaTable (a0 : T_Ask) : Option Bool :=
  cut (σ := Unit) (loop (σ := Int) (l3_IsaTable_b2) (-2)) (l3_IsaTable_k1 a0)
theorem w_l3_IsaTable_ {g : Frag} {a0 : T_Ask} {v0_ : Value} {r : Bool} (h0 : Rd_Ask g a0 v0_) (hG : GT g) (hF : l3_IsaTable a0 = some r) : LCs Tryd.prog 5 #[v0_] g (.bool r) := by
 obtain ⟨M0, N0, rfl, Y8, Y4⟩ := h0
 unfold l3_IsaTable at hF
 refine lc_body (k := 209) (av := [.agg (cl_Ask M0 N0).toArray]) func5 rfl rfl (h := fun W hS => ?_)
 refine c_seq <| c_region ?_
 refine o_boxP (cl := (cl_Ask M0 N0)) rfl hS ?_
 clear hS; intro b1 w hS
 refine oy hS y_assign <| n_thenN ?_
 obtain ⟨J0, hF, G0⟩ := cut_step hF
 refine c_cutP (fun a w' => l3_IsaTable_k1 a0 () = some r ∧ (∃ s : Nat → Value, a = Ac ((Fm.dead 209 s).upd 1 (.pointer (some ⟨b1, 0, none⟩)))) ∧ St W g [] ((b1, blk (cl_Ask M0 N0) 25) :: []) w') ?_ ?_
 · skip
   refine c_seq <| c_region <| oy hS y_assign <| n_thenN <| c_block ?_
   refine c_loopP hF (fun (q : Int) a w' => (∃ s : Nat → Value, a = Ac (((Fm.dead 209 s).upd 1 (.pointer (some ⟨b1, 0, none⟩))).upd 3 (.int .i64 q))) ∧ St W g [] ((b1, blk (cl_Ask M0 N0) 25) :: []) w') ⟨mk_exF, (hS.re (.b .hb .n))⟩ ?_
   clear hS hF
   intro K9 q a w hI hq
   revert hq hI; revert q; intro B0 hI hq
   obtain ⟨⟨M9, rfl⟩, hS⟩ := hq
   obtain ⟨I0, hF, E0⟩ := iter_step hI
   clear hI
   dsimp only [l3_IsaTable_b2] at hF
   iterate 2 (refine c_seq ?_)
   refine c_region <| oy hS y_move <| oy hS y_bin <| n_thenN ?_
   refine c_if (ht := fun X1 => ?_) (hf := fun X1 => ?_)
   · replace hF := bt X1 hF
     refine wp_skip <| c_seq <| c_block <| c_seq <| c_region <| oy hS y_move ?_
     obtain ⟨J1, Z4, hF⟩ := ob hF
     refine o_callS hS func22 rfl rfl (hc := (w_isa_Name (a0 := B0) (hG := hG.plus) (hF := Z4))) (h := ?_)
     clear hS; intro w hS
     refine oy hS y_move ?_
     iterate 2 (refine oy hS (y_extract rfl) ?_)
     iterate 2 (refine oy hS y_assign ?_)
     refine n_thenN <| c_seq <| c_region <| oy hS y_move ?_
     refine o_callS hS func23 rfl rfl (hc := (w_isa_Form (a0 := B0))) (h := ?_)
     clear hS; intro w hS
     refine oy hS y_move ?_
     iterate 2 (refine oy hS (y_extract rfl) ?_)
     iterate 2 (refine oy hS y_assign ?_)
     refine n_thenN <| c_seq <| c_region <| oy hS y_move ?_
     refine o_callS hS func24 rfl rfl (hc := (w_isa_Latency (a0 := B0))) (h := ?_)
     clear hS; intro w hS
     refine oy hS y_move ?_
     iterate 2 (refine oy hS (y_extract rfl) ?_)
     iterate 2 (refine oy hS y_assign ?_)
     refine n_thenN <| c_seq <| c_region <| oy hS y_move ?_
     obtain ⟨K1, B5, hF⟩ := ob hF
     refine o_call0 hS func25 rfl rfl (hc := (w_isa_Slots (a0 := B0) (hF := B5))) (h := ?_)
     clear hS; intro N9 Z8 w hS D5
     obtain ⟨v_0_610, LX_0_611, rfl, rfl, h_0_612⟩ := D5
     simp only [aa, ac, al] at hS
     refine oy hS y_move ?_
     iterate 2 (refine oy hS (y_extract rfl) ?_)
     iterate 2 (refine oy hS y_assign ?_)
     refine n_thenN <| c_seq <| c_region <| oy hS y_assign <| n_thenN <| c_seq <| c_region ?_
     iterate 3 (refine oy hS y_assign ?_)
     refine n_thenN <| c_seq <| c_region <| oy hS y_assign <| n_thenN ?_
     obtain ⟨R9, hF, I1⟩ := cut_step hF
     refine c_cutP (fun a w' => ∃ (Y1 : Int) (Z1 : ByteArray) (B2 : Int) (D2 : Int) (M1 : (List Int)) (E2 : Value) (N1 : Own), l3_IsaTable_k3 J1 B0 K1 (Y1, Z1, B2, D2, M1) = some I0 ∧ OwT 3 enc_int 1 M1 E2 N1 ∧ (∃ s : Nat → Value, a = Ac ((((((((((((((((Fm.dead 209 s).upd 1 (.pointer (some ⟨b1, 0, none⟩))).upd 3 (.int .i64 B0)).upd 4 (.string J1.1)).upd 5 (.int .i64 J1.2)).upd 6 (.int .i64 ((isa_Form B0).1))).upd 7 (.int .i64 ((isa_Form B0).2))).upd 8 (.int .i64 ((isa_Latency B0).1))).upd 9 (.int .i64 ((isa_Latency B0).2))).upd 10 v_0_610).upd 11 (.int .i64 K1.2)).upd 12 (.int .i64 Y1)).upd 13 (.string Z1)).upd 14 (.int .i64 B2)).upd 15 (.int .i64 D2)).upd 16 E2)) ∧ St W g [] ((b1, blk (cl_Ask M0 N0) 25) :: (LX_0_611 ++ (N1 ++ []))) w') ?_ ?_
     · skip
       refine c_seq <| c_region <| oy hS y_move ?_
       refine o_callS hS func26 rfl rfl (hc := (w_r3_Valid (a0 := B0))) (h := ?_)
       clear hS; intro w hS
       refine n_thenN ?_
       refine c_if (ht := fun G2 => ?_) (hf := fun G2 => ?_)
       · replace hF := bt G2 hF
         refine c_seq ?_
         refine c_heldL 15 15 (by kernel_rfl) rfl hS ?_
         clear hS; intro w hS
         refine hy0 1 rfl wn (by kernel_rfl) (nq (P := Tryd.prog) (fn := Tryd.f5)) (fun _ => hS.cb) y_move ?_
         refine hy0 4 rfl wn (by kernel_rfl) (nq (P := Tryd.prog) (fn := Tryd.f5)) (fun _ => hS.cb) y_move ?_
         refine hy0 6 rfl wn (by kernel_rfl) (nq (P := Tryd.prog) (fn := Tryd.f5)) (fun _ => hS.cb) y_move ?_
         refine hy0 8 rfl wn (by kernel_rfl) (nq (P := Tryd.prog) (fn := Tryd.f5)) (fun _ => hS.cb) y_move ?_
         refine hb1 0 (by kernel_rfl) (hb_op rfl wn (nl (P := Tryd.prog) (fn := Tryd.f5)) ?_)
         refine o_call0 hS func27 rfl rfl (hc := (w_r3_Names )) (h := ?_)
         clear hS; intro T9 B9 w hS E5
         obtain ⟨v_0_657, LX_0_658, rfl, rfl, h_0_659⟩ := E5
         simp only [aa, ac, al] at hS
         have hC := (hS.re (.t (.d .h) (.b (.d .hb) .n))).cb
         refine hb_next (fun _ => hC) ?_
         obtain ⟨N4, G5, hF⟩ := ob hF
         obtain ⟨U9, V9, D9, I5, J5, K5, M5, N5⟩ := OwT.at G5 h_0_659 enc_len_string
         refine hy0 2 rfl wn (by kernel_rfl) (nq (P := Tryd.prog) (fn := Tryd.f5)) (fun _ => hC) (y_index I5 J5 K5 underlying23 el_string.size) ?_
         refine hb_up (CB g (LX_0_658 ++ (LX_0_611 ++ ((b1, blk (cl_Ask M0 N0) 25) :: [])))) (fun w h => h.sub (.t (.d .h) (.b (.d .hb) .n))) ?_
         refine hy 3 rfl wn (by kernel_rfl) (nq (P := Tryd.prog) (fn := Tryd.f5)) hS.cb (y_load (fun w hS => hS.own (mA (mX M5))) underlying9 rfl (N5 0 _ rfl)) ?_
         refine hb1 5 (by kernel_rfl) (hb_op rfl wn (nl (P := Tryd.prog) (fn := Tryd.f5)) ?_)
         obtain ⟨B8, R5, hF⟩ := ob hF
         refine o_callS hS func6 rfl rfl (hc := (w_r3_Form (a0 := B0) (hF := R5))) (h := ?_)
         clear hS; intro w hS
         refine hb_next (fun _ => hS.cb) ?_
         refine hb1 7 (by kernel_rfl) (hb_op rfl wn (nl (P := Tryd.prog) (fn := Tryd.f5)) ?_)
         refine o_callS hS func28 rfl rfl (hc := (w_r3_Latency (a0 := B0))) (h := ?_)
         clear hS; intro w hS
         refine hb_next (fun _ => hS.cb) ?_
         refine hb1 9 (by kernel_rfl) (hb_op rfl wn (nl (P := Tryd.prog) (fn := Tryd.f5)) ?_)
         refine o_call0 hS func29 rfl rfl (hc := (w_r3_Slots (a0 := B0))) (h := ?_)
         clear hS; intro X9 E9 w hS T5
         obtain ⟨v_0_674, LX_0_675, rfl, rfl, h_0_676⟩ := T5
         simp only [aa, ac, al] at hS
         have hC := (hS.re (.t (.d .h) (.t (.d .h) (.b (.d .hb) .n)))).cb
         refine hb_next (fun _ => hC) ?_
         refine hy0 10 rfl wn (by kernel_rfl) (nq (P := Tryd.prog) (fn := Tryd.f5)) (fun _ => hC) y_assign ?_
         refine hy0 11 rfl wn (by kernel_rfl) (nq (P := Tryd.prog) (fn := Tryd.f5)) (fun _ => hC) y_assign ?_
         refine hy0 12 rfl wn (by kernel_rfl) (nq (P := Tryd.prog) (fn := Tryd.f5)) (fun _ => hC) y_assign ?_
         refine hy0 13 rfl wn (by kernel_rfl) (nq (P := Tryd.prog) (fn := Tryd.f5)) (fun _ => hC) y_assign ?_
         refine hy0 14 rfl wn (by kernel_rfl) (nq (P := Tryd.prog) (fn := Tryd.f5)) (fun _ => hC) y_assign ?_
         refine hb_done (by kernel_rfl) ?_
         refine c_seq <| c_region <| oy hS y_move ?_
         obtain ⟨D8, U5, hF⟩ := ob hF
         refine o_callS hS func30 rfl rfl (hc := (w_isa_Op (a0 := N4) (hG := hG.plus) (hF := U5))) (h := ?_)
         clear hS; intro w hS
         refine oy hS y_move ?_
         iterate 2 (refine oy hS (y_extract rfl) ?_)
         iterate 2 (refine oy hS y_assign ?_)
         refine n_thenN <| c_seq <| c_region <| oy hS y_move ?_
         refine o_callS hS func10 rfl rfl (hc := (w_l3_num (a0 := D8.2))) (h := ?_)
         clear hS; intro w hS
         refine oy hS y_bin ?_
         refine o_split (ht := fun I2 => ?_) (hf := fun I2 => ?_)
         · replace hF := bt I2 hF
           iterate 3 (refine o_sk rfl rfl ?_)
           refine oy hS y_pickT <| n_thenN ?_
           refine c_if_true (h := ?_)
           refine c_seq <| c_region <| oy hS y_assign <| n_thenN ?_
           obtain rfl := osi hF
           obtain rfl : _ = I0 := I1
           obtain rfl : _ = J0 := E0
           obtain rfl : _ = r := G0
           exact wp_ret (wr1 hS)
         replace hF := bf I2 hF
         refine o_gu rfl rfl rfl <| oy hS y_move <| o_gu rfl rfl rfl <| oy hS y_move <| o_gu rfl rfl rfl <| oy hS y_bin <| oy hS y_pickF <| n_thenN ?_
         refine c_if (ht := fun J2 => ?_) (hf := fun J2 => ?_)
         · replace hF := bt J2 hF
           refine c_seq <| c_region <| oy hS y_assign <| n_thenN ?_
           obtain rfl := osi hF
           obtain rfl : _ = I0 := I1
           obtain rfl : _ = J0 := E0
           obtain rfl : _ = r := G0
           exact wp_ret (wr1 hS)
         replace hF := bf J2 hF
         refine wp_skip ?_
         obtain rfl := osi hF
         change ∃ _, _
         exact ⟨0, N4, B8, (r3_Latency B0), (r3_Slots B0), v_0_674, LX_0_675, I1, h_0_676, mk_exF, (hS.re (.b (.d (.d (.d .hb))) (.t (.d (.d .h)) (.t .h .n))))⟩
       replace hF := bf G2 hF
       refine wp_skip ?_
       obtain rfl := osi hF
       change ∃ _, _
       exact ⟨1, (ByteArray.mk #[]), 0, 0, [], (.slice none 0 0), [], I1, (OwT.nil _ _ _), mk_exF, (hS.re (.b (.d .hb) (.t .h (.take (X := []) (.here [] _) .n))))⟩
     rintro a w ⟨Y1, Z1, B2, D2, M1, E2, N1, hF, E8, ⟨Y9, rfl⟩, hS⟩
     dsimp only [l3_IsaTable_k3] at hF
     obtain ⟨Z9, hF, K0⟩ := cut_step hF
     refine c_cutP (fun a w' => l3_IsaTable_k4 B0 () = some I0 ∧ (∃ s : Nat → Value, a = Ac (((Fm.dead 209 s).upd 1 (.pointer (some ⟨b1, 0, none⟩))).upd 3 (.int .i64 B0))) ∧ St W g [] ((b1, blk (cl_Ask M0 N0) 25) :: []) w') ?_ ?_
     · skip
       refine c_seq <| c_region <| oy hS y_move ?_
       refine o_callS hS func10 rfl rfl (hc := (w_l3_num (a0 := J1.2))) (h := ?_)
       clear hS; intro w hS
       refine oy hS y_move <| oy hS y_bin ?_
       refine o_split (ht := fun K2 => ?_) (hf := fun K2 => ?_)
       · replace hF := bt K2 hF
         iterate 3 (refine o_sk rfl rfl ?_)
         refine oy hS y_pickT <| oy hS y_move ?_
         iterate 4 (refine o_sk rfl rfl ?_)
         refine oy hS y_pickT <| oy hS y_move ?_
         iterate 3 (refine o_sk rfl rfl ?_)
         refine oy hS y_pickT <| oy hS y_move ?_
         iterate 4 (refine o_sk rfl rfl ?_)
         refine oy hS y_pickT <| oy hS y_move ?_
         iterate 3 (refine o_sk rfl rfl ?_)
         refine oy hS y_pickT <| oy hS y_move ?_
         iterate 4 (refine o_sk rfl rfl ?_)
         refine oy hS y_pickT <| oy hS y_move ?_
         iterate 4 (refine o_sk rfl rfl ?_)
         refine oy hS y_pickT <| oy hS y_move ?_
         iterate 5 (refine o_sk rfl rfl ?_)
         refine oy hS y_pickT <| oy hS y_move ?_
         iterate 5 (refine o_sk rfl rfl ?_)
         refine oy hS y_pickT <| n_thenN ?_
         refine c_if_true (h := ?_)
         refine c_seq <| c_region <| oy hS y_assign <| n_thenN ?_
         obtain rfl := osi hF
         obtain rfl : _ = I0 := K0
         obtain rfl : _ = J0 := E0
         obtain rfl : _ = r := G0
         exact wp_ret (wr1 hS)
       replace hF := bf K2 hF
       refine o_gu rfl rfl rfl <| oy hS y_move <| o_gu rfl rfl rfl <| oy hS y_move <| o_gu rfl rfl rfl <| oy hS y_sneq <| oy hS y_pickF ?_
       refine o_split (ht := fun M2 => ?_) (hf := fun M2 => ?_)
       · replace hF := bt M2 hF
         iterate 4 (refine o_sk rfl rfl ?_)
         refine oy hS y_pickT <| oy hS y_move ?_
         iterate 3 (refine o_sk rfl rfl ?_)
         refine oy hS y_pickT <| oy hS y_move ?_
         iterate 4 (refine o_sk rfl rfl ?_)
         refine oy hS y_pickT <| oy hS y_move ?_
         iterate 3 (refine o_sk rfl rfl ?_)
         refine oy hS y_pickT <| oy hS y_move ?_
         iterate 4 (refine o_sk rfl rfl ?_)
         refine oy hS y_pickT <| oy hS y_move ?_
         iterate 4 (refine o_sk rfl rfl ?_)
         refine oy hS y_pickT <| oy hS y_move ?_
         iterate 5 (refine o_sk rfl rfl ?_)
         refine oy hS y_pickT <| oy hS y_move ?_
         iterate 5 (refine o_sk rfl rfl ?_)
         refine oy hS y_pickT <| n_thenN ?_
         refine c_if_true (h := ?_)
         refine c_seq <| c_region <| oy hS y_assign <| n_thenN ?_
         obtain rfl := osi hF
         obtain rfl : _ = I0 := K0
         obtain rfl : _ = J0 := E0
         obtain rfl : _ = r := G0
         exact wp_ret (wr1 hS)
       replace hF := bf M2 hF
       refine o_gu rfl rfl rfl <| oy hS y_move <| o_gu rfl rfl rfl ?_
       refine o_callS hS func10 rfl rfl (hc := (w_l3_num (a0 := ((isa_Form B0).2)))) (h := ?_)
       clear hS; intro w hS
       refine o_gu rfl rfl rfl <| oy hS y_move <| o_gu rfl rfl rfl <| oy hS y_bin <| oy hS y_pickF ?_
       refine o_split (ht := fun N2 => ?_) (hf := fun N2 => ?_)
       · replace hF := bt N2 hF
         iterate 3 (refine o_sk rfl rfl ?_)
         refine oy hS y_pickT <| oy hS y_move ?_
         iterate 4 (refine o_sk rfl rfl ?_)
         refine oy hS y_pickT <| oy hS y_move ?_
         iterate 3 (refine o_sk rfl rfl ?_)
         refine oy hS y_pickT <| oy hS y_move ?_
         iterate 4 (refine o_sk rfl rfl ?_)
         refine oy hS y_pickT <| oy hS y_move ?_
         iterate 4 (refine o_sk rfl rfl ?_)
         refine oy hS y_pickT <| oy hS y_move ?_
         iterate 5 (refine o_sk rfl rfl ?_)
         refine oy hS y_pickT <| oy hS y_move ?_
         iterate 5 (refine o_sk rfl rfl ?_)
         refine oy hS y_pickT <| n_thenN ?_
         refine c_if_true (h := ?_)
         refine c_seq <| c_region <| oy hS y_assign <| n_thenN ?_
         obtain rfl := osi hF
         obtain rfl : _ = I0 := K0
         obtain rfl : _ = J0 := E0
         obtain rfl : _ = r := G0
         exact wp_ret (wr1 hS)
       replace hF := bf N2 hF
       refine o_gu rfl rfl rfl <| oy hS y_move <| o_gu rfl rfl rfl <| oy hS y_move <| o_gu rfl rfl rfl <| oy hS y_bin <| oy hS y_pickF ?_
       refine o_split (ht := fun R2 => ?_) (hf := fun R2 => ?_)
       · replace hF := bt R2 hF
         iterate 4 (refine o_sk rfl rfl ?_)
         refine oy hS y_pickT <| oy hS y_move ?_
         iterate 3 (refine o_sk rfl rfl ?_)
         refine oy hS y_pickT <| oy hS y_move ?_
         iterate 4 (refine o_sk rfl rfl ?_)
         refine oy hS y_pickT <| oy hS y_move ?_
         iterate 4 (refine o_sk rfl rfl ?_)
         refine oy hS y_pickT <| oy hS y_move ?_
         iterate 5 (refine o_sk rfl rfl ?_)
         refine oy hS y_pickT <| oy hS y_move ?_
         iterate 5 (refine o_sk rfl rfl ?_)
         refine oy hS y_pickT <| n_thenN ?_
         refine c_if_true (h := ?_)
         refine c_seq <| c_region <| oy hS y_assign <| n_thenN ?_
         obtain rfl := osi hF
         obtain rfl : _ = I0 := K0
         obtain rfl : _ = J0 := E0
         obtain rfl : _ = r := G0
         exact wp_ret (wr1 hS)
       replace hF := bf R2 hF
       refine o_gu rfl rfl rfl <| oy hS y_move <| o_gu rfl rfl rfl ?_
       refine o_callS hS func10 rfl rfl (hc := (w_l3_num (a0 := ((isa_Latency B0).2)))) (h := ?_)
       clear hS; intro w hS
       refine o_gu rfl rfl rfl <| oy hS y_move <| o_gu rfl rfl rfl <| oy hS y_bin <| oy hS y_pickF ?_
       refine o_split (ht := fun T2 => ?_) (hf := fun T2 => ?_)
       · replace hF := bt T2 hF
         iterate 3 (refine o_sk rfl rfl ?_)
         refine oy hS y_pickT <| oy hS y_move ?_
         iterate 4 (refine o_sk rfl rfl ?_)
         refine oy hS y_pickT <| oy hS y_move ?_
         iterate 4 (refine o_sk rfl rfl ?_)
         refine oy hS y_pickT <| oy hS y_move ?_
         iterate 5 (refine o_sk rfl rfl ?_)
         refine oy hS y_pickT <| oy hS y_move ?_
         iterate 5 (refine o_sk rfl rfl ?_)
         refine oy hS y_pickT <| n_thenN ?_
         refine c_if_true (h := ?_)
         refine c_seq <| c_region <| oy hS y_assign <| n_thenN ?_
         obtain rfl := osi hF
         obtain rfl : _ = I0 := K0
         obtain rfl : _ = J0 := E0
         obtain rfl : _ = r := G0
         exact wp_ret (wr1 hS)
       replace hF := bf T2 hF
       refine o_gu rfl rfl rfl <| oy hS y_move <| o_gu rfl rfl rfl <| oy hS y_move <| o_gu rfl rfl rfl <| oy hS y_bin <| oy hS y_pickF ?_
       refine o_split (ht := fun U2 => ?_) (hf := fun U2 => ?_)
       · replace hF := bt U2 hF
         iterate 4 (refine o_sk rfl rfl ?_)
         refine oy hS y_pickT <| oy hS y_move ?_
         iterate 4 (refine o_sk rfl rfl ?_)
         refine oy hS y_pickT <| oy hS y_move ?_
         iterate 5 (refine o_sk rfl rfl ?_)
         refine oy hS y_pickT <| oy hS y_move ?_
         iterate 5 (refine o_sk rfl rfl ?_)
         refine oy hS y_pickT <| n_thenN ?_
         refine c_if_true (h := ?_)
         refine c_seq <| c_region <| oy hS y_assign <| n_thenN ?_
         obtain rfl := osi hF
         obtain rfl : _ = I0 := K0
         obtain rfl : _ = J0 := E0
         obtain rfl : _ = r := G0
         exact wp_ret (wr1 hS)
       replace hF := bf U2 hF
       refine o_gu rfl rfl rfl <| oy hS y_move <| o_gu rfl rfl rfl ?_
       refine o_callS hS func10 rfl rfl (hc := (w_l3_num (a0 := K1.2))) (h := ?_)
       clear hS; intro w hS
       refine o_gu rfl rfl rfl <| oy hS y_move <| o_gu rfl rfl rfl <| oy hS y_bin <| oy hS y_pickF ?_
       refine o_split (ht := fun V2 => ?_) (hf := fun V2 => ?_)
       · replace hF := bt V2 hF
         iterate 4 (refine o_sk rfl rfl ?_)
         refine oy hS y_pickT <| oy hS y_move ?_
         iterate 5 (refine o_sk rfl rfl ?_)
         refine oy hS y_pickT <| oy hS y_move ?_
         iterate 5 (refine o_sk rfl rfl ?_)
         refine oy hS y_pickT <| n_thenN ?_
         refine c_if_true (h := ?_)
         refine c_seq <| c_region <| oy hS y_assign <| n_thenN ?_
         obtain rfl := osi hF
         obtain rfl : _ = I0 := K0
         obtain rfl : _ = J0 := E0
         obtain rfl : _ = r := G0
         exact wp_ret (wr1 hS)
       replace hF := bf V2 hF
       refine o_gu rfl rfl rfl <| oy hS y_move <| o_gu rfl rfl rfl <| oy hS y_move <| o_gu rfl rfl rfl ?_
       obtain ⟨Ba, V5, hF⟩ := ob hF
       refine o_callS hS func21 rfl rfl (hc := (w_r0_EqNumbers (a0 := K1.1) (a1 := M1) (h0 := (OwT.plus h_0_612 hS (fun p hp => mC (mA (hp))))) (h1 := (OwT.plus E8 hS (fun p hp => mC (mB (mA (hp)))))) (hF := V5))) (h := ?_)
       clear hS; intro w hS
       refine o_gu rfl rfl rfl <| oy hS y_not <| oy hS y_pickF ?_
       refine o_split (ht := fun X2 => ?_) (hf := fun X2 => ?_)
       · replace hF := bt X2 hF
         iterate 5 (refine o_sk rfl rfl ?_)
         refine oy hS y_pickT <| oy hS y_move ?_
         iterate 5 (refine o_sk rfl rfl ?_)
         refine oy hS y_pickT <| n_thenN ?_
         refine c_if_true (h := ?_)
         refine c_seq <| c_region <| oy hS y_assign <| n_thenN ?_
         obtain rfl := osi hF
         obtain rfl : _ = I0 := K0
         obtain rfl : _ = J0 := E0
         obtain rfl : _ = r := G0
         exact wp_ret (wr1 hS)
       replace hF := bf X2 hF
       refine o_gu rfl rfl rfl <| oy hS y_move <| o_gu rfl rfl rfl ?_
       refine o_callS hS func31 rfl rfl (hc := (w_isa_Ends (a0 := B0))) (h := ?_)
       clear hS; intro w hS
       refine o_gu rfl rfl rfl <| oy hS y_move <| o_gu rfl rfl rfl ?_
       refine o_callS hS func32 rfl rfl (hc := (w_r3_Ends (a0 := B0))) (h := ?_)
       clear hS; intro w hS
       refine o_gu rfl rfl rfl <| oy hS (y_bneq underlying4) <| oy hS y_pickF ?_
       refine o_split (ht := fun Y2 => ?_) (hf := fun Y2 => ?_)
       · replace hF := bt Y2 hF
         iterate 5 (refine o_sk rfl rfl ?_)
         refine oy hS y_pickT <| n_thenN ?_
         refine c_if_true (h := ?_)
         refine c_seq <| c_region <| oy hS y_assign <| n_thenN ?_
         obtain rfl := osi hF
         obtain rfl : _ = I0 := K0
         obtain rfl : _ = J0 := E0
         obtain rfl : _ = r := G0
         exact wp_ret (wr1 hS)
       replace hF := bf Y2 hF
       refine o_gu rfl rfl rfl <| oy hS y_move <| o_gu rfl rfl rfl ?_
       refine o_callS hS func33 rfl rfl (hc := (w_isa_Effect (a0 := B0))) (h := ?_)
       clear hS; intro w hS
       refine o_gu rfl rfl rfl <| oy hS y_move <| o_gu rfl rfl rfl ?_
       refine o_callS hS func34 rfl rfl (hc := (w_r3_Effect (a0 := B0))) (h := ?_)
       clear hS; intro w hS
       refine o_gu rfl rfl rfl <| oy hS (y_bneq underlying4) <| oy hS y_pickF <| n_thenN ?_
       refine c_if (ht := fun Z2 => ?_) (hf := fun Z2 => ?_)
       · replace hF := bt Z2 hF
         refine c_seq <| c_region <| oy hS y_assign <| n_thenN ?_
         obtain rfl := osi hF
         obtain rfl : _ = I0 := K0
         obtain rfl : _ = J0 := E0
         obtain rfl : _ = r := G0
         exact wp_ret (wr1 hS)
       replace hF := bf Z2 hF
       refine wp_skip ?_
       obtain rfl := osi hF
       change _ ∧ _
       exact ⟨K0, mk_exF, (hS.re (.b .hb .n))⟩
     rintro a w ⟨hF, ⟨Da, rfl⟩, hS⟩
     dsimp only [l3_IsaTable_k4] at hF
     refine c_seq <| c_region <| oy hS y_assign <| n_thenN <| c_block ?_
     refine c_loopP hF (fun (q : Int) a w' => (∃ s : Nat → Value, a = Ac ((((Fm.dead 209 s).upd 1 (.pointer (some ⟨b1, 0, none⟩))).upd 3 (.int .i64 B0)).upd 19 (.int .i64 q))) ∧ St W g [] ((b1, blk (cl_Ask M0 N0) 25) :: []) w') ⟨mk_exF, (hS.re (.b .hb .n))⟩ ?_
     clear hS hF
     intro Ea q a w hI hq
     revert hq hI; revert q; intro R4 hI hq
     obtain ⟨⟨Ga, rfl⟩, hS⟩ := hq
     obtain ⟨Ia, hF, R1⟩ := iter_step hI
     clear hI
     dsimp only [l3_IsaTable_b5] at hF
     iterate 2 (refine c_seq ?_)
     refine c_region <| oy hS y_move <| oy hS y_bin <| n_thenN ?_
     refine c_if (ht := fun B3 => ?_) (hf := fun B3 => ?_)
     · replace hF := bt B3 hF
       refine wp_skip <| c_seq <| c_block <| c_seq <| c_region ?_
       iterate 2 (refine oy hS y_move ?_)
       refine o_callS hS func35 rfl rfl (hc := (w_isa_May (a0 := B0) (a1 := R4))) (h := ?_)
       clear hS; intro w hS
       iterate 2 (refine oy hS y_move ?_)
       obtain ⟨Ja, X5, hF⟩ := ob hF
       refine o_callS hS func36 rfl rfl (hc := (w_r3_May (a0 := B0) (a1 := R4) (hF := X5))) (h := ?_)
       clear hS; intro w hS
       refine oy hS (y_bneq underlying4) <| n_thenN ?_
       refine c_if (ht := fun D3 => ?_) (hf := fun D3 => ?_)
       · replace hF := bt D3 hF
         refine c_seq <| c_region <| oy hS y_assign <| n_thenN ?_
         obtain rfl := osi hF
         obtain rfl : _ = I0 := R1
         obtain rfl : _ = J0 := E0
         obtain rfl : _ = r := G0
         exact wp_ret (wr1 hS)
       replace hF := bf D3 hF
       refine wp_skip <| c_region <| oy hS y_move <| oy hS y_bin <| oy hS y_assign <| n_thenN ?_
       obtain rfl := osi hF
       exact ⟨_, R1, mk_exF, (hS.re (.b .hb .n))⟩
     replace hF := bf B3 hF
     refine wp_exit ?_
     refine c_region <| oy hS y_move <| oy hS y_bin <| oy hS y_assign <| n_thenN ?_
     obtain rfl := osi hF
     obtain rfl : _ = I0 := R1
     exact ⟨_, E0, mk_exF, (hS.re (.b .hb .n))⟩
   replace hF := bf X1 hF
   refine wp_exit ?_
   obtain rfl := osi hF
   obtain rfl : _ = J0 := E0
   change _ ∧ _
   exact ⟨G0, mk_exF, (hS.re (.b .hb .n))⟩
 rintro a w ⟨hF, ⟨Ka, rfl⟩, hS⟩
 dsimp only [l3_IsaTable_k1] at hF
 refine c_seq <| c_region ?_
 refine o_buildT val_string ([(ByteArray.mk #[]), (ByteArray.mk #[65, 68, 68]), (ByteArray.mk #[97, 100]), (ByteArray.mk #[110, 111, 112, 32]), (ByteArray.mk #[46, 99, 111, 100, 101])] : List ByteArray) hS el_string (fun _ => rfl) enc_len_string (by decide) rfl (by decide) (hp := rfl) (h := ?_)
 clear hS; intro T4 w hS G8
 have hS : St W g [] ([(T4, blk (([(ByteArray.mk #[]), (ByteArray.mk #[65, 68, 68]), (ByteArray.mk #[97, 100]), (ByteArray.mk #[110, 111, 112, 32]), (ByteArray.mk #[46, 99, 111, 100, 101])] : List ByteArray).flatMap enc_string) 9)] ++ ((b1, blk (cl_Ask M0 N0) 25) :: [])) w := hS
 refine oy hS (y_field fa_sledgelaw3_Ask_1) <| oy hS (y_load (fun w hS => hS.own (mB (mH))) underlying23 rfl rfl) ?_
 obtain ⟨Y5, U4, hF⟩ := ob hF
 refine o_appPw (LX := [(T4, blk (([(ByteArray.mk #[]), (ByteArray.mk #[65, 68, 68]), (ByteArray.mk #[97, 100]), (ByteArray.mk #[110, 111, 112, 32]), (ByteArray.mk #[46, 99, 111, 100, 101])] : List ByteArray).flatMap enc_string) 9)]) U4 hS el_string G8 Y4.plus (enc_ones_string _) ?_
 clear hS; intro V4 M4 w R0 hS
 refine oy hS y_assign <| n_thenN ?_
 iterate 2 (refine c_seq ?_)
 refine c_region <| oy hS y_assign <| n_thenN <| c_block ?_
 refine c_loopP hF (fun (q : Int) a w' => (∃ s : Nat → Value, a = Ac (((Fm.dead 209 s).upd 20 V4).upd 21 (.int .i64 q))) ∧ St W g [] (M4 ++ []) w') ⟨mk_exF, (hS.re (.t .h .n))⟩ ?_
 clear hS hF
 intro Ma q a w hI hq
 revert hq hI; revert q; intro X4 hI hq
 obtain ⟨⟨Na, rfl⟩, hS⟩ := hq
 obtain ⟨E3, hF, D0⟩ := iter_step hI
 clear hI
 dsimp only [l3_IsaTable_b6] at hF
 obtain ⟨Ra, hF, T1⟩ := cut_step hF
 refine c_cutP (fun a w' => l3_IsaTable_k7 Y5 X4 () = some E3 ∧ (∃ s : Nat → Value, a = Ac (((Fm.dead 209 s).upd 20 V4).upd 21 (.int .i64 X4))) ∧ St W g [] (M4 ++ []) w') ?_ ?_
 · skip
   refine c_seq <| c_region ?_
   iterate 2 (refine oy hS y_move ?_)
   refine oy hS (y_lenO R0 underlying23) <| oy hS y_bin ?_
   refine o_split (ht := fun G3 => ?_) (hf := fun G3 => ?_)
   · replace hF := bt G3 hF
     refine o_gu rfl rfl rfl <| oy hS y_move <| o_gu rfl rfl rfl <| oy hS y_bin <| oy hS y_pickT <| n_thenN ?_
     refine c_if (ht := fun I3 => ?_) (hf := fun I3 => ?_)
     · replace hF := bt I3 hF
       refine wp_skip ?_
       obtain rfl := osi hF
       change _ ∧ _
       exact ⟨T1, mk_exF, (hS.re (.t .h .n))⟩
     replace hF := bf I3 hF
     refine wp_exit ?_
     refine c_seq <| c_region ?_
     obtain ⟨Ta, Z5, hF⟩ := ob hF
     refine o_callS hS func14 rfl rfl (hc := (w_l3_wakes (hG := hG.plus) (hF := Z5))) (h := ?_)
     clear hS; intro w hS
     refine oy hS y_assign <| n_thenN ?_
     obtain rfl := osi hF
     obtain rfl : _ = E3 := T1
     obtain rfl : _ = r := D0
     exact wp_ret (wr1 hS)
   replace hF := bf G3 hF
   iterate 2 (refine o_sk rfl rfl ?_)
   refine oy hS y_pickF <| n_thenN ?_
   refine c_if_false (h := ?_)
   refine wp_exit ?_
   refine c_seq <| c_region ?_
   obtain ⟨Ua, B6, hF⟩ := ob hF
   refine o_callS hS func14 rfl rfl (hc := (w_l3_wakes (hG := hG.plus) (hF := B6))) (h := ?_)
   clear hS; intro w hS
   refine oy hS y_assign <| n_thenN ?_
   obtain rfl := osi hF
   obtain rfl : _ = E3 := T1
   obtain rfl : _ = r := D0
   exact wp_ret (wr1 hS)
 rintro a w ⟨hF, ⟨Va, rfl⟩, hS⟩
 dsimp only [l3_IsaTable_k7] at hF
 refine c_seq <| c_block <| c_seq <| c_region ?_
 iterate 2 (refine oy hS y_move ?_)
 obtain ⟨I8, D6, hF⟩ := ob hF
 obtain ⟨Xa, Ya, G9, E6, G6, I6, J6, K6⟩ := OwT.at D6 R0 enc_len_string
 refine oy hS (y_index E6 G6 I6 underlying23 el_string.size) <| oy hS (y_load (fun w hS => hS.own (mA (mX J6))) underlying9 rfl (K6 0 _ rfl)) ?_
 obtain ⟨J3, M6, hF⟩ := ob hF
 refine o_callS hS func30 rfl rfl (hc := (w_isa_Op (a0 := I8) (hG := hG.plus) (hF := M6))) (h := ?_)
 clear hS; intro w hS
 refine oy hS y_move ?_
 iterate 2 (refine oy hS (y_extract rfl) ?_)
 iterate 2 (refine oy hS y_assign ?_)
 refine n_thenN <| c_seq ?_
 refine c_heldL 7 7 (by kernel_rfl) rfl hS ?_
 clear hS; intro w hS
 refine hy0 1 rfl wn (by kernel_rfl) (nq (P := Tryd.prog) (fn := Tryd.f5)) (fun _ => hS.cb) y_move ?_
 refine hy0 2 rfl wn (by kernel_rfl) (nq (P := Tryd.prog) (fn := Tryd.f5)) (fun _ => hS.cb) y_move ?_
 obtain ⟨J8, N6, hF⟩ := ob hF
 obtain ⟨Za, Bb, I9, R6, T6, U6, V6, X6⟩ := OwT.at N6 R0 enc_len_string
 refine hy0 3 rfl wn (by kernel_rfl) (nq (P := Tryd.prog) (fn := Tryd.f5)) (fun _ => hS.cb) (y_index R6 T6 U6 underlying23 el_string.size) ?_
 refine hy 4 rfl wn (by kernel_rfl) (nq (P := Tryd.prog) (fn := Tryd.f5)) hS.cb (y_load (fun w hS => hS.own (mA (mX V6))) underlying9 rfl (X6 0 _ rfl)) ?_
 refine hb1 0 (by kernel_rfl) (hb_op rfl wn (nl (P := Tryd.prog) (fn := Tryd.f5)) ?_)
 refine o_call0 hS func27 rfl rfl (hc := (w_r3_Names )) (h := ?_)
 clear hS; intro Db J9 w hS Y6
 obtain ⟨v_0_935, LX_0_936, rfl, rfl, h_0_937⟩ := Y6
 simp only [aa, ac, al] at hS
 refine hb_next (fun _ => (hS.re (.t (.d .h) .n)).cb) ?_
 refine hb1 5 (by kernel_rfl) (hb_op rfl wn (nl (P := Tryd.prog) (fn := Tryd.f5)) ?_)
 obtain ⟨Eb, Z6, hF⟩ := ob hF
 refine o_callS hS func37 rfl rfl (hc := (w_r0_At (a0 := r3_Names) (a1 := J8) (h0 := (OwT.plus h_0_937 hS (fun p hp => mA (hp)))) (hF := Z6))) (h := ?_)
 clear hS; intro w hS
 refine hb_next (fun _ => (hS.re (.t (.d .h) .n)).cb) ?_
 refine hy0 6 rfl wn (by kernel_rfl) (nq (P := Tryd.prog) (fn := Tryd.f5)) (fun _ => (hS.re (.t (.d .h) .n)).cb) y_assign ?_
 refine hb_done (by kernel_rfl) ?_
 refine c_seq ?_
 refine c_quiet (by kernel_rfl) (by kernel_rfl) hS ?_
 refine qy y_move <| qy y_bin ?_
 refine q_split (ht := fun K3 => ?_) (hf := fun K3 => ?_)
 · replace hF := bt K3 hF
   refine q_gu rfl rfl rfl ?_
   refine qy y_move ?_
   refine q_gu rfl rfl rfl ?_
   refine q_callS func10 rfl rfl (hc := (w_l3_num (a0 := J3.2))) (h := ?_)
   refine q_gu rfl rfl rfl ?_
   refine qy y_bin ?_
   refine q_gu rfl rfl rfl ?_
   refine q_split (ht := fun M3 => ?_) (hf := fun M3 => ?_)
   · replace hF := bt M3 hF
     iterate 3 (refine q_sk rfl rfl ?_)
     refine q_gu rfl rfl rfl ?_
     iterate 2 (refine qy y_pickT ?_)
     refine qy y_move ?_
     iterate 3 (refine q_sk rfl rfl ?_)
     iterate 7 (refine q_sku rfl rfl ?_)
     refine q_sk rfl rfl ?_
     refine qy y_pickT <| qy y_move ?_
     iterate 11 (refine q_sk rfl rfl ?_)
     refine qy y_pickT ?_
     refine q_nilN (h := ?_)
     clear hS; intro w hS
     refine c_if_true (h := ?_)
     refine c_seq <| c_region <| oy hS y_assign <| n_thenN ?_
     obtain rfl := osi hF
     obtain rfl : _ = r := D0
     exact wp_ret (wr1 hS)
   replace hF := bf M3 hF
   refine q_gu rfl rfl rfl ?_
   refine qy y_move ?_
   refine q_gu rfl rfl rfl ?_
   refine qy y_move ?_
   refine q_gu rfl rfl rfl ?_
   refine qy y_bin ?_
   refine q_gu rfl rfl rfl ?_
   refine qy y_pickF <| qy y_pickT ?_
   refine q_split (ht := fun N3 => ?_) (hf := fun N3 => ?_)
   · replace hF := bt N3 hF
     iterate 3 (refine q_sk rfl rfl ?_)
     iterate 7 (refine q_sku rfl rfl ?_)
     refine q_sk rfl rfl ?_
     refine qy y_pickT <| qy y_move ?_
     iterate 11 (refine q_sk rfl rfl ?_)
     refine qy y_pickT ?_
     refine q_nilN (h := ?_)
     clear hS; intro w hS
     refine c_if_true (h := ?_)
     refine c_seq <| c_region <| oy hS y_assign <| n_thenN ?_
     obtain rfl := osi hF
     obtain rfl : _ = r := D0
     exact wp_ret (wr1 hS)
   replace hF := bf N3 hF
   refine q_gu rfl rfl rfl ?_
   refine qy y_move ?_
   refine q_gu rfl rfl rfl ?_
   refine qy y_bin ?_
   refine q_gu rfl rfl rfl ?_
   refine q_split (ht := fun R3 => ?_) (hf := fun R3 => ?_)
   · replace hF := bt R3 hF
     refine q_gu rfl rfl rfl ?_
     refine qy y_move ?_
     refine q_gu rfl rfl rfl ?_
     refine q_callS func10 rfl rfl (hc := (w_l3_num (a0 := J3.2))) (h := ?_)
     refine q_gu rfl rfl rfl ?_
     refine qy y_bin ?_
     refine q_gu rfl rfl rfl ?_
     refine q_split (ht := fun T3 => ?_) (hf := fun T3 => ?_)
     · replace hF := bt T3 hF
       iterate 2 (refine q_sk rfl rfl ?_)
       refine q_gu rfl rfl rfl ?_
       refine qy y_pickT ?_
       refine q_gu rfl rfl rfl ?_
       refine qy y_pickT <| qy y_pickF <| qy y_move ?_
       iterate 11 (refine q_sk rfl rfl ?_)
       refine qy y_pickT ?_
       refine q_nilN (h := ?_)
       clear hS; intro w hS
       refine c_if_true (h := ?_)
       refine c_seq <| c_region <| oy hS y_assign <| n_thenN ?_
       obtain rfl := osi hF
       obtain rfl : _ = r := D0
       exact wp_ret (wr1 hS)
     replace hF := bf T3 hF
     refine q_gu rfl rfl rfl ?_
     refine qy y_move ?_
     refine q_gu rfl rfl rfl ?_
     refine qy y_bin ?_
     refine q_gu rfl rfl rfl ?_
     refine qy y_pickF ?_
     refine q_gu rfl rfl rfl ?_
     refine qy y_pickT <| qy y_pickF ?_
     refine q_split (ht := fun U3 => ?_) (hf := fun U3 => ?_)
     · replace hF := bt U3 hF
       iterate 11 (refine q_sk rfl rfl ?_)
       refine qy y_pickT ?_
       refine q_nilN (h := ?_)
       clear hS; intro w hS
       refine c_if_true (h := ?_)
       refine c_seq <| c_region <| oy hS y_assign <| n_thenN ?_
       obtain rfl := osi hF
       obtain rfl : _ = r := D0
       exact wp_ret (wr1 hS)
     replace hF := bf U3 hF
     refine q_gu rfl rfl rfl ?_
     refine qy y_move ?_
     refine q_gu rfl rfl rfl ?_
     refine qy y_move ?_
     refine q_gu rfl rfl rfl ?_
     obtain ⟨K8, B7, hF⟩ := ob hF
     obtain ⟨V3, X3, U1, T0, U0, V0, X0, Y0⟩ := OwT.at B7 R0 enc_len_string
     refine qy (y_index T0 U0 V0 underlying23 el_string.size) ?_
     refine q_gu rfl rfl rfl ?_
     refine qy (y_load (fun w hS => hS.own (mB (mA (mX X0)))) underlying9 rfl (Y0 0 _ rfl)) ?_
     refine q_gu rfl rfl rfl ?_
     obtain ⟨Gb, D7, hF⟩ := ob hF
     refine q_callS func38 rfl rfl (hc := (w_isa_Name2 (a0 := K8) (hF := D7))) (h := ?_)
     refine q_gu rfl rfl rfl ?_
     refine qy y_move ?_
     refine q_gu rfl rfl rfl ?_
     refine qy y_move ?_
     refine q_gu rfl rfl rfl ?_
     obtain ⟨M8, E7, hF⟩ := ob hF
     obtain ⟨Y3, Z3, V1, Z0, B1, D1, E1, G1⟩ := OwT.at E7 R0 enc_len_string
     refine qy (y_index Z0 B1 D1 underlying23 el_string.size) ?_
     refine q_gu rfl rfl rfl ?_
     refine qy (y_load (fun w hS => hS.own (mB (mA (mX E1)))) underlying9 rfl (G1 0 _ rfl)) ?_
     refine q_gu rfl rfl rfl ?_
     obtain ⟨Ib, G7, hF⟩ := ob hF
     refine q_callS func39 rfl rfl (hc := (w_r3_Name (a0 := M8) (hF := G7))) (h := ?_)
     refine q_gu rfl rfl rfl ?_
     refine qy (y_bneq underlying4) <| qy y_pickF ?_
     refine q_nilN (h := ?_)
     clear hS; intro w hS
     refine c_if (ht := fun B4 => ?_) (hf := fun B4 => ?_)
     · replace hF := bt B4 hF
       refine c_seq <| c_region <| oy hS y_assign <| n_thenN ?_
       obtain rfl := osi hF
       obtain rfl : _ = r := D0
       exact wp_ret (wr1 hS)
     replace hF := bf B4 hF
     refine wp_skip <| c_region <| oy hS y_move <| oy hS y_bin <| oy hS y_assign <| n_thenN ?_
     obtain rfl := osi hF
     exact ⟨_, D0, mk_exF, (hS.re (.t (.d .h) .n))⟩
   replace hF := bf R3 hF
   iterate 4 (refine q_sk rfl rfl ?_)
   iterate 2 (refine q_sku rfl rfl ?_)
   refine q_sk rfl rfl ?_
   refine q_gu rfl rfl rfl ?_
   iterate 2 (refine qy y_pickF ?_)
   refine qy y_move ?_
   refine q_gu rfl rfl rfl ?_
   refine qy y_move ?_
   refine q_gu rfl rfl rfl ?_
   refine qy y_move ?_
   refine q_gu rfl rfl rfl ?_
   obtain ⟨N8, I7, hF⟩ := ob hF
   obtain ⟨V3, X3, U1, T0, U0, V0, X0, Y0⟩ := OwT.at I7 R0 enc_len_string
   refine qy (y_index T0 U0 V0 underlying23 el_string.size) ?_
   refine q_gu rfl rfl rfl ?_
   refine qy (y_load (fun w hS => hS.own (mB (mA (mX X0)))) underlying9 rfl (Y0 0 _ rfl)) ?_
   refine q_gu rfl rfl rfl ?_
   obtain ⟨Jb, J7, hF⟩ := ob hF
   refine q_callS func38 rfl rfl (hc := (w_isa_Name2 (a0 := N8) (hF := J7))) (h := ?_)
   refine q_gu rfl rfl rfl ?_
   refine qy y_move ?_
   refine q_gu rfl rfl rfl ?_
   refine qy y_move ?_
   refine q_gu rfl rfl rfl ?_
   obtain ⟨R8, K7, hF⟩ := ob hF
   obtain ⟨Y3, Z3, V1, Z0, B1, D1, E1, G1⟩ := OwT.at K7 R0 enc_len_string
   refine qy (y_index Z0 B1 D1 underlying23 el_string.size) ?_
   refine q_gu rfl rfl rfl ?_
   refine qy (y_load (fun w hS => hS.own (mB (mA (mX E1)))) underlying9 rfl (G1 0 _ rfl)) ?_
   refine q_gu rfl rfl rfl ?_
   obtain ⟨Kb, M7, hF⟩ := ob hF
   refine q_callS func39 rfl rfl (hc := (w_r3_Name (a0 := R8) (hF := M7))) (h := ?_)
   refine q_gu rfl rfl rfl ?_
   refine qy (y_bneq underlying4) <| qy y_pickF ?_
   refine q_nilN (h := ?_)
   clear hS; intro w hS
   refine c_if (ht := fun D4 => ?_) (hf := fun D4 => ?_)
   · replace hF := bt D4 hF
     refine c_seq <| c_region <| oy hS y_assign <| n_thenN ?_
     obtain rfl := osi hF
     obtain rfl : _ = r := D0
     exact wp_ret (wr1 hS)
   replace hF := bf D4 hF
   refine wp_skip <| c_region <| oy hS y_move <| oy hS y_bin <| oy hS y_assign <| n_thenN ?_
   obtain rfl := osi hF
   exact ⟨_, D0, mk_exF, (hS.re (.t (.d .h) .n))⟩
 replace hF := bf K3 hF
 iterate 4 (refine q_sk rfl rfl ?_)
 iterate 3 (refine q_sku rfl rfl ?_)
 refine q_sk rfl rfl ?_
 refine qy y_pickF <| qy y_move ?_
 refine q_gu rfl rfl rfl ?_
 refine qy y_move ?_
 refine q_gu rfl rfl rfl ?_
 refine qy y_bin ?_
 refine q_gu rfl rfl rfl ?_
 refine q_split (ht := fun E4 => ?_) (hf := fun E4 => ?_)
 · replace hF := bt E4 hF
   refine q_gu rfl rfl rfl ?_
   refine qy y_move ?_
   refine q_gu rfl rfl rfl ?_
   refine q_callS func10 rfl rfl (hc := (w_l3_num (a0 := J3.2))) (h := ?_)
   refine q_gu rfl rfl rfl ?_
   refine qy y_bin ?_
   refine q_gu rfl rfl rfl ?_
   refine q_split (ht := fun G4 => ?_) (hf := fun G4 => ?_)
   · replace hF := bt G4 hF
     iterate 2 (refine q_sk rfl rfl ?_)
     refine q_gu rfl rfl rfl ?_
     refine qy y_pickT ?_
     refine q_gu rfl rfl rfl ?_
     refine qy y_pickT <| qy y_pickF <| qy y_move ?_
     iterate 11 (refine q_sk rfl rfl ?_)
     refine qy y_pickT ?_
     refine q_nilN (h := ?_)
     clear hS; intro w hS
     refine c_if_true (h := ?_)
     refine c_seq <| c_region <| oy hS y_assign <| n_thenN ?_
     obtain rfl := osi hF
     obtain rfl : _ = r := D0
     exact wp_ret (wr1 hS)
   replace hF := bf G4 hF
   refine q_gu rfl rfl rfl ?_
   refine qy y_move ?_
   refine q_gu rfl rfl rfl ?_
   refine qy y_bin ?_
   refine q_gu rfl rfl rfl ?_
   refine qy y_pickF ?_
   refine q_gu rfl rfl rfl ?_
   refine qy y_pickT <| qy y_pickF ?_
   refine q_split (ht := fun I4 => ?_) (hf := fun I4 => ?_)
   · replace hF := bt I4 hF
     iterate 11 (refine q_sk rfl rfl ?_)
     refine qy y_pickT ?_
     refine q_nilN (h := ?_)
     clear hS; intro w hS
     refine c_if_true (h := ?_)
     refine c_seq <| c_region <| oy hS y_assign <| n_thenN ?_
     obtain rfl := osi hF
     obtain rfl : _ = r := D0
     exact wp_ret (wr1 hS)
   replace hF := bf I4 hF
   refine q_gu rfl rfl rfl ?_
   refine qy y_move ?_
   refine q_gu rfl rfl rfl ?_
   refine qy y_move ?_
   refine q_gu rfl rfl rfl ?_
   obtain ⟨T8, N7, hF⟩ := ob hF
   obtain ⟨V3, X3, U1, T0, U0, V0, X0, Y0⟩ := OwT.at N7 R0 enc_len_string
   refine qy (y_index T0 U0 V0 underlying23 el_string.size) ?_
   refine q_gu rfl rfl rfl ?_
   refine qy (y_load (fun w hS => hS.own (mB (mA (mX X0)))) underlying9 rfl (Y0 0 _ rfl)) ?_
   refine q_gu rfl rfl rfl ?_
   obtain ⟨Mb, R7, hF⟩ := ob hF
   refine q_callS func38 rfl rfl (hc := (w_isa_Name2 (a0 := T8) (hF := R7))) (h := ?_)
   refine q_gu rfl rfl rfl ?_
   refine qy y_move ?_
   refine q_gu rfl rfl rfl ?_
   refine qy y_move ?_
   refine q_gu rfl rfl rfl ?_
   obtain ⟨U8, T7, hF⟩ := ob hF
   obtain ⟨Y3, Z3, V1, Z0, B1, D1, E1, G1⟩ := OwT.at T7 R0 enc_len_string
   refine qy (y_index Z0 B1 D1 underlying23 el_string.size) ?_
   refine q_gu rfl rfl rfl ?_
   refine qy (y_load (fun w hS => hS.own (mB (mA (mX E1)))) underlying9 rfl (G1 0 _ rfl)) ?_
   refine q_gu rfl rfl rfl ?_
   obtain ⟨Nb, U7, hF⟩ := ob hF
   refine q_callS func39 rfl rfl (hc := (w_r3_Name (a0 := U8) (hF := U7))) (h := ?_)
   refine q_gu rfl rfl rfl ?_
   refine qy (y_bneq underlying4) <| qy y_pickF ?_
   refine q_nilN (h := ?_)
   clear hS; intro w hS
   refine c_if (ht := fun J4 => ?_) (hf := fun J4 => ?_)
   · replace hF := bt J4 hF
     refine c_seq <| c_region <| oy hS y_assign <| n_thenN ?_
     obtain rfl := osi hF
     obtain rfl : _ = r := D0
     exact wp_ret (wr1 hS)
   replace hF := bf J4 hF
   refine wp_skip <| c_region <| oy hS y_move <| oy hS y_bin <| oy hS y_assign <| n_thenN ?_
   obtain rfl := osi hF
   exact ⟨_, D0, mk_exF, (hS.re (.t (.d .h) .n))⟩
 replace hF := bf E4 hF
 iterate 4 (refine q_sk rfl rfl ?_)
 iterate 2 (refine q_sku rfl rfl ?_)
 refine q_sk rfl rfl ?_
 refine q_gu rfl rfl rfl ?_
 iterate 2 (refine qy y_pickF ?_)
 refine qy y_move ?_
 refine q_gu rfl rfl rfl ?_
 refine qy y_move ?_
 refine q_gu rfl rfl rfl ?_
 refine qy y_move ?_
 refine q_gu rfl rfl rfl ?_
 obtain ⟨V8, V7, hF⟩ := ob hF
 obtain ⟨V3, X3, U1, T0, U0, V0, X0, Y0⟩ := OwT.at V7 R0 enc_len_string
 refine qy (y_index T0 U0 V0 underlying23 el_string.size) ?_
 refine q_gu rfl rfl rfl ?_
 refine qy (y_load (fun w hS => hS.own (mB (mA (mX X0)))) underlying9 rfl (Y0 0 _ rfl)) ?_
 refine q_gu rfl rfl rfl ?_
 obtain ⟨Rb, X7, hF⟩ := ob hF
 refine q_callS func38 rfl rfl (hc := (w_isa_Name2 (a0 := V8) (hF := X7))) (h := ?_)
 refine q_gu rfl rfl rfl ?_
 refine qy y_move ?_
 refine q_gu rfl rfl rfl ?_
 refine qy y_move ?_
 refine q_gu rfl rfl rfl ?_
 obtain ⟨X8, Y7, hF⟩ := ob hF
 obtain ⟨Y3, Z3, V1, Z0, B1, D1, E1, G1⟩ := OwT.at Y7 R0 enc_len_string
 refine qy (y_index Z0 B1 D1 underlying23 el_string.size) ?_
 refine q_gu rfl rfl rfl ?_
 refine qy (y_load (fun w hS => hS.own (mB (mA (mX E1)))) underlying9 rfl (G1 0 _ rfl)) ?_
 refine q_gu rfl rfl rfl ?_
 obtain ⟨Tb, Z7, hF⟩ := ob hF
 refine q_callS func39 rfl rfl (hc := (w_r3_Name (a0 := X8) (hF := Z7))) (h := ?_)
 refine q_gu rfl rfl rfl ?_
 refine qy (y_bneq underlying4) <| qy y_pickF ?_
 refine q_nilN (h := ?_)
 clear hS; intro w hS
 refine c_if (ht := fun K4 => ?_) (hf := fun K4 => ?_)
 · replace hF := bt K4 hF
   refine c_seq <| c_region <| oy hS y_assign <| n_thenN ?_
   obtain rfl := osi hF
   obtain rfl : _ = r := D0
   exact wp_ret (wr1 hS)
 replace hF := bf K4 hF
 refine wp_skip <| c_region <| oy hS y_move <| oy hS y_bin <| oy hS y_assign <| n_thenN ?_
 obtain rfl := osi hF
 exact ⟨_, D0, mk_exF, (hS.re (.t (.d .h) .n))⟩
theorem w_l3_IsaTable {g : Frag} {a0 : T_Ask} {v0_ : Value} {r : Bool} (h0 : Rd_Ask g a0 v0_) (hG : GT g) (hF : l3_IsaTable a0 = some r) : LCs Tryd.prog 5 #[v0_] g (.bool r) := w_l3_IsaTable_ h0 hG hF
end Go.Proofs.YtaplgcdpppcajaaDoor
