/- Functions, lifted. Printed by lift.py. -/
import Derived.Test.YtfnmihhcopkkbaaGreatProg
import Derived.Test.YtfnmihhcopkkbaaGreatP8
import Derived.KernelRfl
namespace Go.Proofs.YtfnmihhcopkkbaaGreat
open Go Go.RowKit Fr
set_option linter.unusedVariables false
set_option linter.unusedSimpArgs false
set_option maxRecDepth 20000
open Tryz
set_option maxHeartbeats 2000000
noncomputable def r5_find_b2 (a1 : T_State) : ((List Int) × Int) → Option (Step ((List Int) × Int) (Step (List Int) Int)) := fun (D0, B0) => bif decide (B0 < (a1.Fly.length : Int)) then (at' a1.Fly B0).bind fun G0 => (app' D0 ([G0.Reg] : List Int)).bind fun E0 => some (.next (E0, IntKind.i64.wrap (B0 + 1))) else some (.done (.next D0))
noncomputable def r5_find_b5 (D0 : (List Int)) (x78 : (List Int)) (E0 : Int) : Int → Option (Step Int (Step Unit (Step ((List Int) × Int) Int))) := fun B0 => bif decide (B0 < (D0.length : Int)) then (at' D0 B0).bind fun G0 => (r0_In x78 G0).bind fun I0 => bif decide (0 ≤ I0) then some (.done (.done (.done (E0)))) else some (.next (IntKind.i64.wrap (B0 + 1))) else some (.done (.next ()))
noncomputable def r5_find_k4 (B0 : (A4 T_Ins)) (D0 : Int) (x78 : (List Int)) (E0 : (List Int)) (a1 : T_State) : Unit → Option (Step ((List Int) × Int) Int) := fun _ => (at' [B0.x0, B0.x1, B0.x2, B0.x3] D0).bind fun J0 => (r3_Writes J0).bind fun G0 => bif decide (0 ≤ G0) then (r0_In x78 G0).bind fun K0 => bif decide (0 ≤ K0) then some (.done (D0)) else (r0_In E0 G0).bind fun M0 => bif decide (0 ≤ M0) then some (.done (D0)) else (app' E0 ([G0] : List Int)).bind fun I0 => (at' [B0.x0, B0.x1, B0.x2, B0.x3] D0).bind fun N0 => bif (r3_Ends N0.Op) then bif decide (0 < a1.Delay) then some (.done (D0)) else some (.next (I0, IntKind.i64.wrap (D0 + 1))) else some (.next (I0, IntKind.i64.wrap (D0 + 1))) else (at' [B0.x0, B0.x1, B0.x2, B0.x3] D0).bind fun R0 => bif (r3_Ends R0.Op) then bif decide (0 < a1.Delay) then some (.done (D0)) else some (.next (E0, IntKind.i64.wrap (D0 + 1))) else some (.next (E0, IntKind.i64.wrap (D0 + 1)))
noncomputable def r5_find_b3 (B0 : (A4 T_Ins)) (x78 : (List Int)) (a1 : T_State) : ((List Int) × Int) → Option (Step ((List Int) × Int) Int) := fun (E0, D0) => bif decide (D0 < 4) then (at' [B0.x0, B0.x1, B0.x2, B0.x3] D0).bind fun G0 => (r3_Reads G0).bind fun I0 => cut (σ := Unit) (loop (σ := Int) (r5_find_b5 I0 x78 D0) 0) (r5_find_k4 B0 D0 x78 E0 a1) else some (.done ((-1)))
noncomputable def r5_find_k1 (a0 : (List (A4 T_Ins))) (a1 : T_State) : (List Int) → Option Int := fun x78 => (at' a0 a1.PC).bind fun B0 => loop (σ := ((List Int) × Int)) (r5_find_b3 B0 x78 a1) ([], 0)
noncomputable def r5_find (a0 : (List (A4 T_Ins))) (a1 : T_State) : Option Int :=
  bif decide ((a0.length : Int) ≤ a1.PC) then some (-1) else cut (σ := (List Int)) (loop (σ := ((List Int) × Int)) (r5_find_b2 a1) ([], 0)) (r5_find_k1 a0 a1)
theorem w_r5_find_ {g : Frag} {a0 : (List (A4 T_Ins))} {v0_ : Value} {a1 : T_State} {v1_ : Value} {r : Int} (h0 : SlT g enc_Bundle 24 a0 v0_) (h1 : Rd_State g a1 v1_) (hF : r5_find a0 a1 = some r) : LCs Tryz.prog 41 #[v0_, v1_] g (.int .i64 r) := by
 obtain ⟨G0, I0, J0, K0, M0, N0, rfl, E5, G5, I5, J5, K5, I2⟩ := h1
 unfold r5_find at hF
 refine lc_body (k := 93) (av := [v0_, .agg (cl_State G0 I0 J0 a1.Taken K0 a1.PC M0 a1.Stop N0 a1.Jump a1.Delay).toArray]) func41 rfl rfl (h := fun W hS => ?_)
 refine c_seq <| c_region ?_
 refine o_boxP (cl := (cl_State G0 I0 J0 a1.Taken K0 a1.PC M0 a1.Stop N0 a1.Jump a1.Delay)) rfl hS ?_
 clear hS; intro b1 w hS
 refine oy hS y_assign <| n_thenN ?_
 iterate 2 (refine c_seq ?_)
 refine c_region <| oy hS (y_field fa_api_State_5) <| oy hS (y_load oH underlying3 rfl rfl) <| oy hS y_move <| oy hS (y_len h0 underlying38) <| oy hS y_bin <| n_thenN ?_
 refine c_if (ht := fun c2 => ?_) (hf := fun c2 => ?_)
 · replace hF := bt c2 hF
   refine c_seq <| c_region <| oy hS y_assign <| n_thenN ?_
   obtain rfl := osi hF
   exact wp_ret (wr1 hS)
 replace hF := bf c2 hF
 refine wp_skip <| c_seq <| c_region <| oy hS y_assign <| n_thenN ?_
 obtain ⟨z83, hF, T4⟩ := cut_step hF
 refine c_cutP (fun a w' => ∃ (x78 : (List Int)) (v79 : Value) (U0 : Own), r5_find_k1 a0 a1 x78 = some r ∧ OwT 3 enc_int 1 x78 v79 U0 ∧ (∃ s : Nat → Value, a = Ac ((((Fm.dead 93 s).upd 0 v0_).upd 3 (.pointer (some ⟨b1, 0, none⟩))).upd 5 v79)) ∧ St W g [] ((b1, blk (cl_State G0 I0 J0 a1.Taken K0 a1.PC M0 a1.Stop N0 a1.Jump a1.Delay) 62) :: (U0 ++ [])) w') ?_ ?_
 · skip
   refine c_seq <| c_region <| oy hS y_assign <| n_thenN <| c_block ?_
   refine c_loopP hF (fun (q : ((List Int) × Int)) a w' => ∃ (Y0 : Value) (R0 : Own), OwT 3 enc_int 1 q.1 Y0 R0 ∧ (∃ s : Nat → Value, a = Ac (((((Fm.dead 93 s).upd 0 v0_).upd 3 (.pointer (some ⟨b1, 0, none⟩))).upd 5 Y0).upd 6 (.int .i64 q.2))) ∧ St W g [] ((b1, blk (cl_State G0 I0 J0 a1.Taken K0 a1.PC M0 a1.Stop N0 a1.Jump a1.Delay) 62) :: (R0 ++ [])) w') ⟨(.slice none 0 0), [], (OwT.nil _ _ _), mk_exF, (hS.re (.b .hb (.take (X := []) (.here [] _) .n)))⟩ ?_
   clear hS hF
   intro Z5 q a w hI hq
   obtain ⟨N2, B6⟩ := q
   obtain ⟨Y0, R0, B1, ⟨D6, rfl⟩, hS⟩ := hq
   replace B1 : OwT 3 enc_int 1 N2 Y0 R0 := B1
   obtain ⟨E6, hF, J2⟩ := iter_step hI
   clear hI
   dsimp only [r5_find_b2] at hF
   iterate 2 (refine c_seq ?_)
   refine c_region <| oy hS y_move <| oy hS (y_field fa_api_State_8) <| oy hS (y_load oH underlying60 rfl rfl) <| oy hS (y_len I2 underlying60) <| oy hS y_bin <| n_thenN ?_
   refine c_if (ht := fun K1 => ?_) (hf := fun K1 => ?_)
   · replace hF := bt K1 hF
     refine wp_skip <| c_seq <| c_block <| c_region <| oy hS y_move <| oy hS (y_field fa_api_State_8) <| oy hS (y_load oH underlying60 rfl rfl) <| oy hS y_move ?_
     obtain ⟨M1, D3, hF⟩ := ob hF
     obtain ⟨G6, I6, J6, M5, K6, N5, E3, G3, I3, J3, K3⟩ := SlT.at D3 I2 enc_len_Write
     refine oy hS (y_index E3 G3 I3 underlying60 el_api_Write.size) <| oy hS (y_field fa_api_Write_0) <| oy hS (y_load (fun w hS => hS.block J3) underlying3 rfl (K3 0 _ rfl)) ?_
     refine o_buildT val_int ([M1.Reg] : List Int) hS el_int (fun _ => rfl) enc_len_int (by decide) rfl (by decide) (hp := rfl) (h := ?_)
     clear hS; intro U4 w hS M6
     have hS : St W g [] ([(U4, blk (([M1.Reg] : List Int).flatMap enc_int) 3)] ++ ((b1, blk (cl_State G0 I0 J0 a1.Taken K0 a1.PC M0 a1.Stop N0 a1.Jump a1.Delay) 62) :: (R0 ++ []))) w := hS
     obtain ⟨R5, R2, hF⟩ := ob hF
     have hS := hS.re (.t .h (.t (.e .h) (.b .hb .n)))
     refine o_appPn (ys := ([M1.Reg] : List Int)) (LX := R0) R2 hS el_int B1 rfl enc_len_int (enc_ones_int _) (by decide) ?_
     clear hS; intro V4 M3 w X4 hS
     refine oy hS y_assign ?_
     refine n_anyN ?_
     refine c_region <| oy hS y_move <| oy hS y_bin <| oy hS y_assign <| n_thenN ?_
     obtain rfl := osi hF
     exact ⟨_, J2, V4, M3, X4, mk_exF, (hS.re (.b (.d .hb) (.t .h .n)))⟩
   replace hF := bf K1 hF
   refine wp_exit ?_
   obtain rfl := osi hF
   obtain rfl : _ = z83 := J2
   change ∃ _, _
   exact ⟨N2, Y0, R0, T4, B1, mk_exF, (hS.re (.b .hb (.t .h .n)))⟩
 rintro a w ⟨x78, v79, U0, hF, h80, ⟨N6, rfl⟩, hS⟩
 dsimp only [r5_find_k1] at hF
 refine c_seq <| c_region <| oy hS y_move <| oy hS (y_field fa_api_State_5) <| oy hS (y_load oH underlying3 rfl rfl) ?_
 obtain ⟨B0, N3, hF⟩ := ob hF
 obtain ⟨R6, T6, U6, T5, V6, U5, R3, T3, U3, V3, X3⟩ := SlT.at N3 h0 enc_len_Bundle
 refine oy hS (y_index R3 T3 U3 underlying38 el_api_Bundle.size) ?_
 refine oy hS (y_loadN (vs := (enc_Bundle B0)) (fun w hS => hS.block V3) underlying83 rfl (by exact sz_api_Bundle) (fun j u hj => X3 j u hj)) ?_
 refine o_allocP (cl := (enc_Bundle ⟨(⟨0, 0, 0, 0, 0, ByteArray.empty⟩ : T_Ins), (⟨0, 0, 0, 0, 0, ByteArray.empty⟩ : T_Ins), (⟨0, 0, 0, 0, 0, ByteArray.empty⟩ : T_Ins), (⟨0, 0, 0, 0, 0, ByteArray.empty⟩ : T_Ins)⟩)) zr_api_Bundle rfl hS ?_
 clear hS; intro V0 w hS
 refine o_storeW (vs := (enc_Bundle B0)) hS (by exact rfl) (Upd.here _) (by exact sz_api_Bundle) (enc_one_Bundle _) ?_
 clear hS; intro w hS
 refine n_thenN <| c_seq <| c_region <| oy hS y_assign <| n_thenN ?_
 iterate 2 (refine c_seq ?_)
 refine c_region <| oy hS y_assign <| n_thenN <| c_block ?_
 refine c_loopP hF (fun (q : ((List Int) × Int)) a w' => ∃ (T0 : Value) (D0 : Own), OwT 3 enc_int 1 q.1 T0 D0 ∧ (∃ s : Nat → Value, a = Ac ((((((Fm.dead 93 s).upd 3 (.pointer (some ⟨b1, 0, none⟩))).upd 5 v79).upd 7 (.pointer (some ⟨V0, 0, none⟩))).upd 8 T0).upd 9 (.int .i64 q.2))) ∧ St W g [] ((b1, blk (cl_State G0 I0 J0 a1.Taken K0 a1.PC M0 a1.Stop N0 a1.Jump a1.Delay) 62) :: ((V0, blk (enc_Bundle B0) 83) :: (U0 ++ (D0 ++ [])))) w') ⟨(.slice none 0 0), [], (OwT.nil _ _ _), mk_exF, (hS.re (.b (.e .hb) (.b .hb (.t .h (.take (X := []) (.here [] _) .n)))))⟩ ?_
 clear hS hF
 intro X6 q a w hI hq
 obtain ⟨N1, R1⟩ := q
 obtain ⟨T0, D0, X0, ⟨Y6, rfl⟩, hS⟩ := hq
 replace X0 : OwT 3 enc_int 1 N1 T0 D0 := X0
 obtain ⟨T2, hF, E0⟩ := iter_step hI
 clear hI
 dsimp only [r5_find_b3] at hF
 iterate 2 (refine c_seq ?_)
 refine c_region <| oy hS y_move <| oy hS y_bin <| n_thenN ?_
 refine c_if (ht := fun T1 => ?_) (hf := fun T1 => ?_)
 · replace hF := bt T1 hF
   refine wp_skip <| c_seq <| c_block <| c_seq <| c_region <| oy hS y_move ?_
   obtain ⟨U2, D1, hF⟩ := ob hF
   refine oy hS (y_indexA (at'_bnd D1 rfl).1 (at'_bnd D1 (n := 4) rfl).2 underlying83 (by exact sz_api_Ins)) ?_
   refine oy hS (y_loadN (vs := (enc_Ins U2)) (fun w hS => hS.own (mC (mH))) underlying81 rfl (by exact sz_api_Ins) (arr_box (o := 0) (xs := [B0.x0, B0.x1, B0.x2, B0.x3]) (pre := []) (post := []) D1 enc_len_Ins (by exact rfl) rfl)) ?_
   obtain ⟨Z6, Y3, hF⟩ := ob hF
   refine o_call0 hS func70 rfl rfl (hc := (w_r3_Reads (a0 := U2) (hF := Y3))) (h := ?_)
   clear hS; intro B7 V5 w hS Z3
   obtain ⟨v_0_421, LX_0_422, rfl, rfl, h_0_423⟩ := Z3
   simp only [aa, ac, al] at hS
   refine oy hS y_assign <| n_thenN ?_
   obtain ⟨V2, hF, K2⟩ := cut_step hF
   refine c_cutP (fun a w' => r5_find_k4 B0 R1 x78 N1 a1 () = some T2 ∧ (∃ s : Nat → Value, a = Ac ((((((Fm.dead 93 s).upd 3 (.pointer (some ⟨b1, 0, none⟩))).upd 5 v79).upd 7 (.pointer (some ⟨V0, 0, none⟩))).upd 8 T0).upd 9 (.int .i64 R1))) ∧ St W g [] ((b1, blk (cl_State G0 I0 J0 a1.Taken K0 a1.PC M0 a1.Stop N0 a1.Jump a1.Delay) 62) :: ((V0, blk (enc_Bundle B0) 83) :: (U0 ++ (D0 ++ [])))) w') ?_ ?_
   · skip
     refine c_seq <| c_region <| oy hS y_assign <| n_thenN <| c_block ?_
     refine c_loopP hF (fun (q : Int) a w' => (∃ s : Nat → Value, a = Ac ((((((((Fm.dead 93 s).upd 3 (.pointer (some ⟨b1, 0, none⟩))).upd 5 v79).upd 7 (.pointer (some ⟨V0, 0, none⟩))).upd 8 T0).upd 9 (.int .i64 R1)).upd 10 v_0_421).upd 11 (.int .i64 q))) ∧ St W g [] ((b1, blk (cl_State G0 I0 J0 a1.Taken K0 a1.PC M0 a1.Stop N0 a1.Jump a1.Delay) 62) :: ((V0, blk (enc_Bundle B0) 83) :: (U0 ++ (D0 ++ (LX_0_422 ++ []))))) w') ⟨mk_exF, (hS.re (.b (.d .hb) (.b (.d .hb) (.t (.d .h) (.t (.d .h) (.t .h .n))))))⟩ ?_
     clear hS hF
     intro D7 q a w hI hq
     revert hq hI; revert q; intro E7 hI hq
     obtain ⟨⟨G7, rfl⟩, hS⟩ := hq
     obtain ⟨I7, hF, E1⟩ := iter_step hI
     clear hI
     dsimp only [r5_find_b5] at hF
     iterate 2 (refine c_seq ?_)
     refine c_region ?_
     iterate 2 (refine oy hS y_move ?_)
     refine oy hS (y_lenO h_0_423 underlying37) <| oy hS y_bin <| n_thenN ?_
     refine c_if (ht := fun U1 => ?_) (hf := fun U1 => ?_)
     · replace hF := bt U1 hF
       refine wp_skip <| c_seq <| c_block <| c_seq <| c_region ?_
       iterate 3 (refine oy hS y_move ?_)
       obtain ⟨Y4, B4, hF⟩ := ob hF
       obtain ⟨J7, K7, X5, D4, E4, G4, I4, J4⟩ := OwT.at B4 h_0_423 enc_len_int
       refine oy hS (y_index D4 E4 G4 underlying37 el_int.size) <| oy hS (y_load (fun w hS => hS.own (mC (mC (mB (mB (mA (mX I4))))))) underlying3 rfl (J4 0 _ rfl)) ?_
       obtain ⟨M7, K4, hF⟩ := ob hF
       refine o_callS hS func71 rfl rfl (hc := (w_r0_In (a0 := x78) (a1 := Y4) (h0 := (OwT.plus h80 hS (fun p hp => mC (mC (mA (hp)))))) (hF := K4))) (h := ?_)
       clear hS; intro w hS
       refine oy hS y_bin <| n_thenN ?_
       refine c_if (ht := fun V1 => ?_) (hf := fun V1 => ?_)
       · replace hF := bt V1 hF
         refine c_seq <| c_region <| oy hS y_move <| oy hS y_assign <| n_thenN ?_
         obtain rfl := osi hF
         obtain rfl : _ = V2 := E1
         obtain rfl : _ = T2 := K2
         obtain rfl : _ = r := E0
         exact wp_ret (wr1 hS)
       replace hF := bf V1 hF
       refine wp_skip <| c_region <| oy hS y_move <| oy hS y_bin <| oy hS y_assign <| n_thenN ?_
       obtain rfl := osi hF
       exact ⟨_, E1, mk_exF, (hS.re (.b .hb (.b .hb (.t .h (.t .h (.t .h .n))))))⟩
     replace hF := bf U1 hF
     refine wp_exit ?_
     obtain rfl := osi hF
     obtain rfl : _ = V2 := E1
     change _ ∧ _
     exact ⟨K2, mk_exF, (hS.re (.b .hb (.b .hb (.t .h (.t .h .n)))))⟩
   rintro a w ⟨hF, ⟨N7, rfl⟩, hS⟩
   dsimp only [r5_find_k4] at hF
   iterate 2 (refine c_seq ?_)
   refine c_region <| oy hS y_move ?_
   obtain ⟨X2, G1, hF⟩ := ob hF
   refine oy hS (y_indexA (at'_bnd G1 rfl).1 (at'_bnd G1 (n := 4) rfl).2 underlying83 (by exact sz_api_Ins)) ?_
   refine oy hS (y_loadN (vs := (enc_Ins X2)) (fun w hS => hS.own (mC (mH))) underlying81 rfl (by exact sz_api_Ins) (arr_box (o := 0) (xs := [B0.x0, B0.x1, B0.x2, B0.x3]) (pre := []) (post := []) G1 enc_len_Ins (by exact rfl) rfl)) ?_
   obtain ⟨Z0, M4, hF⟩ := ob hF
   refine o_callS hS func72 rfl rfl (hc := (w_r3_Writes (a0 := X2) (hF := M4))) (h := ?_)
   clear hS; intro w hS
   refine oy hS y_assign <| n_thenN <| c_seq <| c_region <| oy hS y_move <| oy hS y_bin <| n_thenN ?_
   refine c_if (ht := fun X1 => ?_) (hf := fun X1 => ?_)
   · replace hF := bt X1 hF
     iterate 2 (refine c_seq ?_)
     refine c_region ?_
     iterate 2 (refine oy hS y_move ?_)
     obtain ⟨R7, N4, hF⟩ := ob hF
     refine o_callS hS func71 rfl rfl (hc := (w_r0_In (a0 := x78) (a1 := Z0) (h0 := (OwT.plus h80 hS (fun p hp => mC (mC (mA (hp)))))) (hF := N4))) (h := ?_)
     clear hS; intro w hS
     refine oy hS y_bin ?_
     refine o_split (ht := fun Y1 => ?_) (hf := fun Y1 => ?_)
     · replace hF := bt Y1 hF
       iterate 4 (refine o_sk rfl rfl ?_)
       refine oy hS y_pickT <| n_thenN ?_
       refine c_if_true (h := ?_)
       refine c_seq <| c_region <| oy hS y_move <| oy hS y_assign <| n_thenN ?_
       obtain rfl := osi hF
       obtain rfl : _ = r := E0
       exact wp_ret (wr1 hS)
     replace hF := bf Y1 hF
     refine o_gu rfl rfl rfl <| oy hS y_move <| o_gu rfl rfl rfl <| oy hS y_move <| o_gu rfl rfl rfl ?_
     obtain ⟨T7, R4, hF⟩ := ob hF
     refine o_callS hS func71 rfl rfl (hc := (w_r0_In (a0 := N1) (a1 := Z0) (h0 := (OwT.plus X0 hS (fun p hp => mC (mC (mB (mA (hp))))))) (hF := R4))) (h := ?_)
     clear hS; intro w hS
     refine o_gu rfl rfl rfl <| oy hS y_bin <| oy hS y_pickF <| n_thenN ?_
     refine c_if (ht := fun Z1 => ?_) (hf := fun Z1 => ?_)
     · replace hF := bt Z1 hF
       refine c_seq <| c_region <| oy hS y_move <| oy hS y_assign <| n_thenN ?_
       obtain rfl := osi hF
       obtain rfl : _ = r := E0
       exact wp_ret (wr1 hS)
     replace hF := bf Z1 hF
     refine wp_skip <| c_region ?_
     iterate 2 (refine oy hS y_move ?_)
     refine o_buildT val_int ([Z0] : List Int) hS el_int (fun _ => rfl) enc_len_int (by decide) rfl (by decide) (hp := rfl) (h := ?_)
     clear hS; intro Z4 w hS U7
     have hS : St W g [] ([(Z4, blk (([Z0] : List Int).flatMap enc_int) 3)] ++ ((b1, blk (cl_State G0 I0 J0 a1.Taken K0 a1.PC M0 a1.Stop N0 a1.Jump a1.Delay) 62) :: ((V0, blk (enc_Bundle B0) 83) :: (U0 ++ (D0 ++ []))))) w := hS
     obtain ⟨Y5, Y2, hF⟩ := ob hF
     have hS := hS.re (.t .h (.t (.e (.e (.d .h))) (.b .hb (.b .hb (.t .h .n)))))
     refine o_appPn (ys := ([Z0] : List Int)) (LX := D0) Y2 hS el_int X0 rfl enc_len_int (enc_ones_int _) (by decide) ?_
     clear hS; intro Z2 M2 w B3 hS
     refine oy hS y_assign <| n_thenN <| c_seq <| c_region <| oy hS y_move ?_
     obtain ⟨B5, I1, hF⟩ := ob hF
     refine oy hS (y_indexA (at'_bnd I1 rfl).1 (at'_bnd I1 (n := 4) rfl).2 underlying83 (by exact sz_api_Ins)) ?_
     refine oy hS (y_field fa_api_Ins_0) ?_
     refine oy hS (y_load (fun w hS => hS.own (mB (mC (mH)))) underlying3 rfl ((arr_box (o := 0) (xs := [B0.x0, B0.x1, B0.x2, B0.x3]) (pre := []) (post := []) I1 enc_len_Ins (by exact rfl) rfl) 0 _ rfl)) ?_
     refine o_callS hS func73 rfl rfl (hc := (w_r3_Ends (a0 := B5.Op))) (h := ?_)
     clear hS; intro w hS
     refine o_split (ht := fun B2 => ?_) (hf := fun B2 => ?_)
     · replace hF := bt B2 hF
       refine o_gu rfl rfl rfl <| oy hS (y_field fa_api_State_10) <| o_gu rfl rfl rfl <| oy hS (y_load (fun w hS => hS.own (mB (mH))) underlying3 rfl rfl) <| o_gu rfl rfl rfl <| oy hS y_bin <| oy hS y_pickT <| n_thenN ?_
       refine c_if (ht := fun D2 => ?_) (hf := fun D2 => ?_)
       · replace hF := bt D2 hF
         refine c_seq <| c_region <| oy hS y_move <| oy hS y_assign <| n_thenN ?_
         obtain rfl := osi hF
         obtain rfl : _ = r := E0
         exact wp_ret (wr1 hS)
       replace hF := bf D2 hF
       refine wp_skip <| c_region <| oy hS y_move <| oy hS y_bin <| oy hS y_assign <| n_thenN ?_
       obtain rfl := osi hF
       exact ⟨_, E0, Z2, M2, B3, mk_exF, (hS.re (.b (.d .hb) (.b (.d .hb) (.t (.d .h) (.t .h .n)))))⟩
     replace hF := bf B2 hF
     iterate 3 (refine o_sk rfl rfl ?_)
     refine oy hS y_pickF <| n_thenN ?_
     refine c_if_false (h := ?_)
     refine wp_skip <| c_region <| oy hS y_move <| oy hS y_bin <| oy hS y_assign <| n_thenN ?_
     obtain rfl := osi hF
     exact ⟨_, E0, Z2, M2, B3, mk_exF, (hS.re (.b (.d .hb) (.b (.d .hb) (.t (.d .h) (.t .h .n)))))⟩
   replace hF := bf X1 hF
   refine wp_skip <| c_seq <| c_region <| oy hS y_move ?_
   obtain ⟨D5, J1, hF⟩ := ob hF
   refine oy hS (y_indexA (at'_bnd J1 rfl).1 (at'_bnd J1 (n := 4) rfl).2 underlying83 (by exact sz_api_Ins)) ?_
   refine oy hS (y_field fa_api_Ins_0) ?_
   refine oy hS (y_load (fun w hS => hS.own (mC (mH))) underlying3 rfl ((arr_box (o := 0) (xs := [B0.x0, B0.x1, B0.x2, B0.x3]) (pre := []) (post := []) J1 enc_len_Ins (by exact rfl) rfl) 0 _ rfl)) ?_
   refine o_callS hS func73 rfl rfl (hc := (w_r3_Ends (a0 := D5.Op))) (h := ?_)
   clear hS; intro w hS
   refine o_split (ht := fun E2 => ?_) (hf := fun E2 => ?_)
   · replace hF := bt E2 hF
     refine o_gu rfl rfl rfl <| oy hS (y_field fa_api_State_10) <| o_gu rfl rfl rfl <| oy hS (y_load oH underlying3 rfl rfl) <| o_gu rfl rfl rfl <| oy hS y_bin <| oy hS y_pickT <| n_thenN ?_
     refine c_if (ht := fun G2 => ?_) (hf := fun G2 => ?_)
     · replace hF := bt G2 hF
       refine c_seq <| c_region <| oy hS y_move <| oy hS y_assign <| n_thenN ?_
       obtain rfl := osi hF
       obtain rfl : _ = r := E0
       exact wp_ret (wr1 hS)
     replace hF := bf G2 hF
     refine wp_skip <| c_region <| oy hS y_move <| oy hS y_bin <| oy hS y_assign <| n_thenN ?_
     obtain rfl := osi hF
     exact ⟨_, E0, T0, D0, X0, mk_exF, (hS.re (.b .hb (.b .hb (.t .h (.t .h .n)))))⟩
   replace hF := bf E2 hF
   iterate 3 (refine o_sk rfl rfl ?_)
   refine oy hS y_pickF <| n_thenN ?_
   refine c_if_false (h := ?_)
   refine wp_skip <| c_region <| oy hS y_move <| oy hS y_bin <| oy hS y_assign <| n_thenN ?_
   obtain rfl := osi hF
   exact ⟨_, E0, T0, D0, X0, mk_exF, (hS.re (.b .hb (.b .hb (.t .h (.t .h .n)))))⟩
 replace hF := bf T1 hF
 refine wp_exit ?_
 refine c_seq <| c_region <| oy hS y_assign <| n_thenN ?_
 obtain rfl := osi hF
 obtain rfl : _ = r := E0
 exact wp_ret (wr1 hS)
theorem w_r5_find {g : Frag} {a0 : (List (A4 T_Ins))} {v0_ : Value} {a1 : T_State} {v1_ : Value} {r : Int} (h0 : SlT g enc_Bundle 24 a0 v0_) (h1 : Rd_State g a1 v1_) (hF : r5_find a0 a1 = some r) : LCs Tryz.prog 41 #[v0_, v1_] g (.int .i64 r) := w_r5_find_ h0 h1 hF

def r1_Has (a0 : Int) : Bool :=
  (r0_Between a0 1 17)
theorem w_r1_Has_ {g : Frag} {a0 : Int} {r : Bool}  (hF : r1_Has a0 = r) : LCs Tryz.prog 110 #[.int .i64 a0] g (.bool r) := by
 unfold r1_Has at hF
 refine lc_body (k := 5) (av := [.int .i64 a0]) func110 rfl rfl (h := fun W hS => ?_)
 refine c_seq <| c_region <| oy hS y_assign <| n_thenN <| c_seq <| c_region <| oy hS y_move ?_
 refine o_callS hS func109 rfl rfl (hc := (w_r0_Between (a0 := a0) (a1 := 1) (a2 := 17))) (h := ?_)
 clear hS; intro w hS
 refine oy hS y_assign <| n_thenN ?_
 subst hF
 exact wp_ret (wr1 hS)
theorem w_r1_Has {g : Frag} {a0 : Int}  : LCs Tryz.prog 110 #[.int .i64 a0] g (.bool (r1_Has a0)) := w_r1_Has_  rfl

def r1_flag (a0 : Bool) : Int :=
  bif a0 then 1 else 0
theorem w_r1_flag_ {g : Frag} {a0 : Bool} {r : Int}  (hF : r1_flag a0 = r) : LCs Tryz.prog 138 #[.bool a0] g (.int .u32 r) := by
 unfold r1_flag at hF
 refine lc_body (k := 4) (av := [.bool a0]) func138 rfl rfl (h := fun W hS => ?_)
 refine c_seq <| c_region <| oy hS y_assign <| n_thenN ?_
 iterate 2 (refine c_seq ?_)
 refine c_region <| oy hS y_move <| n_thenN ?_
 refine c_if (ht := fun c1 => ?_) (hf := fun c1 => ?_)
 · replace hF := bt c1 hF
   refine c_seq <| c_region <| oy hS y_assign <| n_thenN ?_
   subst hF
   exact wp_ret (wr1 hS)
 replace hF := bf c1 hF
 refine wp_skip <| c_seq <| c_region <| oy hS y_assign <| n_thenN ?_
 subst hF
 exact wp_ret (wr1 hS)
theorem w_r1_flag {g : Frag} {a0 : Bool}  : LCs Tryz.prog 138 #[.bool a0] g (.int .u32 (r1_flag a0)) := w_r1_flag_  rfl

noncomputable def r1_Of (a0 : Int) (a1 : Int) (a2 : Int) : Option (Int × Bool) :=
  bif decide (a0 = 1) then some (IntKind.u32.wrap (a1 + a2), true) else bif decide (a0 = 2) then some (IntKind.u32.wrap (a1 - a2), true) else bif decide (a0 = 3) then some (bits .and .u32 a1 a2, true) else bif decide (a0 = 4) then some (bits .or .u32 a1 a2, true) else bif decide (a0 = 5) then some (bits .xor .u32 a1 a2, true) else bif decide (a0 = 6) then (shl' .u32 a1 (bits .and .u32 a2 31)).bind fun x7 => some (x7, true) else bif decide (a0 = 7) then (shr' .u32 a1 (bits .and .u32 a2 31)).bind fun x9 => some (x9, true) else bif decide (a0 = 8) then (shr' .i32 (IntKind.i32.wrap a1) (bits .and .u32 a2 31)).bind fun x11 => some (IntKind.u32.wrap x11, true) else bif decide (a0 = 9) then some ((r1_flag (decide ((IntKind.i64.wrap (IntKind.i32.wrap a1)) < (IntKind.i64.wrap (IntKind.i32.wrap a2))))), true) else bif decide (a0 = 10) then some ((r1_flag (decide (a1 < a2))), true) else bif decide (a0 = 11) then some ((r1_flag (decide (a1 = a2))), true) else bif decide (a0 = 12) then some (IntKind.u32.wrap (imin (IntKind.i64.wrap (IntKind.i32.wrap a1)) (IntKind.i64.wrap (IntKind.i32.wrap a2))), true) else bif decide (a0 = 13) then some (IntKind.u32.wrap (imax (IntKind.i64.wrap (IntKind.i32.wrap a1)) (IntKind.i64.wrap (IntKind.i32.wrap a2))), true) else bif decide (a0 = 14) then some (IntKind.u32.wrap (IntKind.i64.wrap ((IntKind.i64.wrap (IntKind.i32.wrap a1)) * (IntKind.i64.wrap (IntKind.i32.wrap a2)))), true) else bif decide (a0 = 15) then (shr' .i64 (IntKind.i64.wrap ((IntKind.i64.wrap (IntKind.i32.wrap a1)) * (IntKind.i64.wrap (IntKind.i32.wrap a2)))) 32).bind fun x19 => some (IntKind.u32.wrap x19, true) else bif decide ((IntKind.i64.wrap (IntKind.i32.wrap a2)) = 0) then some (0, false) else bif decide (a0 = 16) then (quo' .i64 (IntKind.i64.wrap (IntKind.i32.wrap a1)) (IntKind.i64.wrap (IntKind.i32.wrap a2))).bind fun x22 => some (IntKind.u32.wrap x22, true) else (rem' (IntKind.i64.wrap (IntKind.i32.wrap a1)) (IntKind.i64.wrap (IntKind.i32.wrap a2))).bind fun x23 => some (IntKind.u32.wrap x23, true)
theorem w_r1_Of_ {g : Frag} {a0 : Int} {a1 : Int} {a2 : Int} {r : (Int × Bool)}  (hF : r1_Of a0 a1 a2 = some r) : LCs Tryz.prog 111 #[.int .i64 a0, .int .u32 a1, .int .u32 a2] g (.tuple #[.int .u32 r.1, .bool r.2]) := by
 unfold r1_Of at hF
 refine lc_body (k := 117) (av := [.int .i64 a0, .int .u32 a1, .int .u32 a2]) func111 rfl rfl (h := fun W hS => ?_)
 refine c_seq <| c_region ?_
 iterate 2 (refine oy hS y_assign ?_)
 refine n_thenN <| c_seq <| c_region <| oy hS y_move <| oy hS (y_conv underlying87 underlying21) <| oy hS (y_conv underlying21 underlying2) <| oy hS y_move <| oy hS (y_conv underlying87 underlying21) ?_
 refine oy hS (y_conv underlying21 underlying2) ?_
 iterate 2 (refine oy hS y_assign ?_)
 refine n_thenN ?_
 iterate 2 (refine c_seq ?_)
 refine c_region <| oy hS y_move <| n_thenN <| c_block <| c_seq <| c_region <| oy hS y_bin <| oy hS y_assign ?_
 refine n_thenN ?_
 refine c_if (ht := fun c1 => ?_) (hf := fun c1 => ?_)
 · replace hF := bt c1 hF
   refine c_seq <| c_region ?_
   iterate 2 (refine oy hS y_move ?_)
   refine oy hS y_bin ?_
   iterate 2 (refine oy hS y_assign ?_)
   refine n_thenN ?_
   obtain rfl := osi hF
   exact wp_ret (wr2 hS)
 replace hF := bf c1 hF
 refine c_seq <| c_region <| oy hS y_bin <| oy hS y_assign <| n_thenN ?_
 refine c_if (ht := fun c2 => ?_) (hf := fun c2 => ?_)
 · replace hF := bt c2 hF
   refine c_seq <| c_region ?_
   iterate 2 (refine oy hS y_move ?_)
   refine oy hS y_bin ?_
   iterate 2 (refine oy hS y_assign ?_)
   refine n_thenN ?_
   obtain rfl := osi hF
   exact wp_ret (wr2 hS)
 replace hF := bf c2 hF
 refine c_seq <| c_region <| oy hS y_bin <| oy hS y_assign <| n_thenN ?_
 refine c_if (ht := fun c3 => ?_) (hf := fun c3 => ?_)
 · replace hF := bt c3 hF
   refine c_seq <| c_region ?_
   iterate 2 (refine oy hS y_move ?_)
   refine oy hS y_bin ?_
   iterate 2 (refine oy hS y_assign ?_)
   refine n_thenN ?_
   obtain rfl := osi hF
   exact wp_ret (wr2 hS)
 replace hF := bf c3 hF
 refine c_seq <| c_region <| oy hS y_bin <| oy hS y_assign <| n_thenN ?_
 refine c_if (ht := fun c4 => ?_) (hf := fun c4 => ?_)
 · replace hF := bt c4 hF
   refine c_seq <| c_region ?_
   iterate 2 (refine oy hS y_move ?_)
   refine oy hS y_bin ?_
   iterate 2 (refine oy hS y_assign ?_)
   refine n_thenN ?_
   obtain rfl := osi hF
   exact wp_ret (wr2 hS)
 replace hF := bf c4 hF
 refine c_seq <| c_region <| oy hS y_bin <| oy hS y_assign <| n_thenN ?_
 refine c_if (ht := fun c5 => ?_) (hf := fun c5 => ?_)
 · replace hF := bt c5 hF
   refine c_seq <| c_region ?_
   iterate 2 (refine oy hS y_move ?_)
   refine oy hS y_bin ?_
   iterate 2 (refine oy hS y_assign ?_)
   refine n_thenN ?_
   obtain rfl := osi hF
   exact wp_ret (wr2 hS)
 replace hF := bf c5 hF
 refine c_seq <| c_region <| oy hS y_bin <| oy hS y_assign <| n_thenN ?_
 refine c_if (ht := fun c6 => ?_) (hf := fun c6 => ?_)
 · replace hF := bt c6 hF
   refine c_seq <| c_region ?_
   iterate 2 (refine oy hS y_move ?_)
   refine oy hS y_bin ?_
   obtain ⟨x7, hx7, hF⟩ := ob hF
   refine oy hS (y_shl hx7) ?_
   iterate 2 (refine oy hS y_assign ?_)
   refine n_thenN ?_
   obtain rfl := osi hF
   exact wp_ret (wr2 hS)
 replace hF := bf c6 hF
 refine c_seq <| c_region <| oy hS y_bin <| oy hS y_assign <| n_thenN ?_
 refine c_if (ht := fun c8 => ?_) (hf := fun c8 => ?_)
 · replace hF := bt c8 hF
   refine c_seq <| c_region ?_
   iterate 2 (refine oy hS y_move ?_)
   refine oy hS y_bin ?_
   obtain ⟨x9, hx9, hF⟩ := ob hF
   refine oy hS (y_shr hx9) ?_
   iterate 2 (refine oy hS y_assign ?_)
   refine n_thenN ?_
   obtain rfl := osi hF
   exact wp_ret (wr2 hS)
 replace hF := bf c8 hF
 refine c_seq <| c_region <| oy hS y_bin <| oy hS y_assign <| n_thenN ?_
 refine c_if (ht := fun c10 => ?_) (hf := fun c10 => ?_)
 · replace hF := bt c10 hF
   refine c_seq <| c_region <| oy hS y_move <| oy hS (y_conv underlying87 underlying21) <| oy hS y_move <| oy hS y_bin ?_
   obtain ⟨x11, B0, hF⟩ := ob hF
   refine oy hS (y_shr B0) <| oy hS (y_conv underlying21 underlying87) ?_
   iterate 2 (refine oy hS y_assign ?_)
   refine n_thenN ?_
   obtain rfl := osi hF
   exact wp_ret (wr2 hS)
 replace hF := bf c10 hF
 refine c_seq <| c_region <| oy hS y_bin <| oy hS y_assign <| n_thenN ?_
 refine c_if (ht := fun c12 => ?_) (hf := fun c12 => ?_)
 · replace hF := bt c12 hF
   refine c_seq <| c_region ?_
   iterate 2 (refine oy hS y_move ?_)
   refine oy hS y_bin ?_
   refine o_callS hS func138 rfl rfl (hc := (w_r1_flag (a0 := (decide ((IntKind.i64.wrap (IntKind.i32.wrap a1)) < (IntKind.i64.wrap (IntKind.i32.wrap a2))))))) (h := ?_)
   clear hS; intro w hS
   iterate 2 (refine oy hS y_assign ?_)
   refine n_thenN ?_
   obtain rfl := osi hF
   exact wp_ret (wr2 hS)
 replace hF := bf c12 hF
 refine c_seq <| c_region <| oy hS y_bin <| oy hS y_assign <| n_thenN ?_
 refine c_if (ht := fun c13 => ?_) (hf := fun c13 => ?_)
 · replace hF := bt c13 hF
   refine c_seq <| c_region ?_
   iterate 2 (refine oy hS y_move ?_)
   refine oy hS y_bin ?_
   refine o_callS hS func138 rfl rfl (hc := (w_r1_flag (a0 := (decide (a1 < a2))))) (h := ?_)
   clear hS; intro w hS
   iterate 2 (refine oy hS y_assign ?_)
   refine n_thenN ?_
   obtain rfl := osi hF
   exact wp_ret (wr2 hS)
 replace hF := bf c13 hF
 refine c_seq <| c_region <| oy hS y_bin <| oy hS y_assign <| n_thenN ?_
 refine c_if (ht := fun c14 => ?_) (hf := fun c14 => ?_)
 · replace hF := bt c14 hF
   refine c_seq <| c_region ?_
   iterate 2 (refine oy hS y_move ?_)
   refine oy hS y_bin ?_
   refine o_callS hS func138 rfl rfl (hc := (w_r1_flag (a0 := (decide (a1 = a2))))) (h := ?_)
   clear hS; intro w hS
   iterate 2 (refine oy hS y_assign ?_)
   refine n_thenN ?_
   obtain rfl := osi hF
   exact wp_ret (wr2 hS)
 replace hF := bf c14 hF
 refine c_seq <| c_region <| oy hS y_bin <| oy hS y_assign <| n_thenN ?_
 refine c_if (ht := fun c15 => ?_) (hf := fun c15 => ?_)
 · replace hF := bt c15 hF
   refine c_seq <| c_region ?_
   iterate 2 (refine oy hS y_move ?_)
   refine oy hS y_min <| oy hS (y_conv underlying2 underlying87) ?_
   iterate 2 (refine oy hS y_assign ?_)
   refine n_thenN ?_
   obtain rfl := osi hF
   exact wp_ret (wr2 hS)
 replace hF := bf c15 hF
 refine c_seq <| c_region <| oy hS y_bin <| oy hS y_assign <| n_thenN ?_
 refine c_if (ht := fun c16 => ?_) (hf := fun c16 => ?_)
 · replace hF := bt c16 hF
   refine c_seq <| c_region ?_
   iterate 2 (refine oy hS y_move ?_)
   refine oy hS y_max <| oy hS (y_conv underlying2 underlying87) ?_
   iterate 2 (refine oy hS y_assign ?_)
   refine n_thenN ?_
   obtain rfl := osi hF
   exact wp_ret (wr2 hS)
 replace hF := bf c16 hF
 refine c_seq <| c_region <| oy hS y_bin <| oy hS y_assign <| n_thenN ?_
 refine c_if (ht := fun c17 => ?_) (hf := fun c17 => ?_)
 · replace hF := bt c17 hF
   refine c_seq <| c_region ?_
   iterate 2 (refine oy hS y_move ?_)
   refine oy hS y_bin <| oy hS (y_conv underlying2 underlying87) ?_
   iterate 2 (refine oy hS y_assign ?_)
   refine n_thenN ?_
   obtain rfl := osi hF
   exact wp_ret (wr2 hS)
 replace hF := bf c17 hF
 refine c_seq <| c_region <| oy hS y_bin <| oy hS y_assign <| n_thenN ?_
 refine c_if (ht := fun c18 => ?_) (hf := fun c18 => ?_)
 · replace hF := bt c18 hF
   refine c_seq <| c_region ?_
   iterate 2 (refine oy hS y_move ?_)
   refine oy hS y_bin ?_
   obtain ⟨x19, D0, hF⟩ := ob hF
   refine oy hS (y_shr D0) <| oy hS (y_conv underlying2 underlying87) ?_
   iterate 2 (refine oy hS y_assign ?_)
   refine n_thenN ?_
   obtain rfl := osi hF
   exact wp_ret (wr2 hS)
 replace hF := bf c18 hF
 refine wp_skip ?_
 iterate 2 (refine c_seq ?_)
 refine c_region <| oy hS y_move <| oy hS y_bin <| n_thenN ?_
 refine c_if (ht := fun c20 => ?_) (hf := fun c20 => ?_)
 · replace hF := bt c20 hF
   refine c_seq <| c_region ?_
   iterate 2 (refine oy hS y_assign ?_)
   refine n_thenN ?_
   obtain rfl := osi hF
   exact wp_ret (wr2 hS)
 replace hF := bf c20 hF
 refine wp_skip ?_
 iterate 2 (refine c_seq ?_)
 refine c_region <| oy hS y_move <| oy hS y_bin <| n_thenN ?_
 refine c_if (ht := fun c21 => ?_) (hf := fun c21 => ?_)
 · replace hF := bt c21 hF
   refine c_seq <| c_region ?_
   iterate 2 (refine oy hS y_move ?_)
   obtain ⟨x22, E0, hF⟩ := ob hF
   refine oy hS (y_quo E0) <| oy hS (y_conv underlying2 underlying87) ?_
   iterate 2 (refine oy hS y_assign ?_)
   refine n_thenN ?_
   obtain rfl := osi hF
   exact wp_ret (wr2 hS)
 replace hF := bf c21 hF
 refine wp_skip <| c_seq <| c_region ?_
 iterate 2 (refine oy hS y_move ?_)
 obtain ⟨x23, G0, hF⟩ := ob hF
 refine oy hS (y_rem G0) <| oy hS (y_conv underlying2 underlying87) ?_
 iterate 2 (refine oy hS y_assign ?_)
 refine n_thenN ?_
 obtain rfl := osi hF
 exact wp_ret (wr2 hS)
theorem w_r1_Of {g : Frag} {a0 : Int} {a1 : Int} {a2 : Int} {r : (Int × Bool)}  (hF : r1_Of a0 a1 a2 = some r) : LCs Tryz.prog 111 #[.int .i64 a0, .int .u32 a1, .int .u32 a2] g (.tuple #[.int .u32 r.1, .bool r.2]) := w_r1_Of_  hF

def r1_Paired (a0 : Int) : Bool :=
  (r0_Between a0 18 21)
theorem w_r1_Paired_ {g : Frag} {a0 : Int} {r : Bool}  (hF : r1_Paired a0 = r) : LCs Tryz.prog 112 #[.int .i64 a0] g (.bool r) := by
 unfold r1_Paired at hF
 refine lc_body (k := 5) (av := [.int .i64 a0]) func112 rfl rfl (h := fun W hS => ?_)
 refine c_seq <| c_region <| oy hS y_assign <| n_thenN <| c_seq <| c_region <| oy hS y_move ?_
 refine o_callS hS func109 rfl rfl (hc := (w_r0_Between (a0 := a0) (a1 := 18) (a2 := 21))) (h := ?_)
 clear hS; intro w hS
 refine oy hS y_assign <| n_thenN ?_
 subst hF
 exact wp_ret (wr1 hS)
theorem w_r1_Paired {g : Frag} {a0 : Int}  : LCs Tryz.prog 112 #[.int .i64 a0] g (.bool (r1_Paired a0)) := w_r1_Paired_  rfl

noncomputable def r1_Parts (a0 : Int) : Option (Int × Int) :=
  (shr' .u32 a0 16).bind fun x1 => some (IntKind.i64.wrap (IntKind.i16.wrap (bits .and .u32 a0 65535)), IntKind.i64.wrap (IntKind.i16.wrap x1))
theorem w_r1_Parts_ {g : Frag} {a0 : Int} {r : (Int × Int)}  (hF : r1_Parts a0 = some r) : LCs Tryz.prog 139 #[.int .u32 a0] g (.tuple #[.int .i64 r.1, .int .i64 r.2]) := by
 unfold r1_Parts at hF
 refine lc_body (k := 12) (av := [.int .u32 a0]) func139 rfl rfl (h := fun W hS => ?_)
 refine c_seq <| c_region ?_
 iterate 2 (refine oy hS y_assign ?_)
 refine n_thenN <| c_seq <| c_region <| oy hS y_move <| oy hS y_bin <| oy hS (y_conv underlying87 underlying175) <| oy hS (y_conv underlying175 underlying3) <| oy hS y_move ?_
 obtain ⟨x1, hx1, hF⟩ := ob hF
 refine oy hS (y_shr hx1) <| oy hS (y_conv underlying87 underlying175) <| oy hS (y_conv underlying175 underlying3) ?_
 iterate 2 (refine oy hS y_assign ?_)
 refine n_thenN ?_
 obtain rfl := osi hF
 exact wp_ret (wr2 hS)
theorem w_r1_Parts {g : Frag} {a0 : Int} {r : (Int × Int)}  (hF : r1_Parts a0 = some r) : LCs Tryz.prog 139 #[.int .u32 a0] g (.tuple #[.int .i64 r.1, .int .i64 r.2]) := w_r1_Parts_  hF

noncomputable def r1_Make (a0 : Int) (a1 : Int) : Option Int :=
  (shl' .u32 (bits .and .u32 (IntKind.u32.wrap a1) 65535) 16).bind fun x1 => some (bits .or .u32 (bits .and .u32 (IntKind.u32.wrap a0) 65535) x1)
theorem w_r1_Make_ {g : Frag} {a0 : Int} {a1 : Int} {r : Int}  (hF : r1_Make a0 a1 = some r) : LCs Tryz.prog 140 #[.int .i64 a0, .int .i64 a1] g (.int .u32 r) := by
 unfold r1_Make at hF
 refine lc_body (k := 13) (av := [.int .i64 a0, .int .i64 a1]) func140 rfl rfl (h := fun W hS => ?_)
 refine c_seq <| c_region <| oy hS y_assign <| n_thenN <| c_seq <| c_region <| oy hS y_move <| oy hS (y_conv underlying3 underlying87) ?_
 refine oy hS y_bin <| oy hS y_move <| oy hS (y_conv underlying3 underlying87) <| oy hS y_bin ?_
 obtain ⟨x1, hx1, hF⟩ := ob hF
 refine oy hS (y_shl hx1) <| oy hS y_bin <| oy hS y_assign <| n_thenN ?_
 obtain rfl := osi hF
 exact wp_ret (wr1 hS)
theorem w_r1_Make {g : Frag} {a0 : Int} {a1 : Int} {r : Int}  (hF : r1_Make a0 a1 = some r) : LCs Tryz.prog 140 #[.int .i64 a0, .int .i64 a1] g (.int .u32 r) := w_r1_Make_  hF

noncomputable def r1_Pair (a0 : Int) (a1 : Int) (a2 : Int) : Option Int :=
  (r1_Parts a1).bind fun r1 => (r1_Parts a2).bind fun r2 => bif decide (a0 = 18) then (r1_Make (IntKind.i64.wrap (r1.1 + r2.1)) (IntKind.i64.wrap (r1.2 + r2.2))).bind fun r4 => some (r4) else bif decide (a0 = 19) then (r1_Make (IntKind.i64.wrap (r1.1 - r2.1)) (IntKind.i64.wrap (r1.2 - r2.2))).bind fun r6 => some (r6) else bif decide (a0 = 20) then (r1_Make (IntKind.i64.wrap ((IntKind.i64.wrap (r1.1 * r2.1)) - (IntKind.i64.wrap (r1.2 * r2.2)))) (IntKind.i64.wrap ((IntKind.i64.wrap (r1.1 * r2.2)) + (IntKind.i64.wrap (r1.2 * r2.1))))).bind fun r8 => some (r8) else (r1_Make r1.1 (IntKind.i64.wrap (0 - r1.2))).bind fun r9 => some (r9)
theorem w_r1_Pair_ {g : Frag} {a0 : Int} {a1 : Int} {a2 : Int} {r : Int}  (hF : r1_Pair a0 a1 a2 = some r) : LCs Tryz.prog 113 #[.int .i64 a0, .int .u32 a1, .int .u32 a2] g (.int .u32 r) := by
 unfold r1_Pair at hF
 refine lc_body (k := 61) (av := [.int .i64 a0, .int .u32 a1, .int .u32 a2]) func113 rfl rfl (h := fun W hS => ?_)
 refine c_seq <| c_region <| oy hS y_assign <| n_thenN <| c_seq <| c_region <| oy hS y_move ?_
 obtain ⟨r1, hr1, hF⟩ := ob hF
 refine o_callS hS func139 rfl rfl (hc := (w_r1_Parts (a0 := a1) (hF := hr1))) (h := ?_)
 clear hS; intro w hS
 refine oy hS y_move ?_
 iterate 2 (refine oy hS (y_extract rfl) ?_)
 iterate 2 (refine oy hS y_assign ?_)
 refine n_thenN <| c_seq <| c_region <| oy hS y_move ?_
 obtain ⟨r2, hr2, hF⟩ := ob hF
 refine o_callS hS func139 rfl rfl (hc := (w_r1_Parts (a0 := a2) (hF := hr2))) (h := ?_)
 clear hS; intro w hS
 refine oy hS y_move ?_
 iterate 2 (refine oy hS (y_extract rfl) ?_)
 iterate 2 (refine oy hS y_assign ?_)
 refine n_thenN ?_
 iterate 2 (refine c_seq ?_)
 refine c_region <| oy hS y_move <| n_thenN <| c_block <| c_seq <| c_region <| oy hS y_bin <| oy hS y_assign ?_
 refine n_thenN ?_
 refine c_if (ht := fun c3 => ?_) (hf := fun c3 => ?_)
 · replace hF := bt c3 hF
   refine c_seq <| c_region ?_
   iterate 2 (refine oy hS y_move ?_)
   refine oy hS y_bin ?_
   iterate 2 (refine oy hS y_move ?_)
   refine oy hS y_bin ?_
   obtain ⟨r4, hr4, hF⟩ := ob hF
   refine o_callS hS func140 rfl rfl (hc := (w_r1_Make (a0 := (IntKind.i64.wrap (r1.1 + r2.1))) (a1 := (IntKind.i64.wrap (r1.2 + r2.2))) (hF := hr4))) (h := ?_)
   clear hS; intro w hS
   refine oy hS y_assign <| n_thenN ?_
   obtain rfl := osi hF
   exact wp_ret (wr1 hS)
 replace hF := bf c3 hF
 refine c_seq <| c_region <| oy hS y_bin <| oy hS y_assign <| n_thenN ?_
 refine c_if (ht := fun c5 => ?_) (hf := fun c5 => ?_)
 · replace hF := bt c5 hF
   refine c_seq <| c_region ?_
   iterate 2 (refine oy hS y_move ?_)
   refine oy hS y_bin ?_
   iterate 2 (refine oy hS y_move ?_)
   refine oy hS y_bin ?_
   obtain ⟨r6, hr6, hF⟩ := ob hF
   refine o_callS hS func140 rfl rfl (hc := (w_r1_Make (a0 := (IntKind.i64.wrap (r1.1 - r2.1))) (a1 := (IntKind.i64.wrap (r1.2 - r2.2))) (hF := hr6))) (h := ?_)
   clear hS; intro w hS
   refine oy hS y_assign <| n_thenN ?_
   obtain rfl := osi hF
   exact wp_ret (wr1 hS)
 replace hF := bf c5 hF
 refine c_seq <| c_region <| oy hS y_bin <| oy hS y_assign <| n_thenN ?_
 refine c_if (ht := fun c7 => ?_) (hf := fun c7 => ?_)
 · replace hF := bt c7 hF
   refine c_seq <| c_region ?_
   iterate 2 (refine oy hS y_move ?_)
   refine oy hS y_bin ?_
   iterate 2 (refine oy hS y_move ?_)
   iterate 2 (refine oy hS y_bin ?_)
   iterate 2 (refine oy hS y_move ?_)
   refine oy hS y_bin ?_
   iterate 2 (refine oy hS y_move ?_)
   iterate 2 (refine oy hS y_bin ?_)
   obtain ⟨r8, hr8, hF⟩ := ob hF
   refine o_callS hS func140 rfl rfl (hc := (w_r1_Make (a0 := (IntKind.i64.wrap ((IntKind.i64.wrap (r1.1 * r2.1)) - (IntKind.i64.wrap (r1.2 * r2.2))))) (a1 := (IntKind.i64.wrap ((IntKind.i64.wrap (r1.1 * r2.2)) + (IntKind.i64.wrap (r1.2 * r2.1))))) (hF := hr8))) (h := ?_)
   clear hS; intro w hS
   refine oy hS y_assign <| n_thenN ?_
   obtain rfl := osi hF
   exact wp_ret (wr1 hS)
 replace hF := bf c7 hF
 refine wp_skip <| c_seq <| c_region ?_
 iterate 2 (refine oy hS y_move ?_)
 refine oy hS y_neg ?_
 obtain ⟨r9, hr9, hF⟩ := ob hF
 refine o_callS hS func140 rfl rfl (hc := (w_r1_Make (a0 := r1.1) (a1 := (IntKind.i64.wrap (0 - r1.2))) (hF := hr9))) (h := ?_)
 clear hS; intro w hS
 refine oy hS y_assign <| n_thenN ?_
 obtain rfl := osi hF
 exact wp_ret (wr1 hS)
theorem w_r1_Pair {g : Frag} {a0 : Int} {a1 : Int} {a2 : Int} {r : Int}  (hF : r1_Pair a0 a1 a2 = some r) : LCs Tryz.prog 113 #[.int .i64 a0, .int .u32 a1, .int .u32 a2] g (.int .u32 r) := w_r1_Pair_  hF
end Go.Proofs.YtfnmihhcopkkbaaGreat
