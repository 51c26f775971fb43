/- Functions, lifted. Printed by lift.py. -/
import Derived.Test.YtfnmihhcopkkbaaGreatProg
import Derived.Test.YtfnmihhcopkkbaaGreatTy
import Derived.KernelRfl
namespace Go.Proofs.YtfnmihhcopkkbaaGreat
open Go Go.RowKit Fr
set_option linter.unusedVariables false
set_option linter.unusedSimpArgs false
set_option maxRecDepth 20000
open Tryz
set_option maxHeartbeats 2000000
noncomputable def l0_CodesWeight_b1 (a0 : (List T_Ins)) : (Int × Int) → Option (Step (Int × Int) Int) := fun (x16, x17) => bif decide (x17 < (a0.length : Int)) then bif decide (x16 < 1048576) then (at' a0 x17).bind fun x39 => (quo' .i64 (x39.Sym.size : Int) 8).bind fun x51 => some (.next (IntKind.i64.wrap (x16 + x51), IntKind.i64.wrap (x17 + 1))) else some (.done (x16)) else some (.done (x16))
noncomputable def l0_CodesWeight (a0 : (List T_Ins)) : Option Int :=
  loop (σ := (Int × Int)) (l0_CodesWeight_b1 a0) ((a0.length : Int), 0)
theorem w_l0_CodesWeight_ {g : Frag} {a0 : (List T_Ins)} {v0_ : Value} {r : Int} (h0 : SlT g enc_Ins 6 a0 v0_) (hF : l0_CodesWeight a0 = some r) : LCs Tryz.prog 31 #[v0_] g (.int .i64 r) := by
 unfold l0_CodesWeight at hF
 refine lc_body (k := 27) (av := [v0_]) func31 rfl rfl (h := fun W hS => ?_)
 refine c_seq <| c_region <| oy hS y_assign <| n_thenN <| c_seq <| c_region <| oy hS y_move <| oy hS (y_len h0 underlying53) ?_
 refine oy hS y_assign <| n_thenN ?_
 iterate 2 (refine c_seq ?_)
 refine c_region <| oy hS y_assign <| n_thenN <| c_block ?_
 refine c_loopP hF (fun (q : (Int × Int)) a w' => (∃ s : Nat → Value, a = Ac ((((Fm.dead 27 s).upd 0 v0_).upd 3 (.int .i64 q.1)).upd 4 (.int .i64 q.2))) ∧ St W g [] [] w') ⟨mk_exF, (hS.re (.n))⟩ ?_
 clear hS hF
 intro n35 q a w hI hq
 obtain ⟨x16, x17⟩ := q
 obtain ⟨⟨s36, rfl⟩, hS⟩ := hq
 obtain ⟨z33, hF, B0⟩ := iter_step hI
 clear hI
 dsimp only [l0_CodesWeight_b1] at hF
 iterate 2 (refine c_seq ?_)
 refine c_region ?_
 iterate 2 (refine oy hS y_move ?_)
 refine oy hS (y_len h0 underlying53) <| oy hS y_bin ?_
 refine o_split (ht := fun c37 => ?_) (hf := fun c37 => ?_)
 · replace hF := bt c37 hF
   refine o_gu rfl rfl rfl <| oy hS y_move <| o_gu rfl rfl rfl <| oy hS y_bin <| oy hS y_pickT <| n_thenN ?_
   refine c_if (ht := fun c38 => ?_) (hf := fun c38 => ?_)
   · replace hF := bt c38 hF
     refine wp_skip <| c_seq <| c_block <| c_region ?_
     iterate 3 (refine oy hS y_move ?_)
     obtain ⟨x39, D0, hF⟩ := ob hF
     obtain ⟨b40, o41, c42, N0, e44, R0, E0, G0, I0, J0, K0⟩ := SlT.at D0 h0 enc_len_Ins
     refine oy hS (y_index E0 G0 I0 underlying53 el_api_Ins.size) <| oy hS (y_field fa_api_Ins_5) <| oy hS (y_load (fun w hS => hS.block J0) underlying9 rfl (K0 5 _ rfl)) <| oy hS (y_lens underlying9) ?_
     obtain ⟨x51, M0, hF⟩ := ob hF
     refine oy hS (y_quo M0) <| oy hS y_bin <| oy hS y_assign ?_
     refine n_anyN ?_
     refine c_region <| oy hS y_move <| oy hS y_bin <| oy hS y_assign <| n_thenN ?_
     obtain rfl := osi hF
     exact ⟨_, B0, mk_exF, (hS.re (.n))⟩
   replace hF := bf c38 hF
   refine wp_exit ?_
   refine c_seq <| c_region <| oy hS y_move <| oy hS y_assign <| n_thenN ?_
   obtain rfl := osi hF
   obtain rfl : _ = r := B0
   exact wp_ret (wr1 hS)
 replace hF := bf c37 hF
 iterate 2 (refine o_sk rfl rfl ?_)
 refine oy hS y_pickF <| n_thenN ?_
 refine c_if_false (h := ?_)
 refine wp_exit ?_
 refine c_seq <| c_region <| oy hS y_move <| oy hS y_assign <| n_thenN ?_
 obtain rfl := osi hF
 obtain rfl : _ = r := B0
 exact wp_ret (wr1 hS)
theorem w_l0_CodesWeight {g : Frag} {a0 : (List T_Ins)} {v0_ : Value} {r : Int} (h0 : SlT g enc_Ins 6 a0 v0_) (hF : l0_CodesWeight a0 = some r) : LCs Tryz.prog 31 #[v0_] g (.int .i64 r) := w_l0_CodesWeight_ h0 hF

noncomputable def l0_ObjectWeight_b2 (a0 : T_Object) : (Int × Int) → Option (Step (Int × Int) (Step Int Int)) := fun (x72, x73) => bif decide (x73 < (a0.Symbols.length : Int)) then bif decide (x72 < 1048576) then (at' a0.Symbols x73).bind fun x95 => (quo' .i64 (x95.Name.size : Int) 8).bind fun B0 => some (.next (IntKind.i64.wrap (x72 + B0), IntKind.i64.wrap (x73 + 1))) else some (.done (.next x72)) else some (.done (.next x72))
noncomputable def l0_ObjectWeight_b3 (a0 : T_Object) : (Int × Int) → Option (Step (Int × Int) Int) := fun (B0, D0) => bif decide (D0 < (a0.Fixes.length : Int)) then bif decide (B0 < 1048576) then (at' a0.Fixes D0).bind fun E0 => (quo' .i64 (E0.Sym.size : Int) 8).bind fun G0 => some (.next (IntKind.i64.wrap (B0 + G0), IntKind.i64.wrap (D0 + 1))) else some (.done (B0)) else some (.done (B0))
noncomputable def l0_ObjectWeight_k1 (a0 : T_Object) : Int → Option Int := fun x54 => loop (σ := (Int × Int)) (l0_ObjectWeight_b3 a0) (x54, 0)
noncomputable def l0_ObjectWeight (a0 : T_Object) : Option Int :=
  (quo' .i64 (a0.Data.length : Int) 4).bind fun x2 => cut (σ := Int) (loop (σ := (Int × Int)) (l0_ObjectWeight_b2 a0) (IntKind.i64.wrap ((IntKind.i64.wrap ((IntKind.i64.wrap ((IntKind.i64.wrap (4 * (a0.Code.length : Int))) + x2)) + (a0.Symbols.length : Int))) + (a0.Fixes.length : Int)), 0)) (l0_ObjectWeight_k1 a0)
theorem w_l0_ObjectWeight_ {g : Frag} {a0 : T_Object} {v0_ : Value} {r : Int} (h0 : Rd_Object g a0 v0_) (hF : l0_ObjectWeight a0 = some r) : LCs Tryz.prog 54 #[v0_] g (.int .i64 r) := by
 obtain ⟨B0, D0, E0, G0, rfl, U0, V0, I0, J0⟩ := h0
 unfold l0_ObjectWeight at hF
 refine lc_body (k := 66) (av := [.agg (cl_Object B0 D0 E0 G0).toArray]) func54 rfl rfl (h := fun W hS => ?_)
 refine c_seq <| c_region ?_
 refine o_boxP (cl := (cl_Object B0 D0 E0 G0)) rfl hS ?_
 clear hS; intro b1 w hS
 refine oy hS y_assign <| n_thenN <| c_seq <| c_region <| oy hS (y_field fa_api_Object_0) <| oy hS (y_load oH underlying38 rfl rfl) <| oy hS (y_len U0 underlying38) <| oy hS y_bin ?_
 refine oy hS (y_field fa_api_Object_1) <| oy hS (y_load oH underlying31 rfl rfl) <| oy hS (y_len V0 underlying31) ?_
 obtain ⟨x2, hx2, hF⟩ := ob hF
 refine oy hS (y_quo hx2) <| oy hS y_bin <| oy hS (y_field fa_api_Object_2) <| oy hS (y_load oH underlying101 rfl rfl) <| oy hS (y_len I0 underlying101) <| oy hS y_bin <| oy hS (y_field fa_api_Object_3) <| oy hS (y_load oH underlying102 rfl rfl) ?_
 refine oy hS (y_len J0 underlying102) <| oy hS y_bin <| oy hS y_assign <| n_thenN ?_
 obtain ⟨z55, hF, T0⟩ := cut_step hF
 refine c_cutP (fun a w' => ∃ (x54 : Int), l0_ObjectWeight_k1 a0 x54 = some r ∧ (∃ s : Nat → Value, a = Ac (((Fm.dead 66 s).upd 1 (.pointer (some ⟨b1, 0, none⟩))).upd 3 (.int .i64 x54))) ∧ St W g [] ((b1, blk (cl_Object B0 D0 E0 G0) 104) :: []) w') ?_ ?_
 · skip
   refine c_seq <| c_region <| oy hS y_assign <| n_thenN <| c_block ?_
   refine c_loopP hF (fun (q : (Int × Int)) a w' => (∃ s : Nat → Value, a = Ac ((((Fm.dead 66 s).upd 1 (.pointer (some ⟨b1, 0, none⟩))).upd 3 (.int .i64 q.1)).upd 4 (.int .i64 q.2))) ∧ St W g [] ((b1, blk (cl_Object B0 D0 E0 G0) 104) :: []) w') ⟨mk_exF, (hS.re (.b .hb .n))⟩ ?_
   clear hS hF
   intro n91 q a w hI hq
   obtain ⟨x72, x73⟩ := q
   obtain ⟨⟨s92, rfl⟩, hS⟩ := hq
   obtain ⟨z89, hF, M0⟩ := iter_step hI
   clear hI
   dsimp only [l0_ObjectWeight_b2] at hF
   iterate 2 (refine c_seq ?_)
   refine c_region <| oy hS y_move <| oy hS (y_field fa_api_Object_2) <| oy hS (y_load oH underlying101 rfl rfl) <| oy hS (y_len I0 underlying101) <| oy hS y_bin ?_
   refine o_split (ht := fun c93 => ?_) (hf := fun c93 => ?_)
   · replace hF := bt c93 hF
     refine o_gu rfl rfl rfl <| oy hS y_move <| o_gu rfl rfl rfl <| oy hS y_bin <| oy hS y_pickT <| n_thenN ?_
     refine c_if (ht := fun c94 => ?_) (hf := fun c94 => ?_)
     · replace hF := bt c94 hF
       refine wp_skip <| c_seq <| c_block <| c_region <| oy hS y_move <| oy hS (y_field fa_api_Object_2) <| oy hS (y_load oH underlying101 rfl rfl) <| oy hS y_move ?_
       obtain ⟨x95, T1, hF⟩ := ob hF
       obtain ⟨b96, o97, c98, Y1, Z1, U1, X0, Y0, Z0, B1, D1⟩ := SlT.at T1 I0 enc_len_Symbol
       refine oy hS (y_index X0 Y0 Z0 underlying101 el_api_Symbol.size) <| oy hS (y_field fa_api_Symbol_0) <| oy hS (y_load (fun w hS => hS.block B1) underlying9 rfl (D1 0 _ rfl)) <| oy hS (y_lens underlying9) ?_
       obtain ⟨B2, E1, hF⟩ := ob hF
       refine oy hS (y_quo E1) <| oy hS y_bin <| oy hS y_assign ?_
       refine n_anyN ?_
       refine c_region <| oy hS y_move <| oy hS y_bin <| oy hS y_assign <| n_thenN ?_
       obtain rfl := osi hF
       exact ⟨_, M0, mk_exF, (hS.re (.b .hb .n))⟩
     replace hF := bf c94 hF
     refine wp_exit ?_
     obtain rfl := osi hF
     obtain rfl : _ = z55 := M0
     change ∃ _, _
     exact ⟨x72, T0, mk_exF, (hS.re (.b .hb .n))⟩
   replace hF := bf c93 hF
   iterate 2 (refine o_sk rfl rfl ?_)
   refine oy hS y_pickF <| n_thenN ?_
   refine c_if_false (h := ?_)
   refine wp_exit ?_
   obtain rfl := osi hF
   obtain rfl : _ = z55 := M0
   change ∃ _, _
   exact ⟨x72, T0, mk_exF, (hS.re (.b .hb .n))⟩
 rintro a w ⟨x54, hF, ⟨D2, rfl⟩, hS⟩
 dsimp only [l0_ObjectWeight_k1] at hF
 iterate 2 (refine c_seq ?_)
 refine c_region <| oy hS y_assign <| n_thenN <| c_block ?_
 refine c_loopP hF (fun (q : (Int × Int)) a w' => (∃ s : Nat → Value, a = Ac ((((Fm.dead 66 s).upd 1 (.pointer (some ⟨b1, 0, none⟩))).upd 3 (.int .i64 q.1)).upd 5 (.int .i64 q.2))) ∧ St W g [] ((b1, blk (cl_Object B0 D0 E0 G0) 104) :: []) w') ⟨mk_exF, (hS.re (.b .hb .n))⟩ ?_
 clear hS hF
 intro E2 q a w hI hq
 obtain ⟨G2, I2⟩ := q
 obtain ⟨⟨J2, rfl⟩, hS⟩ := hq
 obtain ⟨K2, hF, K0⟩ := iter_step hI
 clear hI
 dsimp only [l0_ObjectWeight_b3] at hF
 iterate 2 (refine c_seq ?_)
 refine c_region <| oy hS y_move <| oy hS (y_field fa_api_Object_3) <| oy hS (y_load oH underlying102 rfl rfl) <| oy hS (y_len J0 underlying102) <| oy hS y_bin ?_
 refine o_split (ht := fun N0 => ?_) (hf := fun N0 => ?_)
 · replace hF := bt N0 hF
   refine o_gu rfl rfl rfl <| oy hS y_move <| o_gu rfl rfl rfl <| oy hS y_bin <| oy hS y_pickT <| n_thenN ?_
   refine c_if (ht := fun R0 => ?_) (hf := fun R0 => ?_)
   · replace hF := bt R0 hF
     refine wp_skip <| c_seq <| c_block <| c_region <| oy hS y_move <| oy hS (y_field fa_api_Object_3) <| oy hS (y_load oH underlying102 rfl rfl) <| oy hS y_move ?_
     obtain ⟨M2, G1, hF⟩ := ob hF
     obtain ⟨N2, R2, T2, V1, U2, X1, I1, J1, K1, M1, N1⟩ := SlT.at G1 J0 enc_len_Fix
     refine oy hS (y_index I1 J1 K1 underlying102 el_api_Fix.size) <| oy hS (y_field fa_api_Fix_2) <| oy hS (y_load (fun w hS => hS.block M1) underlying9 rfl (N1 2 _ rfl)) <| oy hS (y_lens underlying9) ?_
     obtain ⟨V2, R1, hF⟩ := ob hF
     refine oy hS (y_quo R1) <| oy hS y_bin <| oy hS y_assign ?_
     refine n_anyN ?_
     refine c_region <| oy hS y_move <| oy hS y_bin <| oy hS y_assign <| n_thenN ?_
     obtain rfl := osi hF
     exact ⟨_, K0, mk_exF, (hS.re (.b .hb .n))⟩
   replace hF := bf R0 hF
   refine wp_exit ?_
   refine c_seq <| c_region <| oy hS y_move <| oy hS y_assign <| n_thenN ?_
   obtain rfl := osi hF
   obtain rfl : _ = r := K0
   exact wp_ret (wr1 hS)
 replace hF := bf N0 hF
 iterate 2 (refine o_sk rfl rfl ?_)
 refine oy hS y_pickF <| n_thenN ?_
 refine c_if_false (h := ?_)
 refine wp_exit ?_
 refine c_seq <| c_region <| oy hS y_move <| oy hS y_assign <| n_thenN ?_
 obtain rfl := osi hF
 obtain rfl : _ = r := K0
 exact wp_ret (wr1 hS)
theorem w_l0_ObjectWeight {g : Frag} {a0 : T_Object} {v0_ : Value} {r : Int} (h0 : Rd_Object g a0 v0_) (hF : l0_ObjectWeight a0 = some r) : LCs Tryz.prog 54 #[v0_] g (.int .i64 r) := w_l0_ObjectWeight_ h0 hF

noncomputable def l0_Texts_b1 (a0 : (List ByteArray)) : (Int × Int) → Option (Step (Int × Int) Int) := fun (x15, x16) => bif decide (x16 < (a0.length : Int)) then bif decide (x15 < 1048576) then (at' a0 x16).bind fun x37 => some (.next (IntKind.i64.wrap (x15 + (x37.size : Int)), IntKind.i64.wrap (x16 + 1))) else some (.done (x15)) else some (.done (x15))
noncomputable def l0_Texts (a0 : (List ByteArray)) : Option Int :=
  loop (σ := (Int × Int)) (l0_Texts_b1 a0) ((a0.length : Int), 0)
theorem w_l0_Texts_ {g : Frag} {a0 : (List ByteArray)} {v0_ : Value} {r : Int} (h0 : SlT g enc_string 1 a0 v0_) (hF : l0_Texts a0 = some r) : LCs Tryz.prog 96 #[v0_] g (.int .i64 r) := by
 unfold l0_Texts at hF
 refine lc_body (k := 25) (av := [v0_]) func96 rfl rfl (h := fun W hS => ?_)
 refine c_seq <| c_region <| oy hS y_assign <| n_thenN <| c_seq <| c_region <| oy hS y_move <| oy hS (y_len h0 underlying22) ?_
 refine oy hS y_assign <| n_thenN ?_
 iterate 2 (refine c_seq ?_)
 refine c_region <| oy hS y_assign <| n_thenN <| c_block ?_
 refine c_loopP hF (fun (q : (Int × Int)) a w' => (∃ s : Nat → Value, a = Ac ((((Fm.dead 25 s).upd 0 v0_).upd 3 (.int .i64 q.1)).upd 4 (.int .i64 q.2))) ∧ St W g [] [] w') ⟨mk_exF, (hS.re (.n))⟩ ?_
 clear hS hF
 intro n33 q a w hI hq
 obtain ⟨x15, x16⟩ := q
 obtain ⟨⟨s34, rfl⟩, hS⟩ := hq
 obtain ⟨z31, hF, B0⟩ := iter_step hI
 clear hI
 dsimp only [l0_Texts_b1] at hF
 iterate 2 (refine c_seq ?_)
 refine c_region ?_
 iterate 2 (refine oy hS y_move ?_)
 refine oy hS (y_len h0 underlying22) <| oy hS y_bin ?_
 refine o_split (ht := fun c35 => ?_) (hf := fun c35 => ?_)
 · replace hF := bt c35 hF
   refine o_gu rfl rfl rfl <| oy hS y_move <| o_gu rfl rfl rfl <| oy hS y_bin <| oy hS y_pickT <| n_thenN ?_
   refine c_if (ht := fun c36 => ?_) (hf := fun c36 => ?_)
   · replace hF := bt c36 hF
     refine wp_skip <| c_seq <| c_block <| c_region ?_
     iterate 3 (refine oy hS y_move ?_)
     obtain ⟨x37, D0, hF⟩ := ob hF
     obtain ⟨b38, o39, c40, M0, e42, N0, E0, G0, I0, J0, K0⟩ := SlT.at D0 h0 enc_len_string
     refine oy hS (y_index E0 G0 I0 underlying22 el_string.size) <| oy hS (y_load (fun w hS => hS.block J0) underlying9 rfl (K0 0 _ rfl)) <| oy hS (y_lens underlying9) <| oy hS y_bin <| oy hS y_assign ?_
     refine n_anyN ?_
     refine c_region <| oy hS y_move <| oy hS y_bin <| oy hS y_assign <| n_thenN ?_
     obtain rfl := osi hF
     exact ⟨_, B0, mk_exF, (hS.re (.n))⟩
   replace hF := bf c36 hF
   refine wp_exit ?_
   refine c_seq <| c_region <| oy hS y_move <| oy hS y_assign <| n_thenN ?_
   obtain rfl := osi hF
   obtain rfl : _ = r := B0
   exact wp_ret (wr1 hS)
 replace hF := bf c35 hF
 iterate 2 (refine o_sk rfl rfl ?_)
 refine oy hS y_pickF <| n_thenN ?_
 refine c_if_false (h := ?_)
 refine wp_exit ?_
 refine c_seq <| c_region <| oy hS y_move <| oy hS y_assign <| n_thenN ?_
 obtain rfl := osi hF
 obtain rfl : _ = r := B0
 exact wp_ret (wr1 hS)
theorem w_l0_Texts {g : Frag} {a0 : (List ByteArray)} {v0_ : Value} {r : Int} (h0 : SlT g enc_string 1 a0 v0_) (hF : l0_Texts a0 = some r) : LCs Tryz.prog 96 #[v0_] g (.int .i64 r) := w_l0_Texts_ h0 hF

noncomputable def l0_UnitWeight_k3 (a0 : T_Unit) (B0 : Int) (D0 : Int) : Unit → Option (Step (Int × Int) (Step Int Int)) := fun _ => (at' a0.Code B0).bind fun E0 => (at' a0.Code B0).bind fun G0 => (quo' .i64 (IntKind.i64.wrap ((E0.Label.size : Int) + (G0.Ins.Sym.size : Int))) 8).bind fun I0 => some (.next (IntKind.i64.wrap (D0 + I0), IntKind.i64.wrap (B0 + 1)))
noncomputable def l0_UnitWeight_b2 (a0 : T_Unit) : (Int × Int) → Option (Step (Int × Int) (Step Int Int)) := fun (B0, D0) => cut (σ := Unit) (bif decide (D0 < (a0.Code.length : Int)) then bif decide (B0 < 1048576) then some (.next ()) else some (.done (.done (.next B0))) else some (.done (.done (.next B0)))) (l0_UnitWeight_k3 a0 D0 B0)
noncomputable def l0_UnitWeight_k6 (a0 : T_Unit) (B0 : Int) (D0 : Int) : Unit → Option (Step (Int × Int) (Step Int Int)) := fun _ => (at' a0.Data B0).bind fun E0 => (quo' .i64 (E0.Sym.size : Int) 8).bind fun G0 => some (.next (IntKind.i64.wrap (D0 + G0), IntKind.i64.wrap (B0 + 1)))
noncomputable def l0_UnitWeight_b5 (a0 : T_Unit) : (Int × Int) → Option (Step (Int × Int) (Step Int Int)) := fun (B0, D0) => cut (σ := Unit) (bif decide (D0 < (a0.Data.length : Int)) then bif decide (B0 < 1048576) then some (.next ()) else some (.done (.done (.next B0))) else some (.done (.done (.next B0)))) (l0_UnitWeight_k6 a0 D0 B0)
noncomputable def l0_UnitWeight_k8 (a0 : T_Unit) (B0 : Int) (D0 : Int) : Unit → Option (Step (Int × Int) Int) := fun _ => (at' a0.Labels B0).bind fun E0 => (quo' .i64 (E0.Name.size : Int) 8).bind fun G0 => some (.next (IntKind.i64.wrap (D0 + G0), IntKind.i64.wrap (B0 + 1)))
noncomputable def l0_UnitWeight_b7 (a0 : T_Unit) : (Int × Int) → Option (Step (Int × Int) Int) := fun (B0, D0) => cut (σ := Unit) (bif decide (D0 < (a0.Labels.length : Int)) then bif decide (B0 < 1048576) then some (.next ()) else some (.done (.done (B0))) else some (.done (.done (B0)))) (l0_UnitWeight_k8 a0 D0 B0)
noncomputable def l0_UnitWeight_k4 (a0 : T_Unit) : Int → Option Int := fun B0 => loop (σ := (Int × Int)) (l0_UnitWeight_b7 a0) (B0, 0)
noncomputable def l0_UnitWeight_k1 (a0 : T_Unit) : Int → Option Int := fun B0 => cut (σ := Int) (loop (σ := (Int × Int)) (l0_UnitWeight_b5 a0) (B0, 0)) (l0_UnitWeight_k4 a0)
noncomputable def l0_UnitWeight (a0 : T_Unit) : Option Int :=
  (l0_Texts a0.Globals).bind fun r2 => (quo' .i64 r2 8).bind fun x3 => cut (σ := Int) (loop (σ := (Int × Int)) (l0_UnitWeight_b2 a0) (IntKind.i64.wrap ((IntKind.i64.wrap ((IntKind.i64.wrap ((IntKind.i64.wrap ((a0.Code.length : Int) + (a0.Data.length : Int))) + (a0.Labels.length : Int))) + (a0.Globals.length : Int))) + x3), 0)) (l0_UnitWeight_k1 a0)
theorem w_l0_UnitWeight_ {g : Frag} {a0 : T_Unit} {v0_ : Value} {r : Int} (h0 : Rd_Unit g a0 v0_) (hF : l0_UnitWeight a0 = some r) : LCs Tryz.prog 97 #[v0_] g (.int .i64 r) := by
 obtain ⟨B0, D0, E0, G0, rfl, I0, J0, K0, T1⟩ := h0
 unfold l0_UnitWeight at hF
 refine lc_body (k := 100) (av := [.agg (cl_Unit B0 D0 E0 G0).toArray]) func97 rfl rfl (h := fun W hS => ?_)
 refine c_seq <| c_region ?_
 refine o_boxP (cl := (cl_Unit B0 D0 E0 G0)) rfl hS ?_
 clear hS; intro b1 w hS
 refine oy hS y_assign <| n_thenN <| c_seq ?_
 refine c_quiet (by kernel_rfl) (by kernel_rfl) hS ?_
 refine qy (y_field fa_api_Unit_0) <| qy (y_load (fun w hS => hS.own (mH)) underlying134 rfl rfl) <| qy (y_len I0 underlying134) <| qy (y_field fa_api_Unit_1) <| qy (y_load (fun w hS => hS.own (mH)) underlying135 rfl rfl) <| qy (y_len J0 underlying135) <| qy y_bin <| qy (y_field fa_api_Unit_2) ?_
 refine qy (y_load (fun w hS => hS.own (mH)) underlying101 rfl rfl) <| qy (y_len K0 underlying101) <| qy y_bin <| qy (y_field fa_api_Unit_3) <| qy (y_load (fun w hS => hS.own (mH)) underlying22 rfl rfl) <| qy (y_len T1 underlying22) <| qy y_bin <| qy (y_field fa_api_Unit_3) ?_
 refine qy (y_load (fun w hS => hS.own (mH)) underlying22 rfl rfl) ?_
 obtain ⟨r2, hr2, hF⟩ := ob hF
 refine q_callS func96 rfl rfl (hc := (w_l0_Texts (a0 := a0.Globals) (h0 := T1.plus) (hF := hr2))) (h := ?_)
 obtain ⟨x3, hx3, hF⟩ := ob hF
 refine qy (y_quo hx3) <| qy y_bin <| qy y_assign ?_
 refine q_nilN (h := ?_)
 clear hS; intro w hS
 obtain ⟨X1, hF, U1⟩ := cut_step hF
 refine c_cutP (fun a w' => ∃ (Z0 : Int), l0_UnitWeight_k1 a0 Z0 = some r ∧ (∃ s : Nat → Value, a = Ac (((Fm.dead 100 s).upd 1 (.pointer (some ⟨b1, 0, none⟩))).upd 3 (.int .i64 Z0))) ∧ St W g [] ((b1, blk (cl_Unit B0 D0 E0 G0) 137) :: []) w') ?_ ?_
 · skip
   refine c_seq <| c_region <| oy hS y_assign <| n_thenN <| c_block ?_
   refine c_loopP hF (fun (q : (Int × Int)) a w' => (∃ s : Nat → Value, a = Ac ((((Fm.dead 100 s).upd 1 (.pointer (some ⟨b1, 0, none⟩))).upd 3 (.int .i64 q.1)).upd 4 (.int .i64 q.2))) ∧ St W g [] ((b1, blk (cl_Unit B0 D0 E0 G0) 137) :: []) w') ⟨mk_exF, (hS.re (.b .hb .n))⟩ ?_
   clear hS hF
   intro K4 q a w hI hq
   obtain ⟨M0, Y1⟩ := q
   obtain ⟨⟨M4, rfl⟩, hS⟩ := hq
   obtain ⟨B1, hF, N0⟩ := iter_step hI
   clear hI
   dsimp only [l0_UnitWeight_b2] at hF
   obtain ⟨N4, hF, R0⟩ := cut_step hF
   refine c_cutP (fun a w' => l0_UnitWeight_k3 a0 Y1 M0 () = some B1 ∧ (∃ s : Nat → Value, a = Ac ((((Fm.dead 100 s).upd 1 (.pointer (some ⟨b1, 0, none⟩))).upd 3 (.int .i64 M0)).upd 4 (.int .i64 Y1))) ∧ St W g [] ((b1, blk (cl_Unit B0 D0 E0 G0) 137) :: []) w') ?_ ?_
   · skip
     refine c_seq <| c_region <| oy hS y_move <| oy hS (y_field fa_api_Unit_0) <| oy hS (y_load oH underlying134 rfl rfl) <| oy hS (y_len I0 underlying134) <| oy hS y_bin ?_
     refine o_split (ht := fun D1 => ?_) (hf := fun D1 => ?_)
     · replace hF := bt D1 hF
       refine o_gu rfl rfl rfl <| oy hS y_move <| o_gu rfl rfl rfl <| oy hS y_bin <| oy hS y_pickT <| n_thenN ?_
       refine c_if (ht := fun E1 => ?_) (hf := fun E1 => ?_)
       · replace hF := bt E1 hF
         refine wp_skip ?_
         obtain rfl := osi hF
         change _ ∧ _
         exact ⟨R0, mk_exF, (hS.re (.b .hb .n))⟩
       replace hF := bf E1 hF
       refine wp_exit ?_
       obtain rfl := osi hF
       obtain rfl : _ = B1 := R0
       obtain rfl : _ = X1 := N0
       change ∃ _, _
       exact ⟨M0, U1, mk_exF, (hS.re (.b .hb .n))⟩
     replace hF := bf D1 hF
     iterate 2 (refine o_sk rfl rfl ?_)
     refine oy hS y_pickF <| n_thenN ?_
     refine c_if_false (h := ?_)
     refine wp_exit ?_
     obtain rfl := osi hF
     obtain rfl : _ = B1 := R0
     obtain rfl : _ = X1 := N0
     change ∃ _, _
     exact ⟨M0, U1, mk_exF, (hS.re (.b .hb .n))⟩
   rintro a w ⟨hF, ⟨R4, rfl⟩, hS⟩
   dsimp only [l0_UnitWeight_k3] at hF
   refine c_seq <| c_block ?_
   refine c_quiet (by kernel_rfl) (by kernel_rfl) hS ?_
   refine qy y_move <| qy (y_field fa_api_Unit_0) <| qy (y_load (fun w hS => hS.own (mH)) underlying134 rfl rfl) <| qy y_move ?_
   obtain ⟨T4, G2, hF⟩ := ob hF
   obtain ⟨U4, V4, X4, Y3, Y4, Z3, I2, J2, K2, M2, N2⟩ := SlT.at G2 I0 enc_len_Item
   refine qy (y_index I2 J2 K2 underlying134 el_api_Item.size) <| qy (y_field fa_api_Item_0) <| qy (y_load (fun w hS => hS.block M2) underlying9 rfl (N2 0 _ rfl)) <| qy (y_lens underlying9) <| qy (y_field fa_api_Unit_0) <| qy (y_load (fun w hS => hS.own (mH)) underlying134 rfl rfl) <| qy y_move ?_
   obtain ⟨Z4, R2, hF⟩ := ob hF
   obtain ⟨B5, D5, E5, B4, G5, D4, T2, U2, V2, X2, Y2⟩ := SlT.at R2 I0 enc_len_Item
   refine qy (y_index T2 U2 V2 underlying134 el_api_Item.size) <| qy (y_field fa_api_Item_1) <| qy (y_field fa_api_Ins_5) <| qy (y_load (fun w hS => hS.block X2) underlying9 rfl (Y2 6 _ rfl)) <| qy (y_lens underlying9) <| qy y_bin ?_
   obtain ⟨I5, Z2, hF⟩ := ob hF
   refine qy (y_quo Z2) <| qy y_bin <| qy y_assign ?_
   refine q_nilN (h := ?_)
   clear hS; intro w hS
   refine c_region <| oy hS y_move <| oy hS y_bin <| oy hS y_assign <| n_thenN ?_
   obtain rfl := osi hF
   exact ⟨_, N0, mk_exF, (hS.re (.b .hb .n))⟩
 rintro a w ⟨Z0, hF, ⟨J5, rfl⟩, hS⟩
 dsimp only [l0_UnitWeight_k1] at hF
 obtain ⟨Z1, hF, V1⟩ := cut_step hF
 refine c_cutP (fun a w' => ∃ (G1 : Int), l0_UnitWeight_k4 a0 G1 = some r ∧ (∃ s : Nat → Value, a = Ac (((Fm.dead 100 s).upd 1 (.pointer (some ⟨b1, 0, none⟩))).upd 3 (.int .i64 G1))) ∧ St W g [] ((b1, blk (cl_Unit B0 D0 E0 G0) 137) :: []) w') ?_ ?_
 · skip
   refine c_seq <| c_region <| oy hS y_assign <| n_thenN <| c_block ?_
   refine c_loopP hF (fun (q : (Int × Int)) a w' => (∃ s : Nat → Value, a = Ac ((((Fm.dead 100 s).upd 1 (.pointer (some ⟨b1, 0, none⟩))).upd 3 (.int .i64 q.1)).upd 5 (.int .i64 q.2))) ∧ St W g [] ((b1, blk (cl_Unit B0 D0 E0 G0) 137) :: []) w') ⟨mk_exF, (hS.re (.b .hb .n))⟩ ?_
   clear hS hF
   intro K5 q a w hI hq
   obtain ⟨T0, B2⟩ := q
   obtain ⟨⟨M5, rfl⟩, hS⟩ := hq
   obtain ⟨I1, hF, U0⟩ := iter_step hI
   clear hI
   dsimp only [l0_UnitWeight_b5] at hF
   obtain ⟨N5, hF, V0⟩ := cut_step hF
   refine c_cutP (fun a w' => l0_UnitWeight_k6 a0 B2 T0 () = some I1 ∧ (∃ s : Nat → Value, a = Ac ((((Fm.dead 100 s).upd 1 (.pointer (some ⟨b1, 0, none⟩))).upd 3 (.int .i64 T0)).upd 5 (.int .i64 B2))) ∧ St W g [] ((b1, blk (cl_Unit B0 D0 E0 G0) 137) :: []) w') ?_ ?_
   · skip
     refine c_seq <| c_region <| oy hS y_move <| oy hS (y_field fa_api_Unit_1) <| oy hS (y_load oH underlying135 rfl rfl) <| oy hS (y_len J0 underlying135) <| oy hS y_bin ?_
     refine o_split (ht := fun J1 => ?_) (hf := fun J1 => ?_)
     · replace hF := bt J1 hF
       refine o_gu rfl rfl rfl <| oy hS y_move <| o_gu rfl rfl rfl <| oy hS y_bin <| oy hS y_pickT <| n_thenN ?_
       refine c_if (ht := fun K1 => ?_) (hf := fun K1 => ?_)
       · replace hF := bt K1 hF
         refine wp_skip ?_
         obtain rfl := osi hF
         change _ ∧ _
         exact ⟨V0, mk_exF, (hS.re (.b .hb .n))⟩
       replace hF := bf K1 hF
       refine wp_exit ?_
       obtain rfl := osi hF
       obtain rfl : _ = I1 := V0
       obtain rfl : _ = Z1 := U0
       change ∃ _, _
       exact ⟨T0, V1, mk_exF, (hS.re (.b .hb .n))⟩
     replace hF := bf J1 hF
     iterate 2 (refine o_sk rfl rfl ?_)
     refine oy hS y_pickF <| n_thenN ?_
     refine c_if_false (h := ?_)
     refine wp_exit ?_
     obtain rfl := osi hF
     obtain rfl : _ = I1 := V0
     obtain rfl : _ = Z1 := U0
     change ∃ _, _
     exact ⟨T0, V1, mk_exF, (hS.re (.b .hb .n))⟩
   rintro a w ⟨hF, ⟨R5, rfl⟩, hS⟩
   dsimp only [l0_UnitWeight_k6] at hF
   refine c_seq <| c_block <| c_region <| oy hS y_move <| oy hS (y_field fa_api_Unit_1) <| oy hS (y_load oH underlying135 rfl rfl) <| oy hS y_move ?_
   obtain ⟨T5, B3, hF⟩ := ob hF
   obtain ⟨U5, V5, X5, E4, Y5, G4, D3, E3, G3, I3, J3⟩ := SlT.at B3 J0 enc_len_Value
   refine oy hS (y_index D3 E3 G3 underlying135 el_api_Value.size) <| oy hS (y_field fa_api_Value_0) <| oy hS (y_load (fun w hS => hS.block I3) underlying9 rfl (J3 0 _ rfl)) <| oy hS (y_lens underlying9) ?_
   obtain ⟨Z5, K3, hF⟩ := ob hF
   refine oy hS (y_quo K3) <| oy hS y_bin <| oy hS y_assign ?_
   refine n_anyN ?_
   refine c_region <| oy hS y_move <| oy hS y_bin <| oy hS y_assign <| n_thenN ?_
   obtain rfl := osi hF
   exact ⟨_, U0, mk_exF, (hS.re (.b .hb .n))⟩
 rintro a w ⟨G1, hF, ⟨B6, rfl⟩, hS⟩
 dsimp only [l0_UnitWeight_k4] at hF
 iterate 2 (refine c_seq ?_)
 refine c_region <| oy hS y_assign <| n_thenN <| c_block ?_
 refine c_loopP hF (fun (q : (Int × Int)) a w' => (∃ s : Nat → Value, a = Ac ((((Fm.dead 100 s).upd 1 (.pointer (some ⟨b1, 0, none⟩))).upd 3 (.int .i64 q.1)).upd 6 (.int .i64 q.2))) ∧ St W g [] ((b1, blk (cl_Unit B0 D0 E0 G0) 137) :: []) w') ⟨mk_exF, (hS.re (.b .hb .n))⟩ ?_
 clear hS hF
 intro D6 q a w hI hq
 obtain ⟨D2, E2⟩ := q
 obtain ⟨⟨E6, rfl⟩, hS⟩ := hq
 obtain ⟨M1, hF, X0⟩ := iter_step hI
 clear hI
 dsimp only [l0_UnitWeight_b7] at hF
 obtain ⟨G6, hF, Y0⟩ := cut_step hF
 refine c_cutP (fun a w' => l0_UnitWeight_k8 a0 E2 D2 () = some M1 ∧ (∃ s : Nat → Value, a = Ac ((((Fm.dead 100 s).upd 1 (.pointer (some ⟨b1, 0, none⟩))).upd 3 (.int .i64 D2)).upd 6 (.int .i64 E2))) ∧ St W g [] ((b1, blk (cl_Unit B0 D0 E0 G0) 137) :: []) w') ?_ ?_
 · skip
   refine c_seq <| c_region <| oy hS y_move <| oy hS (y_field fa_api_Unit_2) <| oy hS (y_load oH underlying101 rfl rfl) <| oy hS (y_len K0 underlying101) <| oy hS y_bin ?_
   refine o_split (ht := fun N1 => ?_) (hf := fun N1 => ?_)
   · replace hF := bt N1 hF
     refine o_gu rfl rfl rfl <| oy hS y_move <| o_gu rfl rfl rfl <| oy hS y_bin <| oy hS y_pickT <| n_thenN ?_
     refine c_if (ht := fun R1 => ?_) (hf := fun R1 => ?_)
     · replace hF := bt R1 hF
       refine wp_skip ?_
       obtain rfl := osi hF
       change _ ∧ _
       exact ⟨Y0, mk_exF, (hS.re (.b .hb .n))⟩
     replace hF := bf R1 hF
     refine wp_exit ?_
     refine c_seq <| c_region <| oy hS y_move <| oy hS y_assign <| n_thenN ?_
     obtain rfl := osi hF
     obtain rfl : _ = M1 := Y0
     obtain rfl : _ = r := X0
     exact wp_ret (wr1 hS)
   replace hF := bf N1 hF
   iterate 2 (refine o_sk rfl rfl ?_)
   refine oy hS y_pickF <| n_thenN ?_
   refine c_if_false (h := ?_)
   refine wp_exit ?_
   refine c_seq <| c_region <| oy hS y_move <| oy hS y_assign <| n_thenN ?_
   obtain rfl := osi hF
   obtain rfl : _ = M1 := Y0
   obtain rfl : _ = r := X0
   exact wp_ret (wr1 hS)
 rintro a w ⟨hF, ⟨I6, rfl⟩, hS⟩
 dsimp only [l0_UnitWeight_k8] at hF
 refine c_seq <| c_block <| c_region <| oy hS y_move <| oy hS (y_field fa_api_Unit_2) <| oy hS (y_load oH underlying101 rfl rfl) <| oy hS y_move ?_
 obtain ⟨J6, M3, hF⟩ := ob hF
 obtain ⟨K6, M6, N6, I4, R6, J4, N3, R3, T3, U3, V3⟩ := SlT.at M3 K0 enc_len_Symbol
 refine oy hS (y_index N3 R3 T3 underlying101 el_api_Symbol.size) <| oy hS (y_field fa_api_Symbol_0) <| oy hS (y_load (fun w hS => hS.block U3) underlying9 rfl (V3 0 _ rfl)) <| oy hS (y_lens underlying9) ?_
 obtain ⟨T6, X3, hF⟩ := ob hF
 refine oy hS (y_quo X3) <| oy hS y_bin <| oy hS y_assign ?_
 refine n_anyN ?_
 refine c_region <| oy hS y_move <| oy hS y_bin <| oy hS y_assign <| n_thenN ?_
 obtain rfl := osi hF
 exact ⟨_, X0, mk_exF, (hS.re (.b .hb .n))⟩
theorem w_l0_UnitWeight {g : Frag} {a0 : T_Unit} {v0_ : Value} {r : Int} (h0 : Rd_Unit g a0 v0_) (hF : l0_UnitWeight a0 = some r) : LCs Tryz.prog 97 #[v0_] g (.int .i64 r) := w_l0_UnitWeight_ h0 hF

noncomputable def l12_Heavy_b1 (a0 : T_Ask) : (Int × Int) → Option (Step (Int × Int) Bool) := fun (x27, x28) => bif decide (x28 < (a0.U.length : Int)) then bif decide (x27 < 1048576) then (at' a0.U x28).bind fun x58 => (l0_UnitWeight x58).bind fun r78 => some (.next (IntKind.i64.wrap (x27 + r78), IntKind.i64.wrap (x28 + 1))) else some (.done (decide (900 < x27))) else some (.done (decide (900 < x27)))
noncomputable def l12_Heavy (a0 : T_Ask) : Option Bool :=
  (l0_Texts a0.S).bind fun r2 => (quo' .i64 r2 16).bind fun x3 => loop (σ := (Int × Int)) (l12_Heavy_b1 a0) (IntKind.i64.wrap ((a0.U.length : Int) + x3), 0)
theorem w_l12_Heavy_ {g : Frag} {a0 : T_Ask} {v0_ : Value} {r : Bool} (h0 : Rd_Ask g a0 v0_) (hF : l12_Heavy a0 = some r) : LCs Tryz.prog 55 #[v0_] g (.bool r) := by
 obtain ⟨B0, D0, rfl, I0, E0⟩ := h0
 unfold l12_Heavy at hF
 refine lc_body (k := 34) (av := [.agg (cl_Ask B0 D0).toArray]) func55 rfl rfl (h := fun W hS => ?_)
 refine c_seq <| c_region ?_
 refine o_boxP (cl := (cl_Ask B0 D0)) rfl hS ?_
 clear hS; intro b1 w hS
 refine oy hS y_assign <| n_thenN <| c_seq ?_
 refine c_quiet (by kernel_rfl) (by kernel_rfl) hS ?_
 refine qy (y_field fa_sledgelaw12_Ask_1) <| qy (y_load (fun w hS => hS.own (mH)) underlying23 rfl rfl) <| qy (y_lenN E0 underlying23) <| qy (y_field fa_sledgelaw12_Ask_0) <| qy (y_load (fun w hS => hS.own (mH)) underlying22 rfl rfl) ?_
 obtain ⟨r2, hr2, hF⟩ := ob hF
 refine q_callS func96 rfl rfl (hc := (w_l0_Texts (a0 := a0.S) (h0 := I0.plus) (hF := hr2))) (h := ?_)
 obtain ⟨x3, hx3, hF⟩ := ob hF
 refine qy (y_quo hx3) <| qy y_bin <| qy y_assign ?_
 refine q_nilN (h := ?_)
 clear hS; intro w hS
 iterate 2 (refine c_seq ?_)
 refine c_region <| oy hS y_assign <| n_thenN <| c_block ?_
 refine c_loopP hF (fun (q : (Int × Int)) a w' => (∃ s : Nat → Value, a = Ac ((((Fm.dead 34 s).upd 1 (.pointer (some ⟨b1, 0, none⟩))).upd 3 (.int .i64 q.1)).upd 4 (.int .i64 q.2))) ∧ St W g [] ((b1, blk (cl_Ask B0 D0) 25) :: []) w') ⟨mk_exF, (hS.re (.b .hb .n))⟩ ?_
 clear hS hF
 intro n54 q a w hI hq
 obtain ⟨x27, x28⟩ := q
 obtain ⟨⟨s55, rfl⟩, hS⟩ := hq
 obtain ⟨z52, hF, G0⟩ := iter_step hI
 clear hI
 dsimp only [l12_Heavy_b1] at hF
 iterate 2 (refine c_seq ?_)
 refine c_region <| oy hS y_move <| oy hS (y_field fa_sledgelaw12_Ask_1) <| oy hS (y_load oH underlying23 rfl rfl) <| oy hS (y_lenN E0 underlying23) <| oy hS y_bin ?_
 refine o_split (ht := fun c56 => ?_) (hf := fun c56 => ?_)
 · replace hF := bt c56 hF
   refine o_gu rfl rfl rfl <| oy hS y_move <| o_gu rfl rfl rfl <| oy hS y_bin <| oy hS y_pickT <| n_thenN ?_
   refine c_if (ht := fun c57 => ?_) (hf := fun c57 => ?_)
   · replace hF := bt c57 hF
     refine wp_skip <| c_seq <| c_block <| c_region <| oy hS y_move <| oy hS (y_field fa_sledgelaw12_Ask_1) <| oy hS (y_load oH underlying23 rfl rfl) <| oy hS y_move ?_
     obtain ⟨x58, J0, hF⟩ := ob hF
     obtain ⟨b59, o60, c61, I1, e63, J1, _, K0, M0, N0, R0, T0, U0, V0, X0, Y0, rfl, Z0, B1, D1, E1⟩ := SlN.at J0 E0
     refine oy hS (y_index K0 M0 N0 underlying23 el_api_Unit.size) ?_
     refine oy hS (y_loadN (vs := (cl_Unit U0 V0 X0 Y0)) (fun w hS => hS.block R0) underlying137 rfl (by exact sz_api_Unit) (fun j u hj => T0 j u hj)) ?_
     obtain ⟨r78, G1, hF⟩ := ob hF
     refine o_callS hS func97 rfl rfl (hc := (w_l0_UnitWeight (a0 := x58) (h0 := ⟨_, _, _, _, rfl, Z0.plus, B1.plus, D1.plus, E1.plus⟩) (hF := G1))) (h := ?_)
     clear hS; intro w hS
     refine oy hS y_bin <| oy hS y_assign ?_
     refine n_anyN ?_
     refine c_region <| oy hS y_move <| oy hS y_bin <| oy hS y_assign <| n_thenN ?_
     obtain rfl := osi hF
     exact ⟨_, G0, mk_exF, (hS.re (.b .hb .n))⟩
   replace hF := bf c57 hF
   refine wp_exit ?_
   refine c_seq <| c_region <| oy hS y_move <| oy hS y_bin <| oy hS y_assign <| n_thenN ?_
   obtain rfl := osi hF
   obtain rfl : _ = r := G0
   exact wp_ret (wr1 hS)
 replace hF := bf c56 hF
 iterate 2 (refine o_sk rfl rfl ?_)
 refine oy hS y_pickF <| n_thenN ?_
 refine c_if_false (h := ?_)
 refine wp_exit ?_
 refine c_seq <| c_region <| oy hS y_move <| oy hS y_bin <| oy hS y_assign <| n_thenN ?_
 obtain rfl := osi hF
 obtain rfl : _ = r := G0
 exact wp_ret (wr1 hS)
theorem w_l12_Heavy {g : Frag} {a0 : T_Ask} {v0_ : Value} {r : Bool} (h0 : Rd_Ask g a0 v0_) (hF : l12_Heavy a0 = some r) : LCs Tryz.prog 55 #[v0_] g (.bool r) := w_l12_Heavy_ h0 hF

noncomputable def l16_Heavy_b2 (a0 : T_Ask16) : (Int × Int) → Option (Step (Int × Int) (Step Int Bool)) := fun (B0, D0) => bif decide (D0 < (a0.O.length : Int)) then bif decide (B0 < 1048576) then (at' a0.O D0).bind fun E0 => (l0_ObjectWeight E0).bind fun G0 => some (.next (IntKind.i64.wrap (B0 + G0), IntKind.i64.wrap (D0 + 1))) else some (.done (.next B0)) else some (.done (.next B0))
noncomputable def l16_Heavy_k1 (a0 : T_Ask16) : Int → Option Bool := fun x77 => bif decide (900 < x77) then some (true) else (l12_Heavy a0.U).bind fun B0 => some (B0)
noncomputable def l16_Heavy (a0 : T_Ask16) : Option Bool :=
  cut (σ := Int) (loop (σ := (Int × Int)) (l16_Heavy_b2 a0) ((a0.O.length : Int), 0)) (l16_Heavy_k1 a0)
theorem w_l16_Heavy_ {g : Frag} {a0 : T_Ask16} {v0_ : Value} {r : Bool} (h0 : Rd_Ask16 g a0 v0_) (hF : l16_Heavy a0 = some r) : LCs Tryz.prog 32 #[v0_] g (.bool r) := by
 obtain ⟨B0, D0, E0, rfl, T0, U0, G0⟩ := h0
 unfold l16_Heavy at hF
 refine lc_body (k := 34) (av := [.agg (cl_Ask16 B0 D0 E0).toArray]) func32 rfl rfl (h := fun W hS => ?_)
 refine c_seq <| c_region ?_
 refine o_boxP (cl := (cl_Ask16 B0 D0 E0)) rfl hS ?_
 clear hS; intro b1 w hS
 refine oy hS y_assign <| n_thenN <| c_seq <| c_region <| oy hS (y_field fa_sledgelaw16_Ask16_1) <| oy hS (y_load oH underlying26 rfl rfl) <| oy hS (y_lenN G0 underlying26) <| oy hS y_assign ?_
 refine n_thenN ?_
 obtain ⟨z78, hF, N0⟩ := cut_step hF
 refine c_cutP (fun a w' => ∃ (x77 : Int), l16_Heavy_k1 a0 x77 = some r ∧ (∃ s : Nat → Value, a = Ac (((Fm.dead 34 s).upd 1 (.pointer (some ⟨b1, 0, none⟩))).upd 3 (.int .i64 x77))) ∧ St W g [] ((b1, blk (cl_Ask16 B0 D0 E0) 28) :: []) w') ?_ ?_
 · skip
   refine c_seq <| c_region <| oy hS y_assign <| n_thenN <| c_block ?_
   refine c_loopP hF (fun (q : (Int × Int)) a w' => (∃ s : Nat → Value, a = Ac ((((Fm.dead 34 s).upd 1 (.pointer (some ⟨b1, 0, none⟩))).upd 3 (.int .i64 q.1)).upd 4 (.int .i64 q.2))) ∧ St W g [] ((b1, blk (cl_Ask16 B0 D0 E0) 28) :: []) w') ⟨mk_exF, (hS.re (.b .hb .n))⟩ ?_
   clear hS hF
   intro Z1 q a w hI hq
   obtain ⟨R0, B2⟩ := q
   obtain ⟨⟨D2, rfl⟩, hS⟩ := hq
   obtain ⟨E2, hF, I0⟩ := iter_step hI
   clear hI
   dsimp only [l16_Heavy_b2] at hF
   iterate 2 (refine c_seq ?_)
   refine c_region <| oy hS y_move <| oy hS (y_field fa_sledgelaw16_Ask16_1) <| oy hS (y_load oH underlying26 rfl rfl) <| oy hS (y_lenN G0 underlying26) <| oy hS y_bin ?_
   refine o_split (ht := fun J0 => ?_) (hf := fun J0 => ?_)
   · replace hF := bt J0 hF
     refine o_gu rfl rfl rfl <| oy hS y_move <| o_gu rfl rfl rfl <| oy hS y_bin <| oy hS y_pickT <| n_thenN ?_
     refine c_if (ht := fun K0 => ?_) (hf := fun K0 => ?_)
     · replace hF := bt K0 hF
       refine wp_skip <| c_seq <| c_block <| c_region <| oy hS y_move <| oy hS (y_field fa_sledgelaw16_Ask16_1) <| oy hS (y_load oH underlying26 rfl rfl) <| oy hS y_move ?_
       obtain ⟨V1, V0, hF⟩ := ob hF
       obtain ⟨G2, I2, J2, X1, K2, Y1, _, X0, Y0, Z0, B1, D1, E1, G1, I1, J1, rfl, K1, M1, N1, R1⟩ := SlN.at V0 G0
       refine oy hS (y_index X0 Y0 Z0 underlying26 el_api_Object.size) ?_
       refine oy hS (y_loadN (vs := (cl_Object E1 G1 I1 J1)) (fun w hS => hS.block B1) underlying104 rfl (by exact sz_api_Object) (fun j u hj => D1 j u hj)) ?_
       obtain ⟨M2, T1, hF⟩ := ob hF
       refine o_callS hS func54 rfl rfl (hc := (w_l0_ObjectWeight (a0 := V1) (h0 := ⟨_, _, _, _, rfl, K1.plus, M1.plus, N1.plus, R1.plus⟩) (hF := T1))) (h := ?_)
       clear hS; intro w hS
       refine oy hS y_bin <| oy hS y_assign ?_
       refine n_anyN ?_
       refine c_region <| oy hS y_move <| oy hS y_bin <| oy hS y_assign <| n_thenN ?_
       obtain rfl := osi hF
       exact ⟨_, I0, mk_exF, (hS.re (.b .hb .n))⟩
     replace hF := bf K0 hF
     refine wp_exit ?_
     obtain rfl := osi hF
     obtain rfl : _ = z78 := I0
     change ∃ _, _
     exact ⟨R0, N0, mk_exF, (hS.re (.b .hb .n))⟩
   replace hF := bf J0 hF
   iterate 2 (refine o_sk rfl rfl ?_)
   refine oy hS y_pickF <| n_thenN ?_
   refine c_if_false (h := ?_)
   refine wp_exit ?_
   obtain rfl := osi hF
   obtain rfl : _ = z78 := I0
   change ∃ _, _
   exact ⟨R0, N0, mk_exF, (hS.re (.b .hb .n))⟩
 rintro a w ⟨x77, hF, ⟨N2, rfl⟩, hS⟩
 dsimp only [l16_Heavy_k1] at hF
 refine c_seq <| c_region <| oy hS y_move <| oy hS y_bin ?_
 refine o_split (ht := fun M0 => ?_) (hf := fun M0 => ?_)
 · replace hF := bt M0 hF
   iterate 3 (refine o_sk rfl rfl ?_)
   refine oy hS y_pickT <| oy hS y_assign <| n_thenN ?_
   obtain rfl := osi hF
   exact wp_ret (wr1 hS)
 replace hF := bf M0 hF
 refine o_gu rfl rfl rfl <| oy hS (y_field fa_sledgelaw16_Ask16_0) <| o_gu rfl rfl rfl ?_
 refine oy hS (y_loadN (vs := (cl_Ask B0 D0)) (fun w hS => hS.own (mH)) underlying25 rfl (by exact sz_sledgelaw12_Ask) (subd (o := 0 + 0) (by exact rfl))) ?_
 refine o_gu rfl rfl rfl ?_
 obtain ⟨R2, U1, hF⟩ := ob hF
 refine o_callS hS func55 rfl rfl (hc := (w_l12_Heavy (a0 := a0.U) (h0 := ⟨_, _, rfl, T0.plus, (SlN.plus mono_Unit U0)⟩) (hF := U1))) (h := ?_)
 clear hS; intro w hS
 refine oy hS y_pickF <| oy hS y_assign <| n_thenN ?_
 obtain rfl := osi hF
 exact wp_ret (wr1 hS)
theorem w_l16_Heavy {g : Frag} {a0 : T_Ask16} {v0_ : Value} {r : Bool} (h0 : Rd_Ask16 g a0 v0_) (hF : l16_Heavy a0 = some r) : LCs Tryz.prog 32 #[v0_] g (.bool r) := w_l16_Heavy_ h0 hF

noncomputable def l20_Heavy_k3 (a0 : T_Ask20) (B0 : Int) (D0 : Int) : Unit → Option (Step (Int × Int) (Step Int Bool)) := fun _ => (at' a0.X B0).bind fun E0 => (at' a0.X B0).bind fun G0 => (quo' .i64 (G0.Data.length : Int) 4).bind fun I0 => some (.next (IntKind.i64.wrap ((IntKind.i64.wrap (D0 + (IntKind.i64.wrap (4 * (E0.Code.length : Int))))) + I0), IntKind.i64.wrap (B0 + 1)))
noncomputable def l20_Heavy_b2 (a0 : T_Ask20) : (Int × Int) → Option (Step (Int × Int) (Step Int Bool)) := fun (B0, D0) => cut (σ := Unit) (bif decide (D0 < (a0.X.length : Int)) then bif decide (B0 < 1048576) then some (.next ()) else some (.done (.done (.next B0))) else some (.done (.done (.next B0)))) (l20_Heavy_k3 a0 D0 B0)
noncomputable def l20_Heavy_k6 (a0 : T_Ask20) (B0 : Int) (D0 : Int) : Unit → Option (Step (Int × Int) (Step Int Bool)) := fun _ => (at' a0.F B0).bind fun E0 => (l0_CodesWeight E0.Code).bind fun G0 => (at' a0.F B0).bind fun I0 => (quo' .i64 (I0.Data.length : Int) 4).bind fun J0 => some (.next (IntKind.i64.wrap ((IntKind.i64.wrap (D0 + G0)) + J0), IntKind.i64.wrap (B0 + 1)))
noncomputable def l20_Heavy_b5 (a0 : T_Ask20) : (Int × Int) → Option (Step (Int × Int) (Step Int Bool)) := fun (B0, D0) => cut (σ := Unit) (bif decide (D0 < (a0.F.length : Int)) then bif decide (B0 < 1048576) then some (.next ()) else some (.done (.done (.next B0))) else some (.done (.done (.next B0)))) (l20_Heavy_k6 a0 D0 B0)
noncomputable def l20_Heavy_k4 (a0 : T_Ask20) : Int → Option Bool := fun B0 => bif decide (900 < B0) then some (true) else (l16_Heavy a0.E).bind fun D0 => some (D0)
noncomputable def l20_Heavy_k1 (a0 : T_Ask20) : Int → Option Bool := fun B0 => cut (σ := Int) (loop (σ := (Int × Int)) (l20_Heavy_b5 a0) (B0, 0)) (l20_Heavy_k4 a0)
noncomputable def l20_Heavy (a0 : T_Ask20) : Option Bool :=
  cut (σ := Int) (loop (σ := (Int × Int)) (l20_Heavy_b2 a0) (IntKind.i64.wrap ((IntKind.i64.wrap ((a0.X.length : Int) + (a0.F.length : Int))) + (a0.In_.length : Int)), 0)) (l20_Heavy_k1 a0)
theorem w_l20_Heavy_ {g : Frag} {a0 : T_Ask20} {v0_ : Value} {r : Bool} (h0 : Rd_Ask20 g a0 v0_) (hF : l20_Heavy a0 = some r) : LCs Tryz.prog 15 #[v0_] g (.bool r) := by
 obtain ⟨B0, D0, E0, G0, I0, J0, rfl, X1, Y1, Z1, K0, M0, B2⟩ := h0
 unfold l20_Heavy at hF
 refine lc_body (k := 83) (av := [.agg (cl_Ask20 B0 D0 E0 G0 I0 J0).toArray]) func15 rfl rfl (h := fun W hS => ?_)
 refine c_seq <| c_region ?_
 refine o_boxP (cl := (cl_Ask20 B0 D0 E0 G0 I0 J0)) rfl hS ?_
 clear hS; intro b1 w hS
 refine oy hS y_assign <| n_thenN <| c_seq <| c_region <| oy hS (y_field fa_sledgelaw20_Ask20_1) <| oy hS (y_load oH underlying29 rfl rfl) <| oy hS (y_lenN K0 underlying29) <| oy hS (y_field fa_sledgelaw20_Ask20_2) ?_
 refine oy hS (y_load oH underlying30 rfl rfl) <| oy hS (y_lenN M0 underlying30) <| oy hS y_bin <| oy hS (y_field fa_sledgelaw20_Ask20_3) <| oy hS (y_load oH underlying31 rfl rfl) <| oy hS (y_len B2 underlying31) <| oy hS y_bin <| oy hS y_assign ?_
 refine n_thenN ?_
 obtain ⟨R1, hF, M1⟩ := cut_step hF
 refine c_cutP (fun a w' => ∃ (Y0 : Int), l20_Heavy_k1 a0 Y0 = some r ∧ (∃ s : Nat → Value, a = Ac (((Fm.dead 83 s).upd 1 (.pointer (some ⟨b1, 0, none⟩))).upd 3 (.int .i64 Y0))) ∧ St W g [] ((b1, blk (cl_Ask20 B0 D0 E0 G0 I0 J0) 33) :: []) w') ?_ ?_
 · skip
   refine c_seq <| c_region <| oy hS y_assign <| n_thenN <| c_block ?_
   refine c_loopP hF (fun (q : (Int × Int)) a w' => (∃ s : Nat → Value, a = Ac ((((Fm.dead 83 s).upd 1 (.pointer (some ⟨b1, 0, none⟩))).upd 3 (.int .i64 q.1)).upd 4 (.int .i64 q.2))) ∧ St W g [] ((b1, blk (cl_Ask20 B0 D0 E0 G0 I0 J0) 33) :: []) w') ⟨mk_exF, (hS.re (.b .hb .n))⟩ ?_
   clear hS hF
   intro K5 q a w hI hq
   obtain ⟨N0, T1⟩ := q
   obtain ⟨⟨M5, rfl⟩, hS⟩ := hq
   obtain ⟨Z0, hF, R0⟩ := iter_step hI
   clear hI
   dsimp only [l20_Heavy_b2] at hF
   obtain ⟨N5, hF, T0⟩ := cut_step hF
   refine c_cutP (fun a w' => l20_Heavy_k3 a0 T1 N0 () = some Z0 ∧ (∃ s : Nat → Value, a = Ac ((((Fm.dead 83 s).upd 1 (.pointer (some ⟨b1, 0, none⟩))).upd 3 (.int .i64 N0)).upd 4 (.int .i64 T1))) ∧ St W g [] ((b1, blk (cl_Ask20 B0 D0 E0 G0 I0 J0) 33) :: []) w') ?_ ?_
   · skip
     refine c_seq <| c_region <| oy hS y_move <| oy hS (y_field fa_sledgelaw20_Ask20_1) <| oy hS (y_load oH underlying29 rfl rfl) <| oy hS (y_lenN K0 underlying29) <| oy hS y_bin ?_
     refine o_split (ht := fun B1 => ?_) (hf := fun B1 => ?_)
     · replace hF := bt B1 hF
       refine o_gu rfl rfl rfl <| oy hS y_move <| o_gu rfl rfl rfl <| oy hS y_bin <| oy hS y_pickT <| n_thenN ?_
       refine c_if (ht := fun D1 => ?_) (hf := fun D1 => ?_)
       · replace hF := bt D1 hF
         refine wp_skip ?_
         obtain rfl := osi hF
         change _ ∧ _
         exact ⟨T0, mk_exF, (hS.re (.b .hb .n))⟩
       replace hF := bf D1 hF
       refine wp_exit ?_
       obtain rfl := osi hF
       obtain rfl : _ = Z0 := T0
       obtain rfl : _ = R1 := R0
       change ∃ _, _
       exact ⟨N0, M1, mk_exF, (hS.re (.b .hb .n))⟩
     replace hF := bf B1 hF
     iterate 2 (refine o_sk rfl rfl ?_)
     refine oy hS y_pickF <| n_thenN ?_
     refine c_if_false (h := ?_)
     refine wp_exit ?_
     obtain rfl := osi hF
     obtain rfl : _ = Z0 := T0
     obtain rfl : _ = R1 := R0
     change ∃ _, _
     exact ⟨N0, M1, mk_exF, (hS.re (.b .hb .n))⟩
   rintro a w ⟨hF, ⟨R5, rfl⟩, hS⟩
   dsimp only [l20_Heavy_k3] at hF
   refine c_seq <| c_block ?_
   refine c_quiet (by kernel_rfl) (by kernel_rfl) hS ?_
   refine qy y_move <| qy (y_field fa_sledgelaw20_Ask20_1) <| qy (y_load (fun w hS => hS.own (mH)) underlying29 rfl rfl) <| qy y_move ?_
   obtain ⟨T5, D2, hF⟩ := ob hF
   obtain ⟨U5, V5, X5, E4, Y5, G4, _, E2, G2, I2, J2, K2, I4, J4, rfl, M2, K4⟩ := SlN.at D2 K0
   refine qy (y_index E2 G2 I2 underlying29 el_api_Image.size) <| qy (y_field fa_api_Image_0) <| qy (y_load (fun w hS => hS.block J2) underlying38 rfl (K2 0 _ rfl)) <| qy (y_len M2 underlying38) ?_
   iterate 2 (refine qy y_bin ?_)
   refine qy (y_field fa_sledgelaw20_Ask20_1) <| qy (y_load (fun w hS => hS.own (mH)) underlying29 rfl rfl) <| qy y_move ?_
   obtain ⟨Z5, N2, hF⟩ := ob hF
   obtain ⟨B6, D6, E6, M4, G6, N4, _, R2, T2, U2, V2, X2, R4, T4, rfl, U4, Y2⟩ := SlN.at N2 K0
   refine qy (y_index R2 T2 U2 underlying29 el_api_Image.size) <| qy (y_field fa_api_Image_1) <| qy (y_load (fun w hS => hS.block V2) underlying31 rfl (X2 1 _ rfl)) <| qy (y_len Y2 underlying31) ?_
   obtain ⟨I6, Z2, hF⟩ := ob hF
   refine qy (y_quo Z2) <| qy y_bin <| qy y_assign ?_
   refine q_nilN (h := ?_)
   clear hS; intro w hS
   refine c_region <| oy hS y_move <| oy hS y_bin <| oy hS y_assign <| n_thenN ?_
   obtain rfl := osi hF
   exact ⟨_, R0, mk_exF, (hS.re (.b .hb .n))⟩
 rintro a w ⟨Y0, hF, ⟨J6, rfl⟩, hS⟩
 dsimp only [l20_Heavy_k1] at hF
 obtain ⟨U1, hF, N1⟩ := cut_step hF
 refine c_cutP (fun a w' => ∃ (E1 : Int), l20_Heavy_k4 a0 E1 = some r ∧ (∃ s : Nat → Value, a = Ac (((Fm.dead 83 s).upd 1 (.pointer (some ⟨b1, 0, none⟩))).upd 3 (.int .i64 E1))) ∧ St W g [] ((b1, blk (cl_Ask20 B0 D0 E0 G0 I0 J0) 33) :: []) w') ?_ ?_
 · skip
   refine c_seq <| c_region <| oy hS y_assign <| n_thenN <| c_block ?_
   refine c_loopP hF (fun (q : (Int × Int)) a w' => (∃ s : Nat → Value, a = Ac ((((Fm.dead 83 s).upd 1 (.pointer (some ⟨b1, 0, none⟩))).upd 3 (.int .i64 q.1)).upd 5 (.int .i64 q.2))) ∧ St W g [] ((b1, blk (cl_Ask20 B0 D0 E0 G0 I0 J0) 33) :: []) w') ⟨mk_exF, (hS.re (.b .hb .n))⟩ ?_
   clear hS hF
   intro K6 q a w hI hq
   obtain ⟨U0, V1⟩ := q
   obtain ⟨⟨M6, rfl⟩, hS⟩ := hq
   obtain ⟨G1, hF, V0⟩ := iter_step hI
   clear hI
   dsimp only [l20_Heavy_b5] at hF
   obtain ⟨N6, hF, X0⟩ := cut_step hF
   refine c_cutP (fun a w' => l20_Heavy_k6 a0 V1 U0 () = some G1 ∧ (∃ s : Nat → Value, a = Ac ((((Fm.dead 83 s).upd 1 (.pointer (some ⟨b1, 0, none⟩))).upd 3 (.int .i64 U0)).upd 5 (.int .i64 V1))) ∧ St W g [] ((b1, blk (cl_Ask20 B0 D0 E0 G0 I0 J0) 33) :: []) w') ?_ ?_
   · skip
     refine c_seq <| c_region <| oy hS y_move <| oy hS (y_field fa_sledgelaw20_Ask20_2) <| oy hS (y_load oH underlying30 rfl rfl) <| oy hS (y_lenN M0 underlying30) <| oy hS y_bin ?_
     refine o_split (ht := fun I1 => ?_) (hf := fun I1 => ?_)
     · replace hF := bt I1 hF
       refine o_gu rfl rfl rfl <| oy hS y_move <| o_gu rfl rfl rfl <| oy hS y_bin <| oy hS y_pickT <| n_thenN ?_
       refine c_if (ht := fun J1 => ?_) (hf := fun J1 => ?_)
       · replace hF := bt J1 hF
         refine wp_skip ?_
         obtain rfl := osi hF
         change _ ∧ _
         exact ⟨X0, mk_exF, (hS.re (.b .hb .n))⟩
       replace hF := bf J1 hF
       refine wp_exit ?_
       obtain rfl := osi hF
       obtain rfl : _ = G1 := X0
       obtain rfl : _ = U1 := V0
       change ∃ _, _
       exact ⟨U0, N1, mk_exF, (hS.re (.b .hb .n))⟩
     replace hF := bf I1 hF
     iterate 2 (refine o_sk rfl rfl ?_)
     refine oy hS y_pickF <| n_thenN ?_
     refine c_if_false (h := ?_)
     refine wp_exit ?_
     obtain rfl := osi hF
     obtain rfl : _ = G1 := X0
     obtain rfl : _ = U1 := V0
     change ∃ _, _
     exact ⟨U0, N1, mk_exF, (hS.re (.b .hb .n))⟩
   rintro a w ⟨hF, ⟨R6, rfl⟩, hS⟩
   dsimp only [l20_Heavy_k6] at hF
   refine c_seq <| c_block ?_
   refine c_quiet (by kernel_rfl) (by kernel_rfl) hS ?_
   refine qy y_move <| qy (y_field fa_sledgelaw20_Ask20_2) <| qy (y_load (fun w hS => hS.own (mH)) underlying30 rfl rfl) <| qy y_move ?_
   obtain ⟨D4, B3, hF⟩ := ob hF
   obtain ⟨T6, U6, V6, V4, X6, X4, _, D3, E3, G3, I3, J3, Y4, Z4, rfl, K3, B5⟩ := SlN.at B3 M0
   refine qy (y_index D3 E3 G3 underlying30 el_api_Flat.size) <| qy (y_field fa_api_Flat_0) <| qy (y_load (fun w hS => hS.block I3) underlying53 rfl (J3 0 _ rfl)) ?_
   obtain ⟨Y6, M3, hF⟩ := ob hF
   refine q_callS func31 rfl rfl (hc := (w_l0_CodesWeight (a0 := D4.Code) (h0 := K3.plus) (hF := M3))) (h := ?_)
   refine qy y_bin <| qy (y_field fa_sledgelaw20_Ask20_2) <| qy (y_load (fun w hS => hS.own (mH)) underlying30 rfl rfl) <| qy y_move ?_
   obtain ⟨Z6, N3, hF⟩ := ob hF
   obtain ⟨B7, D7, E7, D5, G7, E5, _, R3, T3, U3, V3, X3, G5, I5, rfl, J5, Y3⟩ := SlN.at N3 M0
   refine qy (y_index R3 T3 U3 underlying30 el_api_Flat.size) <| qy (y_field fa_api_Flat_1) <| qy (y_load (fun w hS => hS.block V3) underlying31 rfl (X3 1 _ rfl)) <| qy (y_len Y3 underlying31) ?_
   obtain ⟨I7, Z3, hF⟩ := ob hF
   refine qy (y_quo Z3) <| qy y_bin <| qy y_assign ?_
   refine q_nilN (h := ?_)
   clear hS; intro w hS
   refine c_region <| oy hS y_move <| oy hS y_bin <| oy hS y_assign <| n_thenN ?_
   obtain rfl := osi hF
   exact ⟨_, V0, mk_exF, (hS.re (.b .hb .n))⟩
 rintro a w ⟨E1, hF, ⟨J7, rfl⟩, hS⟩
 dsimp only [l20_Heavy_k4] at hF
 refine c_seq <| c_region <| oy hS y_move <| oy hS y_bin ?_
 refine o_split (ht := fun K1 => ?_) (hf := fun K1 => ?_)
 · replace hF := bt K1 hF
   iterate 3 (refine o_sk rfl rfl ?_)
   refine oy hS y_pickT <| oy hS y_assign <| n_thenN ?_
   obtain rfl := osi hF
   exact wp_ret (wr1 hS)
 replace hF := bf K1 hF
 refine o_gu rfl rfl rfl <| oy hS (y_field fa_sledgelaw20_Ask20_0) <| o_gu rfl rfl rfl ?_
 refine oy hS (y_loadN (vs := (cl_Ask16 B0 D0 E0)) (fun w hS => hS.own (mH)) underlying28 rfl (by exact sz_sledgelaw16_Ask16) (subd (o := 0 + 0) (by exact rfl))) ?_
 refine o_gu rfl rfl rfl ?_
 obtain ⟨K7, B4, hF⟩ := ob hF
 refine o_callS hS func32 rfl rfl (hc := (w_l16_Heavy (a0 := a0.E) (h0 := ⟨_, _, _, rfl, X1.plus, (SlN.plus mono_Unit Y1), (SlN.plus mono_Object Z1)⟩) (hF := B4))) (h := ?_)
 clear hS; intro w hS
 refine oy hS y_pickF <| oy hS y_assign <| n_thenN ?_
 obtain rfl := osi hF
 exact wp_ret (wr1 hS)
theorem w_l20_Heavy {g : Frag} {a0 : T_Ask20} {v0_ : Value} {r : Bool} (h0 : Rd_Ask20 g a0 v0_) (hF : l20_Heavy a0 = some r) : LCs Tryz.prog 15 #[v0_] g (.bool r) := w_l20_Heavy_ h0 hF

noncomputable def l23_Heavy (a0 : T_Ask23) : Option Bool :=
  (l20_Heavy a0.I).bind fun r2 => some (r2)
theorem w_l23_Heavy_ {g : Frag} {a0 : T_Ask23} {v0_ : Value} {r : Bool} (h0 : Rd_Ask23 g a0 v0_) (hF : l23_Heavy a0 = some r) : LCs Tryz.prog 4 #[v0_] g (.bool r) := by
 obtain ⟨B0, D0, E0, G0, I0, J0, rfl, K0, M0, N0, R0, T0, U0⟩ := h0
 unfold l23_Heavy at hF
 refine lc_body (k := 6) (av := [.agg (cl_Ask23 B0 D0 E0 G0 I0 J0 a0.N).toArray]) func4 rfl rfl (h := fun W hS => ?_)
 refine c_seq <| c_region ?_
 refine o_boxP (cl := (cl_Ask23 B0 D0 E0 G0 I0 J0 a0.N)) rfl hS ?_
 clear hS; intro b1 w hS
 refine oy hS y_assign <| n_thenN <| c_seq <| c_region <| oy hS (y_field fa_sledgelaw23_Ask23_0) ?_
 refine oy hS (y_loadN (vs := (cl_Ask20 B0 D0 E0 G0 I0 J0)) (fun w hS => hS.own (mH)) underlying33 rfl (by exact sz_sledgelaw20_Ask20) (subd (o := 0 + 0) (by exact rfl))) ?_
 obtain ⟨r2, hr2, hF⟩ := ob hF
 refine o_callS hS func15 rfl rfl (hc := (w_l20_Heavy (a0 := a0.I) (h0 := ⟨_, _, _, _, _, _, rfl, K0.plus, (SlN.plus mono_Unit M0), (SlN.plus mono_Object N0), (SlN.plus mono_Image R0), (SlN.plus mono_Flat T0), U0.plus⟩) (hF := hr2))) (h := ?_)
 clear hS; intro w hS
 refine oy hS y_assign <| n_thenN ?_
 obtain rfl := osi hF
 exact wp_ret (wr1 hS)
theorem w_l23_Heavy {g : Frag} {a0 : T_Ask23} {v0_ : Value} {r : Bool} (h0 : Rd_Ask23 g a0 v0_) (hF : l23_Heavy a0 = some r) : LCs Tryz.prog 4 #[v0_] g (.bool r) := w_l23_Heavy_ h0 hF

def isa_Is (a0 : Int) : Bool :=
  bif decide (0 ≤ a0) then decide (a0 ≤ 33) else false
theorem w_isa_Is_ {g : Frag} {a0 : Int} {r : Bool}  (hF : isa_Is a0 = r) : LCs Tryz.prog 114 #[.int .i64 a0] g (.bool r) := by
 unfold isa_Is at hF
 refine lc_body (k := 9) (av := [.int .i64 a0]) func114 rfl rfl (h := fun W hS => ?_)
 refine c_seq <| c_region <| oy hS y_assign <| n_thenN <| c_seq <| c_region <| oy hS y_move <| oy hS y_bin ?_
 refine o_split (ht := fun c1 => ?_) (hf := fun c1 => ?_)
 · replace hF := bt c1 hF
   refine o_gu rfl rfl rfl <| oy hS y_move <| o_gu rfl rfl rfl <| oy hS y_bin <| oy hS y_pickT <| oy hS y_assign <| n_thenN ?_
   subst hF
   exact wp_ret (wr1 hS)
 replace hF := bf c1 hF
 iterate 2 (refine o_sk rfl rfl ?_)
 refine oy hS y_pickF <| oy hS y_assign <| n_thenN ?_
 subst hF
 exact wp_ret (wr1 hS)
theorem w_isa_Is {g : Frag} {a0 : Int}  : LCs Tryz.prog 114 #[.int .i64 a0] g (.bool (isa_Is a0)) := w_isa_Is_  rfl

def isa_Shape (a0 : Int) : Int :=
  bif decide (a0 = 21) then 2 else bif decide (a0 = 22) then 3 else bif decide (a0 = 24) then 3 else bif decide (a0 = 23) then 4 else bif decide (a0 = 25) then 5 else bif decide (a0 = 26) then 6 else bif decide (a0 = 27) then 7 else bif decide (a0 = 28) then 8 else bif decide (a0 = 31) then 8 else bif decide (a0 = 29) then 9 else bif decide (a0 = 30) then 9 else bif decide (a0 = 0) then 0 else bif decide (a0 = 32) then 0 else bif decide (a0 = 33) then 0 else 1
theorem w_isa_Shape_ {g : Frag} {a0 : Int} {r : Int}  (hF : isa_Shape a0 = r) : LCs Tryz.prog 62 #[.int .i64 a0] g (.int .i64 r) := by
 unfold isa_Shape at hF
 refine lc_body (k := 27) (av := [.int .i64 a0]) func62 rfl rfl (h := fun W hS => ?_)
 refine c_seq <| c_region <| oy hS y_assign <| n_thenN ?_
 iterate 2 (refine c_seq ?_)
 refine c_region <| oy hS y_move <| n_thenN <| c_block <| c_seq <| c_region <| oy hS y_bin <| oy hS y_assign ?_
 refine n_thenN ?_
 refine c_if (ht := fun c1 => ?_) (hf := fun c1 => ?_)
 · replace hF := bt c1 hF
   refine c_seq <| c_region <| oy hS y_assign <| n_thenN ?_
   subst hF
   exact wp_ret (wr1 hS)
 replace hF := bf c1 hF
 iterate 2 (refine c_seq ?_)
 refine c_region <| oy hS y_bin <| oy hS y_assign <| n_thenN ?_
 refine c_if (ht := fun c2 => ?_) (hf := fun c2 => ?_)
 · replace hF := bt c2 hF
   refine wp_skip ?_
   refine c_ifT c2 ?_
   refine c_seq <| c_region <| oy hS y_assign <| n_thenN ?_
   subst hF
   exact wp_ret (wr1 hS)
 replace hF := bf c2 hF
 refine c_region <| oy hS y_bin <| oy hS y_assign <| n_thenN ?_
 refine c_if (ht := fun c3 => ?_) (hf := fun c3 => ?_)
 · replace hF := bt c3 hF
   refine c_seq <| c_region <| oy hS y_assign <| n_thenN ?_
   subst hF
   exact wp_ret (wr1 hS)
 replace hF := bf c3 hF
 refine c_seq <| c_region <| oy hS y_bin <| oy hS y_assign <| n_thenN ?_
 refine c_if (ht := fun c4 => ?_) (hf := fun c4 => ?_)
 · replace hF := bt c4 hF
   refine c_seq <| c_region <| oy hS y_assign <| n_thenN ?_
   subst hF
   exact wp_ret (wr1 hS)
 replace hF := bf c4 hF
 refine c_seq <| c_region <| oy hS y_bin <| oy hS y_assign <| n_thenN ?_
 refine c_if (ht := fun c5 => ?_) (hf := fun c5 => ?_)
 · replace hF := bt c5 hF
   refine c_seq <| c_region <| oy hS y_assign <| n_thenN ?_
   subst hF
   exact wp_ret (wr1 hS)
 replace hF := bf c5 hF
 refine c_seq <| c_region <| oy hS y_bin <| oy hS y_assign <| n_thenN ?_
 refine c_if (ht := fun c6 => ?_) (hf := fun c6 => ?_)
 · replace hF := bt c6 hF
   refine c_seq <| c_region <| oy hS y_assign <| n_thenN ?_
   subst hF
   exact wp_ret (wr1 hS)
 replace hF := bf c6 hF
 refine c_seq <| c_region <| oy hS y_bin <| oy hS y_assign <| n_thenN ?_
 refine c_if (ht := fun c7 => ?_) (hf := fun c7 => ?_)
 · replace hF := bt c7 hF
   refine c_seq <| c_region <| oy hS y_assign <| n_thenN ?_
   subst hF
   exact wp_ret (wr1 hS)
 replace hF := bf c7 hF
 iterate 2 (refine c_seq ?_)
 refine c_region <| oy hS y_bin <| oy hS y_assign <| n_thenN ?_
 refine c_if (ht := fun c8 => ?_) (hf := fun c8 => ?_)
 · replace hF := bt c8 hF
   refine wp_skip ?_
   refine c_ifT c8 ?_
   refine c_seq <| c_region <| oy hS y_assign <| n_thenN ?_
   subst hF
   exact wp_ret (wr1 hS)
 replace hF := bf c8 hF
 refine c_region <| oy hS y_bin <| oy hS y_assign <| n_thenN ?_
 refine c_if (ht := fun c9 => ?_) (hf := fun c9 => ?_)
 · replace hF := bt c9 hF
   refine c_seq <| c_region <| oy hS y_assign <| n_thenN ?_
   subst hF
   exact wp_ret (wr1 hS)
 replace hF := bf c9 hF
 iterate 2 (refine c_seq ?_)
 refine c_region <| oy hS y_bin <| oy hS y_assign <| n_thenN ?_
 refine c_if (ht := fun c10 => ?_) (hf := fun c10 => ?_)
 · replace hF := bt c10 hF
   refine wp_skip ?_
   refine c_ifT c10 ?_
   refine c_seq <| c_region <| oy hS y_assign <| n_thenN ?_
   subst hF
   exact wp_ret (wr1 hS)
 replace hF := bf c10 hF
 refine c_region <| oy hS y_bin <| oy hS y_assign <| n_thenN ?_
 refine c_if (ht := fun c11 => ?_) (hf := fun c11 => ?_)
 · replace hF := bt c11 hF
   refine c_seq <| c_region <| oy hS y_assign <| n_thenN ?_
   subst hF
   exact wp_ret (wr1 hS)
 replace hF := bf c11 hF
 iterate 2 (refine c_seq ?_)
 refine c_region <| oy hS y_bin <| oy hS y_assign <| n_thenN ?_
 refine c_if (ht := fun c12 => ?_) (hf := fun c12 => ?_)
 · replace hF := bt c12 hF
   refine wp_skip ?_
   refine c_ifT c12 ?_
   refine c_seq <| c_region <| oy hS y_assign <| n_thenN ?_
   subst hF
   exact wp_ret (wr1 hS)
 replace hF := bf c12 hF
 refine c_seq <| c_region <| oy hS y_bin <| oy hS y_assign <| n_thenN ?_
 refine c_if (ht := fun c13 => ?_) (hf := fun c13 => ?_)
 · replace hF := bt c13 hF
   refine wp_skip ?_
   refine c_ifT c13 ?_
   refine c_seq <| c_region <| oy hS y_assign <| n_thenN ?_
   subst hF
   exact wp_ret (wr1 hS)
 replace hF := bf c13 hF
 refine c_region <| oy hS y_bin <| oy hS y_assign <| n_thenN ?_
 refine c_if (ht := fun c14 => ?_) (hf := fun c14 => ?_)
 · replace hF := bt c14 hF
   refine c_seq <| c_region <| oy hS y_assign <| n_thenN ?_
   subst hF
   exact wp_ret (wr1 hS)
 replace hF := bf c14 hF
 refine wp_skip <| c_seq <| c_region <| oy hS y_assign <| n_thenN ?_
 subst hF
 exact wp_ret (wr1 hS)
theorem w_isa_Shape {g : Frag} {a0 : Int}  : LCs Tryz.prog 62 #[.int .i64 a0] g (.int .i64 (isa_Shape a0)) := w_isa_Shape_  rfl

def isa_HasD (a0 : Int) : Bool :=
  bif decide (1 ≤ a0) then bif decide (a0 ≤ 4) then true else decide (a0 = 6) else decide (a0 = 6)
theorem w_isa_HasD_ {g : Frag} {a0 : Int} {r : Bool}  (hF : isa_HasD a0 = r) : LCs Tryz.prog 61 #[.int .i64 a0] g (.bool r) := by
 unfold isa_HasD at hF
 refine lc_body (k := 13) (av := [.int .i64 a0]) func61 rfl rfl (h := fun W hS => ?_)
 refine c_seq <| c_region <| oy hS y_assign <| n_thenN <| c_seq <| c_region <| oy hS y_move <| oy hS y_bin ?_
 refine o_split (ht := fun c1 => ?_) (hf := fun c1 => ?_)
 · replace hF := bt c1 hF
   refine o_gu rfl rfl rfl <| oy hS y_move <| o_gu rfl rfl rfl <| oy hS y_bin <| oy hS y_pickT ?_
   refine o_split (ht := fun c2 => ?_) (hf := fun c2 => ?_)
   · replace hF := bt c2 hF
     iterate 2 (refine o_sk rfl rfl ?_)
     refine oy hS y_pickT <| oy hS y_assign <| n_thenN ?_
     subst hF
     exact wp_ret (wr1 hS)
   replace hF := bf c2 hF
   refine o_gu rfl rfl rfl <| oy hS y_move <| o_gu rfl rfl rfl <| oy hS y_bin <| oy hS y_pickF <| oy hS y_assign <| n_thenN ?_
   subst hF
   exact wp_ret (wr1 hS)
 replace hF := bf c1 hF
 iterate 2 (refine o_sk rfl rfl ?_)
 refine oy hS y_pickF <| oy hS y_move <| o_gu rfl rfl rfl <| oy hS y_move <| o_gu rfl rfl rfl <| oy hS y_bin <| oy hS y_pickF <| oy hS y_assign ?_
 refine n_thenN ?_
 subst hF
 exact wp_ret (wr1 hS)
theorem w_isa_HasD {g : Frag} {a0 : Int}  : LCs Tryz.prog 61 #[.int .i64 a0] g (.bool (isa_HasD a0)) := w_isa_HasD_  rfl

def isa_reg (a0 : Bool) (a1 : Int) : Bool :=
  bif decide (a1 = 0) then true else bif a0 then bif decide (0 < a1) then decide (a1 < 16) else false else false
theorem w_isa_reg_ {g : Frag} {a0 : Bool} {a1 : Int} {r : Bool}  (hF : isa_reg a0 a1 = r) : LCs Tryz.prog 115 #[.bool a0, .int .i64 a1] g (.bool r) := by
 unfold isa_reg at hF
 refine lc_body (k := 18) (av := [.bool a0, .int .i64 a1]) func115 rfl rfl (h := fun W hS => ?_)
 refine c_seq <| c_region <| oy hS y_assign <| n_thenN <| c_seq <| c_region <| oy hS y_move <| oy hS y_bin ?_
 refine o_split (ht := fun c1 => ?_) (hf := fun c1 => ?_)
 · replace hF := bt c1 hF
   iterate 2 (refine o_sk rfl rfl ?_)
   iterate 2 (refine o_sku rfl rfl ?_)
   iterate 2 (refine o_sk rfl rfl ?_)
   iterate 2 (refine o_sku rfl rfl ?_)
   refine o_sk rfl rfl ?_
   refine oy hS y_pickT <| oy hS y_assign <| n_thenN ?_
   subst hF
   exact wp_ret (wr1 hS)
 replace hF := bf c1 hF
 refine o_gu rfl rfl rfl <| oy hS y_move <| o_gu rfl rfl rfl ?_
 refine o_split (ht := fun c2 => ?_) (hf := fun c2 => ?_)
 · replace hF := bt c2 hF
   refine o_gu rfl rfl rfl <| oy hS y_move <| o_gu rfl rfl rfl <| oy hS y_bin <| o_gu rfl rfl rfl <| oy hS y_pickT <| o_gu rfl rfl rfl ?_
   refine o_split (ht := fun c3 => ?_) (hf := fun c3 => ?_)
   · replace hF := bt c3 hF
     refine o_gu rfl rfl rfl <| oy hS y_move <| o_gu rfl rfl rfl <| oy hS y_bin <| o_gu rfl rfl rfl <| oy hS y_pickT <| oy hS y_pickF <| oy hS y_assign ?_
     refine n_thenN ?_
     subst hF
     exact wp_ret (wr1 hS)
   replace hF := bf c3 hF
   iterate 2 (refine o_sk rfl rfl ?_)
   refine o_gu rfl rfl rfl ?_
   iterate 2 (refine oy hS y_pickF ?_)
   refine oy hS y_assign <| n_thenN ?_
   subst hF
   exact wp_ret (wr1 hS)
 replace hF := bf c2 hF
 iterate 2 (refine o_sk rfl rfl ?_)
 refine o_gu rfl rfl rfl <| oy hS y_pickF <| o_gu rfl rfl rfl <| oy hS y_move ?_
 iterate 2 (refine o_sk rfl rfl ?_)
 refine o_gu rfl rfl rfl ?_
 iterate 2 (refine oy hS y_pickF ?_)
 refine oy hS y_assign <| n_thenN ?_
 subst hF
 exact wp_ret (wr1 hS)
theorem w_isa_reg {g : Frag} {a0 : Bool} {a1 : Int}  : LCs Tryz.prog 115 #[.bool a0, .int .i64 a1] g (.bool (isa_reg a0 a1)) := w_isa_reg_  rfl

def isa_HasA (a0 : Int) : Bool :=
  bif decide (a0 = 1) then true else bif decide (a0 = 2) then true else bif decide (a0 = 3) then true else bif decide (a0 = 5) then true else bif decide (a0 = 7) then true else bif decide (a0 = 9) then true else false
theorem w_isa_HasA_ {g : Frag} {a0 : Int} {r : Bool}  (hF : isa_HasA a0 = r) : LCs Tryz.prog 116 #[.int .i64 a0] g (.bool r) := by
 unfold isa_HasA at hF
 refine lc_body (k := 11) (av := [.int .i64 a0]) func116 rfl rfl (h := fun W hS => ?_)
 refine c_seq <| c_region <| oy hS y_assign <| n_thenN ?_
 iterate 2 (refine c_seq ?_)
 refine c_region <| oy hS y_move <| n_thenN <| c_block ?_
 iterate 2 (refine c_seq ?_)
 refine c_region <| oy hS y_bin <| oy hS y_assign <| n_thenN ?_
 refine c_if (ht := fun c1 => ?_) (hf := fun c1 => ?_)
 · replace hF := bt c1 hF
   refine wp_skip ?_
   refine c_ifT c1 ?_
   refine c_seq <| c_region <| oy hS y_assign <| n_thenN ?_
   subst hF
   exact wp_ret (wr1 hS)
 replace hF := bf c1 hF
 refine c_seq <| c_region <| oy hS y_bin <| oy hS y_assign <| n_thenN ?_
 refine c_if (ht := fun c2 => ?_) (hf := fun c2 => ?_)
 · replace hF := bt c2 hF
   refine wp_skip ?_
   refine c_ifT c2 ?_
   refine c_seq <| c_region <| oy hS y_assign <| n_thenN ?_
   subst hF
   exact wp_ret (wr1 hS)
 replace hF := bf c2 hF
 refine c_seq <| c_region <| oy hS y_bin <| oy hS y_assign <| n_thenN ?_
 refine c_if (ht := fun c3 => ?_) (hf := fun c3 => ?_)
 · replace hF := bt c3 hF
   refine wp_skip ?_
   refine c_ifT c3 ?_
   refine c_seq <| c_region <| oy hS y_assign <| n_thenN ?_
   subst hF
   exact wp_ret (wr1 hS)
 replace hF := bf c3 hF
 refine c_seq <| c_region <| oy hS y_bin <| oy hS y_assign <| n_thenN ?_
 refine c_if (ht := fun c4 => ?_) (hf := fun c4 => ?_)
 · replace hF := bt c4 hF
   refine wp_skip ?_
   refine c_ifT c4 ?_
   refine c_seq <| c_region <| oy hS y_assign <| n_thenN ?_
   subst hF
   exact wp_ret (wr1 hS)
 replace hF := bf c4 hF
 refine c_seq <| c_region <| oy hS y_bin <| oy hS y_assign <| n_thenN ?_
 refine c_if (ht := fun c5 => ?_) (hf := fun c5 => ?_)
 · replace hF := bt c5 hF
   refine wp_skip ?_
   refine c_ifT c5 ?_
   refine c_seq <| c_region <| oy hS y_assign <| n_thenN ?_
   subst hF
   exact wp_ret (wr1 hS)
 replace hF := bf c5 hF
 refine c_region <| oy hS y_bin <| oy hS y_assign <| n_thenN ?_
 refine c_if (ht := fun c6 => ?_) (hf := fun c6 => ?_)
 · replace hF := bt c6 hF
   refine c_seq <| c_region <| oy hS y_assign <| n_thenN ?_
   subst hF
   exact wp_ret (wr1 hS)
 replace hF := bf c6 hF
 refine wp_skip <| c_seq <| c_region <| oy hS y_assign <| n_thenN ?_
 subst hF
 exact wp_ret (wr1 hS)
theorem w_isa_HasA {g : Frag} {a0 : Int}  : LCs Tryz.prog 116 #[.int .i64 a0] g (.bool (isa_HasA a0)) := w_isa_HasA_  rfl

def isa_HasB (a0 : Int) : Bool :=
  bif decide (a0 = 1) then true else decide (a0 = 5)
theorem w_isa_HasB_ {g : Frag} {a0 : Int} {r : Bool}  (hF : isa_HasB a0 = r) : LCs Tryz.prog 117 #[.int .i64 a0] g (.bool r) := by
 unfold isa_HasB at hF
 refine lc_body (k := 9) (av := [.int .i64 a0]) func117 rfl rfl (h := fun W hS => ?_)
 refine c_seq <| c_region <| oy hS y_assign <| n_thenN <| c_seq <| c_region <| oy hS y_move <| oy hS y_bin ?_
 refine o_split (ht := fun c1 => ?_) (hf := fun c1 => ?_)
 · replace hF := bt c1 hF
   iterate 2 (refine o_sk rfl rfl ?_)
   refine oy hS y_pickT <| oy hS y_assign <| n_thenN ?_
   subst hF
   exact wp_ret (wr1 hS)
 replace hF := bf c1 hF
 refine o_gu rfl rfl rfl <| oy hS y_move <| o_gu rfl rfl rfl <| oy hS y_bin <| oy hS y_pickF <| oy hS y_assign <| n_thenN ?_
 subst hF
 exact wp_ret (wr1 hS)
theorem w_isa_HasB {g : Frag} {a0 : Int}  : LCs Tryz.prog 117 #[.int .i64 a0] g (.bool (isa_HasB a0)) := w_isa_HasB_  rfl

def isa_Target (a0 : Int) : Bool :=
  bif decide (a0 = 8) then true else decide (a0 = 9)
theorem w_isa_Target_ {g : Frag} {a0 : Int} {r : Bool}  (hF : isa_Target a0 = r) : LCs Tryz.prog 141 #[.int .i64 a0] g (.bool r) := by
 unfold isa_Target at hF
 refine lc_body (k := 9) (av := [.int .i64 a0]) func141 rfl rfl (h := fun W hS => ?_)
 refine c_seq <| c_region <| oy hS y_assign <| n_thenN <| c_seq <| c_region <| oy hS y_move <| oy hS y_bin ?_
 refine o_split (ht := fun c1 => ?_) (hf := fun c1 => ?_)
 · replace hF := bt c1 hF
   iterate 2 (refine o_sk rfl rfl ?_)
   refine oy hS y_pickT <| oy hS y_assign <| n_thenN ?_
   subst hF
   exact wp_ret (wr1 hS)
 replace hF := bf c1 hF
 refine o_gu rfl rfl rfl <| oy hS y_move <| o_gu rfl rfl rfl <| oy hS y_bin <| oy hS y_pickF <| oy hS y_assign <| n_thenN ?_
 subst hF
 exact wp_ret (wr1 hS)
theorem w_isa_Target {g : Frag} {a0 : Int}  : LCs Tryz.prog 141 #[.int .i64 a0] g (.bool (isa_Target a0)) := w_isa_Target_  rfl

def isa_letter (a0 : Int) : Bool :=
  bif decide (a0 = 95) then true else bif decide (97 ≤ a0) then decide (a0 ≤ 122) else false
theorem w_isa_letter_ {g : Frag} {a0 : Int} {r : Bool}  (hF : isa_letter a0 = r) : LCs Tryz.prog 151 #[.int .u8 a0] g (.bool r) := by
 unfold isa_letter at hF
 refine lc_body (k := 13) (av := [.int .u8 a0]) func151 rfl rfl (h := fun W hS => ?_)
 refine c_seq <| c_region <| oy hS y_assign <| n_thenN <| c_seq <| c_region <| oy hS y_move <| oy hS y_bin ?_
 refine o_split (ht := fun c1 => ?_) (hf := fun c1 => ?_)
 · replace hF := bt c1 hF
   iterate 3 (refine o_sk rfl rfl ?_)
   iterate 2 (refine o_sku rfl rfl ?_)
   refine o_sk rfl rfl ?_
   refine oy hS y_pickT <| oy hS y_assign <| n_thenN ?_
   subst hF
   exact wp_ret (wr1 hS)
 replace hF := bf c1 hF
 refine o_gu rfl rfl rfl <| oy hS y_move <| o_gu rfl rfl rfl <| oy hS y_bin <| o_gu rfl rfl rfl ?_
 refine o_split (ht := fun c2 => ?_) (hf := fun c2 => ?_)
 · replace hF := bt c2 hF
   refine o_gu rfl rfl rfl <| oy hS y_move <| o_gu rfl rfl rfl <| oy hS y_bin <| o_gu rfl rfl rfl <| oy hS y_pickT <| oy hS y_pickF <| oy hS y_assign ?_
   refine n_thenN ?_
   subst hF
   exact wp_ret (wr1 hS)
 replace hF := bf c2 hF
 iterate 2 (refine o_sk rfl rfl ?_)
 refine o_gu rfl rfl rfl ?_
 iterate 2 (refine oy hS y_pickF ?_)
 refine oy hS y_assign <| n_thenN ?_
 subst hF
 exact wp_ret (wr1 hS)
theorem w_isa_letter {g : Frag} {a0 : Int}  : LCs Tryz.prog 151 #[.int .u8 a0] g (.bool (isa_letter a0)) := w_isa_letter_  rfl

noncomputable def isa_Name2_b2 (a0 : ByteArray) : Int → Option (Step Int Bool) := fun x17 => bif decide (x17 < (a0.size : Int)) then (byte' a0 x17).bind fun x28 => bif !(isa_letter x28) then bif decide (x28 < 48) then some (.done (false)) else bif decide (57 < x28) then some (.done (false)) else some (.next (IntKind.i64.wrap (x17 + 1))) else some (.next (IntKind.i64.wrap (x17 + 1))) else some (.done (true))
noncomputable def isa_Name2_k1 (a0 : ByteArray) : Unit → Option Bool := fun _ => loop (σ := Int) (isa_Name2_b2 a0) 0
noncomputable def isa_Name2 (a0 : ByteArray) : Option Bool :=
  cut (σ := Unit) (bif decide (a0 = (ByteArray.mk #[])) then some (.done (false)) else bif decide (12 < (a0.size : Int)) then some (.done (false)) else (byte' a0 0).bind fun x9 => bif !(isa_letter x9) then some (.done (false)) else some (.next ())) (isa_Name2_k1 a0)
theorem w_isa_Name2_ {g : Frag} {a0 : ByteArray} {r : Bool}  (hF : isa_Name2 a0 = some r) : LCs Tryz.prog 142 #[.string a0] g (.bool r) := by
 unfold isa_Name2 at hF
 refine lc_body (k := 38) (av := [.string a0]) func142 rfl rfl (h := fun W hS => ?_)
 refine c_seq <| c_region <| oy hS y_assign <| n_thenN ?_
 obtain ⟨z5, hF, hK6⟩ := cut_step hF
 refine c_cutP (fun a w' => isa_Name2_k1 a0 () = some r ∧ (∃ s : Nat → Value, a = Ac ((Fm.dead 38 s).upd 0 (.string a0))) ∧ St W g [] [] w') ?_ ?_
 · skip
   refine c_seq <| c_region <| oy hS y_move <| oy hS y_seql ?_
   refine o_split (ht := fun c7 => ?_) (hf := fun c7 => ?_)
   · replace hF := bt c7 hF
     iterate 3 (refine o_sk rfl rfl ?_)
     refine oy hS y_pickT <| oy hS y_move ?_
     iterate 4 (refine o_sk rfl rfl ?_)
     refine oy hS y_pickT <| n_thenN ?_
     refine c_if_true (h := ?_)
     refine c_seq <| c_region <| oy hS y_assign <| n_thenN ?_
     obtain rfl := osi hF
     obtain rfl : _ = r := hK6
     exact wp_ret (wr1 hS)
   replace hF := bf c7 hF
   refine o_gu rfl rfl rfl <| oy hS y_move <| o_gu rfl rfl rfl <| oy hS (y_lens underlying9) <| o_gu rfl rfl rfl <| oy hS y_bin <| oy hS y_pickF ?_
   refine o_split (ht := fun c8 => ?_) (hf := fun c8 => ?_)
   · replace hF := bt c8 hF
     iterate 4 (refine o_sk rfl rfl ?_)
     refine oy hS y_pickT <| n_thenN ?_
     refine c_if_true (h := ?_)
     refine c_seq <| c_region <| oy hS y_assign <| n_thenN ?_
     obtain rfl := osi hF
     obtain rfl : _ = r := hK6
     exact wp_ret (wr1 hS)
   replace hF := bf c8 hF
   refine o_gu rfl rfl rfl <| oy hS y_move <| o_gu rfl rfl rfl ?_
   obtain ⟨x9, hx9, hF⟩ := ob hF
   refine oy hS (y_byte hx9 underlying9) <| o_gu rfl rfl rfl ?_
   refine o_callS hS func151 rfl rfl (hc := (w_isa_letter (a0 := x9))) (h := ?_)
   clear hS; intro w hS
   refine o_gu rfl rfl rfl <| oy hS y_not <| oy hS y_pickF <| n_thenN ?_
   refine c_if (ht := fun c10 => ?_) (hf := fun c10 => ?_)
   · replace hF := bt c10 hF
     refine c_seq <| c_region <| oy hS y_assign <| n_thenN ?_
     obtain rfl := osi hF
     obtain rfl : _ = r := hK6
     exact wp_ret (wr1 hS)
   replace hF := bf c10 hF
   refine wp_skip ?_
   obtain rfl := osi hF
   change _ ∧ _
   exact ⟨hK6, mk_exF, (hS.re (.n))⟩
 rintro a w ⟨hF, ⟨s11, rfl⟩, hS⟩
 dsimp only [isa_Name2_k1] at hF
 iterate 2 (refine c_seq ?_)
 refine c_region <| oy hS y_move <| oy hS (y_lens underlying9) <| oy hS y_move <| n_thenN <| c_block ?_
 refine c_loopP hF (fun (q : Int) a w' => (∃ s : Nat → Value, a = Ac ((((Fm.dead 38 s).upd 0 (.string a0)).upd 19 (.int .i64 (a0.size : Int))).upd 20 (.int .i64 q))) ∧ St W g [] [] w') ⟨mk_exF, (hS.re (.n))⟩ ?_
 clear hS hF
 intro n25 q a w hI hq
 revert hq hI; revert q; intro x17 hI hq
 obtain ⟨⟨s26, rfl⟩, hS⟩ := hq
 obtain ⟨z23, hF, B0⟩ := iter_step hI
 clear hI
 dsimp only [isa_Name2_b2] at hF
 refine c_seq <| c_region <| oy hS y_bin <| n_thenN <| c_seq ?_
 refine c_if (ht := fun c27 => ?_) (hf := fun c27 => ?_)
 · replace hF := bt c27 hF
   refine wp_skip <| c_seq <| c_block <| c_seq <| c_region <| oy hS y_move <| oy hS y_assign <| n_thenN ?_
   refine c_seq <| c_region ?_
   iterate 2 (refine oy hS y_move ?_)
   obtain ⟨x28, D0, hF⟩ := ob hF
   refine oy hS (y_byte D0 underlying9) <| oy hS y_assign <| n_thenN <| c_seq <| c_region <| oy hS y_move ?_
   refine o_callS hS func151 rfl rfl (hc := (w_isa_letter (a0 := x28))) (h := ?_)
   clear hS; intro w hS
   refine oy hS y_not ?_
   refine o_split (ht := fun c29 => ?_) (hf := fun c29 => ?_)
   · replace hF := bt c29 hF
     refine o_gu rfl rfl rfl <| oy hS y_move <| o_gu rfl rfl rfl <| oy hS y_bin <| o_gu rfl rfl rfl ?_
     refine o_split (ht := fun c30 => ?_) (hf := fun c30 => ?_)
     · replace hF := bt c30 hF
       iterate 2 (refine o_sk rfl rfl ?_)
       refine o_gu rfl rfl rfl ?_
       iterate 2 (refine oy hS y_pickT ?_)
       refine n_thenN ?_
       refine c_if_true (h := ?_)
       refine c_seq <| c_region <| oy hS y_assign <| n_thenN ?_
       obtain rfl := osi hF
       obtain rfl : _ = r := B0
       exact wp_ret (wr1 hS)
     replace hF := bf c30 hF
     refine o_gu rfl rfl rfl <| oy hS y_move <| o_gu rfl rfl rfl <| oy hS y_bin <| o_gu rfl rfl rfl <| oy hS y_pickF <| oy hS y_pickT <| n_thenN ?_
     refine c_if (ht := fun c31 => ?_) (hf := fun c31 => ?_)
     · replace hF := bt c31 hF
       refine c_seq <| c_region <| oy hS y_assign <| n_thenN ?_
       obtain rfl := osi hF
       obtain rfl : _ = r := B0
       exact wp_ret (wr1 hS)
     replace hF := bf c31 hF
     refine wp_skip <| c_region <| oy hS y_bin <| oy hS y_move <| n_thenN ?_
     obtain rfl := osi hF
     exact ⟨_, B0, mk_exF, (hS.re (.n))⟩
   replace hF := bf c29 hF
   iterate 3 (refine o_sk rfl rfl ?_)
   iterate 2 (refine o_sku rfl rfl ?_)
   refine o_sk rfl rfl ?_
   refine oy hS y_pickF <| n_thenN ?_
   refine c_if_false (h := ?_)
   refine wp_skip <| c_region <| oy hS y_bin <| oy hS y_move <| n_thenN ?_
   obtain rfl := osi hF
   exact ⟨_, B0, mk_exF, (hS.re (.n))⟩
 replace hF := bf c27 hF
 refine wp_exit ?_
 refine c_seq <| c_region <| oy hS y_assign <| n_thenN ?_
 obtain rfl := osi hF
 obtain rfl : _ = r := B0
 exact wp_ret (wr1 hS)
theorem w_isa_Name2 {g : Frag} {a0 : ByteArray} {r : Bool}  (hF : isa_Name2 a0 = some r) : LCs Tryz.prog 142 #[.string a0] g (.bool r) := w_isa_Name2_  hF
end Go.Proofs.YtfnmihhcopkkbaaGreat
