/- Functions, lifted. Printed by lift.py. -/
import Derived.Test.YtfnmihhcopkkbaaGreatProg
import Derived.Test.YtfnmihhcopkkbaaGreatP4
import Derived.KernelRfl
namespace Go.Proofs.YtfnmihhcopkkbaaGreat
open Go Go.RowKit Fr
set_option linter.unusedVariables false
set_option linter.unusedSimpArgs false
set_option maxRecDepth 20000
open Tryz
set_option maxHeartbeats 2000000
noncomputable def hazard_first_k3 (B0 : T_Ins) (x70 : (List Int)) (x75 : Int) (a1 : T_State) : Unit → Option (Step ((List Int) × Int) Int) := fun _ => bif !(isa_HasD (isa_Shape B0.Op)) then some (.next (x70, IntKind.i64.wrap (x75 + 1))) else (hazard_first_1 B0.D a1).bind fun E0 => bif E0 then some (.done (x75)) else (slices_Contains_int_int x70 B0.D).bind fun G0 => bif G0 then some (.done (x75)) else (app' x70 ([B0.D] : List Int)).bind fun D0 => some (.next (D0, IntKind.i64.wrap (x75 + 1)))
noncomputable def hazard_first_b2 (x9 : (A4 T_Ins)) (a1 : T_State) : ((List Int) × Int) → Option (Step ((List Int) × Int) Int) := fun (x70, x75) => bif decide (x75 < 4) then (at' [x9.x0, x9.x1, x9.x2, x9.x3] x75).bind fun B0 => cut (σ := Unit) (bif (isa_Ends B0.Op) then bif decide (0 < a1.Delay) then some (.done (.done (x75))) else (isa_Read B0).bind fun D0 => (slices_ContainsFunc_int_int_hazard_first_1 D0 a1).bind fun E0 => bif E0 then some (.done (.done (x75))) else some (.next ()) else (isa_Read B0).bind fun G0 => (slices_ContainsFunc_int_int_hazard_first_1 G0 a1).bind fun I0 => bif I0 then some (.done (.done (x75))) else some (.next ())) (hazard_first_k3 B0 x70 x75 a1) else some (.done ((-1)))
noncomputable def hazard_first_k1 (a0 : (List (A4 T_Ins))) (a1 : T_State) : Unit → Option Int := fun _ => (at' a0 a1.PC).bind fun x9 => loop (σ := ((List Int) × Int)) (hazard_first_b2 x9 a1) ([], 0)
noncomputable def hazard_first (a0 : (List (A4 T_Ins))) (a1 : T_State) : Option Int :=
  cut (σ := Unit) (bif decide (a1.Stop ≠ 0) then some (.done ((-1))) else bif decide ((a0.length : Int) ≤ a1.PC) then some (.done ((-1))) else some (.next ())) (hazard_first_k1 a0 a1)
theorem w_hazard_first_ {g : Frag} {a0 : (List (A4 T_Ins))} {v0_ : Value} {a1 : T_State} {v1_ : Value} {r : Int} (h0 : SlT g enc_Bundle 24 a0 v0_) (h1 : Rd_State g a1 v1_) (hF : hazard_first a0 a1 = some r) : LCs Tryz.prog 85 #[v0_, v1_] g (.int .i64 r) := by
 obtain ⟨G0, I0, J0, K0, M0, N0, rfl, h1_0_, h1_1_, h1_2_, h1_4_, h1_6_, h1_8_⟩ := h1
 unfold hazard_first at hF
 refine lc_body (k := 66) (av := [v0_, .agg (cl_State G0 I0 J0 a1.Taken K0 a1.PC M0 a1.Stop N0 a1.Jump a1.Delay).toArray]) func85 rfl rfl (h := fun W hS => ?_)
 refine c_seq <| c_region ?_
 refine o_boxP (cl := (cl_State G0 I0 J0 a1.Taken K0 a1.PC M0 a1.Stop N0 a1.Jump a1.Delay)) rfl hS ?_
 clear hS; intro b1 w hS
 refine oy hS y_assign <| n_thenN ?_
 obtain ⟨z4, hF, hK5⟩ := cut_step hF
 refine c_cutP (fun a w' => hazard_first_k1 a0 a1 () = some r ∧ (∃ s : Nat → Value, a = Ac (((Fm.dead 66 s).upd 0 v0_).upd 3 (.pointer (some ⟨b1, 0, none⟩)))) ∧ St W g [] ((b1, blk (cl_State G0 I0 J0 a1.Taken K0 a1.PC M0 a1.Stop N0 a1.Jump a1.Delay) 62) :: []) w') ?_ ?_
 · skip
   refine c_seq <| c_region <| oy hS (y_field fa_api_State_7) <| oy hS (y_load oH underlying3 rfl rfl) <| oy hS y_bin ?_
   refine o_split (ht := fun c6 => ?_) (hf := fun c6 => ?_)
   · replace hF := bt c6 hF
     iterate 5 (refine o_sk rfl rfl ?_)
     refine oy hS y_pickT <| n_thenN ?_
     refine c_if_true (h := ?_)
     refine c_seq <| c_region <| oy hS y_assign <| n_thenN ?_
     obtain rfl := osi hF
     obtain rfl : _ = r := hK5
     exact wp_ret (wr1 hS)
   replace hF := bf c6 hF
   refine o_gu rfl rfl rfl <| oy hS (y_field fa_api_State_5) <| o_gu rfl rfl rfl <| oy hS (y_load oH underlying3 rfl rfl) <| o_gu rfl rfl rfl <| oy hS y_move <| o_gu rfl rfl rfl <| oy hS (y_len h0 underlying38) ?_
   refine o_gu rfl rfl rfl <| oy hS y_bin <| oy hS y_pickF <| n_thenN ?_
   refine c_if (ht := fun c7 => ?_) (hf := fun c7 => ?_)
   · replace hF := bt c7 hF
     refine c_seq <| c_region <| oy hS y_assign <| n_thenN ?_
     obtain rfl := osi hF
     obtain rfl : _ = r := hK5
     exact wp_ret (wr1 hS)
   replace hF := bf c7 hF
   refine wp_skip ?_
   obtain rfl := osi hF
   change _ ∧ _
   exact ⟨hK5, mk_exF, (hS.re (.b .hb .n))⟩
 rintro a w ⟨hF, ⟨s8, rfl⟩, hS⟩
 dsimp only [hazard_first_k1] at hF
 refine c_seq <| c_region ?_
 refine oy hS (y_makeFunc av0 (av1 (by (conv => lhs; whnf) <;> exact rfl))) ?_
 refine oy hS y_assign <| n_thenN <| c_seq <| c_region <| oy hS y_assign <| n_thenN ?_
 iterate 2 (refine c_seq ?_)
 refine c_region <| oy hS y_move <| oy hS (y_field fa_api_State_5) <| oy hS (y_load oH underlying3 rfl rfl) ?_
 obtain ⟨x9, hx9, hF⟩ := ob hF
 obtain ⟨b10, o11, c12, U2, e14, V2, Z1, B2, D2, E2, G2⟩ := SlT.at hx9 h0 enc_len_Bundle
 refine oy hS (y_index Z1 B2 D2 underlying38 el_api_Bundle.size) ?_
 refine oy hS (y_loadN (vs := (enc_Bundle x9)) (fun w hS => hS.block E2) underlying83 rfl (by exact sz_api_Bundle) (fun j u hj => G2 j u hj)) ?_
 refine oy hS y_move <| n_thenN <| c_block ?_
 refine c_loopP hF (fun (q : ((List Int) × Int)) a w' => ∃ (v71 : Value) (E0 : Own), OwT 3 enc_int 1 q.1 v71 E0 ∧ (∃ s : Nat → Value, a = Ac ((((((Fm.dead 66 s).upd 3 (.pointer (some ⟨b1, 0, none⟩))).upd 5 (.func (.func 122) #[] #[.pointer (some ⟨b1, 0, none⟩)])).upd 6 v71).upd 24 (.agg (enc_Bundle x9).toArray)).upd 25 (.int .i64 q.2))) ∧ St W g [] ((b1, blk (cl_State G0 I0 J0 a1.Taken K0 a1.PC M0 a1.Stop N0 a1.Jump a1.Delay) 62) :: (E0 ++ [])) w') ⟨(.slice none 0 0), [], (OwT.nil _ _ _), mk_exF, (hS.re (.b .hb (.take (X := []) (.here [] _) .n)))⟩ ?_
 clear hS hF
 intro X2 q a w hI hq
 obtain ⟨x70, x75⟩ := q
 obtain ⟨v71, E0, h72, ⟨Y2, rfl⟩, hS⟩ := hq
 replace h72 : OwT 3 enc_int 1 x70 v71 E0 := h72
 obtain ⟨T0, hF, D0⟩ := iter_step hI
 clear hI
 dsimp only [hazard_first_b2] at hF
 refine c_seq <| c_region <| oy hS y_bin <| n_thenN <| c_seq ?_
 refine c_if (ht := fun V0 => ?_) (hf := fun V0 => ?_)
 · replace hF := bt V0 hF
   refine wp_skip <| c_seq <| c_block <| c_seq <| c_region <| oy hS y_move ?_
   obtain ⟨B0, K1, hF⟩ := ob hF
   refine oy hS (y_ixA (enc := enc_Ins) K1 enc_len_Ins underlying83 rfl underlying81 rfl (by exact sz_api_Ins)) ?_
   refine o_allocP (cl := (enc_Ins ⟨0, 0, 0, 0, 0, ByteArray.empty⟩)) zr_api_Ins rfl hS ?_
   clear hS; intro X0 w hS
   refine oy hS y_assign ?_
   refine o_storeW (vs := (enc_Ins B0)) hS (by exact rfl) (Upd.here _) (by exact sz_api_Ins) (enc_one_Ins _) ?_
   clear hS; intro w hS
   refine n_thenN ?_
   obtain ⟨Z2, hF, R0⟩ := cut_step hF
   refine c_cutP (fun a w' => hazard_first_k3 B0 x70 x75 a1 () = some T0 ∧ (∃ s : Nat → Value, a = Ac ((((((((Fm.dead 66 s).upd 3 (.pointer (some ⟨b1, 0, none⟩))).upd 5 (.func (.func 122) #[] #[.pointer (some ⟨b1, 0, none⟩)])).upd 6 v71).upd 7 (.int .i64 x75)).upd 8 (.pointer (some ⟨X0, 0, none⟩))).upd 24 (.agg (enc_Bundle x9).toArray)).upd 25 (.int .i64 x75))) ∧ St W g [] ((b1, blk (cl_State G0 I0 J0 a1.Taken K0 a1.PC M0 a1.Stop N0 a1.Jump a1.Delay) 62) :: ((X0, blk (enc_Ins B0) 81) :: (E0 ++ []))) w') ?_ ?_
   · skip
     refine c_seq <| c_region <| oy hS (y_field fa_api_Ins_0) <| oy hS (y_load oH underlying3 rfl rfl) ?_
     refine o_callS hS func125 rfl rfl (hc := (w_isa_Ends (a0 := B0.Op))) (h := ?_)
     clear hS; intro w hS
     refine o_split (ht := fun Y0 => ?_) (hf := fun Y0 => ?_)
     · replace hF := bt Y0 hF
       refine o_gu rfl rfl rfl <| oy hS (y_field fa_api_State_10) <| o_gu rfl rfl rfl <| oy hS (y_load (fun w hS => hS.own (mC (mH))) underlying3 rfl rfl) <| o_gu rfl rfl rfl <| oy hS y_bin <| oy hS y_pickT ?_
       refine o_split (ht := fun Z0 => ?_) (hf := fun Z0 => ?_)
       · replace hF := bt Z0 hF
         iterate 4 (refine o_sk rfl rfl ?_)
         refine oy hS y_pickT <| n_thenN ?_
         refine c_if_true (h := ?_)
         refine c_seq <| c_region <| oy hS y_move <| oy hS y_assign <| n_thenN ?_
         obtain rfl := osi hF
         obtain rfl : _ = T0 := R0
         obtain rfl : _ = r := D0
         exact wp_ret (wr1 hS)
       replace hF := bf Z0 hF
       refine o_gu rfl rfl rfl ?_
       refine oy hS (y_loadW oH underlying81 rfl (by exact sz_api_Ins)) ?_
       refine o_gu rfl rfl rfl ?_
       obtain ⟨I2, M1, hF⟩ := ob hF
       refine o_call0 hS func126 rfl rfl (hc := (w_isa_Read (a0 := B0) (hF := M1))) (h := ?_)
       clear hS; intro J2 N1 w hS U0
       obtain ⟨v_0_156, LX_0_157, rfl, rfl, h_0_158⟩ := U0
       simp only [aa, ac, al] at hS
       refine o_gu rfl rfl rfl <| oy hS y_move <| o_gu rfl rfl rfl ?_
       obtain ⟨B3, R1, hF⟩ := ob hF
       refine o_callS hS func80 rfl rfl (hc := (w_slices_ContainsFunc_int_int_hazard_first_1 (a0 := I2) (a1_0 := a1) (h0 := (OwT.plus h_0_158 hS (fun p hp => mA (hp)))) (h1_0 := (St.plus hS (mB (mC (mH))))) (h1_0_0_ := h1_0_.plus) (h1_0_1_ := h1_1_.plus) (h1_0_2_ := h1_2_.plus) (h1_0_4_ := h1_4_.plus) (h1_0_6_ := h1_6_.plus) (h1_0_8_ := h1_8_.plus) (hF := R1))) (h := ?_)
       clear hS; intro w hS
       refine oy hS y_pickF <| n_thenN ?_
       refine c_if (ht := fun B1 => ?_) (hf := fun B1 => ?_)
       · replace hF := bt B1 hF
         refine c_seq <| c_region <| oy hS y_move <| oy hS y_assign <| n_thenN ?_
         obtain rfl := osi hF
         obtain rfl : _ = T0 := R0
         obtain rfl : _ = r := D0
         exact wp_ret (wr1 hS)
       replace hF := bf B1 hF
       refine wp_skip ?_
       obtain rfl := osi hF
       change _ ∧ _
       exact ⟨R0, mk_exF, (hS.re (.b (.d (.e .hb)) (.b (.d .hb) (.t (.d .h) .n))))⟩
     replace hF := bf Y0 hF
     iterate 3 (refine o_sk rfl rfl ?_)
     refine oy hS y_pickF <| oy hS y_move <| o_gu rfl rfl rfl ?_
     refine oy hS (y_loadW oH underlying81 rfl (by exact sz_api_Ins)) ?_
     refine o_gu rfl rfl rfl ?_
     obtain ⟨K2, T1, hF⟩ := ob hF
     refine o_call0 hS func126 rfl rfl (hc := (w_isa_Read (a0 := B0) (hF := T1))) (h := ?_)
     clear hS; intro J2 N1 w hS U0
     obtain ⟨v_0_156, LX_0_157, rfl, rfl, h_0_158⟩ := U0
     simp only [aa, ac, al] at hS
     refine o_gu rfl rfl rfl <| oy hS y_move <| o_gu rfl rfl rfl ?_
     obtain ⟨D3, U1, hF⟩ := ob hF
     refine o_callS hS func80 rfl rfl (hc := (w_slices_ContainsFunc_int_int_hazard_first_1 (a0 := K2) (a1_0 := a1) (h0 := (OwT.plus h_0_158 hS (fun p hp => mA (hp)))) (h1_0 := (St.plus hS (mB (mC (mH))))) (h1_0_0_ := h1_0_.plus) (h1_0_1_ := h1_1_.plus) (h1_0_2_ := h1_2_.plus) (h1_0_4_ := h1_4_.plus) (h1_0_6_ := h1_6_.plus) (h1_0_8_ := h1_8_.plus) (hF := U1))) (h := ?_)
     clear hS; intro w hS
     refine oy hS y_pickF <| n_thenN ?_
     refine c_if (ht := fun D1 => ?_) (hf := fun D1 => ?_)
     · replace hF := bt D1 hF
       refine c_seq <| c_region <| oy hS y_move <| oy hS y_assign <| n_thenN ?_
       obtain rfl := osi hF
       obtain rfl : _ = T0 := R0
       obtain rfl : _ = r := D0
       exact wp_ret (wr1 hS)
     replace hF := bf D1 hF
     refine wp_skip ?_
     obtain rfl := osi hF
     change _ ∧ _
     exact ⟨R0, mk_exF, (hS.re (.b (.d (.e .hb)) (.b (.d .hb) (.t (.d .h) .n))))⟩
   rintro a w ⟨hF, ⟨E3, rfl⟩, hS⟩
   dsimp only [hazard_first_k3] at hF
   iterate 2 (refine c_seq ?_)
   refine c_region <| oy hS (y_field fa_api_Ins_0) <| oy hS (y_load (fun w hS => hS.own (mC (mH))) underlying3 rfl rfl) ?_
   refine o_callS hS func62 rfl rfl (hc := (w_isa_Shape (a0 := B0.Op))) (h := ?_)
   clear hS; intro w hS
   refine o_callS hS func61 rfl rfl (hc := (w_isa_HasD (a0 := (isa_Shape B0.Op)))) (h := ?_)
   clear hS; intro w hS
   refine oy hS y_not <| n_thenN ?_
   refine c_if (ht := fun E1 => ?_) (hf := fun E1 => ?_)
   · replace hF := bt E1 hF
     refine wp_exit ?_
     refine c_region <| oy hS y_bin <| oy hS y_move <| n_thenN ?_
     obtain rfl := osi hF
     exact ⟨_, D0, v71, E0, h72, mk_exF, (hS.re (.b .hb (.t (.e .h) .n)))⟩
   replace hF := bf E1 hF
   refine wp_skip ?_
   iterate 2 (refine c_seq ?_)
   refine c_region <| oy hS y_move <| oy hS (y_field fa_api_Ins_1) <| oy hS (y_load (fun w hS => hS.own (mC (mH))) underlying3 rfl rfl) ?_
   obtain ⟨G3, V1, hF⟩ := ob hF
   refine o_callVS2 hS func122 rfl rfl (hc := (w_hazard_first_1 (a0 := B0.D) (a1 := a1) (h1 := (St.plus hS (mH))) (h1_0_ := h1_0_.plus) (h1_1_ := h1_1_.plus) (h1_2_ := h1_2_.plus) (h1_4_ := h1_4_.plus) (h1_6_ := h1_6_.plus) (h1_8_ := h1_8_.plus) (hF := V1))) (h := ?_)
   clear hS; intro w hS
   refine o_split (ht := fun G1 => ?_) (hf := fun G1 => ?_)
   · replace hF := bt G1 hF
     iterate 4 (refine o_sk rfl rfl ?_)
     refine oy hS y_pickT <| n_thenN ?_
     refine c_if_true (h := ?_)
     refine c_seq <| c_region <| oy hS y_move <| oy hS y_assign <| n_thenN ?_
     obtain rfl := osi hF
     obtain rfl : _ = r := D0
     exact wp_ret (wr1 hS)
   replace hF := bf G1 hF
   refine o_gu rfl rfl rfl <| oy hS y_move <| o_gu rfl rfl rfl <| oy hS (y_field fa_api_Ins_1) <| o_gu rfl rfl rfl <| oy hS (y_load (fun w hS => hS.own (mC (mH))) underlying3 rfl rfl) <| o_gu rfl rfl rfl ?_
   obtain ⟨I3, X1, hF⟩ := ob hF
   refine o_callS hS func127 rfl rfl (hc := (w_slices_Contains_int_int (a0 := x70) (a1 := B0.D) (h0 := (OwT.plus h72 hS (fun p hp => mC (mC (mA (hp)))))) (hF := X1))) (h := ?_)
   clear hS; intro w hS
   refine oy hS y_pickF <| n_thenN ?_
   refine c_if (ht := fun I1 => ?_) (hf := fun I1 => ?_)
   · replace hF := bt I1 hF
     refine c_seq <| c_region <| oy hS y_move <| oy hS y_assign <| n_thenN ?_
     obtain rfl := osi hF
     obtain rfl : _ = r := D0
     exact wp_ret (wr1 hS)
   replace hF := bf I1 hF
   refine wp_skip <| c_region <| oy hS y_move <| oy hS (y_field fa_api_Ins_1) <| oy hS (y_load (fun w hS => hS.own (mC (mH))) underlying3 rfl rfl) ?_
   refine o_buildT val_int ([B0.D] : List Int) hS el_int (fun _ => rfl) enc_len_int (by decide) rfl (by decide) (hp := rfl) (h := ?_)
   clear hS; intro M2 w hS J3
   have hS : St W g [] ([(M2, blk (([B0.D] : List Int).flatMap enc_int) 3)] ++ ((b1, blk (cl_State G0 I0 J0 a1.Taken K0 a1.PC M0 a1.Stop N0 a1.Jump a1.Delay) 62) :: ((X0, blk (enc_Ins B0) 81) :: (E0 ++ [])))) w := hS
   obtain ⟨T2, J1, hF⟩ := ob hF
   have hS := hS.re (.t .h (.t (.e (.e .h)) (.b .hb (.b .hb .n))))
   refine o_appPn (ys := ([B0.D] : List Int)) (LX := E0) J1 hS el_int h72 rfl enc_len_int (enc_ones_int _) (by decide) ?_
   clear hS; intro N2 Y1 w R2 hS
   refine oy hS y_assign ?_
   refine n_anyN ?_
   refine c_region <| oy hS y_bin <| oy hS y_move <| n_thenN ?_
   obtain rfl := osi hF
   exact ⟨_, D0, N2, Y1, R2, mk_exF, (hS.re (.b (.d .hb) (.t .h .n)))⟩
 replace hF := bf V0 hF
 refine wp_exit ?_
 refine c_seq <| c_region <| oy hS y_assign <| n_thenN ?_
 obtain rfl := osi hF
 obtain rfl : _ = r := D0
 exact wp_ret (wr1 hS)
theorem w_hazard_first {g : Frag} {a0 : (List (A4 T_Ins))} {v0_ : Value} {a1 : T_State} {v1_ : Value} {r : Int} (h0 : SlT g enc_Bundle 24 a0 v0_) (h1 : Rd_State g a1 v1_) (hF : hazard_first a0 a1 = some r) : LCs Tryz.prog 85 #[v0_, v1_] g (.int .i64 r) := w_hazard_first_ h0 h1 hF

def isa_Late (a0 : Int) : Int :=
  bif decide (a0 = 14) then 2 else bif decide (a0 = 15) then 2 else bif decide (a0 = 26) then 2 else bif decide (a0 = 20) then 3 else bif decide (a0 = 24) then 3 else bif decide (a0 = 16) then 4 else bif decide (a0 = 17) then 4 else 1
theorem w_isa_Late_ {g : Frag} {a0 : Int} {r : Int}  (hF : isa_Late a0 = r) : LCs Tryz.prog 63 #[.int .i64 a0] g (.int .i64 r) := by
 unfold isa_Late at hF
 refine lc_body (k := 14) (av := [.int .i64 a0]) func63 rfl rfl (h := fun W hS => ?_)
 refine c_seq <| c_region <| oy hS y_assign <| n_thenN ?_
 iterate 2 (refine c_seq ?_)
 refine c_region <| oy hS y_move <| n_thenN <| c_block ?_
 iterate 2 (refine c_seq ?_)
 refine c_region <| oy hS y_bin <| oy hS y_assign <| n_thenN ?_
 refine c_if (ht := fun c1 => ?_) (hf := fun c1 => ?_)
 · replace hF := bt c1 hF
   refine wp_skip ?_
   refine c_ifT c1 ?_
   refine c_seq <| c_region <| oy hS y_assign <| n_thenN ?_
   subst hF
   exact wp_ret (wr1 hS)
 replace hF := bf c1 hF
 refine c_seq <| c_region <| oy hS y_bin <| oy hS y_assign <| n_thenN ?_
 refine c_if (ht := fun c2 => ?_) (hf := fun c2 => ?_)
 · replace hF := bt c2 hF
   refine wp_skip ?_
   refine c_ifT c2 ?_
   refine c_seq <| c_region <| oy hS y_assign <| n_thenN ?_
   subst hF
   exact wp_ret (wr1 hS)
 replace hF := bf c2 hF
 refine c_region <| oy hS y_bin <| oy hS y_assign <| n_thenN ?_
 refine c_if (ht := fun c3 => ?_) (hf := fun c3 => ?_)
 · replace hF := bt c3 hF
   refine c_seq <| c_region <| oy hS y_assign <| n_thenN ?_
   subst hF
   exact wp_ret (wr1 hS)
 replace hF := bf c3 hF
 iterate 2 (refine c_seq ?_)
 refine c_region <| oy hS y_bin <| oy hS y_assign <| n_thenN ?_
 refine c_if (ht := fun c4 => ?_) (hf := fun c4 => ?_)
 · replace hF := bt c4 hF
   refine wp_skip ?_
   refine c_ifT c4 ?_
   refine c_seq <| c_region <| oy hS y_assign <| n_thenN ?_
   subst hF
   exact wp_ret (wr1 hS)
 replace hF := bf c4 hF
 refine c_region <| oy hS y_bin <| oy hS y_assign <| n_thenN ?_
 refine c_if (ht := fun c5 => ?_) (hf := fun c5 => ?_)
 · replace hF := bt c5 hF
   refine c_seq <| c_region <| oy hS y_assign <| n_thenN ?_
   subst hF
   exact wp_ret (wr1 hS)
 replace hF := bf c5 hF
 iterate 2 (refine c_seq ?_)
 refine c_region <| oy hS y_bin <| oy hS y_assign <| n_thenN ?_
 refine c_if (ht := fun c6 => ?_) (hf := fun c6 => ?_)
 · replace hF := bt c6 hF
   refine wp_skip ?_
   refine c_ifT c6 ?_
   refine c_seq <| c_region <| oy hS y_assign <| n_thenN ?_
   subst hF
   exact wp_ret (wr1 hS)
 replace hF := bf c6 hF
 refine c_region <| oy hS y_bin <| oy hS y_assign <| n_thenN ?_
 refine c_if (ht := fun c7 => ?_) (hf := fun c7 => ?_)
 · replace hF := bt c7 hF
   refine c_seq <| c_region <| oy hS y_assign <| n_thenN ?_
   subst hF
   exact wp_ret (wr1 hS)
 replace hF := bf c7 hF
 refine wp_skip <| c_seq <| c_region <| oy hS y_assign <| n_thenN ?_
 subst hF
 exact wp_ret (wr1 hS)
theorem w_isa_Late {g : Frag} {a0 : Int}  : LCs Tryz.prog 63 #[.int .i64 a0] g (.int .i64 (isa_Late a0)) := w_isa_Late_  rfl

noncomputable def pipe_issue_k2 (B0 : T_Ins) (B1 : (T_State × Int × Int)) (V0 : Int) : (Bool × Int × (List Int) × (List Int) × (List Int) × Int × (List Int) × Int × (List Int) × Int × (List T_Write) × Int × Int) → Option (Step (Bool × Int × (List Int) × (List Int) × (List Int) × Int × (List Int) × Int × (List Int) × Int × (List T_Write) × Int × Int) (T_State × Bool)) := fun (D0, X0, E0, G0, I0, J0, K0, M0, N0, Y0, R0, T0, U0) => bif decide (X0 ≠ 0) then some (.done (((⟨E0, G0, I0, J0, K0, M0, N0, X0, R0, T0, U0⟩ : T_State), D0))) else bif (isa_HasD (isa_Shape B0.Op)) then (app' R0 ([(⟨B0.D, B1.2.1, IntKind.i64.wrap ((isa_Late B0.Op) - 1)⟩ : T_Write)] : List T_Write)).bind fun Z0 => some (.next (D0, IntKind.i64.wrap (V0 + 1), E0, G0, I0, J0, K0, M0, N0, Y0, Z0, T0, U0)) else some (.next (D0, IntKind.i64.wrap (V0 + 1), E0, G0, I0, J0, K0, M0, N0, Y0, R0, T0, U0))
noncomputable def pipe_issue_b1 (a1 : (A4 T_Ins)) (r2 : (List Int)) : (Bool × Int × (List Int) × (List Int) × (List Int) × Int × (List Int) × Int × (List Int) × Int × (List T_Write) × Int × Int) → Option (Step (Bool × Int × (List Int) × (List Int) × (List Int) × Int × (List Int) × Int × (List Int) × Int × (List T_Write) × Int × Int) (T_State × Bool)) := fun (G0, I0, J0, K0, M0, N0, R0, T0, U0, V0, X0, Y0, Z0) => bif decide (I0 < 4) then (at' [a1.x0, a1.x1, a1.x2, a1.x3] I0).bind fun E0 => (at' r2 E0.A).bind fun B1 => (at' r2 E0.B).bind fun D1 => (seq_Act (⟨J0, K0, M0, N0, R0, T0, U0, V0, X0, Y0, Z0⟩ : T_State) E0 B1 D1).bind fun D0 => cut (σ := (Bool × Int × (List Int) × (List Int) × (List Int) × Int × (List Int) × Int × (List Int) × Int × (List T_Write) × Int × Int)) (bif decide (D0.2.2 = 0) then (seq_Turn D0.1 E0 B1 (imin (IntKind.i64.wrap ((IntKind.i64.wrap (D0.1.PC + 1)) + 2)) 1024)).bind fun B0 => bif B0.2.2.1 then some (.next (true, B0.2.2.2, B0.1.Regs, B0.1.Mem, B0.1.In_, B0.1.Taken, B0.1.Out, B0.1.PC, B0.1.Stack, B0.1.Stop, B0.1.Fly, B0.2.1, 2)) else some (.next (G0, B0.2.2.2, B0.1.Regs, B0.1.Mem, B0.1.In_, B0.1.Taken, B0.1.Out, B0.1.PC, B0.1.Stack, B0.1.Stop, B0.1.Fly, B0.1.Jump, B0.1.Delay)) else some (.next (G0, D0.2.2, D0.1.Regs, D0.1.Mem, D0.1.In_, D0.1.Taken, D0.1.Out, D0.1.PC, D0.1.Stack, D0.1.Stop, D0.1.Fly, D0.1.Jump, D0.1.Delay))) (pipe_issue_k2 E0 D0 I0) else some (.done (((⟨J0, K0, M0, N0, R0, T0, U0, V0, X0, Y0, Z0⟩ : T_State), G0)))
noncomputable def pipe_issue (a0 : T_State) (a1 : (A4 T_Ins)) : Option (T_State × Bool) :=
  (slices_Clone_uint32 a0.Regs).bind fun r2 => loop (σ := (Bool × Int × (List Int) × (List Int) × (List Int) × Int × (List Int) × Int × (List Int) × Int × (List T_Write) × Int × Int)) (pipe_issue_b1 a1 r2) (false, 0, a0.Regs, a0.Mem, a0.In_, a0.Taken, a0.Out, a0.PC, a0.Stack, a0.Stop, a0.Fly, a0.Jump, a0.Delay)
theorem w_pipe_issue_ {g : Frag} {a0 : T_State} {b0_ : Nat} {LB0_ : Own} {a1 : (A4 T_Ins)} {r : (T_State × Bool)} (h0 : Bx_State b0_ a0 LB0_) (hF : pipe_issue a0 a1 = some r) : LC Tryz.prog 35 #[.pointer (some ⟨b0_, 0, none⟩), .agg (enc_Bundle a1).toArray] g LB0_ (fun v L => ∃ (LB' : Own), v = .bool r.2 ∧ L = (LB' ++ []) ∧ Bx_State b0_ r.1 LB') := by
 obtain ⟨M5, N5, R5, Z2, B3, D3, E3, G3, U2, V2, X2, Y2, G7, D2, T5, I3, J3, K3, M3⟩ := h0
 unfold pipe_issue at hF
 refine lc_body (k := 96) (av := [.pointer (some ⟨b0_, 0, none⟩), .agg (enc_Bundle a1).toArray]) func35 rfl rfl (h := fun W hS => ?_)
 have hS := hS.own_eq G7
 refine c_seq <| c_region ?_
 refine o_boxP (cl := (enc_Bundle a1)) rfl hS ?_
 clear hS; intro b1 w hS
 refine oy hS y_assign <| n_thenN <| c_seq <| c_region <| oy hS y_move <| oy hS y_nilCheck <| oy hS (y_field fa_api_State_0) <| oy hS (y_load (fun w hS => hS.own (mC (mH))) underlying31 rfl rfl) ?_
 obtain ⟨r2, hr2, hF⟩ := ob hF
 refine o_call0 hS func58 rfl rfl (hc := (w_slices_Clone_uint32 (a0 := a0.Regs) (h0 := (OwT.plus D2 hS (fun p hp => mC (mC (mA (hp)))))) (hF := hr2))) (h := ?_)
 clear hS; intro v3 LY4 w hS hr5
 obtain ⟨v_0_6, LX_0_7, rfl, rfl, h_0_8⟩ := hr5
 simp only [aa, ac, al] at hS
 refine oy hS y_assign <| n_thenN ?_
 iterate 2 (refine c_seq ?_)
 refine c_region ?_
 refine oy hS (y_loadW (fun w hS => hS.own (mB (mH))) underlying83 rfl (by exact sz_api_Bundle)) ?_
 refine oy hS y_move <| n_thenN <| c_block ?_
 refine c_loopP hF (fun (q : (Bool × Int × (List Int) × (List Int) × (List Int) × Int × (List Int) × Int × (List Int) × Int × (List T_Write) × Int × Int)) a w' => ∃ (T1 : Value) (U1 : Value) (V1 : Value) (X1 : Value) (Y1 : Value) (Z1 : Value) (Y0 : Own) (Z0 : Own) (B1 : Own) (D1 : Own) (E1 : Own) (G1 : Own), OwT 87 enc_uint32 1 q.2.2.1 T1 Y0 ∧ OwT 87 enc_uint32 1 q.2.2.2.1 U1 Z0 ∧ OwT 87 enc_uint32 1 q.2.2.2.2.1 V1 B1 ∧ OwT 87 enc_uint32 1 q.2.2.2.2.2.2.1 X1 D1 ∧ OwT 3 enc_int 1 q.2.2.2.2.2.2.2.2.1 Y1 E1 ∧ OwT 89 enc_Write 3 q.2.2.2.2.2.2.2.2.2.2.1 Z1 G1 ∧ (∃ s : Nat → Value, a = Ac ((((((Fm.dead 96 s).upd 0 (.pointer (some ⟨b0_, 0, none⟩))).upd 4 (.bool q.1)).upd 5 v_0_6).upd 19 (.agg (enc_Bundle a1).toArray)).upd 20 (.int .i64 q.2.1))) ∧ St W g LB0_ ((b0_, blk (cl_State T1 U1 V1 q.2.2.2.2.2.1 X1 q.2.2.2.2.2.2.2.1 Y1 q.2.2.2.2.2.2.2.2.2.1 Z1 q.2.2.2.2.2.2.2.2.2.2.2.1 q.2.2.2.2.2.2.2.2.2.2.2.2) 62) :: (Y0 ++ (Z0 ++ (B1 ++ (D1 ++ (E1 ++ (G1 ++ (LX_0_7 ++ [])))))))) w') ⟨M5, N5, R5, Z2, B3, D3, E3, G3, U2, V2, X2, Y2, D2, T5, I3, J3, K3, M3, mk_exF, (hS.re (.b (.d (.e .hb)) (.t (.d (.e .h)) (.t (.d (.e .h)) (.t (.d (.e .h)) (.t (.d (.e .h)) (.t (.d (.e .h)) (.t (.d (.e .h)) (.t .h .n)))))))))⟩ ?_
 clear hS hF
 intro Y7 q a w hI hq
 obtain ⟨N3, U5, R3, T3, U3, V3, X3, Y3, Z3, B4, D4, E4, G4⟩ := q
 obtain ⟨T1, U1, V1, X1, Y1, Z1, Y0, Z0, B1, D1, E1, G1, E2, G2, I2, J2, K2, M2, ⟨Z7, rfl⟩, hS⟩ := hq
 replace E2 : OwT 87 enc_uint32 1 R3 T1 Y0 := E2
 replace G2 : OwT 87 enc_uint32 1 T3 U1 Z0 := G2
 replace I2 : OwT 87 enc_uint32 1 U3 V1 B1 := I2
 replace J2 : OwT 87 enc_uint32 1 X3 X1 D1 := J2
 replace K2 : OwT 3 enc_int 1 Z3 Y1 E1 := K2
 replace M2 : OwT 89 enc_Write 3 D4 Z1 G1 := M2
 obtain ⟨I7, hF, R1⟩ := iter_step hI
 clear hI
 dsimp only [pipe_issue_b1] at hF
 refine c_seq <| c_region <| oy hS y_bin <| n_thenN <| c_seq ?_
 refine c_if (ht := fun I4 => ?_) (hf := fun I4 => ?_)
 · replace hF := bt I4 hF
   refine wp_skip <| c_seq <| c_block <| c_seq <| c_region ?_
   obtain ⟨E0, Z5, hF⟩ := ob hF
   refine oy hS (y_ixA (enc := enc_Ins) Z5 enc_len_Ins underlying83 rfl underlying81 rfl (by exact sz_api_Ins)) ?_
   refine o_allocP (cl := (enc_Ins ⟨0, 0, 0, 0, 0, ByteArray.empty⟩)) zr_api_Ins rfl hS ?_
   clear hS; intro J4 w hS
   refine o_storeW (vs := (enc_Ins E0)) hS (by exact rfl) (Upd.here _) (by exact sz_api_Ins) (enc_one_Ins _) ?_
   clear hS; intro w hS
   refine n_thenN <| c_seq ?_
   refine c_quiet (by kernel_rfl) (by kernel_rfl) hS ?_
   refine qy y_move <| qy (y_field fa_api_Ins_2) <| qy (y_load (fun w hS => hS.own (mH)) underlying3 rfl rfl) ?_
   obtain ⟨V5, B6, hF⟩ := ob hF
   obtain ⟨B8, D8, M7, D6, E6, G6, I6, J6⟩ := OwT.at B6 h_0_8 enc_len_uint32
   refine qy (y_index D6 E6 G6 underlying31 el_uint32.size) <| qy (y_load (fun w hS => hS.own (mC (mC (mB (mB (mB (mB (mB (mB (mA (mX I6))))))))))) underlying87 rfl (J6 0 _ rfl)) <| qy y_move <| qy (y_field fa_api_Ins_3) <| qy (y_load (fun w hS => hS.own (mH)) underlying3 rfl rfl) ?_
   obtain ⟨J7, K6, hF⟩ := ob hF
   obtain ⟨E8, G8, N7, M6, N6, R6, T6, U6⟩ := OwT.at K6 h_0_8 enc_len_uint32
   refine qy (y_index M6 N6 R6 underlying31 el_uint32.size) <| qy (y_load (fun w hS => hS.own (mC (mC (mB (mB (mB (mB (mB (mB (mA (mX T6))))))))))) underlying87 rfl (U6 0 _ rfl)) ?_
   iterate 2 (refine qy y_assign ?_)
   refine q_nilN (h := ?_)
   clear hS; intro w hS
   refine c_seq <| c_region <| oy hS y_move ?_
   refine oy hS (y_loadW oH underlying81 rfl (by exact sz_api_Ins)) ?_
   iterate 2 (refine oy hS y_move ?_)
   have hS := hS.re (.b (.e .hb) (.t (.e .h) (.t (.e .h) (.t (.e .h) (.t (.e .h) (.t (.e .h) (.t (.e .h) (.b .hb (.t .h .n)))))))))
   have hS2 := hS.spl (.cons _ (.app _ (.app _ (.app _ (.app _ (.app _ (.app _ (.nil _))))))))
   obtain ⟨D0, V6, hF⟩ := ob hF
   refine o_call hS2 func59 rfl rfl (hc := (w_seq_Act (a0 := (⟨R3, T3, U3, V3, X3, Y3, Z3, B4, D4, E4, G4⟩ : T_State)) (a1 := E0) (a2 := V5) (a3 := J7) (h0 := (⟨_, _, _, _, _, _, _, _, _, _, _, _, rfl, E2, G2, I2, J2, K2, M2⟩ : Bx_State b0_ (⟨R3, T3, U3, V3, X3, Y3, Z3, B4, D4, E4, G4⟩ : T_State) ((b0_, blk (cl_State T1 U1 V1 V3 X1 Y3 Y1 B4 Z1 E4 G4) 62) :: (Y0 ++ (Z0 ++ (B1 ++ (D1 ++ (E1 ++ (G1 ++ []))))))))) (hF := V6))) (h := ?_)
   clear hS; intro I8 R7 w hS X6
   clear hS2
   obtain ⟨T7, rfl, rfl, Y6⟩ := X6
   obtain ⟨vB_0_407, vB_1_411, vB_2_415, vB_4_419, vB_6_423, vB_8_427, LXB_0_408, LXB_1_412, LXB_2_416, LXB_4_420, LXB_6_424, LXB_8_428, rfl, hB_0_409, hB_1_413, hB_2_417, hB_4_421, hB_6_425, hB_8_429⟩ := Y6
   simp only [aa, ac, al] at hS
   refine oy hS y_move ?_
   iterate 2 (refine oy hS (y_extract rfl) ?_)
   iterate 2 (refine oy hS y_assign ?_)
   refine n_thenN ?_
   obtain ⟨J8, hF, N2⟩ := cut_step hF
   refine c_cutP (fun a w' => ∃ (R2 : Bool) (T2 : Int) (K4 : (List Int)) (M4 : (List Int)) (N4 : (List Int)) (I1 : Int) (R4 : (List Int)) (J1 : Int) (T4 : (List Int)) (B2 : Int) (U4 : (List T_Write)) (K1 : Int) (M1 : Int) (G0 : Value) (I0 : Value) (J0 : Value) (K0 : Value) (M0 : Value) (N1 : Value) (N0 : Own) (R0 : Own) (T0 : Own) (U0 : Own) (V0 : Own) (X0 : Own), pipe_issue_k2 E0 D0 U5 (R2, T2, K4, M4, N4, I1, R4, J1, T4, B2, U4, K1, M1) = some I7 ∧ OwT 87 enc_uint32 1 K4 G0 N0 ∧ OwT 87 enc_uint32 1 M4 I0 R0 ∧ OwT 87 enc_uint32 1 N4 J0 T0 ∧ OwT 87 enc_uint32 1 R4 K0 U0 ∧ OwT 3 enc_int 1 T4 M0 V0 ∧ OwT 89 enc_Write 3 U4 N1 X0 ∧ (∃ s : Nat → Value, a = Ac (((((((((Fm.dead 96 s).upd 0 (.pointer (some ⟨b0_, 0, none⟩))).upd 4 (.bool R2)).upd 5 v_0_6).upd 7 (.pointer (some ⟨J4, 0, none⟩))).upd 10 (.int .u32 D0.2.1)).upd 11 (.int .i64 T2)).upd 19 (.agg (enc_Bundle a1).toArray)).upd 20 (.int .i64 U5))) ∧ St W g LB0_ ((b0_, blk (cl_State G0 I0 J0 I1 K0 J1 M0 B2 N1 K1 M1) 62) :: ((J4, blk (enc_Ins E0) 81) :: (N0 ++ (R0 ++ (T0 ++ (U0 ++ (V0 ++ (X0 ++ (LX_0_7 ++ []))))))))) w') ?_ ?_
   · skip
     refine c_seq <| c_region <| oy hS y_move <| oy hS y_bin <| n_thenN ?_
     refine c_if (ht := fun V4 => ?_) (hf := fun V4 => ?_)
     · replace hF := bt V4 hF
       refine c_seq <| c_region <| oy hS y_assign <| n_thenN <| c_seq <| c_region <| oy hS y_assign <| n_thenN ?_
       refine c_seq ?_
       refine c_heldL 10 18 (by kernel_rfl) rfl hS ?_
       clear hS; intro w hS
       refine hy0 0 rfl wn (by kernel_rfl) (nq (P := Tryz.prog) (fn := Tryz.f35)) (fun _ => hS.cb) y_move ?_
       refine hy 1 rfl wn (by kernel_rfl) (nq (P := Tryz.prog) (fn := Tryz.f35)) hS.cb (y_loadW (fun w hS => hS.own (mC (mB (mB (mB (mB (mB (mB (mH))))))))) underlying81 rfl (by exact sz_api_Ins)) ?_
       refine hy0 2 rfl wn (by kernel_rfl) (nq (P := Tryz.prog) (fn := Tryz.f35)) (fun _ => hS.cb) y_move ?_
       refine hy0 3 rfl wn (by kernel_rfl) (nq (P := Tryz.prog) (fn := Tryz.f35)) (fun _ => hS.cb) y_move ?_
       refine hy0 4 rfl wn (by kernel_rfl) (nq (P := Tryz.prog) (fn := Tryz.f35)) (fun _ => hS.cb) y_nilCheck ?_
       refine hy0 5 rfl wn (by kernel_rfl) (nq (P := Tryz.prog) (fn := Tryz.f35)) (fun _ => hS.cb) (y_field fa_api_State_5) ?_
       refine hy 6 rfl wn (by kernel_rfl) (nq (P := Tryz.prog) (fn := Tryz.f35)) hS.cb (y_load (fun w hS => hS.own (mH)) underlying3 rfl rfl) ?_
       refine hy0 7 rfl wn (by kernel_rfl) (nq (P := Tryz.prog) (fn := Tryz.f35)) (fun _ => hS.cb) y_bin ?_
       refine hy0 8 rfl wn (by kernel_rfl) (nq (P := Tryz.prog) (fn := Tryz.f35)) (fun _ => hS.cb) y_bin ?_
       refine hy0 9 rfl wn (by kernel_rfl) (nq (P := Tryz.prog) (fn := Tryz.f35)) (fun _ => hS.cb) y_min ?_
       refine hb1 10 (by kernel_rfl) (hb_op rfl wn (nl (P := Tryz.prog) (fn := Tryz.f35)) ?_)
       have hS2 := hS.spl (.cons _ (.app _ (.app _ (.app _ (.app _ (.app _ (.app _ (.nil _))))))))
       obtain ⟨B0, Z6, hF⟩ := ob hF
       refine o_call hS2 func60 rfl rfl (hc := (w_seq_Turn (a0 := D0.1) (a1 := E0) (a2 := V5) (a3 := (imin (IntKind.i64.wrap ((IntKind.i64.wrap (D0.1.PC + 1)) + 2)) 1024)) (h0 := (⟨_, _, _, _, _, _, _, _, _, _, _, _, rfl, hB_0_409, hB_1_413, hB_2_417, hB_4_421, hB_6_425, hB_8_429⟩ : Bx_State b0_ D0.1 ((b0_, blk (cl_State vB_0_407 vB_1_411 vB_2_415 D0.1.Taken vB_4_419 D0.1.PC vB_6_423 D0.1.Stop vB_8_427 D0.1.Jump D0.1.Delay) 62) :: (LXB_0_408 ++ (LXB_1_412 ++ (LXB_2_416 ++ (LXB_4_420 ++ (LXB_6_424 ++ (LXB_8_428 ++ []))))))))) (hF := Z6))) (h := ?_)
       clear hS; intro K8 U7 w hS B7
       clear hS2
       obtain ⟨V7, rfl, rfl, D7⟩ := B7
       obtain ⟨vB_0_509, vB_1_513, vB_2_517, vB_4_521, vB_6_525, vB_8_529, LXB_0_510, LXB_1_514, LXB_2_518, LXB_4_522, LXB_6_526, LXB_8_530, rfl, hB_0_511, hB_1_515, hB_2_519, hB_4_523, hB_6_527, hB_8_531⟩ := D7
       simp only [aa, ac, al] at hS
       refine hb_next (fun h => absurd h (by decide)) ?_
       refine hy0 11 rfl wn (by kernel_rfl) (nq (P := Tryz.prog) (fn := Tryz.f35)) (fun h => absurd h (by decide)) y_move ?_
       refine hy0 12 rfl wn (by kernel_rfl) (nq (P := Tryz.prog) (fn := Tryz.f35)) (fun h => absurd h (by decide)) (y_extract rfl) ?_
       refine hy0 13 rfl wn (by kernel_rfl) (nq (P := Tryz.prog) (fn := Tryz.f35)) (fun h => absurd h (by decide)) (y_extract rfl) ?_
       refine hy0 14 rfl wn (by kernel_rfl) (nq (P := Tryz.prog) (fn := Tryz.f35)) (fun h => absurd h (by decide)) (y_extract rfl) ?_
       refine hy0 15 rfl wn (by kernel_rfl) (nq (P := Tryz.prog) (fn := Tryz.f35)) (fun h => absurd h (by decide)) y_assign ?_
       refine hy0 16 rfl wn (by kernel_rfl) (nq (P := Tryz.prog) (fn := Tryz.f35)) (fun h => absurd h (by decide)) y_assign ?_
       refine hy0 17 rfl wn (by kernel_rfl) (nq (P := Tryz.prog) (fn := Tryz.f35)) (fun h => absurd h (by decide)) y_assign ?_
       refine hb_done (by kernel_rfl) ?_
       refine c_seq <| c_region <| oy hS y_move <| n_thenN ?_
       refine c_if (ht := fun X4 => ?_) (hf := fun X4 => ?_)
       · replace hF := bt X4 hF
         refine c_region ?_
         iterate 3 (refine oy hS y_move ?_)
         refine oy hS y_nilCheck <| oy hS (y_field fa_api_State_9) ?_
         refine o_storeA1 (o := 9) (cl' := (cl_State vB_0_509 vB_1_513 vB_2_517 B0.1.Taken vB_4_521 B0.1.PC vB_6_525 B0.1.Stop vB_8_529 B0.2.1 B0.1.Delay)) hS (by kernel_rfl) (by exact Nat.le_of_ble_eq_true rfl) (Upd.here _) (by exact sz_int) rfl rfl ?_
         clear hS; intro w hS
         refine oy hS y_nilCheck <| oy hS (y_field fa_api_State_10) ?_
         refine o_storeA1 (o := 10) (cl' := (cl_State vB_0_509 vB_1_513 vB_2_517 B0.1.Taken vB_4_521 B0.1.PC vB_6_525 B0.1.Stop vB_8_529 B0.2.1 2)) hS (by kernel_rfl) (by exact Nat.le_of_ble_eq_true rfl) (Upd.here _) (by exact sz_int) rfl rfl ?_
         clear hS; intro w hS
         refine oy hS y_assign <| n_thenN ?_
         obtain rfl := osi hF
         change ∃ _, _
         exact ⟨true, B0.2.2.2, B0.1.Regs, B0.1.Mem, B0.1.In_, B0.1.Taken, B0.1.Out, B0.1.PC, B0.1.Stack, B0.1.Stop, B0.1.Fly, B0.2.1, 2, vB_0_509, vB_1_513, vB_2_517, vB_4_521, vB_6_525, vB_8_529, LXB_0_510, LXB_1_514, LXB_2_518, LXB_4_522, LXB_6_526, LXB_8_530, N2, hB_0_511, hB_1_515, hB_2_519, hB_4_523, hB_6_527, hB_8_531, mk_exF, (hS.re (.b .hb (.b (.d (.d (.d (.d (.d (.d .hb)))))) (.t .h (.t .h (.t .h (.t .h (.t .h (.t .h (.t .h .n))))))))))⟩
       replace hF := bf X4 hF
       refine wp_skip ?_
       obtain rfl := osi hF
       change ∃ _, _
       exact ⟨N3, B0.2.2.2, B0.1.Regs, B0.1.Mem, B0.1.In_, B0.1.Taken, B0.1.Out, B0.1.PC, B0.1.Stack, B0.1.Stop, B0.1.Fly, B0.1.Jump, B0.1.Delay, vB_0_509, vB_1_513, vB_2_517, vB_4_521, vB_6_525, vB_8_529, LXB_0_510, LXB_1_514, LXB_2_518, LXB_4_522, LXB_6_526, LXB_8_530, N2, hB_0_511, hB_1_515, hB_2_519, hB_4_523, hB_6_527, hB_8_531, mk_exF, (hS.re (.b .hb (.b (.d (.d (.d (.d (.d (.d .hb)))))) (.t .h (.t .h (.t .h (.t .h (.t .h (.t .h (.t .h .n))))))))))⟩
     replace hF := bf V4 hF
     refine wp_skip ?_
     obtain rfl := osi hF
     change ∃ _, _
     exact ⟨N3, D0.2.2, D0.1.Regs, D0.1.Mem, D0.1.In_, D0.1.Taken, D0.1.Out, D0.1.PC, D0.1.Stack, D0.1.Stop, D0.1.Fly, D0.1.Jump, D0.1.Delay, vB_0_407, vB_1_411, vB_2_415, vB_4_419, vB_6_423, vB_8_427, LXB_0_408, LXB_1_412, LXB_2_416, LXB_4_420, LXB_6_424, LXB_8_428, N2, hB_0_409, hB_1_413, hB_2_417, hB_4_421, hB_6_425, hB_8_429, mk_exF, (hS.re (.b .hb (.b (.d (.d (.d (.d (.d (.d .hb)))))) (.t .h (.t .h (.t .h (.t .h (.t .h (.t .h (.t .h .n))))))))))⟩
   rintro a w ⟨R2, T2, K4, M4, N4, I1, R4, J1, T4, B2, U4, K1, M1, G0, I0, J0, K0, M0, N1, N0, R0, T0, U0, V0, X0, hF, Y4, Z4, B5, D5, E5, G5, ⟨M8, rfl⟩, hS⟩
   dsimp only [pipe_issue_k2] at hF
   iterate 2 (refine c_seq ?_)
   refine c_region <| oy hS y_move <| oy hS y_bin <| n_thenN ?_
   refine c_if (ht := fun I5 => ?_) (hf := fun I5 => ?_)
   · replace hF := bt I5 hF
     refine c_seq <| c_region ?_
     iterate 2 (refine oy hS y_move ?_)
     refine oy hS y_nilCheck <| oy hS (y_field fa_api_State_7) ?_
     refine o_storeA1 (o := 7) (cl' := (cl_State G0 I0 J0 I1 K0 J1 M0 T2 N1 K1 M1)) hS (by kernel_rfl) (by exact Nat.le_of_ble_eq_true rfl) (Upd.here _) (by exact sz_int) rfl rfl ?_
     clear hS; intro w hS
     refine n_thenN <| c_seq <| c_region <| oy hS y_move <| oy hS y_assign <| n_thenN ?_
     obtain rfl := osi hF
     obtain rfl : _ = r := R1
     refine wp_ret (r_ret (vs := [.bool R2]) (hS.re (.b .hb (.t (.e .h) (.t (.e .h) (.t (.e .h) (.t (.e .h) (.t (.e .h) (.t (.e .h) .n)))))))) (rsC res_tmp rsN) rfl ⟨_, rfl, (by first | rfl | simp only [aa, ac, al, an]), ⟨_, _, _, _, _, _, _, _, _, _, _, _, rfl, Y4, Z4, B5, D5, E5, G5⟩⟩)
   replace hF := bf I5 hF
   refine wp_skip <| c_seq <| c_region <| oy hS (y_field fa_api_Ins_0) <| oy hS (y_load (fun w hS => hS.own (mC (mH))) underlying3 rfl rfl) ?_
   refine o_callS hS func62 rfl rfl (hc := (w_isa_Shape (a0 := E0.Op))) (h := ?_)
   clear hS; intro w hS
   refine o_callS hS func61 rfl rfl (hc := (w_isa_HasD (a0 := (isa_Shape E0.Op)))) (h := ?_)
   clear hS; intro w hS
   refine n_thenN ?_
   refine c_if (ht := fun J5 => ?_) (hf := fun J5 => ?_)
   · replace hF := bt J5 hF
     refine c_heldL 14 18 (by kernel_rfl) rfl hS ?_
     clear hS; intro w hS
     refine hy0 0 rfl wn (by kernel_rfl) (nq (P := Tryz.prog) (fn := Tryz.f35)) (fun _ => hS.cb) y_move ?_
     refine hy0 1 rfl wn (by kernel_rfl) (nq (P := Tryz.prog) (fn := Tryz.f35)) (fun _ => hS.cb) y_move ?_
     refine hy0 2 rfl wn (by kernel_rfl) (nq (P := Tryz.prog) (fn := Tryz.f35)) (fun _ => hS.cb) y_nilCheck ?_
     refine hy0 3 rfl wn (by kernel_rfl) (nq (P := Tryz.prog) (fn := Tryz.f35)) (fun _ => hS.cb) (y_field fa_api_State_8) ?_
     refine hy 4 rfl wn (by kernel_rfl) (nq (P := Tryz.prog) (fn := Tryz.f35)) hS.cb (y_load (fun w hS => hS.own (mH)) underlying60 rfl rfl) ?_
     refine hy0 5 rfl wn (by kernel_rfl) (nq (P := Tryz.prog) (fn := Tryz.f35)) (fun _ => hS.cb) (y_field fa_api_Ins_1) ?_
     refine hy 6 rfl wn (by kernel_rfl) (nq (P := Tryz.prog) (fn := Tryz.f35)) hS.cb (y_load (fun w hS => hS.own (mC (mH))) underlying3 rfl rfl) ?_
     refine hy0 7 rfl wn (by kernel_rfl) (nq (P := Tryz.prog) (fn := Tryz.f35)) (fun _ => hS.cb) y_move ?_
     refine hy0 8 rfl wn (by kernel_rfl) (nq (P := Tryz.prog) (fn := Tryz.f35)) (fun _ => hS.cb) (y_field fa_api_Ins_0) ?_
     refine hy 9 rfl wn (by kernel_rfl) (nq (P := Tryz.prog) (fn := Tryz.f35)) hS.cb (y_load (fun w hS => hS.own (mC (mH))) underlying3 rfl rfl) ?_
     refine hb1 10 (by kernel_rfl) (hb_op rfl wn (nl (P := Tryz.prog) (fn := Tryz.f35)) ?_)
     refine o_callS hS func63 rfl rfl (hc := (w_isa_Late (a0 := E0.Op))) (h := ?_)
     clear hS; intro w hS
     refine hb_next (fun _ => hS.cb) ?_
     refine hy0 11 rfl wn (by kernel_rfl) (nq (P := Tryz.prog) (fn := Tryz.f35)) (fun _ => hS.cb) y_bin ?_
     refine hy0 12 rfl wn (by kernel_rfl) (nq (P := Tryz.prog) (fn := Tryz.f35)) (fun _ => hS.cb) (y_build (cl := (enc_Write ⟨E0.D, D0.2.1, IntKind.i64.wrap ((isa_Late E0.Op) - 1)⟩)) bt_api_Write rfl (by kernel_rfl)) ?_
     refine hb1 13 (by kernel_rfl) (hb_op rfl wn (nl (P := Tryz.prog) (fn := Tryz.f35)) ?_)
     refine o_buildT val_Write ([(⟨E0.D, D0.2.1, IntKind.i64.wrap ((isa_Late E0.Op) - 1)⟩ : T_Write)] : List T_Write) hS el_api_Write (fun _ => rfl) enc_len_Write (by decide) rfl (by decide) (hp := rfl) (h := ?_)
     clear hS; intro K7 w hS N8
     have hS : St W g LB0_ ([(K7, blk (([(⟨E0.D, D0.2.1, IntKind.i64.wrap ((isa_Late E0.Op) - 1)⟩ : T_Write)] : List T_Write).flatMap enc_Write) 89)] ++ ((b0_, blk (cl_State G0 I0 J0 I1 K0 J1 M0 B2 N1 K1 M1) 62) :: ((J4, blk (enc_Ins E0) 81) :: (N0 ++ (R0 ++ (T0 ++ (U0 ++ (V0 ++ (X0 ++ (LX_0_7 ++ [])))))))))) w := hS
     refine hb_next (fun _ => (hS.re (.b (.d .hb) (.b (.d .hb) (.t (.d .h) (.t (.d .h) (.t (.d .h) (.t (.d .h) (.t (.d .h) (.t (.d .h) (.t (.d .h) .n)))))))))).cb) ?_
     refine hb1 14 (by kernel_rfl) (hb_op rfl wn (nl (P := Tryz.prog) (fn := Tryz.f35)) ?_)
     obtain ⟨X7, X5, hF⟩ := ob hF
     have hS := hS.re (.t .h (.t (.e (.e (.d (.d (.d (.d (.d .h))))))) (.b .hb (.b .hb (.t .h (.t .h (.t .h (.t .h (.t .h (.t .h .n))))))))))
     refine o_appPn (ys := ([(⟨E0.D, D0.2.1, IntKind.i64.wrap ((isa_Late E0.Op) - 1)⟩ : T_Write)] : List T_Write)) (LX := X0) X5 hS el_api_Write G5 rfl enc_len_Write (enc_ones_Write _) (by decide) ?_
     clear hS; intro Y5 E7 w K5 hS
     refine hb_next (fun h => absurd h (by decide)) ?_
     refine hy0 15 rfl wn (by kernel_rfl) (nq (P := Tryz.prog) (fn := Tryz.f35)) (fun h => absurd h (by decide)) y_nilCheck ?_
     refine hy0 16 rfl wn (by kernel_rfl) (nq (P := Tryz.prog) (fn := Tryz.f35)) (fun h => absurd h (by decide)) (y_field fa_api_State_8) ?_
     refine hb1 17 (by kernel_rfl) (hb_op rfl wn (nl (P := Tryz.prog) (fn := Tryz.f35)) ?_)
     have hS := hS.re (.b (.d .hb) (.t .h (.b .hb (.t .h (.t .h (.t .h (.t .h (.t .h (.t .h .n)))))))))
     refine o_storeA1 (o := 8) (cl' := (cl_State G0 I0 J0 I1 K0 J1 M0 B2 Y5 K1 M1)) hS (by kernel_rfl) (by exact Nat.le_of_ble_eq_true rfl) (Upd.here _) (by exact sz_S_api_Write) (K5).one (K5).cell ?_
     clear hS; intro w hS
     refine hb_next (fun h => absurd h (by decide)) ?_
     refine hb_done (by kernel_rfl) ?_
     refine c_region <| oy hS y_bin <| oy hS y_move <| n_thenN ?_
     obtain rfl := osi hF
     exact ⟨_, R1, G0, I0, J0, K0, M0, Y5, N0, R0, T0, U0, V0, E7, Y4, Z4, B5, D5, E5, K5, mk_exF, (hS.re (.b .hb (.t (.d (.e .h)) (.t (.d (.e .h)) (.t (.d (.e .h)) (.t (.d (.e .h)) (.t (.d (.e .h)) (.t .h (.t (.e .h) .n)))))))))⟩
   replace hF := bf J5 hF
   refine wp_skip <| c_region <| oy hS y_bin <| oy hS y_move <| n_thenN ?_
   obtain rfl := osi hF
   exact ⟨_, R1, G0, I0, J0, K0, M0, N1, N0, R0, T0, U0, V0, X0, Y4, Z4, B5, D5, E5, G5, mk_exF, (hS.re (.b .hb (.t (.e .h) (.t (.e .h) (.t (.e .h) (.t (.e .h) (.t (.e .h) (.t (.e .h) (.t (.e .h) .n)))))))))⟩
 replace hF := bf I4 hF
 refine wp_exit ?_
 refine c_seq <| c_region <| oy hS y_move <| oy hS y_assign <| n_thenN ?_
 obtain rfl := osi hF
 obtain rfl : _ = r := R1
 refine wp_ret (r_ret (vs := [.bool N3]) (hS.re (.b .hb (.t .h (.t .h (.t .h (.t .h (.t .h (.t .h .n)))))))) (rsC res_tmp rsN) rfl ⟨_, rfl, (by first | rfl | simp only [aa, ac, al, an]), ⟨_, _, _, _, _, _, _, _, _, _, _, _, rfl, E2, G2, I2, J2, K2, M2⟩⟩)
theorem w_pipe_issue {g : Frag} {a0 : T_State} {b0_ : Nat} {LB0_ : Own} {a1 : (A4 T_Ins)} {r : (T_State × Bool)} (h0 : Bx_State b0_ a0 LB0_) (hF : pipe_issue a0 a1 = some r) : LC Tryz.prog 35 #[.pointer (some ⟨b0_, 0, none⟩), .agg (enc_Bundle a1).toArray] g LB0_ (fun v L => ∃ (LB' : Own), v = .bool r.2 ∧ L = (LB' ++ []) ∧ Bx_State b0_ r.1 LB') := w_pipe_issue_ h0 hF

def pipe_settle_1 (a0 : T_Write) (a1 : T_Write) : Int :=
  IntKind.i64.wrap (a0.Left - a1.Left)
theorem w_pipe_settle_1_ {g : Frag} {a0 : T_Write} {a1 : T_Write} {r : Int}  (hF : pipe_settle_1 a0 a1 = r) : LCs Tryz.prog 65 #[.agg (enc_Write a0).toArray, .agg (enc_Write a1).toArray] g (.int .i64 r) := by
 unfold pipe_settle_1 at hF
 refine lc_body (k := 10) (av := [.agg (enc_Write a0).toArray, .agg (enc_Write a1).toArray]) func65 rfl rfl (h := fun W hS => ?_)
 refine c_seq <| c_region ?_
 refine o_boxP (cl := (enc_Write a0)) rfl hS ?_
 clear hS; intro b1 w hS
 refine o_boxP (cl := (enc_Write a1)) rfl hS ?_
 clear hS; intro b2 w hS
 refine oy hS y_assign <| n_thenN <| c_seq <| c_region <| oy hS (y_field fa_api_Write_2) <| oy hS (y_load (fun w hS => hS.own (mC (mH))) underlying3 rfl rfl) <| oy hS (y_field fa_api_Write_2) <| oy hS (y_load oH underlying3 rfl rfl) ?_
 refine oy hS y_bin <| oy hS y_assign <| n_thenN ?_
 subst hF
 exact wp_ret (wr1 hS)
theorem w_pipe_settle_1 {g : Frag} {a0 : T_Write} {a1 : T_Write}  : LCs Tryz.prog 65 #[.agg (enc_Write a0).toArray, .agg (enc_Write a1).toArray] g (.int .i64 (pipe_settle_1 a0 a1)) := w_pipe_settle_1_  rfl

noncomputable def slices_insertionSortCmpFunc_api_Write_pipe_settle_1_b2 (a1 : Int) (E0 : Int) : ((List T_Write) × Int) → Option (Step ((List T_Write) × Int) (Step ((List T_Write) × Int) (List T_Write))) := fun (D0, B0) => bif decide (a1 < B0) then (at' D0 B0).bind fun J0 => (at' D0 (IntKind.i64.wrap (B0 - 1))).bind fun K0 => bif decide ((pipe_settle_1 J0 K0) < 0) then (at' D0 (IntKind.i64.wrap (B0 - 1))).bind fun M0 => (at' D0 B0).bind fun N0 => (set' D0 B0 M0).bind fun G0 => (set' G0 (IntKind.i64.wrap (B0 - 1)) N0).bind fun I0 => some (.next (I0, IntKind.i64.wrap (B0 - 1))) else some (.done (.next (D0, IntKind.i64.wrap (E0 + 1)))) else some (.done (.next (D0, IntKind.i64.wrap (E0 + 1))))
noncomputable def slices_insertionSortCmpFunc_api_Write_pipe_settle_1_b1 (a2 : Int) (a1 : Int) : ((List T_Write) × Int) → Option (Step ((List T_Write) × Int) (List T_Write)) := fun (D0, B0) => bif decide (B0 < a2) then loop (σ := ((List T_Write) × Int)) (slices_insertionSortCmpFunc_api_Write_pipe_settle_1_b2 a1 B0) (D0, B0) else some (.done (D0))
noncomputable def slices_insertionSortCmpFunc_api_Write_pipe_settle_1 (a0 : (List T_Write)) (a1 : Int) (a2 : Int) : Option (List T_Write) :=
  loop (σ := ((List T_Write) × Int)) (slices_insertionSortCmpFunc_api_Write_pipe_settle_1_b1 a2 a1) (a0, IntKind.i64.wrap (a1 + 1))
theorem w_slices_insertionSortCmpFunc_api_Write_pipe_settle_1_ {g : Frag} {a0 : (List T_Write)} {v0_ : Value} {LB0_ : Own} {a1 : Int} {a2 : Int} {r : (List T_Write)} (h0 : OwT 89 enc_Write 3 a0 v0_ LB0_) (hF : slices_insertionSortCmpFunc_api_Write_pipe_settle_1 a0 a1 a2 = some r) : LC Tryz.prog 136 #[v0_, .int .i64 a1, .int .i64 a2, .func (.func 65) #[] #[]] g (LB0_ ++ []) (fun v L => ∃ (LB' : Own), v = .tuple #[] ∧ L = (LB' ++ []) ∧ OwT 89 enc_Write 3 r v0_ LB') := by
 unfold slices_insertionSortCmpFunc_api_Write_pipe_settle_1 at hF
 refine lc_body (k := 53) (av := [v0_, .int .i64 a1, .int .i64 a2, .func (.func 65) #[] #[]]) func136 rfl rfl (h := fun W hS => ?_)
 refine c_seq <| c_region <| oy hS y_move <| oy hS y_bin <| oy hS y_assign <| n_thenN <| c_block ?_
 refine c_loopP hF (fun (q : ((List T_Write) × Int)) a w' => ∃ (E0 : Own), OwT 89 enc_Write 3 q.1 v0_ E0 ∧ (∃ s : Nat → Value, a = Ac ((((((Fm.dead 53 s).upd 0 v0_).upd 1 (.int .i64 a1)).upd 2 (.int .i64 a2)).upd 3 (.func (.func 65) #[] #[])).upd 8 (.int .i64 q.2))) ∧ St W g ((LB0_ ++ [])) (E0 ++ []) w') ⟨LB0_, h0, mk_exF, (hS.re (.t .h .n))⟩ ?_
 clear hS hF
 intro Z3 q a w hI hq
 obtain ⟨B3, D3⟩ := q
 obtain ⟨E0, G0, ⟨B4, rfl⟩, hS⟩ := hq
 replace G0 : OwT 89 enc_Write 3 B3 v0_ E0 := G0
 obtain ⟨U0, hF, I0⟩ := iter_step hI
 clear hI
 dsimp only [slices_insertionSortCmpFunc_api_Write_pipe_settle_1_b1] at hF
 iterate 2 (refine c_seq ?_)
 refine c_region ?_
 iterate 2 (refine oy hS y_move ?_)
 refine oy hS y_bin <| n_thenN ?_
 refine c_if (ht := fun N0 => ?_) (hf := fun N0 => ?_)
 · replace hF := bt N0 hF
   refine wp_skip <| c_seq <| c_block <| c_seq <| c_region <| oy hS y_move <| oy hS y_assign <| n_thenN ?_
   refine c_block ?_
   refine c_loopP hF (fun (q : ((List T_Write) × Int)) a w' => ∃ (D0 : Own), OwT 89 enc_Write 3 q.1 v0_ D0 ∧ (∃ s : Nat → Value, a = Ac (((((((Fm.dead 53 s).upd 0 v0_).upd 1 (.int .i64 a1)).upd 2 (.int .i64 a2)).upd 3 (.func (.func 65) #[] #[])).upd 8 (.int .i64 D3)).upd 9 (.int .i64 q.2))) ∧ St W g ((LB0_ ++ [])) (D0 ++ []) w') ⟨E0, G0, mk_exF, (hS.re (.t .h .n))⟩ ?_
   clear hS hF
   intro D4 q a w hI hq
   obtain ⟨E3, E4⟩ := q
   obtain ⟨D0, B0, ⟨G4, rfl⟩, hS⟩ := hq
   replace B0 : OwT 89 enc_Write 3 E3 v0_ D0 := B0
   obtain ⟨I4, hF, J0⟩ := iter_step hI
   clear hI
   dsimp only [slices_insertionSortCmpFunc_api_Write_pipe_settle_1_b2] at hF
   iterate 2 (refine c_seq ?_)
   refine c_quiet (by kernel_rfl) (by kernel_rfl) hS ?_
   iterate 2 (refine qy y_move ?_)
   refine qy y_bin ?_
   refine q_split (ht := fun R0 => ?_) (hf := fun R0 => ?_)
   · replace hF := bt R0 hF
     refine q_gu rfl rfl rfl ?_
     refine qy y_move ?_
     refine q_gu rfl rfl rfl ?_
     refine qy y_move ?_
     refine q_gu rfl rfl rfl ?_
     refine qy y_move ?_
     refine q_gu rfl rfl rfl ?_
     obtain ⟨V0, Z0, hF⟩ := ob hF
     obtain ⟨J4, K4, K3, B1, D1, E1, G1, I1⟩ := OwT.at Z0 B0 enc_len_Write
     refine qy (y_index B1 D1 E1 underlying60 el_api_Write.size) ?_
     refine q_gu rfl rfl rfl ?_
     refine qy (y_loadN (vs := (enc_Write V0)) (fun w hS => hS.own (mA (mX G1))) underlying89 rfl (by exact sz_api_Write) (fun j u hj => I1 j u hj)) ?_
     refine q_gu rfl rfl rfl ?_
     refine qy y_move ?_
     refine q_gu rfl rfl rfl ?_
     refine qy y_move ?_
     refine q_gu rfl rfl rfl ?_
     refine qy y_bin ?_
     refine q_gu rfl rfl rfl ?_
     obtain ⟨X0, J1, hF⟩ := ob hF
     obtain ⟨M4, N4, M3, K1, M1, N1, R1, T1⟩ := OwT.at J1 B0 enc_len_Write
     refine qy (y_index K1 M1 N1 underlying60 el_api_Write.size) ?_
     refine q_gu rfl rfl rfl ?_
     refine qy (y_loadN (vs := (enc_Write X0)) (fun w hS => hS.own (mA (mX R1))) underlying89 rfl (by exact sz_api_Write) (fun j u hj => T1 j u hj)) ?_
     refine q_gu rfl rfl rfl ?_
     refine q_callVS2 func65 rfl rfl (hc := (w_pipe_settle_1 (a0 := V0) (a1 := X0))) (h := ?_)
     refine q_gu rfl rfl rfl ?_
     refine qy y_bin <| qy y_pickT ?_
     refine q_nilN (h := ?_)
     clear hS; intro w hS
     refine c_if (ht := fun T0 => ?_) (hf := fun T0 => ?_)
     · replace hF := bt T0 hF
       refine wp_skip <| c_seq <| c_block ?_
       refine c_heldL 15 18 (by kernel_rfl) rfl hS ?_
       clear hS; intro w hS
       refine hy0 0 rfl wn (by kernel_rfl) (nq (P := Tryz.prog) (fn := Tryz.f136)) (fun _ => hS.cb) y_move ?_
       refine hy0 1 rfl wn (by kernel_rfl) (nq (P := Tryz.prog) (fn := Tryz.f136)) (fun _ => hS.cb) y_move ?_
       refine hy0 2 rfl wn (by kernel_rfl) (nq (P := Tryz.prog) (fn := Tryz.f136)) (fun _ => hS.cb) y_move ?_
       refine hy0 3 rfl wn (by kernel_rfl) (nq (P := Tryz.prog) (fn := Tryz.f136)) (fun _ => hS.cb) y_move ?_
       refine hy0 4 rfl wn (by kernel_rfl) (nq (P := Tryz.prog) (fn := Tryz.f136)) (fun _ => hS.cb) y_bin ?_
       refine hy0 5 rfl wn (by kernel_rfl) (nq (P := Tryz.prog) (fn := Tryz.f136)) (fun _ => hS.cb) y_move ?_
       refine hy0 6 rfl wn (by kernel_rfl) (nq (P := Tryz.prog) (fn := Tryz.f136)) (fun _ => hS.cb) y_move ?_
       refine hy0 7 rfl wn (by kernel_rfl) (nq (P := Tryz.prog) (fn := Tryz.f136)) (fun _ => hS.cb) y_bin ?_
       obtain ⟨G3, U1, hF⟩ := ob hF
       obtain ⟨R4, T4, N3, V1, X1, Y1, Z1, B2⟩ := OwT.at U1 B0 enc_len_Write
       refine hy0 8 rfl wn (by kernel_rfl) (nq (P := Tryz.prog) (fn := Tryz.f136)) (fun _ => hS.cb) (y_index V1 X1 Y1 underlying60 el_api_Write.size) ?_
       refine hy 9 rfl wn (by kernel_rfl) (nq (P := Tryz.prog) (fn := Tryz.f136)) hS.cb (y_loadN (vs := (enc_Write G3)) (fun w hS => hS.own (mA (mX Z1))) underlying89 rfl (by exact sz_api_Write) (fun j u hj => B2 j u hj)) ?_
       refine hy0 10 rfl wn (by kernel_rfl) (nq (P := Tryz.prog) (fn := Tryz.f136)) (fun _ => hS.cb) y_move ?_
       refine hy0 11 rfl wn (by kernel_rfl) (nq (P := Tryz.prog) (fn := Tryz.f136)) (fun _ => hS.cb) y_move ?_
       obtain ⟨I3, D2, hF⟩ := ob hF
       obtain ⟨U4, V4, R3, E2, G2, I2, J2, K2⟩ := OwT.at D2 B0 enc_len_Write
       refine hy0 12 rfl wn (by kernel_rfl) (nq (P := Tryz.prog) (fn := Tryz.f136)) (fun _ => hS.cb) (y_index E2 G2 I2 underlying60 el_api_Write.size) ?_
       refine hy 13 rfl wn (by kernel_rfl) (nq (P := Tryz.prog) (fn := Tryz.f136)) hS.cb (y_loadN (vs := (enc_Write I3)) (fun w hS => hS.own (mA (mX J2))) underlying89 rfl (by exact sz_api_Write) (fun j u hj => K2 j u hj)) ?_
       obtain ⟨T3, K0, hF⟩ := ob hF
       obtain ⟨X4, Y4, U3, M2, N2, R2, T2⟩ := OwT.at_set K0 B0 enc_len_Write
       refine hy0 14 rfl wn (by kernel_rfl) (nq (P := Tryz.prog) (fn := Tryz.f136)) (fun _ => hS.cb) (y_index M2 N2 R2 underlying60 el_api_Write.size) ?_
       refine hb1 15 (by kernel_rfl) (hb_op rfl wn (nl (P := Tryz.prog) (fn := Tryz.f136)) ?_)
       refine o_storeON (L' := fun X => (X ++ [])) K0 hS B0 T2 (fun X => .here _) enc_len_Write (by exact sz_api_Write) (enc_one_Write _) ?_
       clear hS; intro V3 w Y0 hS
       refine hb_next (fun h => absurd h (by decide)) ?_
       obtain ⟨X3, M0, hF⟩ := ob hF
       obtain ⟨Z4, B5, Y3, U2, V2, X2, Y2⟩ := OwT.at_set M0 Y0 enc_len_Write
       refine hy0 16 rfl wn (by kernel_rfl) (nq (P := Tryz.prog) (fn := Tryz.f136)) (fun h => absurd h (by decide)) (y_index U2 V2 X2 underlying60 el_api_Write.size) ?_
       refine hb1 17 (by kernel_rfl) (hb_op rfl wn (nl (P := Tryz.prog) (fn := Tryz.f136)) ?_)
       refine o_storeON (L' := fun X => (X ++ [])) M0 hS Y0 Y2 (fun X => .here _) enc_len_Write (by exact sz_api_Write) (enc_one_Write _) ?_
       clear hS; intro Z2 w J3 hS
       refine hb_next (fun h => absurd h (by decide)) ?_
       refine hb_done (by kernel_rfl) ?_
       refine c_region <| oy hS y_move <| oy hS y_bin <| oy hS y_assign <| n_thenN ?_
       obtain rfl := osi hF
       exact ⟨_, J0, Z2, J3, mk_exF, (hS.re (.t .h .n))⟩
     replace hF := bf T0 hF
     refine wp_exit ?_
     refine c_region <| oy hS y_move <| oy hS y_bin <| oy hS y_assign <| n_thenN ?_
     obtain rfl := osi hF
     obtain rfl : _ = U0 := J0
     exact ⟨_, I0, D0, B0, mk_exF, (hS.re (.t .h .n))⟩
   replace hF := bf R0 hF
   iterate 12 (refine q_sk rfl rfl ?_)
   refine qy y_pickF ?_
   refine q_nilN (h := ?_)
   clear hS; intro w hS
   refine c_if_false (h := ?_)
   refine wp_exit ?_
   refine c_region <| oy hS y_move <| oy hS y_bin <| oy hS y_assign <| n_thenN ?_
   obtain rfl := osi hF
   obtain rfl : _ = U0 := J0
   exact ⟨_, I0, D0, B0, mk_exF, (hS.re (.t .h .n))⟩
 replace hF := bf N0 hF
 refine wp_exit ?_
 obtain rfl := osi hF
 obtain rfl : _ = r := I0
 refine (r_end (vs := []) (hS.re (.t .h .n)) rsN rfl ⟨_, rfl, (by first | rfl | simp only [aa, ac, al, an]), G0⟩)
theorem w_slices_insertionSortCmpFunc_api_Write_pipe_settle_1 {g : Frag} {a0 : (List T_Write)} {v0_ : Value} {LB0_ : Own} {a1 : Int} {a2 : Int} {r : (List T_Write)} (h0 : OwT 89 enc_Write 3 a0 v0_ LB0_) (hF : slices_insertionSortCmpFunc_api_Write_pipe_settle_1 a0 a1 a2 = some r) : LC Tryz.prog 136 #[v0_, .int .i64 a1, .int .i64 a2, .func (.func 65) #[] #[]] g (LB0_ ++ []) (fun v L => ∃ (LB' : Own), v = .tuple #[] ∧ L = (LB' ++ []) ∧ OwT 89 enc_Write 3 r v0_ LB') := w_slices_insertionSortCmpFunc_api_Write_pipe_settle_1_ h0 hF

noncomputable def slices_stableCmpFunc_api_Write_pipe_settle_1_b2 (a1 : Int) : ((List T_Write) × Int × Int) → Option (Step ((List T_Write) × Int × Int) (Step ((List T_Write) × Int) (List T_Write))) := fun (x50, x54, x55) => bif decide (x55 ≤ a1) then (slices_insertionSortCmpFunc_api_Write_pipe_settle_1 x50 x54 x55).bind fun r69 => some (.next (r69, x55, IntKind.i64.wrap (x55 + 20))) else some (.done (.next (x50, x54)))
noncomputable def slices_stableCmpFunc_api_Write_pipe_settle_1_b5 (B0 : Int) (a1 : Int) : Unit → Option (Step Unit (Step Unit (Step Int (List T_Write)))) := fun _ => bif decide ((IntKind.i64.wrap (2 * B0)) ≤ a1) then none else some (.done (.next ()))
noncomputable def slices_stableCmpFunc_api_Write_pipe_settle_1_k4 (B0 : Int) (a1 : Int) : Unit → Option (Step Int (List T_Write)) := fun _ => bif decide ((IntKind.i64.wrap (0 + B0)) < a1) then none else some (.next (IntKind.i64.wrap (B0 * 2)))
noncomputable def slices_stableCmpFunc_api_Write_pipe_settle_1_b3 (a1 : Int) (r77 : (List T_Write)) : Int → Option (Step Int (List T_Write)) := fun B0 => bif decide (B0 < a1) then cut (σ := Unit) (loop (σ := Unit) (slices_stableCmpFunc_api_Write_pipe_settle_1_b5 B0 a1) ()) (slices_stableCmpFunc_api_Write_pipe_settle_1_k4 B0 a1) else some (.done (r77))
noncomputable def slices_stableCmpFunc_api_Write_pipe_settle_1_k1 (a1 : Int) : ((List T_Write) × Int) → Option (List T_Write) := fun (x35, x39) => (slices_insertionSortCmpFunc_api_Write_pipe_settle_1 x35 x39 a1).bind fun r77 => loop (σ := Int) (slices_stableCmpFunc_api_Write_pipe_settle_1_b3 a1 r77) 20
noncomputable def slices_stableCmpFunc_api_Write_pipe_settle_1 (a0 : (List T_Write)) (a1 : Int) : Option (List T_Write) :=
  cut (σ := ((List T_Write) × Int)) (loop (σ := ((List T_Write) × Int × Int)) (slices_stableCmpFunc_api_Write_pipe_settle_1_b2 a1) (a0, 0, 20)) (slices_stableCmpFunc_api_Write_pipe_settle_1_k1 a1)
theorem w_slices_stableCmpFunc_api_Write_pipe_settle_1_ {g : Frag} {a0 : (List T_Write)} {v0_ : Value} {LB0_ : Own} {a1 : Int} {r : (List T_Write)} (h0 : OwT 89 enc_Write 3 a0 v0_ LB0_) (hF : slices_stableCmpFunc_api_Write_pipe_settle_1 a0 a1 = some r) : LC Tryz.prog 107 #[v0_, .int .i64 a1, .func (.func 65) #[] #[]] g (LB0_ ++ []) (fun v L => ∃ (LB' : Own), v = .tuple #[] ∧ L = (LB' ++ []) ∧ OwT 89 enc_Write 3 r v0_ LB') := by
 unfold slices_stableCmpFunc_api_Write_pipe_settle_1 at hF
 refine lc_body (k := 63) (av := [v0_, .int .i64 a1, .func (.func 65) #[] #[]]) func107 rfl rfl (h := fun W hS => ?_)
 refine c_seq <| c_region <| oy hS y_assign <| n_thenN <| c_seq <| c_region <| oy hS y_move ?_
 iterate 2 (refine oy hS y_assign ?_)
 refine n_thenN ?_
 obtain ⟨z40, hF, U0⟩ := cut_step hF
 refine c_cutP (fun a w' => ∃ (x35 : (List T_Write)) (x39 : Int) (E0 : Own), slices_stableCmpFunc_api_Write_pipe_settle_1_k1 a1 (x35, x39) = some r ∧ OwT 89 enc_Write 3 x35 v0_ E0 ∧ (∃ s : Nat → Value, a = Ac ((((((Fm.dead 63 s).upd 0 v0_).upd 1 (.int .i64 a1)).upd 2 (.func (.func 65) #[] #[])).upd 6 (.int .i64 20)).upd 7 (.int .i64 x39))) ∧ St W g ((LB0_ ++ [])) (E0 ++ []) w') ?_ ?_
 · skip
   refine c_block ?_
   refine c_loopP hF (fun (q : ((List T_Write) × Int × Int)) a w' => ∃ (B0 : Own), OwT 89 enc_Write 3 q.1 v0_ B0 ∧ (∃ s : Nat → Value, a = Ac (((((((Fm.dead 63 s).upd 0 v0_).upd 1 (.int .i64 a1)).upd 2 (.func (.func 65) #[] #[])).upd 6 (.int .i64 20)).upd 7 (.int .i64 q.2.1)).upd 8 (.int .i64 q.2.2))) ∧ St W g ((LB0_ ++ [])) (B0 ++ []) w') ⟨LB0_, h0, mk_exF, (hS.re (.t .h .n))⟩ ?_
   clear hS hF
   intro n66 q a w hI hq
   obtain ⟨x50, x54, x55⟩ := q
   obtain ⟨B0, h51, ⟨s67, rfl⟩, hS⟩ := hq
   replace h51 : OwT 89 enc_Write 3 x50 v0_ B0 := h51
   obtain ⟨z64, hF, N0⟩ := iter_step hI
   clear hI
   dsimp only [slices_stableCmpFunc_api_Write_pipe_settle_1_b2] at hF
   iterate 2 (refine c_seq ?_)
   refine c_region ?_
   iterate 2 (refine oy hS y_move ?_)
   refine oy hS y_bin <| n_thenN ?_
   refine c_if (ht := fun c68 => ?_) (hf := fun c68 => ?_)
   · replace hF := bt c68 hF
     refine wp_skip <| c_block <| c_seq <| c_region ?_
     iterate 4 (refine oy hS y_move ?_)
     have hS2 := hS.spl (.app _ (.nil _))
     obtain ⟨r69, V0, hF⟩ := ob hF
     refine o_call hS2 func136 rfl rfl (hc := (w_slices_insertionSortCmpFunc_api_Write_pipe_settle_1 (a0 := x50) (a1 := x54) (a2 := x55) (h0 := h51) (hF := V0))) (h := ?_)
     clear hS; intro v70 J1 w hS X0
     clear hS2
     obtain ⟨Y0, rfl, rfl, Z0⟩ := X0
     simp only [aa, ac, al] at hS
     refine n_thenN <| c_seq <| c_region <| oy hS y_move <| oy hS y_assign <| n_thenN <| c_region ?_
     iterate 2 (refine oy hS y_move ?_)
     refine oy hS y_bin <| oy hS y_assign ?_
     refine n_anyN ?_
     obtain rfl := osi hF
     exact ⟨_, N0, Y0, Z0, mk_exF, (hS.re (.t .h .n))⟩
   replace hF := bf c68 hF
   refine wp_exit ?_
   obtain rfl := osi hF
   obtain rfl : _ = z40 := N0
   change ∃ _, _
   exact ⟨x50, x54, B0, U0, h51, mk_exF, (hS.re (.t .h .n))⟩
 rintro a w ⟨x35, x39, E0, hF, h36, ⟨s76, rfl⟩, hS⟩
 dsimp only [slices_stableCmpFunc_api_Write_pipe_settle_1_k1] at hF
 refine c_seq <| c_region ?_
 iterate 4 (refine oy hS y_move ?_)
 have hS2 := hS.spl (.app _ (.nil _))
 obtain ⟨r77, B1, hF⟩ := ob hF
 refine o_call hS2 func136 rfl rfl (hc := (w_slices_insertionSortCmpFunc_api_Write_pipe_settle_1 (a0 := x35) (a1 := x39) (a2 := a1) (h0 := h36) (hF := B1))) (h := ?_)
 clear hS; intro v78 K1 w hS D1
 clear hS2
 obtain ⟨G0, rfl, rfl, E1⟩ := D1
 simp only [aa, ac, al] at hS
 refine n_thenN <| c_block ?_
 refine c_loopP hF (fun (q : Int) a w' => (∃ s : Nat → Value, a = Ac (((((Fm.dead 63 s).upd 0 v0_).upd 1 (.int .i64 a1)).upd 2 (.func (.func 65) #[] #[])).upd 6 (.int .i64 q))) ∧ St W g ((LB0_ ++ [])) (G0 ++ []) w') ⟨mk_exF, (hS.re (.t .h .n))⟩ ?_
 clear hS hF
 intro M1 q a w hI hq
 revert hq hI; revert q; intro D0 hI hq
 obtain ⟨⟨N1, rfl⟩, hS⟩ := hq
 obtain ⟨G1, hF, M0⟩ := iter_step hI
 clear hI
 dsimp only [slices_stableCmpFunc_api_Write_pipe_settle_1_b3] at hF
 iterate 2 (refine c_seq ?_)
 refine c_region ?_
 iterate 2 (refine oy hS y_move ?_)
 refine oy hS y_bin <| n_thenN ?_
 refine c_if (ht := fun I0 => ?_) (hf := fun I0 => ?_)
 · replace hF := bt I0 hF
   refine wp_skip <| c_block <| c_seq <| c_region <| oy hS y_move <| oy hS y_bin ?_
   iterate 2 (refine oy hS y_assign ?_)
   refine n_thenN ?_
   obtain ⟨I1, hF, R0⟩ := cut_step hF
   refine c_cutP (fun a w' => slices_stableCmpFunc_api_Write_pipe_settle_1_k4 D0 a1 () = some G1 ∧ (∃ s : Nat → Value, a = Ac ((((((Fm.dead 63 s).upd 0 v0_).upd 1 (.int .i64 a1)).upd 2 (.func (.func 65) #[] #[])).upd 6 (.int .i64 D0)).upd 7 (.int .i64 0))) ∧ St W g ((LB0_ ++ [])) (G0 ++ []) w') ?_ ?_
   · skip
     refine c_block ?_
     refine c_loopP hF (fun (q : Unit) a w' => (∃ s : Nat → Value, a = Ac (((((((Fm.dead 63 s).upd 0 v0_).upd 1 (.int .i64 a1)).upd 2 (.func (.func 65) #[] #[])).upd 6 (.int .i64 D0)).upd 7 (.int .i64 0)).upd 8 (.int .i64 (IntKind.i64.wrap (2 * D0))))) ∧ St W g ((LB0_ ++ [])) (G0 ++ []) w') ⟨mk_exF, (hS.re (.t .h .n))⟩ ?_
     clear hS hF
     intro R1 q a w hI hq
     obtain ⟨⟩ := q
     obtain ⟨⟨T1, rfl⟩, hS⟩ := hq
     obtain ⟨U1, hF, T0⟩ := iter_step hI
     clear hI
     dsimp only [slices_stableCmpFunc_api_Write_pipe_settle_1_b5] at hF
     iterate 2 (refine c_seq ?_)
     refine c_region ?_
     iterate 2 (refine oy hS y_move ?_)
     refine oy hS y_bin <| n_thenN ?_
     refine c_if (ht := fun J0 => ?_) (hf := fun J0 => ?_)
     · replace hF := bt J0 hF
       refine wp_skip <| c_block <| c_seq <| c_region ?_
       iterate 4 (refine oy hS y_move ?_)
       refine oy hS y_bin ?_
       iterate 2 (refine oy hS y_move ?_)
       exact nomatch hF
     replace hF := bf J0 hF
     refine wp_exit ?_
     obtain rfl := osi hF
     obtain rfl : _ = I1 := T0
     change _ ∧ _
     exact ⟨R0, mk_exF, (hS.re (.t .h .n))⟩
   rintro a w ⟨hF, ⟨V1, rfl⟩, hS⟩
   dsimp only [slices_stableCmpFunc_api_Write_pipe_settle_1_k4] at hF
   iterate 2 (refine c_seq ?_)
   refine c_region ?_
   iterate 2 (refine oy hS y_move ?_)
   refine oy hS y_bin <| oy hS y_assign <| n_thenN <| c_seq <| c_region ?_
   iterate 2 (refine oy hS y_move ?_)
   refine oy hS y_bin <| n_thenN ?_
   refine c_if (ht := fun K0 => ?_) (hf := fun K0 => ?_)
   · replace hF := bt K0 hF
     refine c_region ?_
     iterate 5 (refine oy hS y_move ?_)
     exact nomatch hF
   replace hF := bf K0 hF
   refine wp_skip <| c_region <| oy hS y_move <| oy hS y_bin <| oy hS y_assign ?_
   refine n_anyN ?_
   obtain rfl := osi hF
   exact ⟨_, M0, mk_exF, (hS.re (.t .h .n))⟩
 replace hF := bf I0 hF
 refine wp_exit ?_
 obtain rfl := osi hF
 obtain rfl : _ = r := M0
 refine (r_end (vs := []) (hS.re (.t .h .n)) rsN rfl ⟨_, rfl, (by first | rfl | simp only [aa, ac, al, an]), E1⟩)
theorem w_slices_stableCmpFunc_api_Write_pipe_settle_1 {g : Frag} {a0 : (List T_Write)} {v0_ : Value} {LB0_ : Own} {a1 : Int} {r : (List T_Write)} (h0 : OwT 89 enc_Write 3 a0 v0_ LB0_) (hF : slices_stableCmpFunc_api_Write_pipe_settle_1 a0 a1 = some r) : LC Tryz.prog 107 #[v0_, .int .i64 a1, .func (.func 65) #[] #[]] g (LB0_ ++ []) (fun v L => ∃ (LB' : Own), v = .tuple #[] ∧ L = (LB' ++ []) ∧ OwT 89 enc_Write 3 r v0_ LB') := w_slices_stableCmpFunc_api_Write_pipe_settle_1_ h0 hF

noncomputable def slices_SortStableFunc_api_Write_api_Write_pipe_settle_1 (a0 : (List T_Write)) : Option (List T_Write) :=
  (slices_stableCmpFunc_api_Write_pipe_settle_1 a0 (a0.length : Int)).bind fun r1 => some (r1)
theorem w_slices_SortStableFunc_api_Write_api_Write_pipe_settle_1_ {g : Frag} {a0 : (List T_Write)} {v0_ : Value} {LB0_ : Own} {r : (List T_Write)} (h0 : OwT 89 enc_Write 3 a0 v0_ LB0_) (hF : slices_SortStableFunc_api_Write_api_Write_pipe_settle_1 a0 = some r) : LC Tryz.prog 64 #[v0_, .func (.func 65) #[] #[]] g (LB0_ ++ []) (fun v L => ∃ (LB' : Own), v = .tuple #[] ∧ L = (LB' ++ []) ∧ OwT 89 enc_Write 3 r v0_ LB') := by
 unfold slices_SortStableFunc_api_Write_api_Write_pipe_settle_1 at hF
 refine lc_body (k := 9) (av := [v0_, .func (.func 65) #[] #[]]) func64 rfl rfl (h := fun W hS => ?_)
 refine c_region ?_
 iterate 2 (refine oy hS y_move ?_)
 refine oy hS (y_lenO h0 underlying60) <| oy hS y_move ?_
 have hS2 := hS.spl (.app _ (.nil _))
 obtain ⟨r1, hr1, hF⟩ := ob hF
 refine o_call hS2 func107 rfl rfl (hc := (w_slices_stableCmpFunc_api_Write_pipe_settle_1 (a0 := a0) (a1 := (a0.length : Int)) (h0 := h0) (hF := hr1))) (h := ?_)
 clear hS; intro v2 LY3 w hS hr4
 clear hS2
 obtain ⟨LB5, rfl, rfl, hq6⟩ := hr4
 simp only [aa, ac, al] at hS
 refine n_anyN ?_
 obtain rfl := osi hF
 refine (r_end (vs := []) (hS.re (.t .h .n)) rsN rfl ⟨_, rfl, (by first | rfl | simp only [aa, ac, al, an]), hq6⟩)
theorem w_slices_SortStableFunc_api_Write_api_Write_pipe_settle_1 {g : Frag} {a0 : (List T_Write)} {v0_ : Value} {LB0_ : Own} {r : (List T_Write)} (h0 : OwT 89 enc_Write 3 a0 v0_ LB0_) (hF : slices_SortStableFunc_api_Write_api_Write_pipe_settle_1 a0 = some r) : LC Tryz.prog 64 #[v0_, .func (.func 65) #[] #[]] g (LB0_ ++ []) (fun v L => ∃ (LB' : Own), v = .tuple #[] ∧ L = (LB' ++ []) ∧ OwT 89 enc_Write 3 r v0_ LB') := w_slices_SortStableFunc_api_Write_api_Write_pipe_settle_1_ h0 hF

noncomputable def pipe_settle_b2 (r1 : (List T_Write)) (a0 : T_State) : (Int × (List Int)) → Option (Step (Int × (List Int)) (Step ((List Int) × (List Int) × (List Int) × (List Int) × (List T_Write)) T_State)) := fun (B0, D0) => bif decide (B0 < (r1.length : Int)) then (at' r1 B0).bind fun E0 => (set' D0 E0.Reg E0.Value).bind fun G0 => some (.next (IntKind.i64.wrap (B0 + 1), G0)) else some (.done (.next (D0, a0.In_, a0.Out, a0.Stack, r1)))
noncomputable def pipe_settle_k1 (a0 : T_State) : ((List Int) × (List Int) × (List Int) × (List Int) × (List T_Write)) → Option T_State := fun (x83, x87, x92, x97, B0) => some (⟨x83, a0.Mem, x87, a0.Taken, x92, a0.PC, x97, a0.Stop, [], a0.Jump, a0.Delay⟩ : T_State)
noncomputable def pipe_settle (a0 : T_State) : Option T_State :=
  (slices_SortStableFunc_api_Write_api_Write_pipe_settle_1 a0.Fly).bind fun r1 => cut (σ := ((List Int) × (List Int) × (List Int) × (List Int) × (List T_Write))) (loop (σ := (Int × (List Int))) (pipe_settle_b2 r1 a0) (0, a0.Regs)) (pipe_settle_k1 a0)
theorem w_pipe_settle_ {g : Frag} {a0 : T_State} {b0_ : Nat} {LB0_ : Own} {r : T_State} (h0 : Bx_State b0_ a0 LB0_) (hF : pipe_settle a0 = some r) : LC Tryz.prog 36 #[.pointer (some ⟨b0_, 0, none⟩)] g LB0_ (fun v L => ∃ (LB' : Own), v = .tuple #[] ∧ L = (LB' ++ []) ∧ Bx_State b0_ r LB') := by
 obtain ⟨B0, J0, T0, K0, M0, D0, Z0, N0, E0, G0, I0, U2, V2, V1, X1, B1, D1, E1, G1⟩ := h0
 unfold pipe_settle at hF
 refine lc_body (k := 31) (av := [.pointer (some ⟨b0_, 0, none⟩)]) func36 rfl rfl (h := fun W hS => ?_)
 have hS := hS.own_eq V2
 refine c_seq <| c_region <| oy hS y_move <| oy hS y_nilCheck <| oy hS (y_field fa_api_State_8) <| oy hS (y_load oH underlying60 rfl rfl) ?_
 have hS := hS.re (.t (.e (.d (.d (.d (.d (.d .h)))))) (.b .hb (.t .h (.t .h (.t .h (.t .h (.t .h .n)))))))
 have hS2 := hS.spl (.app _ (.nil _))
 obtain ⟨r1, hr1, hF⟩ := ob hF
 refine o_call hS2 func64 rfl rfl (hc := (w_slices_SortStableFunc_api_Write_api_Write_pipe_settle_1 (a0 := a0.Fly) (h0 := G1) (hF := hr1))) (h := ?_)
 clear hS; intro v2 LY3 w hS hr4
 clear hS2
 obtain ⟨LB5, rfl, rfl, hq6⟩ := hr4
 simp only [aa, ac, al] at hS
 refine n_thenN ?_
 obtain ⟨X2, hF, Z1⟩ := cut_step hF
 refine c_cutP (fun a w' => ∃ (x83 : (List Int)) (x87 : (List Int)) (x92 : (List Int)) (x97 : (List Int)) (I1 : (List T_Write)) (v88 : Value) (v93 : Value) (v98 : Value) (J1 : Value) (K1 : Own) (M1 : Own) (N1 : Own) (V0 : Own) (X0 : Own), pipe_settle_k1 a0 (x83, x87, x92, x97, I1) = some r ∧ OwT 87 enc_uint32 1 x83 B0 K1 ∧ OwT 87 enc_uint32 1 x87 v88 M1 ∧ OwT 87 enc_uint32 1 x92 v93 N1 ∧ OwT 3 enc_int 1 x97 v98 V0 ∧ OwT 89 enc_Write 3 I1 J1 X0 ∧ (∃ s : Nat → Value, a = Ac ((Fm.dead 31 s).upd 0 (.pointer (some ⟨b0_, 0, none⟩)))) ∧ St W g LB0_ ((b0_, blk (cl_State B0 J0 v88 a0.Taken v93 a0.PC v98 a0.Stop J1 a0.Jump a0.Delay) 62) :: (K1 ++ (N0 ++ (M1 ++ (N1 ++ (V0 ++ (X0 ++ []))))))) w') ?_ ?_
 · skip
   refine c_seq <| c_region <| oy hS y_move <| oy hS y_nilCheck <| oy hS (y_field fa_api_State_8) <| oy hS (y_load (fun w hS => hS.own (mB (mH))) underlying60 rfl rfl) <| oy hS (y_lenO hq6 underlying60) <| oy hS y_move ?_
   refine n_thenN <| c_block ?_
   refine c_loopP hF (fun (q : (Int × (List Int))) a w' => ∃ (R0 : Own), OwT 87 enc_uint32 1 q.2 B0 R0 ∧ (∃ s : Nat → Value, a = Ac (((((Fm.dead 31 s).upd 0 (.pointer (some ⟨b0_, 0, none⟩))).upd 12 D0).upd 13 (.int .i64 (r1.length : Int))).upd 14 (.int .i64 q.1))) ∧ St W g LB0_ ((b0_, blk (cl_State B0 J0 T0 a0.Taken K0 a0.PC M0 a0.Stop D0 a0.Jump a0.Delay) 62) :: (R0 ++ (N0 ++ (E0 ++ (G0 ++ (I0 ++ (LB5 ++ []))))))) w') ⟨Z0, V1, mk_exF, (hS.re (.b (.d .hb) (.t (.d .h) (.t (.d .h) (.t (.d .h) (.t (.d .h) (.t (.d .h) (.t .h .n))))))))⟩ ?_
   clear hS hF
   intro G3 q a w hI hq
   obtain ⟨I3, Y1⟩ := q
   obtain ⟨R0, U0, ⟨J3, rfl⟩, hS⟩ := hq
   replace U0 : OwT 87 enc_uint32 1 Y1 B0 R0 := U0
   obtain ⟨K3, hF, U1⟩ := iter_step hI
   clear hI
   dsimp only [pipe_settle_b2] at hF
   refine c_seq <| c_region <| oy hS y_bin <| n_thenN <| c_seq ?_
   refine c_if (ht := fun R1 => ?_) (hf := fun R1 => ?_)
   · replace hF := bt R1 hF
     refine wp_skip <| c_seq <| c_block <| c_seq <| c_region ?_
     obtain ⟨T1, B2, hF⟩ := ob hF
     obtain ⟨M3, N3, B3, D2, E2, G2, I2, J2⟩ := OwT.at B2 hq6 enc_len_Write
     refine oy hS (y_index D2 E2 G2 underlying60 el_api_Write.size) ?_
     refine oy hS (y_loadN (vs := (enc_Write T1)) (fun w hS => hS.own (mC (mB (mB (mB (mB (mB (mA (mX I2))))))))) underlying89 rfl (by exact sz_api_Write) (fun j u hj => J2 j u hj)) ?_
     refine o_allocP (cl := (enc_Write ⟨0, 0, 0⟩)) zr_api_Write rfl hS ?_
     clear hS; intro Y2 w hS
     refine o_storeW (vs := (enc_Write T1)) hS (by exact rfl) (Upd.here _) (by exact sz_api_Write) (enc_one_Write _) ?_
     clear hS; intro w hS
     refine n_thenN ?_
     refine c_heldL 9 10 (by kernel_rfl) rfl hS ?_
     clear hS; intro w hS
     refine hy0 0 rfl wn (by kernel_rfl) (nq (P := Tryz.prog) (fn := Tryz.f36)) (fun _ => hS.cb) y_move ?_
     refine hy0 1 rfl wn (by kernel_rfl) (nq (P := Tryz.prog) (fn := Tryz.f36)) (fun _ => hS.cb) y_nilCheck ?_
     refine hy0 2 rfl wn (by kernel_rfl) (nq (P := Tryz.prog) (fn := Tryz.f36)) (fun _ => hS.cb) (y_field fa_api_State_0) ?_
     refine hy 3 rfl wn (by kernel_rfl) (nq (P := Tryz.prog) (fn := Tryz.f36)) hS.cb (y_load (fun w hS => hS.own (mC (mH))) underlying31 rfl rfl) ?_
     refine hy0 4 rfl wn (by kernel_rfl) (nq (P := Tryz.prog) (fn := Tryz.f36)) (fun _ => hS.cb) (y_field fa_api_Write_0) ?_
     refine hy 5 rfl wn (by kernel_rfl) (nq (P := Tryz.prog) (fn := Tryz.f36)) hS.cb (y_load (fun w hS => hS.own (mH)) underlying3 rfl rfl) ?_
     refine hy0 6 rfl wn (by kernel_rfl) (nq (P := Tryz.prog) (fn := Tryz.f36)) (fun _ => hS.cb) (y_field fa_api_Write_1) ?_
     refine hy 7 rfl wn (by kernel_rfl) (nq (P := Tryz.prog) (fn := Tryz.f36)) hS.cb (y_load (fun w hS => hS.own (mH)) underlying87 rfl rfl) ?_
     obtain ⟨D3, Y0, hF⟩ := ob hF
     obtain ⟨R3, T3, E3, K2, M2, N2, R2⟩ := OwT.at_set Y0 U0 enc_len_uint32
     refine hy0 8 rfl wn (by kernel_rfl) (nq (P := Tryz.prog) (fn := Tryz.f36)) (fun _ => hS.cb) (y_index K2 M2 N2 underlying31 el_uint32.size) ?_
     refine hb1 9 (by kernel_rfl) (hb_op rfl wn (nl (P := Tryz.prog) (fn := Tryz.f36)) ?_)
     refine o_storeO (L' := fun X => ((Y2, blk (enc_Write T1) 89) :: ((b0_, blk (cl_State B0 J0 T0 a0.Taken K0 a0.PC M0 a0.Stop D0 a0.Jump a0.Delay) 62) :: (X ++ (N0 ++ (E0 ++ (G0 ++ (I0 ++ (LB5 ++ []))))))))) Y0 hS U0 R2 (fun X => .thereb _ (.thereb _ (.here _))) enc_len_uint32 rfl (by exact sz_uint32) rfl rfl ?_
     clear hS; intro T2 w Z2 hS
     refine hb_next (fun h => absurd h (by decide)) ?_
     refine hb_done (by kernel_rfl) ?_
     refine c_region <| oy hS y_bin <| oy hS y_move <| n_thenN ?_
     obtain rfl := osi hF
     exact ⟨_, U1, T2, Z2, mk_exF, (hS.re (.b (.e .hb) (.t (.e .h) (.t (.e .h) (.t (.e .h) (.t (.e .h) (.t (.e .h) (.t (.e .h) .n))))))))⟩
   replace hF := bf R1 hF
   refine wp_exit ?_
   obtain rfl := osi hF
   obtain rfl : _ = X2 := U1
   change ∃ _, _
   exact ⟨Y1, a0.In_, a0.Out, a0.Stack, r1, T0, K0, M0, D0, R0, E0, G0, I0, LB5, Z1, U0, B1, D1, E1, hq6, mk_exF, (hS.re (.b .hb (.t .h (.t .h (.t .h (.t .h (.t .h (.t .h .n))))))))⟩
 rintro a w ⟨x83, x87, x92, x97, I1, v88, v93, v98, J1, K1, M1, N1, V0, X0, hF, h84, h89, h94, h99, U3, ⟨V3, rfl⟩, hS⟩
 dsimp only [pipe_settle_k1] at hF
 refine c_region <| oy hS y_move <| oy hS y_nilCheck <| oy hS (y_field fa_api_State_8) ?_
 refine o_storeA1 (o := 8) (cl' := (cl_State B0 J0 v88 a0.Taken v93 a0.PC v98 a0.Stop (.slice none 0 0) a0.Jump a0.Delay)) hS (by kernel_rfl) (by exact Nat.le_of_ble_eq_true rfl) (Upd.here _) (by exact sz_S_api_Write) rfl rfl ?_
 clear hS; intro w hS
 refine n_anyN ?_
 obtain rfl := osi hF
 refine (r_end (vs := []) (hS.re (.b .hb (.t .h (.t .h (.t .h (.t .h (.t .h .n))))))) rsN rfl ⟨_, rfl, (by first | rfl | simp only [aa, ac, al, an]), ⟨_, _, _, _, _, _, _, _, _, _, _, _, rfl, h84, X1, h89, h94, h99, OwT.nil _ _ _⟩⟩)
theorem w_pipe_settle {g : Frag} {a0 : T_State} {b0_ : Nat} {LB0_ : Own} {r : T_State} (h0 : Bx_State b0_ a0 LB0_) (hF : pipe_settle a0 = some r) : LC Tryz.prog 36 #[.pointer (some ⟨b0_, 0, none⟩)] g LB0_ (fun v L => ∃ (LB' : Own), v = .tuple #[] ∧ L = (LB' ++ []) ∧ Bx_State b0_ r LB') := w_pipe_settle_ h0 hF
end Go.Proofs.YtfnmihhcopkkbaaGreat
