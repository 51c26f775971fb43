/- Functions, lifted. Printed by lift.py. -/
import Derived.Test.YtfnmihhcopkkbaaGreatProg
import Derived.Test.YtfnmihhcopkkbaaGreatP5
import Derived.KernelRfl
namespace Go.Proofs.YtfnmihhcopkkbaaGreat
open Go Go.RowKit Fr
set_option linter.unusedVariables false
set_option linter.unusedSimpArgs false
set_option maxRecDepth 20000
open Tryz
set_option maxHeartbeats 2000000
noncomputable def pipe_Go (a0 : (List (A4 T_Ins))) (a1 : T_State) : Option T_State :=
  bif decide ((a0.length : Int) ≤ a1.PC) then some (⟨a1.Regs, a1.Mem, a1.In_, a1.Taken, a1.Out, a1.PC, a1.Stack, 5, a1.Fly, a1.Jump, a1.Delay⟩ : T_State) else (at' a0 a1.PC).bind fun x2 => (pipe_issue a1 x2).bind fun r14 => bif decide (r14.1.Stop = 1) then (pipe_settle r14.1).bind fun r45 => some (r45) else bif decide (r14.1.Stop ≠ 0) then some (r14.1) else bif !r14.2 then bif decide (0 < r14.1.Delay) then bif decide ((IntKind.i64.wrap (r14.1.Delay - 1)) = 0) then some (⟨r14.1.Regs, r14.1.Mem, r14.1.In_, r14.1.Taken, r14.1.Out, r14.1.Jump, r14.1.Stack, r14.1.Stop, r14.1.Fly, 0, IntKind.i64.wrap (r14.1.Delay - 1)⟩ : T_State) else some (⟨r14.1.Regs, r14.1.Mem, r14.1.In_, r14.1.Taken, r14.1.Out, IntKind.i64.wrap (r14.1.PC + 1), r14.1.Stack, r14.1.Stop, r14.1.Fly, r14.1.Jump, IntKind.i64.wrap (r14.1.Delay - 1)⟩ : T_State) else some (⟨r14.1.Regs, r14.1.Mem, r14.1.In_, r14.1.Taken, r14.1.Out, IntKind.i64.wrap (r14.1.PC + 1), r14.1.Stack, r14.1.Stop, r14.1.Fly, r14.1.Jump, r14.1.Delay⟩ : T_State) else some (⟨r14.1.Regs, r14.1.Mem, r14.1.In_, r14.1.Taken, r14.1.Out, IntKind.i64.wrap (r14.1.PC + 1), r14.1.Stack, r14.1.Stop, r14.1.Fly, r14.1.Jump, r14.1.Delay⟩ : T_State)
theorem w_pipe_Go_ {g : Frag} {a0 : (List (A4 T_Ins))} {v0_ : Value} {a1 : T_State} {b1_ : Nat} {LB1_ : Own} {r : T_State} (h0 : SlT g enc_Bundle 24 a0 v0_) (h1 : Bx_State b1_ a1 LB1_) (hF : pipe_Go a0 a1 = some r) : LC Tryz.prog 18 #[v0_, .pointer (some ⟨b1_, 0, none⟩)] g LB1_ (fun v L => ∃ (LB' : Own), v = .tuple #[] ∧ L = (LB' ++ []) ∧ Bx_State b1_ r LB') := by
 obtain ⟨M0, N0, R0, B0, D0, E0, B1, D1, V0, X0, Y0, Z0, E1, T0, U0, G0, I0, J0, K0⟩ := h1
 unfold pipe_Go at hF
 refine lc_body (k := 76) (av := [v0_, .pointer (some ⟨b1_, 0, none⟩)]) func18 rfl rfl (h := fun W hS => ?_)
 have hS := hS.own_eq E1
 iterate 2 (refine c_seq ?_)
 refine c_region <| oy hS y_move <| oy hS y_nilCheck <| oy hS (y_field fa_api_State_5) <| oy hS (y_load oH underlying3 rfl rfl) <| oy hS y_move <| oy hS (y_len h0 underlying38) <| oy hS y_bin ?_
 refine n_thenN ?_
 refine c_if (ht := fun c1 => ?_) (hf := fun c1 => ?_)
 · replace hF := bt c1 hF
   refine c_seq <| c_region <| oy hS y_move <| oy hS y_nilCheck <| oy hS (y_field fa_api_State_7) ?_
   refine o_storeA1 (o := 7) (cl' := (cl_State M0 N0 R0 a1.Taken B0 a1.PC D0 5 E0 a1.Jump a1.Delay)) hS (by kernel_rfl) (by exact Nat.le_of_ble_eq_true rfl) (Upd.here _) (by exact sz_int) rfl rfl ?_
   clear hS; intro w hS
   refine n_thenN ?_
   obtain rfl := osi hF
   refine wp_ret (r_ret (vs := []) (hS.re (.b .hb (.t .h (.t .h (.t .h (.t .h (.t .h (.t .h .n)))))))) rsN rfl ⟨_, rfl, (by first | rfl | simp only [aa, ac, al, an]), ⟨_, _, _, _, _, _, _, _, _, _, _, _, rfl, T0, U0, G0, I0, J0, K0⟩⟩)
 replace hF := bf c1 hF
 refine wp_skip <| c_seq <| c_region ?_
 iterate 3 (refine oy hS y_move ?_)
 refine oy hS y_nilCheck <| oy hS (y_field fa_api_State_5) <| oy hS (y_load oH underlying3 rfl rfl) ?_
 obtain ⟨x2, hx2, hF⟩ := ob hF
 obtain ⟨b3, o4, c5, cs6, e7, fz8, hv9, G1, I1, J1, K1⟩ := SlT.at hx2 h0 enc_len_Bundle
 refine oy hS (y_index hv9 G1 I1 underlying38 el_api_Bundle.size) ?_
 refine oy hS (y_loadN (vs := (enc_Bundle x2)) (fun w hS => hS.block J1) underlying83 rfl (by exact sz_api_Bundle) (fun j u hj => K1 j u hj)) ?_
 have hS2 := hS.spl (.cons _ (.app _ (.app _ (.app _ (.app _ (.app _ (.app _ (.nil _))))))))
 obtain ⟨r14, M1, hF⟩ := ob hF
 refine o_call hS2 func35 rfl rfl (hc := (w_pipe_issue (a0 := a1) (a1 := x2) (h0 := (⟨_, _, _, _, _, _, _, _, _, _, _, _, rfl, T0, U0, G0, I0, J0, K0⟩ : Bx_State b1_ a1 ((b1_, blk (cl_State M0 N0 R0 a1.Taken B0 a1.PC D0 a1.Stop E0 a1.Jump a1.Delay) 62) :: (B1 ++ (D1 ++ (V0 ++ (X0 ++ (Y0 ++ (Z0 ++ []))))))))) (hF := M1))) (h := ?_)
 clear hS; intro v15 X1 w hS N1
 clear hS2
 obtain ⟨Y1, rfl, rfl, R1⟩ := N1
 obtain ⟨vB_0_20, vB_1_24, vB_2_28, vB_4_32, vB_6_36, vB_8_40, LXB_0_21, LXB_1_25, LXB_2_29, LXB_4_33, LXB_6_37, LXB_8_41, rfl, hB_0_22, hB_1_26, hB_2_30, hB_4_34, hB_6_38, hB_8_42⟩ := R1
 simp only [aa, ac, al] at hS
 refine oy hS y_assign <| n_thenN <| c_seq <| c_block <| c_seq <| c_region <| oy hS y_move <| oy hS y_nilCheck ?_
 refine oy hS (y_field fa_api_State_7) <| oy hS (y_load oH underlying3 rfl rfl) <| oy hS y_bin <| oy hS y_assign <| n_thenN ?_
 refine c_if (ht := fun c44 => ?_) (hf := fun c44 => ?_)
 · replace hF := bt c44 hF
   refine c_seq <| c_region <| oy hS y_move ?_
   have hS2 := hS.spl (.cons _ (.app _ (.app _ (.app _ (.app _ (.app _ (.app _ (.nil _))))))))
   obtain ⟨r45, T1, hF⟩ := ob hF
   refine o_call hS2 func36 rfl rfl (hc := (w_pipe_settle (a0 := r14.1) (h0 := (⟨_, _, _, _, _, _, _, _, _, _, _, _, rfl, hB_0_22, hB_1_26, hB_2_30, hB_4_34, hB_6_38, hB_8_42⟩ : Bx_State b1_ r14.1 ((b1_, blk (cl_State vB_0_20 vB_1_24 vB_2_28 r14.1.Taken vB_4_32 r14.1.PC vB_6_36 r14.1.Stop vB_8_40 r14.1.Jump r14.1.Delay) 62) :: (LXB_0_21 ++ (LXB_1_25 ++ (LXB_2_29 ++ (LXB_4_33 ++ (LXB_6_37 ++ (LXB_8_41 ++ []))))))))) (hF := T1))) (h := ?_)
   clear hS; intro v46 Z1 w hS U1
   clear hS2
   obtain ⟨B2, rfl, rfl, V1⟩ := U1
   obtain ⟨vB_0_51, vB_1_55, vB_2_59, vB_4_63, vB_6_67, vB_8_71, LXB_0_52, LXB_1_56, LXB_2_60, LXB_4_64, LXB_6_68, LXB_8_72, rfl, hB_0_53, hB_1_57, hB_2_61, hB_4_65, hB_6_69, hB_8_73⟩ := V1
   simp only [aa, ac, al] at hS
   refine n_thenN ?_
   obtain rfl := osi hF
   refine wp_ret (r_ret (vs := []) (hS.re (.b .hb (.t .h (.t .h (.t .h (.t .h (.t .h (.t .h .n)))))))) rsN rfl ⟨_, rfl, (by first | rfl | simp only [aa, ac, al, an]), ⟨_, _, _, _, _, _, _, _, _, _, _, _, rfl, hB_0_53, hB_1_57, hB_2_61, hB_4_65, hB_6_69, hB_8_73⟩⟩)
 replace hF := bf c44 hF
 refine c_seq <| c_region <| oy hS y_move <| oy hS y_nilCheck <| oy hS (y_field fa_api_State_7) <| oy hS (y_load oH underlying3 rfl rfl) <| oy hS y_bin <| oy hS y_assign ?_
 refine n_thenN ?_
 refine c_if (ht := fun c75 => ?_) (hf := fun c75 => ?_)
 · replace hF := bt c75 hF
   obtain rfl := osi hF
   refine wp_ret (r_ret (vs := []) (hS.re (.b .hb (.t .h (.t .h (.t .h (.t .h (.t .h (.t .h .n)))))))) rsN rfl ⟨_, rfl, (by first | rfl | simp only [aa, ac, al, an]), ⟨_, _, _, _, _, _, _, _, _, _, _, _, rfl, hB_0_22, hB_1_26, hB_2_30, hB_4_34, hB_6_38, hB_8_42⟩⟩)
 replace hF := bf c75 hF
 refine wp_skip <| c_seq <| c_region <| oy hS y_move <| oy hS y_nilCheck <| oy hS (y_field fa_api_State_5) <| oy hS (y_load oH underlying3 rfl rfl) <| oy hS y_bin ?_
 refine oy hS y_nilCheck <| oy hS (y_field fa_api_State_5) ?_
 refine o_storeA1 (o := 5) (cl' := (cl_State vB_0_20 vB_1_24 vB_2_28 r14.1.Taken vB_4_32 (IntKind.i64.wrap (r14.1.PC + 1)) vB_6_36 r14.1.Stop vB_8_40 r14.1.Jump r14.1.Delay)) hS (by kernel_rfl) (by exact Nat.le_of_ble_eq_true rfl) (Upd.here _) (by exact sz_int) rfl rfl ?_
 clear hS; intro w hS
 refine n_thenN <| c_seq <| c_region <| oy hS y_move <| oy hS y_not ?_
 refine o_split (ht := fun c76 => ?_) (hf := fun c76 => ?_)
 · replace hF := bt c76 hF
   refine o_gu rfl rfl rfl <| oy hS y_move <| o_gu rfl rfl rfl <| oy hS y_nilCheck <| o_gu rfl rfl rfl <| oy hS (y_field fa_api_State_10) <| o_gu rfl rfl rfl <| oy hS (y_load oH underlying3 rfl rfl) ?_
   refine o_gu rfl rfl rfl <| oy hS y_bin <| oy hS y_pickT <| n_thenN ?_
   refine c_if (ht := fun c77 => ?_) (hf := fun c77 => ?_)
   · replace hF := bt c77 hF
     refine c_seq <| c_region <| oy hS y_move <| oy hS y_nilCheck <| oy hS (y_field fa_api_State_10) <| oy hS (y_load oH underlying3 rfl rfl) <| oy hS y_bin <| oy hS y_nilCheck ?_
     refine oy hS (y_field fa_api_State_10) ?_
     refine o_storeA1 (o := 10) (cl' := (cl_State vB_0_20 vB_1_24 vB_2_28 r14.1.Taken vB_4_32 (IntKind.i64.wrap (r14.1.PC + 1)) vB_6_36 r14.1.Stop vB_8_40 r14.1.Jump (IntKind.i64.wrap (r14.1.Delay - 1)))) hS (by kernel_rfl) (by exact Nat.le_of_ble_eq_true rfl) (Upd.here _) (by exact sz_int) rfl rfl ?_
     clear hS; intro w hS
     refine n_thenN <| c_seq <| c_region <| oy hS y_move <| oy hS y_nilCheck <| oy hS (y_field fa_api_State_10) <| oy hS (y_load oH underlying3 rfl rfl) <| oy hS y_bin ?_
     refine n_thenN ?_
     refine c_if (ht := fun c78 => ?_) (hf := fun c78 => ?_)
     · replace hF := bt c78 hF
       refine c_region ?_
       iterate 3 (refine oy hS y_move ?_)
       refine oy hS y_nilCheck <| oy hS (y_field fa_api_State_9) <| oy hS (y_load oH underlying3 rfl rfl) <| oy hS y_nilCheck <| oy hS (y_field fa_api_State_5) ?_
       refine o_storeA1 (o := 5) (cl' := (cl_State vB_0_20 vB_1_24 vB_2_28 r14.1.Taken vB_4_32 r14.1.Jump vB_6_36 r14.1.Stop vB_8_40 r14.1.Jump (IntKind.i64.wrap (r14.1.Delay - 1)))) hS (by kernel_rfl) (by exact Nat.le_of_ble_eq_true rfl) (Upd.here _) (by exact sz_int) rfl rfl ?_
       clear hS; intro w hS
       refine oy hS y_nilCheck <| oy hS (y_field fa_api_State_9) ?_
       refine o_storeA1 (o := 9) (cl' := (cl_State vB_0_20 vB_1_24 vB_2_28 r14.1.Taken vB_4_32 r14.1.Jump vB_6_36 r14.1.Stop vB_8_40 0 (IntKind.i64.wrap (r14.1.Delay - 1)))) hS (by kernel_rfl) (by exact Nat.le_of_ble_eq_true rfl) (Upd.here _) (by exact sz_int) rfl rfl ?_
       clear hS; intro w hS
       refine n_anyN ?_
       obtain rfl := osi hF
       refine (r_end (vs := []) (hS.re (.b .hb (.t .h (.t .h (.t .h (.t .h (.t .h (.t .h .n)))))))) rsN rfl ⟨_, rfl, (by first | rfl | simp only [aa, ac, al, an]), ⟨_, _, _, _, _, _, _, _, _, _, _, _, rfl, hB_0_22, hB_1_26, hB_2_30, hB_4_34, hB_6_38, hB_8_42⟩⟩)
     replace hF := bf c78 hF
     refine wp_skip ?_
     obtain rfl := osi hF
     refine (r_end (vs := []) (hS.re (.b .hb (.t .h (.t .h (.t .h (.t .h (.t .h (.t .h .n)))))))) rsN rfl ⟨_, rfl, (by first | rfl | simp only [aa, ac, al, an]), ⟨_, _, _, _, _, _, _, _, _, _, _, _, rfl, hB_0_22, hB_1_26, hB_2_30, hB_4_34, hB_6_38, hB_8_42⟩⟩)
   replace hF := bf c77 hF
   refine wp_skip ?_
   obtain rfl := osi hF
   refine (r_end (vs := []) (hS.re (.b .hb (.t .h (.t .h (.t .h (.t .h (.t .h (.t .h .n)))))))) rsN rfl ⟨_, rfl, (by first | rfl | simp only [aa, ac, al, an]), ⟨_, _, _, _, _, _, _, _, _, _, _, _, rfl, hB_0_22, hB_1_26, hB_2_30, hB_4_34, hB_6_38, hB_8_42⟩⟩)
 replace hF := bf c76 hF
 iterate 5 (refine o_sk rfl rfl ?_)
 refine oy hS y_pickF <| n_thenN ?_
 refine c_if_false (h := ?_)
 refine wp_skip ?_
 obtain rfl := osi hF
 refine (r_end (vs := []) (hS.re (.b .hb (.t .h (.t .h (.t .h (.t .h (.t .h (.t .h .n)))))))) rsN rfl ⟨_, rfl, (by first | rfl | simp only [aa, ac, al, an]), ⟨_, _, _, _, _, _, _, _, _, _, _, _, rfl, hB_0_22, hB_1_26, hB_2_30, hB_4_34, hB_6_38, hB_8_42⟩⟩)
theorem w_pipe_Go {g : Frag} {a0 : (List (A4 T_Ins))} {v0_ : Value} {a1 : T_State} {b1_ : Nat} {LB1_ : Own} {r : T_State} (h0 : SlT g enc_Bundle 24 a0 v0_) (h1 : Bx_State b1_ a1 LB1_) (hF : pipe_Go a0 a1 = some r) : LC Tryz.prog 18 #[v0_, .pointer (some ⟨b1_, 0, none⟩)] g LB1_ (fun v L => ∃ (LB' : Own), v = .tuple #[] ∧ L = (LB' ++ []) ∧ Bx_State b1_ r LB') := w_pipe_Go_ h0 h1 hF

noncomputable def hazard_Go (a0 : (List (A4 T_Ins))) (a1 : T_State) : Option T_State :=
  (pipe_Land a1).bind fun r1 => (hazard_first a0 r1).bind fun r31 => bif decide (0 ≤ r31) then some (⟨r1.Regs, r1.Mem, r1.In_, r1.Taken, r1.Out, r1.PC, r1.Stack, 6, r1.Fly, r1.Jump, r1.Delay⟩ : T_State) else (pipe_Go a0 r1).bind fun r33 => some (r33)
theorem w_hazard_Go_ {g : Frag} {a0 : (List (A4 T_Ins))} {v0_ : Value} {a1 : T_State} {b1_ : Nat} {LB1_ : Own} {r : T_State} (h0 : SlT g enc_Bundle 24 a0 v0_) (h1 : Bx_State b1_ a1 LB1_) (hF : hazard_Go a0 a1 = some r) : LC Tryz.prog 50 #[v0_, .pointer (some ⟨b1_, 0, none⟩)] g LB1_ (fun v L => ∃ (LB' : Own), v = .tuple #[] ∧ L = (LB' ++ []) ∧ Bx_State b1_ r LB') := by
 obtain ⟨X0, Y0, Z0, I0, J0, K0, M0, N0, B0, D0, E0, G0, E1, B1, D1, R0, T0, U0, V0⟩ := h1
 unfold hazard_Go at hF
 refine lc_body (k := 18) (av := [v0_, .pointer (some ⟨b1_, 0, none⟩)]) func50 rfl rfl (h := fun W hS => ?_)
 have hS := hS.own_eq E1
 refine c_seq <| c_region <| oy hS y_move ?_
 have hS2 := hS.spl (.cons _ (.app _ (.app _ (.app _ (.app _ (.app _ (.app _ (.nil _))))))))
 obtain ⟨r1, hr1, hF⟩ := ob hF
 refine o_call hS2 func17 rfl rfl (hc := (w_pipe_Land (a0 := a1) (h0 := (⟨_, _, _, _, _, _, _, _, _, _, _, _, rfl, B1, D1, R0, T0, U0, V0⟩ : Bx_State b1_ a1 ((b1_, blk (cl_State X0 Y0 Z0 a1.Taken I0 a1.PC J0 a1.Stop K0 a1.Jump a1.Delay) 62) :: (M0 ++ (N0 ++ (B0 ++ (D0 ++ (E0 ++ (G0 ++ []))))))))) (hF := hr1))) (h := ?_)
 clear hS; intro v2 LY3 w hS hr4
 clear hS2
 obtain ⟨LB5, rfl, rfl, hb6⟩ := hr4
 obtain ⟨vB_0_7, vB_1_11, vB_2_15, vB_4_19, vB_6_23, vB_8_27, LXB_0_8, LXB_1_12, LXB_2_16, LXB_4_20, LXB_6_24, LXB_8_28, rfl, hB_0_9, hB_1_13, hB_2_17, hB_4_21, hB_6_25, hB_8_29⟩ := hb6
 simp only [aa, ac, al] at hS
 refine n_thenN ?_
 iterate 2 (refine c_seq ?_)
 refine c_region ?_
 iterate 2 (refine oy hS y_move ?_)
 refine oy hS y_nilCheck ?_
 refine oy hS (y_loadW oH underlying62 rfl (by exact sz_api_State)) ?_
 obtain ⟨r31, G1, hF⟩ := ob hF
 refine o_callS hS func85 rfl rfl (hc := (w_hazard_first (a0 := a0) (a1 := r1) (h0 := h0.plus) (h1 := ⟨_, _, _, _, _, _, rfl, (OwT.plus hB_0_9 hS (fun p hp => mC (mA (hp)))), (OwT.plus hB_1_13 hS (fun p hp => mC (mB (mA (hp))))), (OwT.plus hB_2_17 hS (fun p hp => mC (mB (mB (mA (hp)))))), (OwT.plus hB_4_21 hS (fun p hp => mC (mB (mB (mB (mA (hp))))))), (OwT.plus hB_6_25 hS (fun p hp => mC (mB (mB (mB (mB (mA (hp)))))))), (OwT.plus hB_8_29 hS (fun p hp => mC (mB (mB (mB (mB (mB (mA (hp)))))))))⟩) (hF := G1))) (h := ?_)
 clear hS; intro w hS
 refine oy hS y_bin <| n_thenN ?_
 refine c_if (ht := fun c32 => ?_) (hf := fun c32 => ?_)
 · replace hF := bt c32 hF
   refine c_seq <| c_region <| oy hS y_move <| oy hS y_nilCheck <| oy hS (y_field fa_api_State_7) ?_
   refine o_storeA1 (o := 7) (cl' := (cl_State vB_0_7 vB_1_11 vB_2_15 r1.Taken vB_4_19 r1.PC vB_6_23 6 vB_8_27 r1.Jump r1.Delay)) hS (by kernel_rfl) (by exact Nat.le_of_ble_eq_true rfl) (Upd.here _) (by exact sz_int) rfl rfl ?_
   clear hS; intro w hS
   refine n_thenN ?_
   obtain rfl := osi hF
   refine wp_ret (r_ret (vs := []) (hS.re (.b .hb (.t .h (.t .h (.t .h (.t .h (.t .h (.t .h .n)))))))) rsN rfl ⟨_, rfl, (by first | rfl | simp only [aa, ac, al, an]), ⟨_, _, _, _, _, _, _, _, _, _, _, _, rfl, hB_0_9, hB_1_13, hB_2_17, hB_4_21, hB_6_25, hB_8_29⟩⟩)
 replace hF := bf c32 hF
 refine wp_skip <| c_region ?_
 iterate 2 (refine oy hS y_move ?_)
 have hS2 := hS.spl (.cons _ (.app _ (.app _ (.app _ (.app _ (.app _ (.app _ (.nil _))))))))
 obtain ⟨r33, I1, hF⟩ := ob hF
 refine o_call hS2 func18 rfl rfl (hc := (w_pipe_Go (a0 := a0) (a1 := r1) (h0 := h0.plus) (h1 := (⟨_, _, _, _, _, _, _, _, _, _, _, _, rfl, hB_0_9, hB_1_13, hB_2_17, hB_4_21, hB_6_25, hB_8_29⟩ : Bx_State b1_ r1 ((b1_, blk (cl_State vB_0_7 vB_1_11 vB_2_15 r1.Taken vB_4_19 r1.PC vB_6_23 r1.Stop vB_8_27 r1.Jump r1.Delay) 62) :: (LXB_0_8 ++ (LXB_1_12 ++ (LXB_2_16 ++ (LXB_4_20 ++ (LXB_6_24 ++ (LXB_8_28 ++ []))))))))) (hF := I1))) (h := ?_)
 clear hS; intro v34 M1 w hS J1
 clear hS2
 obtain ⟨N1, rfl, rfl, K1⟩ := J1
 obtain ⟨vB_0_39, vB_1_43, vB_2_47, vB_4_51, vB_6_55, vB_8_59, LXB_0_40, LXB_1_44, LXB_2_48, LXB_4_52, LXB_6_56, LXB_8_60, rfl, hB_0_41, hB_1_45, hB_2_49, hB_4_53, hB_6_57, hB_8_61⟩ := K1
 simp only [aa, ac, al] at hS
 refine n_anyN ?_
 obtain rfl := osi hF
 refine (r_end (vs := []) (hS.re (.b .hb (.t .h (.t .h (.t .h (.t .h (.t .h (.t .h .n)))))))) rsN rfl ⟨_, rfl, (by first | rfl | simp only [aa, ac, al, an]), ⟨_, _, _, _, _, _, _, _, _, _, _, _, rfl, hB_0_41, hB_1_45, hB_2_49, hB_4_53, hB_6_57, hB_8_61⟩⟩)
theorem w_hazard_Go {g : Frag} {a0 : (List (A4 T_Ins))} {v0_ : Value} {a1 : T_State} {b1_ : Nat} {LB1_ : Own} {r : T_State} (h0 : SlT g enc_Bundle 24 a0 v0_) (h1 : Bx_State b1_ a1 LB1_) (hF : hazard_Go a0 a1 = some r) : LC Tryz.prog 50 #[v0_, .pointer (some ⟨b1_, 0, none⟩)] g LB1_ (fun v L => ∃ (LB' : Own), v = .tuple #[] ∧ L = (LB' ++ []) ∧ Bx_State b1_ r LB') := w_hazard_Go_ h0 h1 hF

noncomputable def pipe_By_hazard_Go_b2 (a2 : Int) (a0 : (List (A4 T_Ins))) : (Int × (List Int) × (List Int) × (List Int) × Int × (List Int) × Int × (List Int) × Int × (List T_Write) × Int × Int) → Option (Step (Int × (List Int) × (List Int) × (List Int) × Int × (List Int) × Int × (List Int) × Int × (List T_Write) × Int × Int) (T_State × Int × Int)) := fun (x81, x82, x87, x92, x97, x98, E0, G0, D0, I0, J0, K0) => bif decide (x81 < a2) then bif decide (D0 = 0) then (hazard_Go a0 (⟨x82, x87, x92, x97, x98, E0, G0, D0, I0, J0, K0⟩ : T_State)).bind fun B0 => some (.next (IntKind.i64.wrap (x81 + 1), B0.Regs, B0.Mem, B0.In_, B0.Taken, B0.Out, B0.PC, B0.Stack, B0.Stop, B0.Fly, B0.Jump, B0.Delay)) else some (.done (((⟨x82, x87, x92, x97, x98, E0, G0, D0, I0, J0, K0⟩ : T_State), x81, 0))) else some (.done (((⟨x82, x87, x92, x97, x98, E0, G0, D0, I0, J0, K0⟩ : T_State), x81, 0)))
noncomputable def pipe_By_hazard_Go_k1 (a1 : T_State) (a2 : Int) (a0 : (List (A4 T_Ins))) : Unit → Option (T_State × Int × Int) := fun _ => (seq_Own a1).bind fun r18 => loop (σ := (Int × (List Int) × (List Int) × (List Int) × Int × (List Int) × Int × (List Int) × Int × (List T_Write) × Int × Int)) (pipe_By_hazard_Go_b2 a2 a0) (0, r18.Regs, r18.Mem, r18.In_, r18.Taken, r18.Out, r18.PC, r18.Stack, r18.Stop, r18.Fly, r18.Jump, r18.Delay)
noncomputable def pipe_By_hazard_Go (a0 : (List (A4 T_Ins))) (a1 : T_State) (a2 : Int) : Option (T_State × Int × Int) :=
  cut (σ := Unit) ((pipe_Code a0).bind fun r11 => bif !r11 then some (.done (((⟨[], [], [], 0, [], 0, [], 0, [], 0, 0⟩ : T_State), 0, 1))) else (pipe_May a1).bind fun r13 => bif !r13 then some (.done (((⟨[], [], [], 0, [], 0, [], 0, [], 0, 0⟩ : T_State), 0, 1))) else bif decide (a2 < 0) then some (.done (((⟨[], [], [], 0, [], 0, [], 0, [], 0, 0⟩ : T_State), 0, 1))) else bif decide (20000 < a2) then some (.done (((⟨[], [], [], 0, [], 0, [], 0, [], 0, 0⟩ : T_State), 0, 1))) else some (.next ())) (pipe_By_hazard_Go_k1 a1 a2 a0)
theorem w_pipe_By_hazard_Go_ {g : Frag} {a0 : (List (A4 T_Ins))} {v0_ : Value} {a1 : T_State} {v1_ : Value} {a2 : Int} {r : (T_State × Int × Int)} (h0 : SlT g enc_Bundle 24 a0 v0_) (h1 : Rd_State g a1 v1_) (hF : pipe_By_hazard_Go a0 a1 a2 = some r) : LC Tryz.prog 49 #[v0_, v1_, .int .i64 a2, .func (.func 50) #[] #[]] g [] (fun v L => ∃ (u0 : Value) (M0 : Own), v = .tuple #[u0, .int .i64 r.2.1, .int .i64 r.2.2] ∧ L = (M0 ++ []) ∧ Ow_State r.1 u0 M0) := by
 obtain ⟨X1, Y1, Z1, B2, D2, E2, rfl, Y2, Z2, B3, D3, E3, G3⟩ := h1
 unfold pipe_By_hazard_Go at hF
 refine lc_body (k := 45) (av := [v0_, .agg (cl_State X1 Y1 Z1 a1.Taken B2 a1.PC D2 a1.Stop E2 a1.Jump a1.Delay).toArray, .int .i64 a2, .func (.func 50) #[] #[]]) func49 rfl rfl (h := fun W hS => ?_)
 refine c_seq <| c_region ?_
 refine o_boxP (cl := (cl_State X1 Y1 Z1 a1.Taken B2 a1.PC D2 a1.Stop E2 a1.Jump a1.Delay)) rfl hS ?_
 clear hS; intro b1 w hS
 refine o_allocP (cl := (cl_State (.slice none 0 0) (.slice none 0 0) (.slice none 0 0) 0 (.slice none 0 0) 0 (.slice none 0 0) 0 (.slice none 0 0) 0 0)) zr_api_State rfl hS ?_
 clear hS; intro b2 w hS
 iterate 2 (refine oy hS y_assign ?_)
 refine n_thenN ?_
 obtain ⟨z9, hF, X0⟩ := cut_step hF
 refine c_cutP (fun a w' => pipe_By_hazard_Go_k1 a1 a2 a0 () = some r ∧ (∃ s : Nat → Value, a = Ac (((((((Fm.dead 45 s).upd 0 v0_).upd 2 (.int .i64 a2)).upd 3 (.func (.func 50) #[] #[])).upd 5 (.pointer (some ⟨b1, 0, none⟩))).upd 8 (.pointer (some ⟨b2, 0, none⟩))).upd 9 (.int .i64 0))) ∧ St W g [] ((b1, blk (cl_State X1 Y1 Z1 a1.Taken B2 a1.PC D2 a1.Stop E2 a1.Jump a1.Delay) 62) :: ((b2, blk (cl_State (.slice none 0 0) (.slice none 0 0) (.slice none 0 0) 0 (.slice none 0 0) 0 (.slice none 0 0) 0 (.slice none 0 0) 0 0) 62) :: [])) w') ?_ ?_
 · skip
   refine c_seq <| c_region <| oy hS y_move ?_
   obtain ⟨r11, M3, hF⟩ := ob hF
   refine o_callS hS func56 rfl rfl (hc := (w_pipe_Code (a0 := a0) (h0 := h0.plus) (hF := M3))) (h := ?_)
   clear hS; intro w hS
   refine oy hS y_not ?_
   refine o_split (ht := fun c12 => ?_) (hf := fun c12 => ?_)
   · replace hF := bt c12 hF
     iterate 3 (refine o_sk rfl rfl ?_)
     refine oy hS y_pickT <| oy hS y_move ?_
     iterate 2 (refine o_sk rfl rfl ?_)
     refine oy hS y_pickT <| oy hS y_move ?_
     iterate 2 (refine o_sk rfl rfl ?_)
     refine oy hS y_pickT <| n_thenN ?_
     refine c_if_true (h := ?_)
     refine c_seq <| c_region ?_
     refine oy hS (y_loadW oH underlying62 rfl (by exact sz_api_State)) ?_
     refine o_storeW (vs := (cl_State (.slice none 0 0) (.slice none 0 0) (.slice none 0 0) 0 (.slice none 0 0) 0 (.slice none 0 0) 0 (.slice none 0 0) 0 0)) hS (by exact rfl) (Upd.here _) (by exact sz_api_State) (one_State rfl rfl rfl rfl rfl rfl) ?_
     clear hS; intro w hS
     iterate 2 (refine oy hS y_assign ?_)
     refine n_thenN ?_
     obtain rfl := osi hF
     obtain rfl : _ = r := X0
     refine wp_ret (r_ret (vs := [.agg (cl_State (.slice none 0 0) (.slice none 0 0) (.slice none 0 0) 0 (.slice none 0 0) 0 (.slice none 0 0) 0 (.slice none 0 0) 0 0).toArray, .int .i64 0, .int .i64 1]) (hS.re (.n)) (rsC (res_cell (hS.own (mH)) underlying62 rfl (by exact sz_api_State)) (rsC res_tmp (rsC res_tmp rsN))) rfl ⟨_, _, rfl, (by first | rfl | simp only [aa, ac, al, an]), ⟨_, _, _, _, _, _, _, _, _, _, _, _, rfl, rfl, OwT.nil _ _ _, OwT.nil _ _ _, OwT.nil _ _ _, OwT.nil _ _ _, OwT.nil _ _ _, OwT.nil _ _ _⟩⟩)
   replace hF := bf c12 hF
   refine o_gu rfl rfl rfl ?_
   refine oy hS (y_loadW (fun w hS => hS.own (mC (mH))) underlying62 rfl (by exact sz_api_State)) ?_
   refine o_gu rfl rfl rfl ?_
   obtain ⟨r13, N3, hF⟩ := ob hF
   refine o_callS hS func84 rfl rfl (hc := (w_pipe_May (a0 := a1) (h0 := ⟨_, _, _, _, _, _, rfl, Y2.plus, Z2.plus, B3.plus, D3.plus, E3.plus, G3.plus⟩) (hF := N3))) (h := ?_)
   clear hS; intro w hS
   refine o_gu rfl rfl rfl <| oy hS y_not <| oy hS y_pickF ?_
   refine o_split (ht := fun c14 => ?_) (hf := fun c14 => ?_)
   · replace hF := bt c14 hF
     iterate 2 (refine o_sk rfl rfl ?_)
     refine oy hS y_pickT <| oy hS y_move ?_
     iterate 2 (refine o_sk rfl rfl ?_)
     refine oy hS y_pickT <| n_thenN ?_
     refine c_if_true (h := ?_)
     refine c_seq <| c_region ?_
     refine oy hS (y_loadW oH underlying62 rfl (by exact sz_api_State)) ?_
     refine o_storeW (vs := (cl_State (.slice none 0 0) (.slice none 0 0) (.slice none 0 0) 0 (.slice none 0 0) 0 (.slice none 0 0) 0 (.slice none 0 0) 0 0)) hS (by exact rfl) (Upd.here _) (by exact sz_api_State) (one_State rfl rfl rfl rfl rfl rfl) ?_
     clear hS; intro w hS
     iterate 2 (refine oy hS y_assign ?_)
     refine n_thenN ?_
     obtain rfl := osi hF
     obtain rfl : _ = r := X0
     refine wp_ret (r_ret (vs := [.agg (cl_State (.slice none 0 0) (.slice none 0 0) (.slice none 0 0) 0 (.slice none 0 0) 0 (.slice none 0 0) 0 (.slice none 0 0) 0 0).toArray, .int .i64 0, .int .i64 1]) (hS.re (.n)) (rsC (res_cell (hS.own (mH)) underlying62 rfl (by exact sz_api_State)) (rsC res_tmp (rsC res_tmp rsN))) rfl ⟨_, _, rfl, (by first | rfl | simp only [aa, ac, al, an]), ⟨_, _, _, _, _, _, _, _, _, _, _, _, rfl, rfl, OwT.nil _ _ _, OwT.nil _ _ _, OwT.nil _ _ _, OwT.nil _ _ _, OwT.nil _ _ _, OwT.nil _ _ _⟩⟩)
   replace hF := bf c14 hF
   refine o_gu rfl rfl rfl <| oy hS y_move <| o_gu rfl rfl rfl <| oy hS y_bin <| oy hS y_pickF ?_
   refine o_split (ht := fun c15 => ?_) (hf := fun c15 => ?_)
   · replace hF := bt c15 hF
     iterate 2 (refine o_sk rfl rfl ?_)
     refine oy hS y_pickT <| n_thenN ?_
     refine c_if_true (h := ?_)
     refine c_seq <| c_region ?_
     refine oy hS (y_loadW oH underlying62 rfl (by exact sz_api_State)) ?_
     refine o_storeW (vs := (cl_State (.slice none 0 0) (.slice none 0 0) (.slice none 0 0) 0 (.slice none 0 0) 0 (.slice none 0 0) 0 (.slice none 0 0) 0 0)) hS (by exact rfl) (Upd.here _) (by exact sz_api_State) (one_State rfl rfl rfl rfl rfl rfl) ?_
     clear hS; intro w hS
     iterate 2 (refine oy hS y_assign ?_)
     refine n_thenN ?_
     obtain rfl := osi hF
     obtain rfl : _ = r := X0
     refine wp_ret (r_ret (vs := [.agg (cl_State (.slice none 0 0) (.slice none 0 0) (.slice none 0 0) 0 (.slice none 0 0) 0 (.slice none 0 0) 0 (.slice none 0 0) 0 0).toArray, .int .i64 0, .int .i64 1]) (hS.re (.n)) (rsC (res_cell (hS.own (mH)) underlying62 rfl (by exact sz_api_State)) (rsC res_tmp (rsC res_tmp rsN))) rfl ⟨_, _, rfl, (by first | rfl | simp only [aa, ac, al, an]), ⟨_, _, _, _, _, _, _, _, _, _, _, _, rfl, rfl, OwT.nil _ _ _, OwT.nil _ _ _, OwT.nil _ _ _, OwT.nil _ _ _, OwT.nil _ _ _, OwT.nil _ _ _⟩⟩)
   replace hF := bf c15 hF
   refine o_gu rfl rfl rfl <| oy hS y_move <| o_gu rfl rfl rfl <| oy hS y_bin <| oy hS y_pickF <| n_thenN ?_
   refine c_if (ht := fun c16 => ?_) (hf := fun c16 => ?_)
   · replace hF := bt c16 hF
     refine c_seq <| c_region ?_
     refine oy hS (y_loadW oH underlying62 rfl (by exact sz_api_State)) ?_
     refine o_storeW (vs := (cl_State (.slice none 0 0) (.slice none 0 0) (.slice none 0 0) 0 (.slice none 0 0) 0 (.slice none 0 0) 0 (.slice none 0 0) 0 0)) hS (by exact rfl) (Upd.here _) (by exact sz_api_State) (one_State rfl rfl rfl rfl rfl rfl) ?_
     clear hS; intro w hS
     iterate 2 (refine oy hS y_assign ?_)
     refine n_thenN ?_
     obtain rfl := osi hF
     obtain rfl : _ = r := X0
     refine wp_ret (r_ret (vs := [.agg (cl_State (.slice none 0 0) (.slice none 0 0) (.slice none 0 0) 0 (.slice none 0 0) 0 (.slice none 0 0) 0 (.slice none 0 0) 0 0).toArray, .int .i64 0, .int .i64 1]) (hS.re (.n)) (rsC (res_cell (hS.own (mH)) underlying62 rfl (by exact sz_api_State)) (rsC res_tmp (rsC res_tmp rsN))) rfl ⟨_, _, rfl, (by first | rfl | simp only [aa, ac, al, an]), ⟨_, _, _, _, _, _, _, _, _, _, _, _, rfl, rfl, OwT.nil _ _ _, OwT.nil _ _ _, OwT.nil _ _ _, OwT.nil _ _ _, OwT.nil _ _ _, OwT.nil _ _ _⟩⟩)
   replace hF := bf c16 hF
   refine wp_skip ?_
   obtain rfl := osi hF
   change _ ∧ _
   exact ⟨X0, mk_exF, (hS.re (.b (.e .hb) (.b .hb .n)))⟩
 rintro a w ⟨hF, ⟨s17, rfl⟩, hS⟩
 dsimp only [pipe_By_hazard_Go_k1] at hF
 refine c_seq <| c_region ?_
 refine oy hS (y_loadW oH underlying62 rfl (by exact sz_api_State)) ?_
 obtain ⟨r18, R3, hF⟩ := ob hF
 refine o_call0 hS func47 rfl rfl (hc := (w_seq_Own (a0 := a1) (h0 := ⟨_, _, _, _, _, _, rfl, Y2.plus, Z2.plus, B3.plus, D3.plus, E3.plus, G3.plus⟩) (hF := R3))) (h := ?_)
 clear hS; intro v19 X3 w hS T3
 obtain ⟨v_0_22, LX_0_23, rfl, rfl, h_0_24⟩ := T3
 obtain ⟨Y0, Z0, B1, D1, E1, G1, I2, J2, K2, M2, N2, R2, rfl, rfl, I1, J1, K1, M1, N1, R1⟩ := h_0_24
 simp only [aa, ac, al] at hS
 have hS := hS.re (.b (.d (.d (.d (.d (.d (.d (.e .hb))))))) (.t .h (.t .h (.t .h (.t .h (.t .h (.t .h (.b .hb .n))))))))
 refine o_storeW (vs := (cl_State Y0 Z0 B1 r18.Taken D1 r18.PC E1 r18.Stop G1 r18.Jump r18.Delay)) hS (by exact rfl) (Upd.here _) (by exact sz_api_State) (one_State (I1).one (J1).one (K1).one (M1).one (N1).one (R1).one) ?_
 clear hS; intro w hS
 refine n_thenN <| c_seq <| c_block ?_
 refine c_loopP hF (fun (q : (Int × (List Int) × (List Int) × (List Int) × Int × (List Int) × Int × (List Int) × Int × (List T_Write) × Int × Int)) a w' => ∃ (v83 : Value) (v88 : Value) (v93 : Value) (v99 : Value) (B0 : Value) (D0 : Value) (T1 : Own) (U1 : Own) (V1 : Own) (T0 : Own) (U0 : Own) (V0 : Own), OwT 87 enc_uint32 1 q.2.1 v83 T1 ∧ OwT 87 enc_uint32 1 q.2.2.1 v88 U1 ∧ OwT 87 enc_uint32 1 q.2.2.2.1 v93 V1 ∧ OwT 87 enc_uint32 1 q.2.2.2.2.2.1 v99 T0 ∧ OwT 3 enc_int 1 q.2.2.2.2.2.2.2.1 B0 U0 ∧ OwT 89 enc_Write 3 q.2.2.2.2.2.2.2.2.2.1 D0 V0 ∧ (∃ s : Nat → Value, a = Ac ((((((Fm.dead 45 s).upd 0 v0_).upd 2 (.int .i64 a2)).upd 3 (.func (.func 50) #[] #[])).upd 8 (.pointer (some ⟨b2, 0, none⟩))).upd 9 (.int .i64 q.1))) ∧ St W g [] ((b2, blk (cl_State v83 v88 v93 q.2.2.2.2.1 v99 q.2.2.2.2.2.2.1 B0 q.2.2.2.2.2.2.2.2.1 D0 q.2.2.2.2.2.2.2.2.2.2.1 q.2.2.2.2.2.2.2.2.2.2.2) 62) :: (T1 ++ (U1 ++ (V1 ++ (T0 ++ (U0 ++ (V0 ++ []))))))) w') ⟨Y0, Z0, B1, D1, E1, G1, I2, J2, K2, M2, N2, R2, I1, J1, K1, M1, N1, R1, mk_exF, (hS.re (.b .hb (.t .h (.t .h (.t .h (.t .h (.t .h (.t .h .n))))))))⟩ ?_
 clear hS hF
 intro Y3 q a w hI hq
 obtain ⟨x81, x82, x87, x92, x97, x98, E0, T2, G0, U2, I0, J0⟩ := q
 obtain ⟨v83, v88, v93, v99, B0, D0, T1, U1, V1, T0, U0, V0, h84, h89, h94, K0, N0, R0, ⟨Z3, rfl⟩, hS⟩ := hq
 replace h84 : OwT 87 enc_uint32 1 x82 v83 T1 := h84
 replace h89 : OwT 87 enc_uint32 1 x87 v88 U1 := h89
 replace h94 : OwT 87 enc_uint32 1 x92 v93 V1 := h94
 replace K0 : OwT 87 enc_uint32 1 x98 v99 T0 := K0
 replace N0 : OwT 3 enc_int 1 T2 B0 U0 := N0
 replace R0 : OwT 89 enc_Write 3 U2 D0 V0 := R0
 obtain ⟨B4, hF, G2⟩ := iter_step hI
 clear hI
 dsimp only [pipe_By_hazard_Go_b2] at hF
 iterate 2 (refine c_seq ?_)
 refine c_region ?_
 iterate 2 (refine oy hS y_move ?_)
 refine oy hS y_bin ?_
 refine o_split (ht := fun V2 => ?_) (hf := fun V2 => ?_)
 · replace hF := bt V2 hF
   refine o_gu rfl rfl rfl <| oy hS (y_field fa_api_State_7) <| o_gu rfl rfl rfl <| oy hS (y_load oH underlying3 rfl rfl) <| o_gu rfl rfl rfl <| oy hS y_bin <| oy hS y_pickT <| n_thenN ?_
   refine c_if (ht := fun X2 => ?_) (hf := fun X2 => ?_)
   · replace hF := bt X2 hF
     refine wp_skip <| c_block <| c_seq <| c_region ?_
     iterate 2 (refine oy hS y_move ?_)
     have hS2 := hS.spl (.cons _ (.app _ (.app _ (.app _ (.app _ (.app _ (.app _ (.nil _))))))))
     obtain ⟨D4, I3, hF⟩ := ob hF
     refine o_callVG hS2 func50 rfl rfl (hc := (w_hazard_Go (a0 := a0) (a1 := (⟨x82, x87, x92, x97, x98, E0, T2, G0, U2, I0, J0⟩ : T_State)) (h0 := h0.plus) (h1 := (⟨_, _, _, _, _, _, _, _, _, _, _, _, rfl, h84, h89, h94, K0, N0, R0⟩ : Bx_State b2 (⟨x82, x87, x92, x97, x98, E0, T2, G0, U2, I0, J0⟩ : T_State) ((b2, blk (cl_State v83 v88 v93 x97 v99 E0 B0 G0 D0 I0 J0) 62) :: (T1 ++ (U1 ++ (V1 ++ (T0 ++ (U0 ++ (V0 ++ []))))))))) (hF := I3))) (h := ?_)
     clear hS; intro E4 U3 w hS J3
     clear hS2
     obtain ⟨V3, rfl, rfl, K3⟩ := J3
     obtain ⟨vB_0_161, vB_1_165, vB_2_169, vB_4_173, vB_6_177, vB_8_181, LXB_0_162, LXB_1_166, LXB_2_170, LXB_4_174, LXB_6_178, LXB_8_182, rfl, hB_0_163, hB_1_167, hB_2_171, hB_4_175, hB_6_179, hB_8_183⟩ := K3
     simp only [aa, ac, al] at hS
     refine n_thenN <| c_region <| oy hS y_move <| oy hS y_bin <| oy hS y_assign ?_
     refine n_anyN ?_
     obtain rfl := osi hF
     exact ⟨_, G2, vB_0_161, vB_1_165, vB_2_169, vB_4_173, vB_6_177, vB_8_181, LXB_0_162, LXB_1_166, LXB_2_170, LXB_4_174, LXB_6_178, LXB_8_182, hB_0_163, hB_1_167, hB_2_171, hB_4_175, hB_6_179, hB_8_183, mk_exF, (hS.re (.b .hb (.t .h (.t .h (.t .h (.t .h (.t .h (.t .h .n))))))))⟩
   replace hF := bf X2 hF
   refine wp_exit ?_
   refine c_seq <| c_region ?_
   refine oy hS (y_loadW oH underlying62 rfl (by exact sz_api_State)) ?_
   refine oy hS y_move ?_
   refine o_storeW (vs := (cl_State v83 v88 v93 x97 v99 E0 B0 G0 D0 I0 J0)) hS (by exact rfl) (Upd.here _) (by exact sz_api_State) (one_State (h84).one (h89).one (h94).one (K0).one (N0).one (R0).one) ?_
   clear hS; intro w hS
   iterate 2 (refine oy hS y_assign ?_)
   refine n_thenN ?_
   obtain rfl := osi hF
   obtain rfl : _ = r := G2
   refine wp_ret (r_ret (vs := [.agg (cl_State v83 v88 v93 x97 v99 E0 B0 G0 D0 I0 J0).toArray, .int .i64 x81, .int .i64 0]) (hS.re (.t (.e .h) (.t (.e .h) (.t (.e .h) (.t (.e .h) (.t (.e .h) (.t (.e .h) .n))))))) (rsC (res_cell (hS.own (mH)) underlying62 rfl (by exact sz_api_State)) (rsC res_tmp (rsC res_tmp rsN))) rfl ⟨_, _, rfl, (by first | rfl | simp only [aa, ac, al, an]), ⟨_, _, _, _, _, _, _, _, _, _, _, _, rfl, rfl, h84, h89, h94, K0, N0, R0⟩⟩)
 replace hF := bf V2 hF
 iterate 3 (refine o_sk rfl rfl ?_)
 refine oy hS y_pickF <| n_thenN ?_
 refine c_if_false (h := ?_)
 refine wp_exit ?_
 refine c_seq <| c_region ?_
 refine oy hS (y_loadW oH underlying62 rfl (by exact sz_api_State)) ?_
 refine oy hS y_move ?_
 refine o_storeW (vs := (cl_State v83 v88 v93 x97 v99 E0 B0 G0 D0 I0 J0)) hS (by exact rfl) (Upd.here _) (by exact sz_api_State) (one_State (h84).one (h89).one (h94).one (K0).one (N0).one (R0).one) ?_
 clear hS; intro w hS
 iterate 2 (refine oy hS y_assign ?_)
 refine n_thenN ?_
 obtain rfl := osi hF
 obtain rfl : _ = r := G2
 refine wp_ret (r_ret (vs := [.agg (cl_State v83 v88 v93 x97 v99 E0 B0 G0 D0 I0 J0).toArray, .int .i64 x81, .int .i64 0]) (hS.re (.t (.e .h) (.t (.e .h) (.t (.e .h) (.t (.e .h) (.t (.e .h) (.t (.e .h) .n))))))) (rsC (res_cell (hS.own (mH)) underlying62 rfl (by exact sz_api_State)) (rsC res_tmp (rsC res_tmp rsN))) rfl ⟨_, _, rfl, (by first | rfl | simp only [aa, ac, al, an]), ⟨_, _, _, _, _, _, _, _, _, _, _, _, rfl, rfl, h84, h89, h94, K0, N0, R0⟩⟩)
theorem w_pipe_By_hazard_Go {g : Frag} {a0 : (List (A4 T_Ins))} {v0_ : Value} {a1 : T_State} {v1_ : Value} {a2 : Int} {r : (T_State × Int × Int)} (h0 : SlT g enc_Bundle 24 a0 v0_) (h1 : Rd_State g a1 v1_) (hF : pipe_By_hazard_Go a0 a1 a2 = some r) : LC Tryz.prog 49 #[v0_, v1_, .int .i64 a2, .func (.func 50) #[] #[]] g [] (fun v L => ∃ (u0 : Value) (M0 : Own), v = .tuple #[u0, .int .i64 r.2.1, .int .i64 r.2.2] ∧ L = (M0 ++ []) ∧ Ow_State r.1 u0 M0) := w_pipe_By_hazard_Go_ h0 h1 hF

noncomputable def hazard_Run (a0 : (List (A4 T_Ins))) (a1 : T_State) (a2 : Int) : Option (T_State × Int × Int) :=
  (pipe_By_hazard_Go a0 a1 a2).bind fun r3 => some (r3.1, r3.2.1, r3.2.2)
theorem w_hazard_Run_ {g : Frag} {a0 : (List (A4 T_Ins))} {v0_ : Value} {a1 : T_State} {v1_ : Value} {a2 : Int} {r : (T_State × Int × Int)} (h0 : SlT g enc_Bundle 24 a0 v0_) (h1 : Rd_State g a1 v1_) (hF : hazard_Run a0 a1 a2 = some r) : LC Tryz.prog 24 #[v0_, v1_, .int .i64 a2] g [] (fun v L => ∃ (u0 : Value) (M0 : Own), v = .tuple #[u0, .int .i64 r.2.1, .int .i64 r.2.2] ∧ L = (M0 ++ []) ∧ Ow_State r.1 u0 M0) := by
 obtain ⟨X0, Y0, Z0, B1, D1, E1, rfl, G1, I1, J1, K1, M1, N1⟩ := h1
 unfold hazard_Run at hF
 refine lc_body (k := 16) (av := [v0_, .agg (cl_State X0 Y0 Z0 a1.Taken B1 a1.PC D1 a1.Stop E1 a1.Jump a1.Delay).toArray, .int .i64 a2]) func24 rfl rfl (h := fun W hS => ?_)
 refine c_seq <| c_region ?_
 refine o_boxP (cl := (cl_State X0 Y0 Z0 a1.Taken B1 a1.PC D1 a1.Stop E1 a1.Jump a1.Delay)) rfl hS ?_
 clear hS; intro b1 w hS
 refine o_allocP (cl := (cl_State (.slice none 0 0) (.slice none 0 0) (.slice none 0 0) 0 (.slice none 0 0) 0 (.slice none 0 0) 0 (.slice none 0 0) 0 0)) zr_api_State rfl hS ?_
 clear hS; intro b2 w hS
 iterate 2 (refine oy hS y_assign ?_)
 refine n_thenN <| c_seq <| c_region <| oy hS y_move ?_
 refine oy hS (y_loadW (fun w hS => hS.own (mC (mH))) underlying62 rfl (by exact sz_api_State)) ?_
 refine oy hS y_move ?_
 obtain ⟨r3, hr3, hF⟩ := ob hF
 refine o_call0 hS func49 rfl rfl (hc := (w_pipe_By_hazard_Go (a0 := a0) (a1 := a1) (a2 := a2) (h0 := h0.plus) (h1 := ⟨_, _, _, _, _, _, rfl, G1.plus, I1.plus, J1.plus, K1.plus, M1.plus, N1.plus⟩) (hF := hr3))) (h := ?_)
 clear hS; intro v4 LY5 w hS hr6
 obtain ⟨v_0_7, LX_0_8, rfl, rfl, h_0_9⟩ := hr6
 obtain ⟨B0, D0, E0, G0, I0, J0, R1, T1, U1, V1, X1, Y1, rfl, rfl, K0, N0, R0, T0, U0, V0⟩ := h_0_9
 simp only [aa, ac, al] at hS
 iterate 3 (refine oy hS (y_extract rfl) ?_)
 have hS := hS.re (.b (.d (.d (.d (.d (.d (.d .hb)))))) (.t .h (.t .h (.t .h (.t .h (.t .h (.t .h (.b .hb .n))))))))
 refine o_storeW (vs := (cl_State B0 D0 E0 r3.1.Taken G0 r3.1.PC I0 r3.1.Stop J0 r3.1.Jump r3.1.Delay)) hS (by exact rfl) (Upd.here _) (by exact sz_api_State) (one_State (K0).one (N0).one (R0).one (T0).one (U0).one (V0).one) ?_
 clear hS; intro w hS
 iterate 2 (refine oy hS y_assign ?_)
 refine n_thenN ?_
 obtain rfl := osi hF
 refine wp_ret (r_ret (vs := [.agg (cl_State B0 D0 E0 r3.1.Taken G0 r3.1.PC I0 r3.1.Stop J0 r3.1.Jump r3.1.Delay).toArray, .int .i64 r3.2.1, .int .i64 r3.2.2]) (hS.re (.t (.e .h) (.t (.e .h) (.t (.e .h) (.t (.e .h) (.t (.e .h) (.t (.e .h) .n))))))) (rsC (res_cell (hS.own (mH)) underlying62 rfl (by exact sz_api_State)) (rsC res_tmp (rsC res_tmp rsN))) rfl ⟨_, _, rfl, (by first | rfl | simp only [aa, ac, al, an]), ⟨_, _, _, _, _, _, _, _, _, _, _, _, rfl, rfl, K0, N0, R0, T0, U0, V0⟩⟩)
theorem w_hazard_Run {g : Frag} {a0 : (List (A4 T_Ins))} {v0_ : Value} {a1 : T_State} {v1_ : Value} {a2 : Int} {r : (T_State × Int × Int)} (h0 : SlT g enc_Bundle 24 a0 v0_) (h1 : Rd_State g a1 v1_) (hF : hazard_Run a0 a1 a2 = some r) : LC Tryz.prog 24 #[v0_, v1_, .int .i64 a2] g [] (fun v L => ∃ (u0 : Value) (M0 : Own), v = .tuple #[u0, .int .i64 r.2.1, .int .i64 r.2.2] ∧ L = (M0 ++ []) ∧ Ow_State r.1 u0 M0) := w_hazard_Run_ h0 h1 hF

noncomputable def slices_Equal_uint32_uint32_b1 (a0 : (List Int)) (a1 : (List Int)) : Int → Option (Step Int Bool) := fun x28 => bif decide (x28 < (a0.length : Int)) then (at' a0 x28).bind fun x60 => (at' a1 x28).bind fun x72 => bif decide (x60 ≠ x72) then some (.done (false)) else some (.next (IntKind.i64.wrap (x28 + 1))) else some (.done (true))
noncomputable def slices_Equal_uint32_uint32 (a0 : (List Int)) (a1 : (List Int)) : Option Bool :=
  bif decide ((a0.length : Int) ≠ (a1.length : Int)) then some (false) else loop (σ := Int) (slices_Equal_uint32_uint32_b1 a0 a1) 0
theorem w_slices_Equal_uint32_uint32_ {g : Frag} {a0 : (List Int)} {v0_ : Value} {a1 : (List Int)} {v1_ : Value} {r : Bool} (h0 : SlT g enc_uint32 1 a0 v0_) (h1 : SlT g enc_uint32 1 a1 v1_) (hF : slices_Equal_uint32_uint32 a0 a1 = some r) : LCs Tryz.prog 51 #[v0_, v1_] g (.bool r) := by
 unfold slices_Equal_uint32_uint32 at hF
 refine lc_body (k := 26) (av := [v0_, v1_]) func51 rfl rfl (h := fun W hS => ?_)
 refine c_seq <| c_region <| oy hS y_assign <| n_thenN ?_
 iterate 2 (refine c_seq ?_)
 refine c_region <| oy hS y_move <| oy hS (y_len h0 underlying31) <| oy hS y_move <| oy hS (y_len h1 underlying31) <| oy hS y_bin <| n_thenN ?_
 refine c_if (ht := fun c1 => ?_) (hf := fun c1 => ?_)
 · replace hF := bt c1 hF
   refine c_seq <| c_region <| oy hS y_assign <| n_thenN ?_
   obtain rfl := osi hF
   exact wp_ret (wr1 hS)
 replace hF := bf c1 hF
 refine wp_skip ?_
 iterate 2 (refine c_seq ?_)
 refine c_region <| oy hS y_move <| oy hS (y_len h0 underlying31) <| oy hS y_move <| n_thenN <| c_block ?_
 refine c_loopP hF (fun (q : Int) a w' => (∃ s : Nat → Value, a = Ac (((((Fm.dead 26 s).upd 0 v0_).upd 1 v1_).upd 12 (.int .i64 (a0.length : Int))).upd 13 (.int .i64 q))) ∧ St W g [] [] w') ⟨mk_exF, (hS.re (.n))⟩ ?_
 clear hS hF
 intro n57 q a w hI hq
 revert hq hI; revert q; intro x28 hI hq
 obtain ⟨⟨s58, rfl⟩, hS⟩ := hq
 obtain ⟨z55, hF, B0⟩ := iter_step hI
 clear hI
 dsimp only [slices_Equal_uint32_uint32_b1] at hF
 refine c_seq <| c_region <| oy hS y_bin <| n_thenN <| c_seq ?_
 refine c_if (ht := fun c59 => ?_) (hf := fun c59 => ?_)
 · replace hF := bt c59 hF
   refine wp_skip <| c_seq <| c_block <| c_seq <| c_region <| oy hS y_move <| oy hS y_assign <| n_thenN ?_
   refine c_seq ?_
   refine c_quiet (by kernel_rfl) (by kernel_rfl) hS ?_
   iterate 2 (refine qy y_move ?_)
   obtain ⟨x60, D0, hF⟩ := ob hF
   obtain ⟨b61, o62, c63, X0, e65, Y0, E0, G0, I0, J0, K0⟩ := SlT.at D0 h0 enc_len_uint32
   refine qy (y_index E0 G0 I0 underlying31 el_uint32.size) <| qy (y_load (fun w hS => hS.block J0) underlying87 rfl (K0 0 _ rfl)) ?_
   iterate 2 (refine qy y_move ?_)
   obtain ⟨x72, M0, hF⟩ := ob hF
   obtain ⟨b73, o74, c75, Z0, e77, B1, N0, R0, T0, U0, V0⟩ := SlT.at M0 h1 enc_len_uint32
   refine qy (y_index N0 R0 T0 underlying31 el_uint32.size) <| qy (y_load (fun w hS => hS.block U0) underlying87 rfl (V0 0 _ rfl)) <| qy y_bin ?_
   refine q_nilN (h := ?_)
   clear hS; intro w hS
   refine c_if (ht := fun c84 => ?_) (hf := fun c84 => ?_)
   · replace hF := bt c84 hF
     refine c_seq <| c_region <| oy hS y_assign <| n_thenN ?_
     obtain rfl := osi hF
     obtain rfl : _ = r := B0
     exact wp_ret (wr1 hS)
   replace hF := bf c84 hF
   refine wp_skip <| c_region <| oy hS y_bin <| oy hS y_move <| n_thenN ?_
   obtain rfl := osi hF
   exact ⟨_, B0, mk_exF, (hS.re (.n))⟩
 replace hF := bf c59 hF
 refine wp_exit ?_
 refine c_seq <| c_region <| oy hS y_assign <| n_thenN ?_
 obtain rfl := osi hF
 obtain rfl : _ = r := B0
 exact wp_ret (wr1 hS)
theorem w_slices_Equal_uint32_uint32 {g : Frag} {a0 : (List Int)} {v0_ : Value} {a1 : (List Int)} {v1_ : Value} {r : Bool} (h0 : SlT g enc_uint32 1 a0 v0_) (h1 : SlT g enc_uint32 1 a1 v1_) (hF : slices_Equal_uint32_uint32 a0 a1 = some r) : LCs Tryz.prog 51 #[v0_, v1_] g (.bool r) := w_slices_Equal_uint32_uint32_ h0 h1 hF

noncomputable def bench_begins (a0 : (List Int)) (a1 : (List Int)) : Option Bool :=
  (sub' a0 0 (imin (a0.length : Int) (a1.length : Int))).bind fun zs1 => (sub' a1 0 (imin (a0.length : Int) (a1.length : Int))).bind fun zs2 => (slices_Equal_uint32_uint32 zs1 zs2).bind fun r3 => some (r3)
theorem w_bench_begins_ {g : Frag} {a0 : (List Int)} {v0_ : Value} {a1 : (List Int)} {v1_ : Value} {r : Bool} (h0 : SlT g enc_uint32 1 a0 v0_) (h1 : SlT g enc_uint32 1 a1 v1_) (hF : bench_begins a0 a1 = some r) : LCs Tryz.prog 26 #[v0_, v1_] g (.bool r) := by
 unfold bench_begins at hF
 refine lc_body (k := 18) (av := [v0_, v1_]) func26 rfl rfl (h := fun W hS => ?_)
 refine c_seq <| c_region <| oy hS y_assign <| n_thenN <| c_seq <| c_region <| oy hS y_move <| oy hS (y_len h0 underlying31) ?_
 refine oy hS y_move <| oy hS (y_len h1 underlying31) <| oy hS y_min <| oy hS y_assign <| n_thenN <| c_seq ?_
 refine c_quiet (by kernel_rfl) (by kernel_rfl) hS ?_
 iterate 2 (refine qy y_move ?_)
 obtain ⟨zs1, B0, hF⟩ := ob hF
 refine qy (y_slU B0 h0 underlying31 el_uint32.size) ?_
 iterate 2 (refine qy y_move ?_)
 obtain ⟨zs2, D0, hF⟩ := ob hF
 refine qy (y_slU D0 h1 underlying31 el_uint32.size) ?_
 obtain ⟨r3, hr3, hF⟩ := ob hF
 refine q_callS func51 rfl rfl (hc := (w_slices_Equal_uint32_uint32 (a0 := zs1) (a1 := zs2) (h0 := (SlT.sub B0 h0 enc_len_uint32).plus) (h1 := (SlT.sub D0 h1 enc_len_uint32).plus) (hF := hr3))) (h := ?_)
 refine qy y_assign ?_
 refine q_nilN (h := ?_)
 clear hS; intro w hS
 obtain rfl := osi hF
 exact wp_ret (wr1 hS)
theorem w_bench_begins {g : Frag} {a0 : (List Int)} {v0_ : Value} {a1 : (List Int)} {v1_ : Value} {r : Bool} (h0 : SlT g enc_uint32 1 a0 v0_) (h1 : SlT g enc_uint32 1 a1 v1_) (hF : bench_begins a0 a1 = some r) : LCs Tryz.prog 26 #[v0_, v1_] g (.bool r) := w_bench_begins_ h0 h1 hF

noncomputable def bench_same_k1 (a0 : T_State) (a1 : T_State) : Unit → Option Bool := fun _ => bif decide (a0.Stop ≠ 1) then some (true) else (slices_Equal_uint32_uint32 a1.Regs a0.Regs).bind fun r22 => some (r22)
noncomputable def bench_same (a0 : T_State) (a1 : T_State) : Option Bool :=
  bif decide (a0.Stop = 0) then bif decide (a1.Stop ≠ 6) then (bench_begins a0.Out a1.Out).bind fun r5 => some (r5) else some (false) else cut (σ := Unit) (bif decide (a1.Stop ≠ a0.Stop) then some (.done (false)) else bif decide (a1.Taken ≠ a0.Taken) then some (.done (false)) else (slices_Equal_uint32_uint32 a1.Mem a0.Mem).bind fun r16 => bif !r16 then some (.done (false)) else (slices_Equal_uint32_uint32 a1.Out a0.Out).bind fun r18 => bif !r18 then some (.done (false)) else some (.next ())) (bench_same_k1 a0 a1)
theorem w_bench_same_ {g : Frag} {a0 : T_State} {v0_ : Value} {a1 : T_State} {v1_ : Value} {r : Bool} (h0 : Rd_State g a0 v0_) (h1 : Rd_State g a1 v1_) (hF : bench_same a0 a1 = some r) : LCs Tryz.prog 25 #[v0_, v1_] g (.bool r) := by
 obtain ⟨D0, E0, G0, I0, J0, K0, rfl, Z0, B1, K1, X0, M1, N1⟩ := h0
 obtain ⟨M0, N0, R0, T0, U0, V0, rfl, D1, E1, R1, Y0, T1, U1⟩ := h1
 unfold bench_same at hF
 refine lc_body (k := 56) (av := [.agg (cl_State D0 E0 G0 a0.Taken I0 a0.PC J0 a0.Stop K0 a0.Jump a0.Delay).toArray, .agg (cl_State M0 N0 R0 a1.Taken T0 a1.PC U0 a1.Stop V0 a1.Jump a1.Delay).toArray]) func25 rfl rfl (h := fun W hS => ?_)
 refine c_seq <| c_region ?_
 refine o_boxP (cl := (cl_State D0 E0 G0 a0.Taken I0 a0.PC J0 a0.Stop K0 a0.Jump a0.Delay)) rfl hS ?_
 clear hS; intro b1 w hS
 refine o_boxP (cl := (cl_State M0 N0 R0 a1.Taken T0 a1.PC U0 a1.Stop V0 a1.Jump a1.Delay)) rfl hS ?_
 clear hS; intro b2 w hS
 refine oy hS y_assign <| n_thenN ?_
 iterate 2 (refine c_seq ?_)
 refine c_region <| oy hS (y_field fa_api_State_7) <| oy hS (y_load (fun w hS => hS.own (mC (mH))) underlying3 rfl rfl) <| oy hS y_bin <| n_thenN ?_
 refine c_if (ht := fun c3 => ?_) (hf := fun c3 => ?_)
 · replace hF := bt c3 hF
   refine c_seq <| c_region <| oy hS (y_field fa_api_State_7) <| oy hS (y_load oH underlying3 rfl rfl) <| oy hS y_bin ?_
   refine o_split (ht := fun c4 => ?_) (hf := fun c4 => ?_)
   · replace hF := bt c4 hF
     refine o_gu rfl rfl rfl <| oy hS (y_field fa_api_State_4) <| o_gu rfl rfl rfl <| oy hS (y_load (fun w hS => hS.own (mC (mH))) underlying31 rfl rfl) <| o_gu rfl rfl rfl <| oy hS (y_field fa_api_State_4) <| o_gu rfl rfl rfl <| oy hS (y_load oH underlying31 rfl rfl) ?_
     refine o_gu rfl rfl rfl ?_
     obtain ⟨r5, hr5, hF⟩ := ob hF
     refine o_callS hS func26 rfl rfl (hc := (w_bench_begins (a0 := a0.Out) (a1 := a1.Out) (h0 := X0.plus) (h1 := Y0.plus) (hF := hr5))) (h := ?_)
     clear hS; intro w hS
     refine oy hS y_pickT <| oy hS y_assign <| n_thenN ?_
     obtain rfl := osi hF
     exact wp_ret (wr1 hS)
   replace hF := bf c4 hF
   iterate 5 (refine o_sk rfl rfl ?_)
   refine oy hS y_pickF <| oy hS y_assign <| n_thenN ?_
   obtain rfl := osi hF
   exact wp_ret (wr1 hS)
 replace hF := bf c3 hF
 refine wp_skip ?_
 obtain ⟨z12, hF, B0⟩ := cut_step hF
 refine c_cutP (fun a w' => bench_same_k1 a0 a1 () = some r ∧ (∃ s : Nat → Value, a = Ac (((Fm.dead 56 s).upd 2 (.pointer (some ⟨b1, 0, none⟩))).upd 3 (.pointer (some ⟨b2, 0, none⟩)))) ∧ St W g [] ((b1, blk (cl_State D0 E0 G0 a0.Taken I0 a0.PC J0 a0.Stop K0 a0.Jump a0.Delay) 62) :: ((b2, blk (cl_State M0 N0 R0 a1.Taken T0 a1.PC U0 a1.Stop V0 a1.Jump a1.Delay) 62) :: [])) w') ?_ ?_
 · skip
   refine c_seq <| c_region <| oy hS (y_field fa_api_State_7) <| oy hS (y_load oH underlying3 rfl rfl) <| oy hS (y_field fa_api_State_7) <| oy hS (y_load (fun w hS => hS.own (mC (mH))) underlying3 rfl rfl) <| oy hS y_bin ?_
   refine o_split (ht := fun c14 => ?_) (hf := fun c14 => ?_)
   · replace hF := bt c14 hF
     iterate 5 (refine o_sk rfl rfl ?_)
     refine oy hS y_pickT <| oy hS y_move ?_
     iterate 6 (refine o_sk rfl rfl ?_)
     refine oy hS y_pickT <| oy hS y_move ?_
     iterate 6 (refine o_sk rfl rfl ?_)
     refine oy hS y_pickT <| n_thenN ?_
     refine c_if_true (h := ?_)
     refine c_seq <| c_region <| oy hS y_assign <| n_thenN ?_
     obtain rfl := osi hF
     obtain rfl : _ = r := B0
     exact wp_ret (wr1 hS)
   replace hF := bf c14 hF
   refine o_gu rfl rfl rfl <| oy hS (y_field fa_api_State_3) <| o_gu rfl rfl rfl <| oy hS (y_load oH underlying3 rfl rfl) <| o_gu rfl rfl rfl <| oy hS (y_field fa_api_State_3) <| o_gu rfl rfl rfl <| oy hS (y_load (fun w hS => hS.own (mC (mH))) underlying3 rfl rfl) ?_
   refine o_gu rfl rfl rfl <| oy hS y_bin <| oy hS y_pickF ?_
   refine o_split (ht := fun c15 => ?_) (hf := fun c15 => ?_)
   · replace hF := bt c15 hF
     iterate 6 (refine o_sk rfl rfl ?_)
     refine oy hS y_pickT <| oy hS y_move ?_
     iterate 6 (refine o_sk rfl rfl ?_)
     refine oy hS y_pickT <| n_thenN ?_
     refine c_if_true (h := ?_)
     refine c_seq <| c_region <| oy hS y_assign <| n_thenN ?_
     obtain rfl := osi hF
     obtain rfl : _ = r := B0
     exact wp_ret (wr1 hS)
   replace hF := bf c15 hF
   refine o_gu rfl rfl rfl <| oy hS (y_field fa_api_State_1) <| o_gu rfl rfl rfl <| oy hS (y_load oH underlying31 rfl rfl) <| o_gu rfl rfl rfl <| oy hS (y_field fa_api_State_1) <| o_gu rfl rfl rfl <| oy hS (y_load (fun w hS => hS.own (mC (mH))) underlying31 rfl rfl) ?_
   refine o_gu rfl rfl rfl ?_
   obtain ⟨r16, G1, hF⟩ := ob hF
   refine o_callS hS func51 rfl rfl (hc := (w_slices_Equal_uint32_uint32 (a0 := a1.Mem) (a1 := a0.Mem) (h0 := E1.plus) (h1 := B1.plus) (hF := G1))) (h := ?_)
   clear hS; intro w hS
   refine o_gu rfl rfl rfl <| oy hS y_not <| oy hS y_pickF ?_
   refine o_split (ht := fun c17 => ?_) (hf := fun c17 => ?_)
   · replace hF := bt c17 hF
     iterate 6 (refine o_sk rfl rfl ?_)
     refine oy hS y_pickT <| n_thenN ?_
     refine c_if_true (h := ?_)
     refine c_seq <| c_region <| oy hS y_assign <| n_thenN ?_
     obtain rfl := osi hF
     obtain rfl : _ = r := B0
     exact wp_ret (wr1 hS)
   replace hF := bf c17 hF
   refine o_gu rfl rfl rfl <| oy hS (y_field fa_api_State_4) <| o_gu rfl rfl rfl <| oy hS (y_load oH underlying31 rfl rfl) <| o_gu rfl rfl rfl <| oy hS (y_field fa_api_State_4) <| o_gu rfl rfl rfl <| oy hS (y_load (fun w hS => hS.own (mC (mH))) underlying31 rfl rfl) ?_
   refine o_gu rfl rfl rfl ?_
   obtain ⟨r18, I1, hF⟩ := ob hF
   refine o_callS hS func51 rfl rfl (hc := (w_slices_Equal_uint32_uint32 (a0 := a1.Out) (a1 := a0.Out) (h0 := Y0.plus) (h1 := X0.plus) (hF := I1))) (h := ?_)
   clear hS; intro w hS
   refine o_gu rfl rfl rfl <| oy hS y_not <| oy hS y_pickF <| n_thenN ?_
   refine c_if (ht := fun c19 => ?_) (hf := fun c19 => ?_)
   · replace hF := bt c19 hF
     refine c_seq <| c_region <| oy hS y_assign <| n_thenN ?_
     obtain rfl := osi hF
     obtain rfl : _ = r := B0
     exact wp_ret (wr1 hS)
   replace hF := bf c19 hF
   refine wp_skip ?_
   obtain rfl := osi hF
   change _ ∧ _
   exact ⟨B0, mk_exF, (hS.re (.b (.e .hb) (.b .hb .n)))⟩
 rintro a w ⟨hF, ⟨s20, rfl⟩, hS⟩
 dsimp only [bench_same_k1] at hF
 refine c_seq <| c_region <| oy hS (y_field fa_api_State_7) <| oy hS (y_load oH underlying3 rfl rfl) <| oy hS y_bin ?_
 refine o_split (ht := fun c21 => ?_) (hf := fun c21 => ?_)
 · replace hF := bt c21 hF
   iterate 5 (refine o_sk rfl rfl ?_)
   refine oy hS y_pickT <| oy hS y_assign <| n_thenN ?_
   obtain rfl := osi hF
   exact wp_ret (wr1 hS)
 replace hF := bf c21 hF
 refine o_gu rfl rfl rfl <| oy hS (y_field fa_api_State_0) <| o_gu rfl rfl rfl <| oy hS (y_load (fun w hS => hS.own (mC (mH))) underlying31 rfl rfl) <| o_gu rfl rfl rfl <| oy hS (y_field fa_api_State_0) <| o_gu rfl rfl rfl <| oy hS (y_load oH underlying31 rfl rfl) ?_
 refine o_gu rfl rfl rfl ?_
 obtain ⟨r22, J1, hF⟩ := ob hF
 refine o_callS hS func51 rfl rfl (hc := (w_slices_Equal_uint32_uint32 (a0 := a1.Regs) (a1 := a0.Regs) (h0 := D1.plus) (h1 := Z0.plus) (hF := J1))) (h := ?_)
 clear hS; intro w hS
 refine oy hS y_pickF <| oy hS y_assign <| n_thenN ?_
 obtain rfl := osi hF
 exact wp_ret (wr1 hS)
theorem w_bench_same {g : Frag} {a0 : T_State} {v0_ : Value} {a1 : T_State} {v1_ : Value} {r : Bool} (h0 : Rd_State g a0 v0_) (h1 : Rd_State g a1 v1_) (hF : bench_same a0 a1 = some r) : LCs Tryz.prog 25 #[v0_, v1_] g (.bool r) := w_bench_same_ h0 h1 hF

noncomputable def bench_Compare_k1 (a1 : T_Flat) (r36 : (T_State × Int)) (a2 : Int) (a0 : T_Image) (r4 : (T_State × Int)) : Unit → Option (T_Verdict × Int) := fun _ => (seq_Run a1.Code r36.1 a2).bind fun r79 => (hazard_Run a0.Code r4.1 (IntKind.i64.wrap ((IntKind.i64.wrap (4 * a2)) + 8))).bind fun B0 => (bench_same r79.1 B0.1).bind fun D0 => (bench_begins r79.1.Out B0.1.Out).bind fun E0 => some ((⟨r79.2.1, B0.2.1, r79.1.Stop, B0.1.Stop, D0, E0⟩ : T_Verdict), 0)
noncomputable def bench_Compare (a0 : T_Image) (a1 : T_Flat) (a2 : Int) (a3 : (List Int)) : Option (T_Verdict × Int) :=
  (image_Load a0 a3).bind fun r4 => (image_Flat a1 a3).bind fun r36 => cut (σ := Unit) (bif decide (r4.2 ≠ 0) then some (.done (((⟨0, 0, 0, 0, false, false⟩ : T_Verdict), 1))) else bif decide (r36.2 ≠ 0) then some (.done (((⟨0, 0, 0, 0, false, false⟩ : T_Verdict), 1))) else bif decide (a2 < 0) then some (.done (((⟨0, 0, 0, 0, false, false⟩ : T_Verdict), 1))) else bif decide (4000 < a2) then some (.done (((⟨0, 0, 0, 0, false, false⟩ : T_Verdict), 1))) else some (.next ())) (bench_Compare_k1 a1 r36 a2 a0 r4)
theorem w_bench_Compare_ {g : Frag} {a0 : T_Image} {v0_ : Value} {a1 : T_Flat} {v1_ : Value} {a2 : Int} {a3 : (List Int)} {v3_ : Value} {r : (T_Verdict × Int)} (h0 : Rd_Image g a0 v0_) (h1 : Rd_Flat g a1 v1_) (h3 : SlT g enc_uint32 1 a3 v3_) (hF : bench_Compare a0 a1 a2 a3 = some r) : LCs Tryz.prog 11 #[v0_, v1_, .int .i64 a2, v3_] g (.tuple #[.agg (enc_Verdict r.1).toArray, .int .i64 r.2]) := by
 obtain ⟨K2, M2, rfl, I4, K4⟩ := h0
 obtain ⟨N2, R2, rfl, J4, M4⟩ := h1
 unfold bench_Compare at hF
 refine lc_body (k := 80) (av := [.agg (cl_Image K2 M2 a0.Entry).toArray, .agg (cl_Flat N2 R2 a1.Entry).toArray, .int .i64 a2, v3_]) func11 rfl rfl (h := fun W hS => ?_)
 refine c_seq <| c_region ?_
 refine o_boxP (cl := (cl_Image K2 M2 a0.Entry)) rfl hS ?_
 clear hS; intro b1 w hS
 refine o_boxP (cl := (cl_Flat N2 R2 a1.Entry)) rfl hS ?_
 clear hS; intro b2 w hS
 refine o_allocP (cl := (enc_Verdict ⟨0, 0, 0, 0, false, false⟩)) zr_api_Verdict rfl hS ?_
 clear hS; intro b3 w hS
 refine oy hS y_assign <| n_thenN <| c_seq <| c_region ?_
 refine oy hS (y_loadW (fun w hS => hS.own (mC (mC (mH)))) underlying40 rfl (by exact sz_api_Image)) ?_
 refine oy hS y_move ?_
 obtain ⟨r4, hr4, hF⟩ := ob hF
 refine o_call0 hS func16 rfl rfl (hc := (w_image_Load (a0 := a0) (a1 := a3) (h0 := ⟨_, _, rfl, I4.plus, K4.plus⟩) (h1 := h3.plus) (hF := hr4))) (h := ?_)
 clear hS; intro v5 LY6 w hS hr7
 obtain ⟨v_0_8, LX_0_9, rfl, rfl, h_0_10⟩ := hr7
 obtain ⟨T0, U0, V0, X0, Y0, Z0, T2, U2, V2, X2, Y2, Z2, rfl, rfl, B1, D1, E1, G1, I1, J1⟩ := h_0_10
 simp only [aa, ac, al] at hS
 refine oy hS y_move ?_
 iterate 2 (refine oy hS (y_extract rfl) ?_)
 refine o_allocP (cl := (cl_State (.slice none 0 0) (.slice none 0 0) (.slice none 0 0) 0 (.slice none 0 0) 0 (.slice none 0 0) 0 (.slice none 0 0) 0 0)) zr_api_State rfl hS ?_
 clear hS; intro b35 w hS
 refine o_storeW (vs := (cl_State T0 U0 V0 r4.1.Taken X0 r4.1.PC Y0 r4.1.Stop Z0 r4.1.Jump r4.1.Delay)) hS (by exact rfl) (Upd.here _) (by exact sz_api_State) (one_State (B1).one (D1).one (E1).one (G1).one (I1).one (J1).one) ?_
 clear hS; intro w hS
 refine oy hS y_assign <| n_thenN <| c_seq <| c_region ?_
 refine oy hS (y_loadW (fun w hS => hS.own (mC (mB (mB (mB (mB (mB (mB (mC (mH)))))))))) underlying55 rfl (by exact sz_api_Flat)) ?_
 refine oy hS y_move ?_
 obtain ⟨r36, N5, hF⟩ := ob hF
 refine o_call0 hS func22 rfl rfl (hc := (w_image_Flat (a0 := a1) (a1 := a3) (h0 := ⟨_, _, rfl, J4.plus, M4.plus⟩) (h1 := h3.plus) (hF := N5))) (h := ?_)
 clear hS; intro v37 X5 w hS R5
 obtain ⟨v_0_40, LX_0_41, rfl, rfl, h_0_42⟩ := R5
 obtain ⟨K1, M1, N1, R1, T1, U1, B3, D3, E3, G3, I3, J3, rfl, rfl, V1, X1, Y1, Z1, B2, D2⟩ := h_0_42
 simp only [aa, ac, al] at hS
 refine oy hS y_move ?_
 iterate 2 (refine oy hS (y_extract rfl) ?_)
 refine o_allocP (cl := (cl_State (.slice none 0 0) (.slice none 0 0) (.slice none 0 0) 0 (.slice none 0 0) 0 (.slice none 0 0) 0 (.slice none 0 0) 0 0)) zr_api_State rfl hS ?_
 clear hS; intro b67 w hS
 refine o_storeW (vs := (cl_State K1 M1 N1 r36.1.Taken R1 r36.1.PC T1 r36.1.Stop U1 r36.1.Jump r36.1.Delay)) hS (by exact rfl) (Upd.here _) (by exact sz_api_State) (one_State (V1).one (X1).one (Y1).one (Z1).one (B2).one (D2).one) ?_
 clear hS; intro w hS
 refine oy hS y_assign <| n_thenN ?_
 obtain ⟨z72, hF, E2⟩ := cut_step hF
 refine c_cutP (fun a w' => bench_Compare_k1 a1 r36 a2 a0 r4 () = some r ∧ (∃ s : Nat → Value, a = Ac (((((((Fm.dead 80 s).upd 2 (.int .i64 a2)).upd 4 (.pointer (some ⟨b1, 0, none⟩))).upd 5 (.pointer (some ⟨b2, 0, none⟩))).upd 8 (.pointer (some ⟨b3, 0, none⟩))).upd 10 (.pointer (some ⟨b35, 0, none⟩))).upd 12 (.pointer (some ⟨b67, 0, none⟩)))) ∧ St W g [] ((b1, blk (cl_Image K2 M2 a0.Entry) 40) :: ((b2, blk (cl_Flat N2 R2 a1.Entry) 55) :: ((b3, blk (enc_Verdict ⟨0, 0, 0, 0, false, false⟩) 50) :: ((b35, blk (cl_State T0 U0 V0 r4.1.Taken X0 r4.1.PC Y0 r4.1.Stop Z0 r4.1.Jump r4.1.Delay) 62) :: ((b67, blk (cl_State K1 M1 N1 r36.1.Taken R1 r36.1.PC T1 r36.1.Stop U1 r36.1.Jump r36.1.Delay) 62) :: (T2 ++ (U2 ++ (V2 ++ (X2 ++ (Y2 ++ (Z2 ++ (B3 ++ (D3 ++ (E3 ++ (G3 ++ (I3 ++ (J3 ++ []))))))))))))))))) w') ?_ ?_
 · skip
   refine c_seq <| c_region <| oy hS y_move <| oy hS y_bin ?_
   refine o_split (ht := fun c74 => ?_) (hf := fun c74 => ?_)
   · replace hF := bt c74 hF
     iterate 2 (refine o_sk rfl rfl ?_)
     refine oy hS y_pickT <| oy hS y_move ?_
     iterate 2 (refine o_sk rfl rfl ?_)
     refine oy hS y_pickT <| oy hS y_move ?_
     iterate 2 (refine o_sk rfl rfl ?_)
     refine oy hS y_pickT <| n_thenN ?_
     refine c_if_true (h := ?_)
     refine c_seq <| c_region ?_
     refine oy hS (y_build (cl := (enc_Verdict ⟨0, 0, 0, 0, false, false⟩)) bt_api_Verdict rfl (by kernel_rfl)) ?_
     have hS := hS.re (.b (.e (.d (.d (.d (.d (.d (.d (.e (.d (.d (.d (.d (.d (.d .hb)))))))))))))) (.b .hb (.t .h (.t .h (.t .h (.t .h (.t .h (.t .h (.b .hb (.t .h (.t .h (.t .h (.t .h (.t .h (.t .h (.b .hb (.b .hb .n)))))))))))))))))
     refine o_storeW (vs := (enc_Verdict ⟨0, 0, 0, 0, false, false⟩)) hS (by exact rfl) (Upd.here _) (by exact sz_api_Verdict) (enc_one_Verdict _) ?_
     clear hS; intro w hS
     refine oy hS y_assign <| n_thenN ?_
     obtain rfl := osi hF
     obtain rfl : _ = r := E2
     refine wp_ret (r_ret (vs := [.agg (enc_Verdict ⟨0, 0, 0, 0, false, false⟩).toArray, .int .i64 1]) (hS.re (.nil _)) (rsC (res_cell (hS.own (mH)) underlying50 rfl (by exact sz_api_Verdict)) (rsC res_tmp rsN)) rfl ⟨rfl, rfl⟩)
   replace hF := bf c74 hF
   refine o_gu rfl rfl rfl <| oy hS y_move <| o_gu rfl rfl rfl <| oy hS y_bin <| oy hS y_pickF ?_
   refine o_split (ht := fun c75 => ?_) (hf := fun c75 => ?_)
   · replace hF := bt c75 hF
     iterate 2 (refine o_sk rfl rfl ?_)
     refine oy hS y_pickT <| oy hS y_move ?_
     iterate 2 (refine o_sk rfl rfl ?_)
     refine oy hS y_pickT <| n_thenN ?_
     refine c_if_true (h := ?_)
     refine c_seq <| c_region ?_
     refine oy hS (y_build (cl := (enc_Verdict ⟨0, 0, 0, 0, false, false⟩)) bt_api_Verdict rfl (by kernel_rfl)) ?_
     have hS := hS.re (.b (.e (.d (.d (.d (.d (.d (.d (.e (.d (.d (.d (.d (.d (.d .hb)))))))))))))) (.b .hb (.t .h (.t .h (.t .h (.t .h (.t .h (.t .h (.b .hb (.t .h (.t .h (.t .h (.t .h (.t .h (.t .h (.b .hb (.b .hb .n)))))))))))))))))
     refine o_storeW (vs := (enc_Verdict ⟨0, 0, 0, 0, false, false⟩)) hS (by exact rfl) (Upd.here _) (by exact sz_api_Verdict) (enc_one_Verdict _) ?_
     clear hS; intro w hS
     refine oy hS y_assign <| n_thenN ?_
     obtain rfl := osi hF
     obtain rfl : _ = r := E2
     refine wp_ret (r_ret (vs := [.agg (enc_Verdict ⟨0, 0, 0, 0, false, false⟩).toArray, .int .i64 1]) (hS.re (.nil _)) (rsC (res_cell (hS.own (mH)) underlying50 rfl (by exact sz_api_Verdict)) (rsC res_tmp rsN)) rfl ⟨rfl, rfl⟩)
   replace hF := bf c75 hF
   refine o_gu rfl rfl rfl <| oy hS y_move <| o_gu rfl rfl rfl <| oy hS y_bin <| oy hS y_pickF ?_
   refine o_split (ht := fun c76 => ?_) (hf := fun c76 => ?_)
   · replace hF := bt c76 hF
     iterate 2 (refine o_sk rfl rfl ?_)
     refine oy hS y_pickT <| n_thenN ?_
     refine c_if_true (h := ?_)
     refine c_seq <| c_region ?_
     refine oy hS (y_build (cl := (enc_Verdict ⟨0, 0, 0, 0, false, false⟩)) bt_api_Verdict rfl (by kernel_rfl)) ?_
     have hS := hS.re (.b (.e (.d (.d (.d (.d (.d (.d (.e (.d (.d (.d (.d (.d (.d .hb)))))))))))))) (.b .hb (.t .h (.t .h (.t .h (.t .h (.t .h (.t .h (.b .hb (.t .h (.t .h (.t .h (.t .h (.t .h (.t .h (.b .hb (.b .hb .n)))))))))))))))))
     refine o_storeW (vs := (enc_Verdict ⟨0, 0, 0, 0, false, false⟩)) hS (by exact rfl) (Upd.here _) (by exact sz_api_Verdict) (enc_one_Verdict _) ?_
     clear hS; intro w hS
     refine oy hS y_assign <| n_thenN ?_
     obtain rfl := osi hF
     obtain rfl : _ = r := E2
     refine wp_ret (r_ret (vs := [.agg (enc_Verdict ⟨0, 0, 0, 0, false, false⟩).toArray, .int .i64 1]) (hS.re (.nil _)) (rsC (res_cell (hS.own (mH)) underlying50 rfl (by exact sz_api_Verdict)) (rsC res_tmp rsN)) rfl ⟨rfl, rfl⟩)
   replace hF := bf c76 hF
   refine o_gu rfl rfl rfl <| oy hS y_move <| o_gu rfl rfl rfl <| oy hS y_bin <| oy hS y_pickF <| n_thenN ?_
   refine c_if (ht := fun c77 => ?_) (hf := fun c77 => ?_)
   · replace hF := bt c77 hF
     refine c_seq <| c_region ?_
     refine oy hS (y_build (cl := (enc_Verdict ⟨0, 0, 0, 0, false, false⟩)) bt_api_Verdict rfl (by kernel_rfl)) ?_
     have hS := hS.re (.b (.e (.d (.d (.d (.d (.d (.d (.e (.d (.d (.d (.d (.d (.d .hb)))))))))))))) (.b .hb (.t .h (.t .h (.t .h (.t .h (.t .h (.t .h (.b .hb (.t .h (.t .h (.t .h (.t .h (.t .h (.t .h (.b .hb (.b .hb .n)))))))))))))))))
     refine o_storeW (vs := (enc_Verdict ⟨0, 0, 0, 0, false, false⟩)) hS (by exact rfl) (Upd.here _) (by exact sz_api_Verdict) (enc_one_Verdict _) ?_
     clear hS; intro w hS
     refine oy hS y_assign <| n_thenN ?_
     obtain rfl := osi hF
     obtain rfl : _ = r := E2
     refine wp_ret (r_ret (vs := [.agg (enc_Verdict ⟨0, 0, 0, 0, false, false⟩).toArray, .int .i64 1]) (hS.re (.nil _)) (rsC (res_cell (hS.own (mH)) underlying50 rfl (by exact sz_api_Verdict)) (rsC res_tmp rsN)) rfl ⟨rfl, rfl⟩)
   replace hF := bf c77 hF
   refine wp_skip ?_
   obtain rfl := osi hF
   change _ ∧ _
   exact ⟨E2, mk_exF, (hS.re (.b (.e (.d (.d (.d (.d (.d (.d (.e (.d (.d (.d (.d (.d (.d (.e (.e .hb)))))))))))))))) (.b (.e (.d (.d (.d (.d (.d (.d (.e (.d (.d (.d (.d (.d (.d (.e .hb))))))))))))))) (.b (.e (.d (.d (.d (.d (.d (.d (.e (.d (.d (.d (.d (.d (.d .hb)))))))))))))) (.b (.e (.d (.d (.d (.d (.d (.d .hb))))))) (.b .hb (.t (.d (.d (.d (.d (.d (.d .h)))))) (.t (.d (.d (.d (.d (.d (.d .h)))))) (.t (.d (.d (.d (.d (.d (.d .h)))))) (.t (.d (.d (.d (.d (.d (.d .h)))))) (.t (.d (.d (.d (.d (.d (.d .h)))))) (.t (.d (.d (.d (.d (.d (.d .h)))))) (.t .h (.t .h (.t .h (.t .h (.t .h (.t .h .n))))))))))))))))))⟩
 rintro a w ⟨hF, ⟨s78, rfl⟩, hS⟩
 dsimp only [bench_Compare_k1] at hF
 refine c_seq <| c_region <| oy hS (y_field fa_api_Flat_0) <| oy hS (y_load (fun w hS => hS.own (mC (mH))) underlying53 rfl rfl) ?_
 refine oy hS (y_loadW (fun w hS => hS.own (mC (mC (mC (mC (mH)))))) underlying62 rfl (by exact sz_api_State)) ?_
 refine oy hS y_move ?_
 obtain ⟨r79, T5, hF⟩ := ob hF
 refine o_call0 hS func23 rfl rfl (hc := (w_seq_Run (a0 := a1.Code) (a1 := r36.1) (a2 := a2) (h0 := J4.plus) (h1 := ⟨_, _, _, _, _, _, rfl, (OwT.plus V1 hS (fun p hp => mC (mC (mC (mC (mC (mB (mB (mB (mB (mB (mB (mA (hp)))))))))))))), (OwT.plus X1 hS (fun p hp => mC (mC (mC (mC (mC (mB (mB (mB (mB (mB (mB (mB (mA (hp))))))))))))))), (OwT.plus Y1 hS (fun p hp => mC (mC (mC (mC (mC (mB (mB (mB (mB (mB (mB (mB (mB (mA (hp)))))))))))))))), (OwT.plus Z1 hS (fun p hp => mC (mC (mC (mC (mC (mB (mB (mB (mB (mB (mB (mB (mB (mB (mA (hp))))))))))))))))), (OwT.plus B2 hS (fun p hp => mC (mC (mC (mC (mC (mB (mB (mB (mB (mB (mB (mB (mB (mB (mB (mA (hp)))))))))))))))))), (OwT.plus D2 hS (fun p hp => mC (mC (mC (mC (mC (mB (mB (mB (mB (mB (mB (mB (mB (mB (mB (mB (mA (hp)))))))))))))))))))⟩) (hF := T5))) (h := ?_)
 clear hS; intro v80 Y5 w hS U5
 obtain ⟨v_0_83, LX_0_84, rfl, rfl, h_0_85⟩ := U5
 obtain ⟨Y3, Z3, B4, D4, K3, M3, I5, J5, K5, M5, N4, R4, rfl, rfl, G2, I2, J2, D0, G0, I0⟩ := h_0_85
 simp only [aa, ac, al] at hS
 refine oy hS y_move ?_
 iterate 3 (refine oy hS (y_extract rfl) ?_)
 have hS := hS.re (.b (.d (.d (.d (.d (.d (.d (.e (.e (.e (.e .hb)))))))))) (.t .h (.t .h (.t .h (.t .h (.t .h (.t .h (.b .hb (.b .hb (.b .hb (.b .hb (.t .h (.t .h (.t .h (.t .h (.t .h (.t .h (.t .h (.t .h (.t .h (.t .h (.t .h (.t .h .n)))))))))))))))))))))))
 refine o_storeW (vs := (cl_State Y3 Z3 B4 r79.1.Taken D4 r79.1.PC K3 r79.1.Stop M3 r79.1.Jump r79.1.Delay)) hS (by exact rfl) (Upd.here _) (by exact sz_api_State) (one_State (G2).one (I2).one (J2).one (D0).one (G0).one (I0).one) ?_
 clear hS; intro w hS
 iterate 2 (refine oy hS y_assign ?_)
 refine n_thenN <| c_seq <| c_region <| oy hS (y_field fa_api_Image_0) <| oy hS (y_load (fun w hS => hS.own (mC (mB (mB (mB (mB (mB (mB (mH))))))))) underlying38 rfl rfl) ?_
 refine oy hS (y_loadW (fun w hS => hS.own (mC (mB (mB (mB (mB (mB (mB (mC (mC (mC (mH)))))))))))) underlying62 rfl (by exact sz_api_State)) ?_
 refine oy hS y_move ?_
 iterate 2 (refine oy hS y_bin ?_)
 obtain ⟨B0, T4, hF⟩ := ob hF
 refine o_call0 hS func24 rfl rfl (hc := (w_hazard_Run (a0 := a0.Code) (a1 := r4.1) (a2 := (IntKind.i64.wrap ((IntKind.i64.wrap (4 * a2)) + 8))) (h0 := I4.plus) (h1 := ⟨_, _, _, _, _, _, rfl, (OwT.plus B1 hS (fun p hp => mC (mB (mB (mB (mB (mB (mB (mC (mC (mC (mC (mA (hp)))))))))))))), (OwT.plus D1 hS (fun p hp => mC (mB (mB (mB (mB (mB (mB (mC (mC (mC (mC (mB (mA (hp))))))))))))))), (OwT.plus E1 hS (fun p hp => mC (mB (mB (mB (mB (mB (mB (mC (mC (mC (mC (mB (mB (mA (hp)))))))))))))))), (OwT.plus G1 hS (fun p hp => mC (mB (mB (mB (mB (mB (mB (mC (mC (mC (mC (mB (mB (mB (mA (hp))))))))))))))))), (OwT.plus I1 hS (fun p hp => mC (mB (mB (mB (mB (mB (mB (mC (mC (mC (mC (mB (mB (mB (mB (mA (hp)))))))))))))))))), (OwT.plus J1 hS (fun p hp => mC (mB (mB (mB (mB (mB (mB (mC (mC (mC (mC (mB (mB (mB (mB (mB (mA (hp)))))))))))))))))))⟩) (hF := T4))) (h := ?_)
 clear hS; intro Z5 V5 w hS U4
 obtain ⟨v_0_114, LX_0_115, rfl, rfl, h_0_116⟩ := U4
 obtain ⟨N3, R3, T3, U3, V3, X3, V4, X4, Y4, Z4, B5, D5, rfl, rfl, J0, K0, M0, E0, N0, R0⟩ := h_0_116
 simp only [aa, ac, al] at hS
 refine oy hS y_move ?_
 iterate 3 (refine oy hS (y_extract rfl) ?_)
 have hS := hS.re (.b (.d (.d (.d (.d (.d (.d (.e (.d (.d (.d (.d (.d (.d (.e (.e (.e .hb)))))))))))))))) (.t .h (.t .h (.t .h (.t .h (.t .h (.t .h (.b .hb (.t .h (.t .h (.t .h (.t .h (.t .h (.t .h (.b .hb (.b .hb (.b .hb (.t .h (.t .h (.t .h (.t .h (.t .h (.t .h (.t .h (.t .h (.t .h (.t .h (.t .h (.t .h .n)))))))))))))))))))))))))))))
 refine o_storeW (vs := (cl_State N3 R3 T3 B0.1.Taken U3 B0.1.PC V3 B0.1.Stop X3 B0.1.Jump B0.1.Delay)) hS (by exact rfl) (Upd.here _) (by exact sz_api_State) (one_State (J0).one (K0).one (M0).one (E0).one (N0).one (R0).one) ?_
 clear hS; intro w hS
 iterate 2 (refine oy hS y_assign ?_)
 refine n_thenN <| c_seq ?_
 refine c_heldL 15 17 (by kernel_rfl) rfl hS ?_
 clear hS; intro w hS
 refine hy0 0 rfl wn (by kernel_rfl) (nq (P := Tryz.prog) (fn := Tryz.f11)) (fun _ => hS.cb) y_move ?_
 refine hy0 1 rfl wn (by kernel_rfl) (nq (P := Tryz.prog) (fn := Tryz.f11)) (fun _ => hS.cb) y_move ?_
 refine hy0 2 rfl wn (by kernel_rfl) (nq (P := Tryz.prog) (fn := Tryz.f11)) (fun _ => hS.cb) (y_field fa_api_State_7) ?_
 refine hy 3 rfl wn (by kernel_rfl) (nq (P := Tryz.prog) (fn := Tryz.f11)) hS.cb (y_load (fun w hS => hS.own (mC (mB (mB (mB (mB (mB (mB (mH))))))))) underlying3 rfl rfl) ?_
 refine hy0 4 rfl wn (by kernel_rfl) (nq (P := Tryz.prog) (fn := Tryz.f11)) (fun _ => hS.cb) (y_field fa_api_State_7) ?_
 refine hy 5 rfl wn (by kernel_rfl) (nq (P := Tryz.prog) (fn := Tryz.f11)) hS.cb (y_load (fun w hS => hS.own (mH)) underlying3 rfl rfl) ?_
 refine hy 6 rfl wn (by kernel_rfl) (nq (P := Tryz.prog) (fn := Tryz.f11)) hS.cb (y_loadW (fun w hS => hS.own (mC (mB (mB (mB (mB (mB (mB (mH))))))))) underlying62 rfl (by exact sz_api_State)) ?_
 refine hy 7 rfl wn (by kernel_rfl) (nq (P := Tryz.prog) (fn := Tryz.f11)) hS.cb (y_loadW (fun w hS => hS.own (mH)) underlying62 rfl (by exact sz_api_State)) ?_
 refine hy0 9 rfl wn (by kernel_rfl) (nq (P := Tryz.prog) (fn := Tryz.f11)) (fun _ => hS.cb) (y_field fa_api_State_4) ?_
 refine hy 10 rfl wn (by kernel_rfl) (nq (P := Tryz.prog) (fn := Tryz.f11)) hS.cb (y_load (fun w hS => hS.own (mC (mB (mB (mB (mB (mB (mB (mH))))))))) underlying31 rfl rfl) ?_
 refine hy0 11 rfl wn (by kernel_rfl) (nq (P := Tryz.prog) (fn := Tryz.f11)) (fun _ => hS.cb) (y_field fa_api_State_4) ?_
 refine hy 12 rfl wn (by kernel_rfl) (nq (P := Tryz.prog) (fn := Tryz.f11)) hS.cb (y_load (fun w hS => hS.own (mH)) underlying31 rfl rfl) ?_
 refine hb1 8 (by kernel_rfl) (hb_op rfl wn (nl (P := Tryz.prog) (fn := Tryz.f11)) ?_)
 obtain ⟨E4, E5, hF⟩ := ob hF
 refine o_callS hS func25 rfl rfl (hc := (w_bench_same (a0 := r79.1) (a1 := B0.1) (h0 := ⟨_, _, _, _, _, _, rfl, (OwT.plus G2 hS (fun p hp => mC (mB (mB (mB (mB (mB (mB (mC (mA (hp))))))))))), (OwT.plus I2 hS (fun p hp => mC (mB (mB (mB (mB (mB (mB (mC (mB (mA (hp)))))))))))), (OwT.plus J2 hS (fun p hp => mC (mB (mB (mB (mB (mB (mB (mC (mB (mB (mA (hp))))))))))))), (OwT.plus D0 hS (fun p hp => mC (mB (mB (mB (mB (mB (mB (mC (mB (mB (mB (mA (hp)))))))))))))), (OwT.plus G0 hS (fun p hp => mC (mB (mB (mB (mB (mB (mB (mC (mB (mB (mB (mB (mA (hp))))))))))))))), (OwT.plus I0 hS (fun p hp => mC (mB (mB (mB (mB (mB (mB (mC (mB (mB (mB (mB (mB (mA (hp))))))))))))))))⟩) (h1 := ⟨_, _, _, _, _, _, rfl, (OwT.plus J0 hS (fun p hp => mC (mA (hp)))), (OwT.plus K0 hS (fun p hp => mC (mB (mA (hp))))), (OwT.plus M0 hS (fun p hp => mC (mB (mB (mA (hp)))))), (OwT.plus E0 hS (fun p hp => mC (mB (mB (mB (mA (hp))))))), (OwT.plus N0 hS (fun p hp => mC (mB (mB (mB (mB (mA (hp)))))))), (OwT.plus R0 hS (fun p hp => mC (mB (mB (mB (mB (mB (mA (hp)))))))))⟩) (hF := E5))) (h := ?_)
 clear hS; intro w hS
 refine hb_next (fun _ => hS.cb) ?_
 refine hb1 13 (by kernel_rfl) (hb_op rfl wn (nl (P := Tryz.prog) (fn := Tryz.f11)) ?_)
 obtain ⟨G4, G5, hF⟩ := ob hF
 refine o_callS hS func26 rfl rfl (hc := (w_bench_begins (a0 := r79.1.Out) (a1 := B0.1.Out) (h0 := (OwT.plus D0 hS (fun p hp => mC (mB (mB (mB (mB (mB (mB (mC (mB (mB (mB (mA (hp))))))))))))))) (h1 := (OwT.plus E0 hS (fun p hp => mC (mB (mB (mB (mA (hp)))))))) (hF := G5))) (h := ?_)
 clear hS; intro w hS
 refine hb_next (fun _ => hS.cb) ?_
 refine hy0 14 rfl wn (by kernel_rfl) (nq (P := Tryz.prog) (fn := Tryz.f11)) (fun _ => hS.cb) (y_build (cl := (enc_Verdict ⟨r79.2.1, B0.2.1, r79.1.Stop, B0.1.Stop, E4, G4⟩)) bt_api_Verdict rfl (by kernel_rfl)) ?_
 refine hb1 15 (by kernel_rfl) (hb_op rfl wn (nl (P := Tryz.prog) (fn := Tryz.f11)) ?_)
 have hS := hS.re (.b (.e (.d (.d (.d (.d (.d (.d (.e (.d (.d (.d (.d (.d (.d (.e (.e .hb)))))))))))))))) (.b .hb (.t .h (.t .h (.t .h (.t .h (.t .h (.t .h (.b .hb (.t .h (.t .h (.t .h (.t .h (.t .h (.t .h (.b .hb (.b .hb (.t .h (.t .h (.t .h (.t .h (.t .h (.t .h (.t .h (.t .h (.t .h (.t .h (.t .h (.t .h .n)))))))))))))))))))))))))))))
 refine o_storeW (vs := (enc_Verdict ⟨r79.2.1, B0.2.1, r79.1.Stop, B0.1.Stop, E4, G4⟩)) hS (by exact rfl) (Upd.here _) (by exact sz_api_Verdict) (enc_one_Verdict _) ?_
 clear hS; intro w hS
 refine hb_next (fun h => absurd h (by decide)) ?_
 refine hy0 16 rfl wn (by kernel_rfl) (nq (P := Tryz.prog) (fn := Tryz.f11)) (fun h => absurd h (by decide)) y_assign ?_
 refine hb_done (by kernel_rfl) ?_
 obtain rfl := osi hF
 refine wp_ret (r_ret (vs := [.agg (enc_Verdict ⟨r79.2.1, B0.2.1, r79.1.Stop, B0.1.Stop, E4, G4⟩).toArray, .int .i64 0]) (hS.re (.nil _)) (rsC (res_cell (hS.own (mH)) underlying50 rfl (by exact sz_api_Verdict)) (rsC res_tmp rsN)) rfl ⟨rfl, rfl⟩)
theorem w_bench_Compare {g : Frag} {a0 : T_Image} {v0_ : Value} {a1 : T_Flat} {v1_ : Value} {a2 : Int} {a3 : (List Int)} {v3_ : Value} {r : (T_Verdict × Int)} (h0 : Rd_Image g a0 v0_) (h1 : Rd_Flat g a1 v1_) (h3 : SlT g enc_uint32 1 a3 v3_) (hF : bench_Compare a0 a1 a2 a3 = some r) : LCs Tryz.prog 11 #[v0_, v1_, .int .i64 a2, v3_] g (.tuple #[.agg (enc_Verdict r.1).toArray, .int .i64 r.2]) := w_bench_Compare_ h0 h1 h3 hF
end Go.Proofs.YtfnmihhcopkkbaaGreat
