/- Functions, lifted. Printed by lift.py. -/
import Derived.Test.YthbpicnbkdbbmaaProg
import Derived.Test.YthbpicnbkdbbmaaP4
import Derived.KernelRfl
namespace Go.Proofs.Ythbpicnbkdbbmaa
open Go Go.RowKit Fr
set_option linter.unusedVariables false
set_option linter.unusedSimpArgs false
set_option maxRecDepth 20000
open Try
set_option maxHeartbeats 2000000
noncomputable def pipe_Go (a0 : (List (A4 T_Ins))) (a1 : T_State) : Option T_State :=
  bif decide ((a0.length : Int) ≤ a1.PC) then some (⟨a1.Regs, a1.Mem, a1.In_, a1.Taken, a1.Out, a1.PC, a1.Stack, 5, a1.Fly, a1.Jump, a1.Delay⟩ : T_State) else (at' a0 a1.PC).bind fun x2 => (pipe_issue a1 x2).bind fun r14 => bif decide (r14.1.Stop = 1) then (pipe_settle r14.1).bind fun r45 => some (r45) else bif decide (r14.1.Stop ≠ 0) then some (r14.1) else bif !r14.2 then bif decide (0 < r14.1.Delay) then bif decide ((IntKind.i64.wrap (r14.1.Delay - 1)) = 0) then some (⟨r14.1.Regs, r14.1.Mem, r14.1.In_, r14.1.Taken, r14.1.Out, r14.1.Jump, r14.1.Stack, r14.1.Stop, r14.1.Fly, 0, IntKind.i64.wrap (r14.1.Delay - 1)⟩ : T_State) else some (⟨r14.1.Regs, r14.1.Mem, r14.1.In_, r14.1.Taken, r14.1.Out, IntKind.i64.wrap (r14.1.PC + 1), r14.1.Stack, r14.1.Stop, r14.1.Fly, r14.1.Jump, IntKind.i64.wrap (r14.1.Delay - 1)⟩ : T_State) else some (⟨r14.1.Regs, r14.1.Mem, r14.1.In_, r14.1.Taken, r14.1.Out, IntKind.i64.wrap (r14.1.PC + 1), r14.1.Stack, r14.1.Stop, r14.1.Fly, r14.1.Jump, r14.1.Delay⟩ : T_State) else some (⟨r14.1.Regs, r14.1.Mem, r14.1.In_, r14.1.Taken, r14.1.Out, IntKind.i64.wrap (r14.1.PC + 1), r14.1.Stack, r14.1.Stop, r14.1.Fly, r14.1.Jump, r14.1.Delay⟩ : T_State)
theorem w_pipe_Go_ {g : Frag} {a0 : (List (A4 T_Ins))} {v0_ : Value} {a1 : T_State} {b1_ : Nat} {LB1_ : Own} {r : T_State} (h0 : SlT g enc_Bundle 24 a0 v0_) (h1 : Bx_State b1_ a1 LB1_) (hF : pipe_Go a0 a1 = some r) : LC Try.prog 28 #[v0_, .pointer (some ⟨b1_, 0, none⟩)] g LB1_ (fun v L => ∃ (LB' : Own), v = .tuple #[] ∧ L = (LB' ++ []) ∧ Bx_State b1_ r LB') := by
 obtain ⟨vP1_0_1, vP1_1_5, vP1_2_9, vP1_4_13, vP1_6_17, vP1_8_21, LXP1_0_2, LXP1_1_6, LXP1_2_10, LXP1_4_14, LXP1_6_18, LXP1_8_22, hL0_, hP1_0_3, hP1_1_7, hP1_2_11, hP1_4_15, hP1_6_19, hP1_8_23⟩ := h1
 unfold pipe_Go at hF
 refine lc_body (k := 76) (av := [v0_, .pointer (some ⟨b1_, 0, none⟩)]) func28 rfl rfl (h := fun W hS => ?_)
 have hS := hS.own_eq hL0_
 iterate 2 (refine c_seq ?_)
 refine c_region <| oy hS y_move <| oy hS y_nilCheck <| oy hS (y_field fa_api_State_5) <| oy hS (y_load (fun w hS => hS.own (mH)) underlying3 rfl rfl) <| oy hS y_move <| oy hS (y_len h0 underlying22) <| oy hS y_bin ?_
 refine n_thenN ?_
 refine c_if (ht := fun c1 => ?_) (hf := fun c1 => ?_)
 · replace hF := bt c1 hF
   refine c_seq <| c_region <| oy hS y_move <| oy hS y_nilCheck <| oy hS (y_field fa_api_State_7) ?_
   refine o_storeA1 (o := 7) (cl' := (cl_State vP1_0_1 vP1_1_5 vP1_2_9 a1.Taken vP1_4_13 a1.PC vP1_6_17 5 vP1_8_21 a1.Jump a1.Delay)) hS (by kernel_rfl) (by exact Nat.le_of_ble_eq_true rfl) (Upd.here _) (by exact sz_int) rfl rfl ?_
   clear hS; intro w hS
   refine n_thenN ?_
   obtain rfl := osi hF
   refine wp_ret (r_ret (vs := []) (hS.re (.b .hb (.t .h (.t .h (.t .h (.t .h (.t .h (.t .h .n)))))))) rsN rfl ⟨_, rfl, (by first | rfl | simp only [aa, ac, al, an]), ⟨_, _, _, _, _, _, _, _, _, _, _, _, rfl, hP1_0_3, hP1_1_7, hP1_2_11, hP1_4_15, hP1_6_19, hP1_8_23⟩⟩)
 replace hF := bf c1 hF
 refine wp_skip <| c_seq <| c_region ?_
 iterate 3 (refine oy hS y_move ?_)
 refine oy hS y_nilCheck <| oy hS (y_field fa_api_State_5) <| oy hS (y_load (fun w hS => hS.own (mH)) underlying3 rfl rfl) ?_
 obtain ⟨x2, hx2, hF⟩ := ob hF
 obtain ⟨b3, o4, c5, cs6, e7, fz8, hv9, ha10, hb11, hd12, hc13⟩ := SlT.at hx2 h0 enc_len_Bundle
 refine oy hS (y_index hv9 ha10 hb11 underlying22 el_api_Bundle.size) ?_
 refine oy hS (y_loadN (vs := (enc_Bundle x2)) (fun w hS => hS.block hd12) underlying37 rfl (by exact sz_api_Bundle) (fun j u hj => hc13 j u hj)) ?_
 have hS2 := hS.spl (.cons _ (.app _ (.app _ (.app _ (.app _ (.app _ (.app _ (.nil _))))))))
 obtain ⟨r14, hr14, hF⟩ := ob hF
 refine o_call hS2 func45 rfl rfl (hc := (w_pipe_issue (a0 := a1) (a1 := x2) (h0 := (⟨_, _, _, _, _, _, _, _, _, _, _, _, rfl, hP1_0_3, hP1_1_7, hP1_2_11, hP1_4_15, hP1_6_19, hP1_8_23⟩ : Bx_State b1_ a1 ((b1_, blk (cl_State vP1_0_1 vP1_1_5 vP1_2_9 a1.Taken vP1_4_13 a1.PC vP1_6_17 a1.Stop vP1_8_21 a1.Jump a1.Delay) 27) :: (LXP1_0_2 ++ (LXP1_1_6 ++ (LXP1_2_10 ++ (LXP1_4_14 ++ (LXP1_6_18 ++ (LXP1_8_22 ++ []))))))))) (hF := hr14))) (h := ?_)
 clear hS; intro v15 LY16 w hS hr17
 clear hS2
 obtain ⟨LB18, rfl, rfl, hb19⟩ := hr17
 obtain ⟨vB_0_20, vB_1_24, vB_2_28, vB_4_32, vB_6_36, vB_8_40, LXB_0_21, LXB_1_25, LXB_2_29, LXB_4_33, LXB_6_37, LXB_8_41, rfl, hB_0_22, hB_1_26, hB_2_30, hB_4_34, hB_6_38, hB_8_42⟩ := hb19
 simp only [aa, ac, al] at hS
 refine oy hS y_assign <| n_thenN <| c_seq <| c_block <| c_seq <| c_region <| oy hS y_move <| oy hS y_nilCheck ?_
 refine oy hS (y_field fa_api_State_7) <| oy hS (y_load (fun w hS => hS.own (mH)) underlying3 rfl rfl) <| oy hS y_bin <| oy hS y_assign <| n_thenN ?_
 refine c_if (ht := fun c44 => ?_) (hf := fun c44 => ?_)
 · replace hF := bt c44 hF
   refine c_seq <| c_region <| oy hS y_move ?_
   have hS2 := hS.spl (.cons _ (.app _ (.app _ (.app _ (.app _ (.app _ (.app _ (.nil _))))))))
   obtain ⟨r45, hr45, hF⟩ := ob hF
   refine o_call hS2 func46 rfl rfl (hc := (w_pipe_settle (a0 := r14.1) (h0 := (⟨_, _, _, _, _, _, _, _, _, _, _, _, rfl, hB_0_22, hB_1_26, hB_2_30, hB_4_34, hB_6_38, hB_8_42⟩ : Bx_State b1_ r14.1 ((b1_, blk (cl_State vB_0_20 vB_1_24 vB_2_28 r14.1.Taken vB_4_32 r14.1.PC vB_6_36 r14.1.Stop vB_8_40 r14.1.Jump r14.1.Delay) 27) :: (LXB_0_21 ++ (LXB_1_25 ++ (LXB_2_29 ++ (LXB_4_33 ++ (LXB_6_37 ++ (LXB_8_41 ++ []))))))))) (hF := hr45))) (h := ?_)
   clear hS; intro v46 LY47 w hS hr48
   clear hS2
   obtain ⟨LB49, rfl, rfl, hb50⟩ := hr48
   obtain ⟨vB_0_51, vB_1_55, vB_2_59, vB_4_63, vB_6_67, vB_8_71, LXB_0_52, LXB_1_56, LXB_2_60, LXB_4_64, LXB_6_68, LXB_8_72, rfl, hB_0_53, hB_1_57, hB_2_61, hB_4_65, hB_6_69, hB_8_73⟩ := hb50
   simp only [aa, ac, al] at hS
   refine n_thenN ?_
   obtain rfl := osi hF
   refine wp_ret (r_ret (vs := []) (hS.re (.b .hb (.t .h (.t .h (.t .h (.t .h (.t .h (.t .h .n)))))))) rsN rfl ⟨_, rfl, (by first | rfl | simp only [aa, ac, al, an]), ⟨_, _, _, _, _, _, _, _, _, _, _, _, rfl, hB_0_53, hB_1_57, hB_2_61, hB_4_65, hB_6_69, hB_8_73⟩⟩)
 replace hF := bf c44 hF
 refine c_seq <| c_region <| oy hS y_move <| oy hS y_nilCheck <| oy hS (y_field fa_api_State_7) <| oy hS (y_load (fun w hS => hS.own (mH)) underlying3 rfl rfl) <| oy hS y_bin <| oy hS y_assign ?_
 refine n_thenN ?_
 refine c_if (ht := fun c75 => ?_) (hf := fun c75 => ?_)
 · replace hF := bt c75 hF
   obtain rfl := osi hF
   refine wp_ret (r_ret (vs := []) (hS.re (.b .hb (.t .h (.t .h (.t .h (.t .h (.t .h (.t .h .n)))))))) rsN rfl ⟨_, rfl, (by first | rfl | simp only [aa, ac, al, an]), ⟨_, _, _, _, _, _, _, _, _, _, _, _, rfl, hB_0_22, hB_1_26, hB_2_30, hB_4_34, hB_6_38, hB_8_42⟩⟩)
 replace hF := bf c75 hF
 refine wp_skip <| c_seq <| c_region <| oy hS y_move <| oy hS y_nilCheck <| oy hS (y_field fa_api_State_5) <| oy hS (y_load (fun w hS => hS.own (mH)) underlying3 rfl rfl) <| oy hS y_bin ?_
 refine oy hS y_nilCheck <| oy hS (y_field fa_api_State_5) ?_
 refine o_storeA1 (o := 5) (cl' := (cl_State vB_0_20 vB_1_24 vB_2_28 r14.1.Taken vB_4_32 (IntKind.i64.wrap (r14.1.PC + 1)) vB_6_36 r14.1.Stop vB_8_40 r14.1.Jump r14.1.Delay)) hS (by kernel_rfl) (by exact Nat.le_of_ble_eq_true rfl) (Upd.here _) (by exact sz_int) rfl rfl ?_
 clear hS; intro w hS
 refine n_thenN <| c_seq <| c_region <| oy hS y_move <| oy hS y_not ?_
 refine o_split (ht := fun c76 => ?_) (hf := fun c76 => ?_)
 · replace hF := bt c76 hF
   refine o_gu rfl rfl rfl <| oy hS y_move <| o_gu rfl rfl rfl <| oy hS y_nilCheck <| o_gu rfl rfl rfl <| oy hS (y_field fa_api_State_10) <| o_gu rfl rfl rfl <| oy hS (y_load (fun w hS => hS.own (mH)) underlying3 rfl rfl) ?_
   refine o_gu rfl rfl rfl <| oy hS y_bin <| oy hS y_pickT <| n_thenN ?_
   refine c_if (ht := fun c77 => ?_) (hf := fun c77 => ?_)
   · replace hF := bt c77 hF
     refine c_seq <| c_region <| oy hS y_move <| oy hS y_nilCheck <| oy hS (y_field fa_api_State_10) <| oy hS (y_load (fun w hS => hS.own (mH)) underlying3 rfl rfl) <| oy hS y_bin <| oy hS y_nilCheck ?_
     refine oy hS (y_field fa_api_State_10) ?_
     refine o_storeA1 (o := 10) (cl' := (cl_State vB_0_20 vB_1_24 vB_2_28 r14.1.Taken vB_4_32 (IntKind.i64.wrap (r14.1.PC + 1)) vB_6_36 r14.1.Stop vB_8_40 r14.1.Jump (IntKind.i64.wrap (r14.1.Delay - 1)))) hS (by kernel_rfl) (by exact Nat.le_of_ble_eq_true rfl) (Upd.here _) (by exact sz_int) rfl rfl ?_
     clear hS; intro w hS
     refine n_thenN <| c_seq <| c_region <| oy hS y_move <| oy hS y_nilCheck <| oy hS (y_field fa_api_State_10) <| oy hS (y_load (fun w hS => hS.own (mH)) underlying3 rfl rfl) <| oy hS y_bin ?_
     refine n_thenN ?_
     refine c_if (ht := fun c78 => ?_) (hf := fun c78 => ?_)
     · replace hF := bt c78 hF
       refine c_region ?_
       iterate 3 (refine oy hS y_move ?_)
       refine oy hS y_nilCheck <| oy hS (y_field fa_api_State_9) <| oy hS (y_load (fun w hS => hS.own (mH)) underlying3 rfl rfl) <| oy hS y_nilCheck <| oy hS (y_field fa_api_State_5) ?_
       refine o_storeA1 (o := 5) (cl' := (cl_State vB_0_20 vB_1_24 vB_2_28 r14.1.Taken vB_4_32 r14.1.Jump vB_6_36 r14.1.Stop vB_8_40 r14.1.Jump (IntKind.i64.wrap (r14.1.Delay - 1)))) hS (by kernel_rfl) (by exact Nat.le_of_ble_eq_true rfl) (Upd.here _) (by exact sz_int) rfl rfl ?_
       clear hS; intro w hS
       refine oy hS y_nilCheck <| oy hS (y_field fa_api_State_9) ?_
       refine o_storeA1 (o := 9) (cl' := (cl_State vB_0_20 vB_1_24 vB_2_28 r14.1.Taken vB_4_32 r14.1.Jump vB_6_36 r14.1.Stop vB_8_40 0 (IntKind.i64.wrap (r14.1.Delay - 1)))) hS (by kernel_rfl) (by exact Nat.le_of_ble_eq_true rfl) (Upd.here _) (by exact sz_int) rfl rfl ?_
       clear hS; intro w hS
       refine n_anyN ?_
       obtain rfl := osi hF
       refine (r_end (vs := []) (hS.re (.b .hb (.t .h (.t .h (.t .h (.t .h (.t .h (.t .h .n)))))))) rsN rfl ⟨_, rfl, (by first | rfl | simp only [aa, ac, al, an]), ⟨_, _, _, _, _, _, _, _, _, _, _, _, rfl, hB_0_22, hB_1_26, hB_2_30, hB_4_34, hB_6_38, hB_8_42⟩⟩)
     replace hF := bf c78 hF
     refine wp_skip ?_
     obtain rfl := osi hF
     refine (r_end (vs := []) (hS.re (.b .hb (.t .h (.t .h (.t .h (.t .h (.t .h (.t .h .n)))))))) rsN rfl ⟨_, rfl, (by first | rfl | simp only [aa, ac, al, an]), ⟨_, _, _, _, _, _, _, _, _, _, _, _, rfl, hB_0_22, hB_1_26, hB_2_30, hB_4_34, hB_6_38, hB_8_42⟩⟩)
   replace hF := bf c77 hF
   refine wp_skip ?_
   obtain rfl := osi hF
   refine (r_end (vs := []) (hS.re (.b .hb (.t .h (.t .h (.t .h (.t .h (.t .h (.t .h .n)))))))) rsN rfl ⟨_, rfl, (by first | rfl | simp only [aa, ac, al, an]), ⟨_, _, _, _, _, _, _, _, _, _, _, _, rfl, hB_0_22, hB_1_26, hB_2_30, hB_4_34, hB_6_38, hB_8_42⟩⟩)
 replace hF := bf c76 hF
 iterate 5 (refine o_sk rfl rfl ?_)
 refine oy hS y_pickF <| n_thenN ?_
 refine c_if_false (h := ?_)
 refine wp_skip ?_
 obtain rfl := osi hF
 refine (r_end (vs := []) (hS.re (.b .hb (.t .h (.t .h (.t .h (.t .h (.t .h (.t .h .n)))))))) rsN rfl ⟨_, rfl, (by first | rfl | simp only [aa, ac, al, an]), ⟨_, _, _, _, _, _, _, _, _, _, _, _, rfl, hB_0_22, hB_1_26, hB_2_30, hB_4_34, hB_6_38, hB_8_42⟩⟩)
theorem w_pipe_Go {g : Frag} {a0 : (List (A4 T_Ins))} {v0_ : Value} {a1 : T_State} {b1_ : Nat} {LB1_ : Own} {r : T_State} (h0 : SlT g enc_Bundle 24 a0 v0_) (h1 : Bx_State b1_ a1 LB1_) (hF : pipe_Go a0 a1 = some r) : LC Try.prog 28 #[v0_, .pointer (some ⟨b1_, 0, none⟩)] g LB1_ (fun v L => ∃ (LB' : Own), v = .tuple #[] ∧ L = (LB' ++ []) ∧ Bx_State b1_ r LB') := w_pipe_Go_ h0 h1 hF

noncomputable def pipe_Run_1 (a0 : (List (A4 T_Ins))) (a1 : T_State) : Option T_State :=
  (pipe_Land a1).bind fun r1 => (pipe_Go a0 r1).bind fun r31 => some (r31)
theorem w_pipe_Run_1_ {g : Frag} {a0 : (List (A4 T_Ins))} {v0_ : Value} {a1 : T_State} {b1_ : Nat} {LB1_ : Own} {r : T_State} (h0 : SlT g enc_Bundle 24 a0 v0_) (h1 : Bx_State b1_ a1 LB1_) (hF : pipe_Run_1 a0 a1 = some r) : LC Try.prog 26 #[v0_, .pointer (some ⟨b1_, 0, none⟩)] g LB1_ (fun v L => ∃ (LB' : Own), v = .tuple #[] ∧ L = (LB' ++ []) ∧ Bx_State b1_ r LB') := by
 obtain ⟨vP1_0_1, vP1_1_5, vP1_2_9, vP1_4_13, vP1_6_17, vP1_8_21, LXP1_0_2, LXP1_1_6, LXP1_2_10, LXP1_4_14, LXP1_6_18, LXP1_8_22, hL0_, hP1_0_3, hP1_1_7, hP1_2_11, hP1_4_15, hP1_6_19, hP1_8_23⟩ := h1
 unfold pipe_Run_1 at hF
 refine lc_body (k := 9) (av := [v0_, .pointer (some ⟨b1_, 0, none⟩)]) func26 rfl rfl (h := fun W hS => ?_)
 have hS := hS.own_eq hL0_
 refine c_seq <| c_region <| oy hS y_move ?_
 have hS2 := hS.spl (.cons _ (.app _ (.app _ (.app _ (.app _ (.app _ (.app _ (.nil _))))))))
 obtain ⟨r1, hr1, hF⟩ := ob hF
 refine o_call hS2 func27 rfl rfl (hc := (w_pipe_Land (a0 := a1) (h0 := (⟨_, _, _, _, _, _, _, _, _, _, _, _, rfl, hP1_0_3, hP1_1_7, hP1_2_11, hP1_4_15, hP1_6_19, hP1_8_23⟩ : Bx_State b1_ a1 ((b1_, blk (cl_State vP1_0_1 vP1_1_5 vP1_2_9 a1.Taken vP1_4_13 a1.PC vP1_6_17 a1.Stop vP1_8_21 a1.Jump a1.Delay) 27) :: (LXP1_0_2 ++ (LXP1_1_6 ++ (LXP1_2_10 ++ (LXP1_4_14 ++ (LXP1_6_18 ++ (LXP1_8_22 ++ []))))))))) (hF := hr1))) (h := ?_)
 clear hS; intro v2 LY3 w hS hr4
 clear hS2
 obtain ⟨LB5, rfl, rfl, hb6⟩ := hr4
 obtain ⟨vB_0_7, vB_1_11, vB_2_15, vB_4_19, vB_6_23, vB_8_27, LXB_0_8, LXB_1_12, LXB_2_16, LXB_4_20, LXB_6_24, LXB_8_28, rfl, hB_0_9, hB_1_13, hB_2_17, hB_4_21, hB_6_25, hB_8_29⟩ := hb6
 simp only [aa, ac, al] at hS
 refine n_thenN <| c_region ?_
 iterate 2 (refine oy hS y_move ?_)
 have hS2 := hS.spl (.cons _ (.app _ (.app _ (.app _ (.app _ (.app _ (.app _ (.nil _))))))))
 obtain ⟨r31, hr31, hF⟩ := ob hF
 refine o_call hS2 func28 rfl rfl (hc := (w_pipe_Go (a0 := a0) (a1 := r1) (h0 := h0.plus) (h1 := (⟨_, _, _, _, _, _, _, _, _, _, _, _, rfl, hB_0_9, hB_1_13, hB_2_17, hB_4_21, hB_6_25, hB_8_29⟩ : Bx_State b1_ r1 ((b1_, blk (cl_State vB_0_7 vB_1_11 vB_2_15 r1.Taken vB_4_19 r1.PC vB_6_23 r1.Stop vB_8_27 r1.Jump r1.Delay) 27) :: (LXB_0_8 ++ (LXB_1_12 ++ (LXB_2_16 ++ (LXB_4_20 ++ (LXB_6_24 ++ (LXB_8_28 ++ []))))))))) (hF := hr31))) (h := ?_)
 clear hS; intro v32 LY33 w hS hr34
 clear hS2
 obtain ⟨LB35, rfl, rfl, hb36⟩ := hr34
 obtain ⟨vB_0_37, vB_1_41, vB_2_45, vB_4_49, vB_6_53, vB_8_57, LXB_0_38, LXB_1_42, LXB_2_46, LXB_4_50, LXB_6_54, LXB_8_58, rfl, hB_0_39, hB_1_43, hB_2_47, hB_4_51, hB_6_55, hB_8_59⟩ := hb36
 simp only [aa, ac, al] at hS
 refine n_anyN ?_
 obtain rfl := osi hF
 refine (r_end (vs := []) (hS.re (.b .hb (.t .h (.t .h (.t .h (.t .h (.t .h (.t .h .n)))))))) rsN rfl ⟨_, rfl, (by first | rfl | simp only [aa, ac, al, an]), ⟨_, _, _, _, _, _, _, _, _, _, _, _, rfl, hB_0_39, hB_1_43, hB_2_47, hB_4_51, hB_6_55, hB_8_59⟩⟩)
theorem w_pipe_Run_1 {g : Frag} {a0 : (List (A4 T_Ins))} {v0_ : Value} {a1 : T_State} {b1_ : Nat} {LB1_ : Own} {r : T_State} (h0 : SlT g enc_Bundle 24 a0 v0_) (h1 : Bx_State b1_ a1 LB1_) (hF : pipe_Run_1 a0 a1 = some r) : LC Try.prog 26 #[v0_, .pointer (some ⟨b1_, 0, none⟩)] g LB1_ (fun v L => ∃ (LB' : Own), v = .tuple #[] ∧ L = (LB' ++ []) ∧ Bx_State b1_ r LB') := w_pipe_Run_1_ h0 h1 hF

noncomputable def pipe_By_pipe_Run_1_b2 (a2 : Int) (a0 : (List (A4 T_Ins))) : (Int × (List Int) × (List Int) × (List Int) × Int × (List Int) × Int × (List Int) × Int × (List T_Write) × Int × Int) → Option (Step (Int × (List Int) × (List Int) × (List Int) × Int × (List Int) × Int × (List Int) × Int × (List T_Write) × Int × Int) (T_State × Int × Int)) := fun (x81, x82, x87, x92, x97, x98, x103, x104, x109, x110, x115, x116) => bif decide (x81 < a2) then bif decide (x109 = 0) then (pipe_Run_1 a0 (⟨x82, x87, x92, x97, x98, x103, x104, x109, x110, x115, x116⟩ : T_State)).bind fun r155 => some (.next (IntKind.i64.wrap (x81 + 1), r155.Regs, r155.Mem, r155.In_, r155.Taken, r155.Out, r155.PC, r155.Stack, r155.Stop, r155.Fly, r155.Jump, r155.Delay)) else some (.done (((⟨x82, x87, x92, x97, x98, x103, x104, x109, x110, x115, x116⟩ : T_State), x81, 0))) else some (.done (((⟨x82, x87, x92, x97, x98, x103, x104, x109, x110, x115, x116⟩ : T_State), x81, 0)))
noncomputable def pipe_By_pipe_Run_1_k1 (a1 : T_State) (a2 : Int) (a0 : (List (A4 T_Ins))) : Unit → Option (T_State × Int × Int) := fun _ => (seq_Own a1).bind fun r18 => loop (σ := (Int × (List Int) × (List Int) × (List Int) × Int × (List Int) × Int × (List Int) × Int × (List T_Write) × Int × Int)) (pipe_By_pipe_Run_1_b2 a2 a0) (0, r18.Regs, r18.Mem, r18.In_, r18.Taken, r18.Out, r18.PC, r18.Stack, r18.Stop, r18.Fly, r18.Jump, r18.Delay)
noncomputable def pipe_By_pipe_Run_1 (a0 : (List (A4 T_Ins))) (a1 : T_State) (a2 : Int) : Option (T_State × Int × Int) :=
  cut (σ := Unit) ((pipe_Code a0).bind fun r11 => bif !r11 then some (.done (((⟨[], [], [], 0, [], 0, [], 0, [], 0, 0⟩ : T_State), 0, 1))) else (pipe_May a1).bind fun r13 => bif !r13 then some (.done (((⟨[], [], [], 0, [], 0, [], 0, [], 0, 0⟩ : T_State), 0, 1))) else bif decide (a2 < 0) then some (.done (((⟨[], [], [], 0, [], 0, [], 0, [], 0, 0⟩ : T_State), 0, 1))) else bif decide (20000 < a2) then some (.done (((⟨[], [], [], 0, [], 0, [], 0, [], 0, 0⟩ : T_State), 0, 1))) else some (.next ())) (pipe_By_pipe_Run_1_k1 a1 a2 a0)
theorem w_pipe_By_pipe_Run_1_ {g : Frag} {a0 : (List (A4 T_Ins))} {v0_ : Value} {a1 : T_State} {v1_ : Value} {a2 : Int} {r : (T_State × Int × Int)} (h0 : SlT g enc_Bundle 24 a0 v0_) (h1 : Rd_State g a1 v1_) (hF : pipe_By_pipe_Run_1 a0 a1 a2 = some r) : LC Try.prog 25 #[v0_, v1_, .int .i64 a2, .func (.func 26) #[] #[]] g [] (fun v L => ∃ (u0 : Value) (M0 : Own), v = .tuple #[u0, .int .i64 r.2.1, .int .i64 r.2.2] ∧ L = (M0 ++ []) ∧ Ow_State r.1 u0 M0) := by
 obtain ⟨v1_0_, v1_1_, v1_2_, v1_4_, v1_6_, v1_8_, rfl, h1_0_, h1_1_, h1_2_, h1_4_, h1_6_, h1_8_⟩ := h1
 unfold pipe_By_pipe_Run_1 at hF
 refine lc_body (k := 45) (av := [v0_, .agg (cl_State v1_0_ v1_1_ v1_2_ a1.Taken v1_4_ a1.PC v1_6_ a1.Stop v1_8_ a1.Jump a1.Delay).toArray, .int .i64 a2, .func (.func 26) #[] #[]]) func25 rfl rfl (h := fun W hS => ?_)
 refine c_seq <| c_region ?_
 refine o_boxP (cl := (cl_State v1_0_ v1_1_ v1_2_ a1.Taken v1_4_ a1.PC v1_6_ a1.Stop v1_8_ a1.Jump a1.Delay)) rfl hS ?_
 clear hS; intro b1 w hS
 refine o_allocP (cl := (cl_State (.slice none 0 0) (.slice none 0 0) (.slice none 0 0) 0 (.slice none 0 0) 0 (.slice none 0 0) 0 (.slice none 0 0) 0 0)) zr_api_State rfl hS ?_
 clear hS; intro b2 w hS
 iterate 2 (refine oy hS y_assign ?_)
 refine n_thenN ?_
 obtain ⟨z9, hF, hK10⟩ := cut_step hF
 refine c_cutP (fun a w' => pipe_By_pipe_Run_1_k1 a1 a2 a0 () = some r ∧ (∃ s : Nat → Value, a = Ac (((((((Fm.dead 45 s).upd 0 v0_).upd 2 (.int .i64 a2)).upd 3 (.func (.func 26) #[] #[])).upd 5 (.pointer (some ⟨b1, 0, none⟩))).upd 8 (.pointer (some ⟨b2, 0, none⟩))).upd 9 (.int .i64 0))) ∧ St W g [] ((b1, blk (cl_State v1_0_ v1_1_ v1_2_ a1.Taken v1_4_ a1.PC v1_6_ a1.Stop v1_8_ a1.Jump a1.Delay) 27) :: ((b2, blk (cl_State (.slice none 0 0) (.slice none 0 0) (.slice none 0 0) 0 (.slice none 0 0) 0 (.slice none 0 0) 0 (.slice none 0 0) 0 0) 27) :: [])) w') ?_ ?_
 · skip
   refine c_seq <| c_region <| oy hS y_move ?_
   obtain ⟨r11, hr11, hF⟩ := ob hF
   refine o_callS hS func43 rfl rfl (hc := (w_pipe_Code (a0 := a0) (h0 := h0.plus) (hF := hr11))) (h := ?_)
   clear hS; intro w hS
   refine oy hS y_not ?_
   refine o_split (ht := fun c12 => ?_) (hf := fun c12 => ?_)
   · replace hF := bt c12 hF
     iterate 3 (refine o_sk rfl rfl ?_)
     refine oy hS y_pickT <| oy hS y_move ?_
     iterate 2 (refine o_sk rfl rfl ?_)
     refine oy hS y_pickT <| oy hS y_move ?_
     iterate 2 (refine o_sk rfl rfl ?_)
     refine oy hS y_pickT <| n_thenN ?_
     refine c_if_true (h := ?_)
     refine c_seq <| c_region ?_
     refine oy hS (y_loadW (fun w hS => hS.own (mH)) underlying27 rfl (by exact sz_api_State)) ?_
     refine o_storeW (vs := (cl_State (.slice none 0 0) (.slice none 0 0) (.slice none 0 0) 0 (.slice none 0 0) 0 (.slice none 0 0) 0 (.slice none 0 0) 0 0)) hS (by exact rfl) (Upd.here _) (by exact sz_api_State) (one_State rfl rfl rfl rfl rfl rfl) ?_
     clear hS; intro w hS
     iterate 2 (refine oy hS y_assign ?_)
     refine n_thenN ?_
     obtain rfl := osi hF
     obtain rfl : _ = r := hK10
     refine wp_ret (r_ret (vs := [.agg (cl_State (.slice none 0 0) (.slice none 0 0) (.slice none 0 0) 0 (.slice none 0 0) 0 (.slice none 0 0) 0 (.slice none 0 0) 0 0).toArray, .int .i64 0, .int .i64 1]) (hS.re (.n)) (rsC (res_cell (hS.own (mH)) underlying27 rfl (by exact sz_api_State)) (rsC res_tmp (rsC res_tmp rsN))) rfl ⟨_, _, rfl, (by first | rfl | simp only [aa, ac, al, an]), ⟨_, _, _, _, _, _, _, _, _, _, _, _, rfl, rfl, OwT.nil _ _ _, OwT.nil _ _ _, OwT.nil _ _ _, OwT.nil _ _ _, OwT.nil _ _ _, OwT.nil _ _ _⟩⟩)
   replace hF := bf c12 hF
   refine o_gu rfl rfl rfl ?_
   refine oy hS (y_loadW (fun w hS => hS.own (mC (mH))) underlying27 rfl (by exact sz_api_State)) ?_
   refine o_gu rfl rfl rfl ?_
   obtain ⟨r13, hr13, hF⟩ := ob hF
   refine o_callS hS func41 rfl rfl (hc := (w_pipe_May (a0 := a1) (h0 := ⟨_, _, _, _, _, _, rfl, h1_0_.plus, h1_1_.plus, h1_2_.plus, h1_4_.plus, h1_6_.plus, h1_8_.plus⟩) (hF := hr13))) (h := ?_)
   clear hS; intro w hS
   refine o_gu rfl rfl rfl <| oy hS y_not <| oy hS y_pickF ?_
   refine o_split (ht := fun c14 => ?_) (hf := fun c14 => ?_)
   · replace hF := bt c14 hF
     iterate 2 (refine o_sk rfl rfl ?_)
     refine oy hS y_pickT <| oy hS y_move ?_
     iterate 2 (refine o_sk rfl rfl ?_)
     refine oy hS y_pickT <| n_thenN ?_
     refine c_if_true (h := ?_)
     refine c_seq <| c_region ?_
     refine oy hS (y_loadW (fun w hS => hS.own (mH)) underlying27 rfl (by exact sz_api_State)) ?_
     refine o_storeW (vs := (cl_State (.slice none 0 0) (.slice none 0 0) (.slice none 0 0) 0 (.slice none 0 0) 0 (.slice none 0 0) 0 (.slice none 0 0) 0 0)) hS (by exact rfl) (Upd.here _) (by exact sz_api_State) (one_State rfl rfl rfl rfl rfl rfl) ?_
     clear hS; intro w hS
     iterate 2 (refine oy hS y_assign ?_)
     refine n_thenN ?_
     obtain rfl := osi hF
     obtain rfl : _ = r := hK10
     refine wp_ret (r_ret (vs := [.agg (cl_State (.slice none 0 0) (.slice none 0 0) (.slice none 0 0) 0 (.slice none 0 0) 0 (.slice none 0 0) 0 (.slice none 0 0) 0 0).toArray, .int .i64 0, .int .i64 1]) (hS.re (.n)) (rsC (res_cell (hS.own (mH)) underlying27 rfl (by exact sz_api_State)) (rsC res_tmp (rsC res_tmp rsN))) rfl ⟨_, _, rfl, (by first | rfl | simp only [aa, ac, al, an]), ⟨_, _, _, _, _, _, _, _, _, _, _, _, rfl, rfl, OwT.nil _ _ _, OwT.nil _ _ _, OwT.nil _ _ _, OwT.nil _ _ _, OwT.nil _ _ _, OwT.nil _ _ _⟩⟩)
   replace hF := bf c14 hF
   refine o_gu rfl rfl rfl <| oy hS y_move <| o_gu rfl rfl rfl <| oy hS y_bin <| oy hS y_pickF ?_
   refine o_split (ht := fun c15 => ?_) (hf := fun c15 => ?_)
   · replace hF := bt c15 hF
     iterate 2 (refine o_sk rfl rfl ?_)
     refine oy hS y_pickT <| n_thenN ?_
     refine c_if_true (h := ?_)
     refine c_seq <| c_region ?_
     refine oy hS (y_loadW (fun w hS => hS.own (mH)) underlying27 rfl (by exact sz_api_State)) ?_
     refine o_storeW (vs := (cl_State (.slice none 0 0) (.slice none 0 0) (.slice none 0 0) 0 (.slice none 0 0) 0 (.slice none 0 0) 0 (.slice none 0 0) 0 0)) hS (by exact rfl) (Upd.here _) (by exact sz_api_State) (one_State rfl rfl rfl rfl rfl rfl) ?_
     clear hS; intro w hS
     iterate 2 (refine oy hS y_assign ?_)
     refine n_thenN ?_
     obtain rfl := osi hF
     obtain rfl : _ = r := hK10
     refine wp_ret (r_ret (vs := [.agg (cl_State (.slice none 0 0) (.slice none 0 0) (.slice none 0 0) 0 (.slice none 0 0) 0 (.slice none 0 0) 0 (.slice none 0 0) 0 0).toArray, .int .i64 0, .int .i64 1]) (hS.re (.n)) (rsC (res_cell (hS.own (mH)) underlying27 rfl (by exact sz_api_State)) (rsC res_tmp (rsC res_tmp rsN))) rfl ⟨_, _, rfl, (by first | rfl | simp only [aa, ac, al, an]), ⟨_, _, _, _, _, _, _, _, _, _, _, _, rfl, rfl, OwT.nil _ _ _, OwT.nil _ _ _, OwT.nil _ _ _, OwT.nil _ _ _, OwT.nil _ _ _, OwT.nil _ _ _⟩⟩)
   replace hF := bf c15 hF
   refine o_gu rfl rfl rfl <| oy hS y_move <| o_gu rfl rfl rfl <| oy hS y_bin <| oy hS y_pickF <| n_thenN ?_
   refine c_if (ht := fun c16 => ?_) (hf := fun c16 => ?_)
   · replace hF := bt c16 hF
     refine c_seq <| c_region ?_
     refine oy hS (y_loadW (fun w hS => hS.own (mH)) underlying27 rfl (by exact sz_api_State)) ?_
     refine o_storeW (vs := (cl_State (.slice none 0 0) (.slice none 0 0) (.slice none 0 0) 0 (.slice none 0 0) 0 (.slice none 0 0) 0 (.slice none 0 0) 0 0)) hS (by exact rfl) (Upd.here _) (by exact sz_api_State) (one_State rfl rfl rfl rfl rfl rfl) ?_
     clear hS; intro w hS
     iterate 2 (refine oy hS y_assign ?_)
     refine n_thenN ?_
     obtain rfl := osi hF
     obtain rfl : _ = r := hK10
     refine wp_ret (r_ret (vs := [.agg (cl_State (.slice none 0 0) (.slice none 0 0) (.slice none 0 0) 0 (.slice none 0 0) 0 (.slice none 0 0) 0 (.slice none 0 0) 0 0).toArray, .int .i64 0, .int .i64 1]) (hS.re (.n)) (rsC (res_cell (hS.own (mH)) underlying27 rfl (by exact sz_api_State)) (rsC res_tmp (rsC res_tmp rsN))) rfl ⟨_, _, rfl, (by first | rfl | simp only [aa, ac, al, an]), ⟨_, _, _, _, _, _, _, _, _, _, _, _, rfl, rfl, OwT.nil _ _ _, OwT.nil _ _ _, OwT.nil _ _ _, OwT.nil _ _ _, OwT.nil _ _ _, OwT.nil _ _ _⟩⟩)
   replace hF := bf c16 hF
   refine wp_skip ?_
   obtain rfl := osi hF
   change _ ∧ _
   exact ⟨hK10, mk_exF, (hS.re (.b (.thereb _ .hb) (.b .hb .n)))⟩
 rintro a w ⟨hF, ⟨s17, rfl⟩, hS⟩
 dsimp only [pipe_By_pipe_Run_1_k1] at hF
 refine c_seq <| c_region ?_
 refine oy hS (y_loadW (fun w hS => hS.own (mH)) underlying27 rfl (by exact sz_api_State)) ?_
 obtain ⟨r18, hr18, hF⟩ := ob hF
 refine o_call0 hS func44 rfl rfl (hc := (w_seq_Own (a0 := a1) (h0 := ⟨_, _, _, _, _, _, rfl, h1_0_.plus, h1_1_.plus, h1_2_.plus, h1_4_.plus, h1_6_.plus, h1_8_.plus⟩) (hF := hr18))) (h := ?_)
 clear hS; intro v19 LY20 w hS hr21
 obtain ⟨v_0_22, LX_0_23, rfl, rfl, h_0_24⟩ := hr21
 obtain ⟨vR0_0_25, vR0_1_29, vR0_2_33, vR0_4_37, vR0_6_41, vR0_8_45, LXR0_0_26, LXR0_1_30, LXR0_2_34, LXR0_4_38, LXR0_6_42, LXR0_8_46, rfl, rfl, hR0_0_27, hR0_1_31, hR0_2_35, hR0_4_39, hR0_6_43, hR0_8_47⟩ := h_0_24
 simp only [aa, ac, al] at hS
 have hS := hS.re (.b (.there _ (.there _ (.there _ (.there _ (.there _ (.there _ (.thereb _ .hb))))))) (.t .h (.t .h (.t .h (.t .h (.t .h (.t .h (.b .hb .n))))))))
 refine o_storeW (vs := (cl_State vR0_0_25 vR0_1_29 vR0_2_33 r18.Taken vR0_4_37 r18.PC vR0_6_41 r18.Stop vR0_8_45 r18.Jump r18.Delay)) hS (by exact rfl) (Upd.here _) (by exact sz_api_State) (one_State (hR0_0_27).one (hR0_1_31).one (hR0_2_35).one (hR0_4_39).one (hR0_6_43).one (hR0_8_47).one) ?_
 clear hS; intro w hS
 refine n_thenN <| c_seq <| c_block ?_
 refine c_loopP hF (fun (q : (Int × (List Int) × (List Int) × (List Int) × Int × (List Int) × Int × (List Int) × Int × (List T_Write) × Int × Int)) a w' => ∃ (v83 : Value) (v88 : Value) (v93 : Value) (v99 : Value) (v105 : Value) (v111 : Value) (LX85 : Own) (LX90 : Own) (LX95 : Own) (LX101 : Own) (LX107 : Own) (LX113 : Own), OwT 35 enc_uint32 1 q.2.1 v83 LX85 ∧ OwT 35 enc_uint32 1 q.2.2.1 v88 LX90 ∧ OwT 35 enc_uint32 1 q.2.2.2.1 v93 LX95 ∧ OwT 35 enc_uint32 1 q.2.2.2.2.2.1 v99 LX101 ∧ OwT 3 enc_int 1 q.2.2.2.2.2.2.2.1 v105 LX107 ∧ OwT 71 enc_Write 3 q.2.2.2.2.2.2.2.2.2.1 v111 LX113 ∧ (∃ s : Nat → Value, a = Ac ((((((Fm.dead 45 s).upd 0 v0_).upd 2 (.int .i64 a2)).upd 3 (.func (.func 26) #[] #[])).upd 8 (.pointer (some ⟨b2, 0, none⟩))).upd 9 (.int .i64 q.1))) ∧ St W g [] ((b2, blk (cl_State v83 v88 v93 q.2.2.2.2.1 v99 q.2.2.2.2.2.2.1 v105 q.2.2.2.2.2.2.2.2.1 v111 q.2.2.2.2.2.2.2.2.2.2.1 q.2.2.2.2.2.2.2.2.2.2.2) 27) :: (LX85 ++ (LX90 ++ (LX95 ++ (LX101 ++ (LX107 ++ (LX113 ++ []))))))) w') ⟨vR0_0_25, vR0_1_29, vR0_2_33, vR0_4_37, vR0_6_41, vR0_8_45, LXR0_0_26, LXR0_1_30, LXR0_2_34, LXR0_4_38, LXR0_6_42, LXR0_8_46, hR0_0_27, hR0_1_31, hR0_2_35, hR0_4_39, hR0_6_43, hR0_8_47, mk_exF, (hS.re (.b .hb (.t .h (.t .h (.t .h (.t .h (.t .h (.t .h .n))))))))⟩ ?_
 clear hS hF
 intro n151 q a w hI hq
 obtain ⟨x81, x82, x87, x92, x97, x98, x103, x104, x109, x110, x115, x116⟩ := q
 obtain ⟨v83, v88, v93, v99, v105, v111, LX85, LX90, LX95, LX101, LX107, LX113, h84, h89, h94, h100, h106, h112, ⟨s152, rfl⟩, hS⟩ := hq
 replace h84 : OwT 35 enc_uint32 1 x82 v83 LX85 := h84
 replace h89 : OwT 35 enc_uint32 1 x87 v88 LX90 := h89
 replace h94 : OwT 35 enc_uint32 1 x92 v93 LX95 := h94
 replace h100 : OwT 35 enc_uint32 1 x98 v99 LX101 := h100
 replace h106 : OwT 3 enc_int 1 x104 v105 LX107 := h106
 replace h112 : OwT 71 enc_Write 3 x110 v111 LX113 := h112
 obtain ⟨z149, hF, hK150⟩ := iter_step hI
 clear hI
 dsimp only [pipe_By_pipe_Run_1_b2] at hF
 iterate 2 (refine c_seq ?_)
 refine c_region ?_
 iterate 2 (refine oy hS y_move ?_)
 refine oy hS y_bin ?_
 refine o_split (ht := fun c153 => ?_) (hf := fun c153 => ?_)
 · replace hF := bt c153 hF
   refine o_gu rfl rfl rfl <| oy hS (y_field fa_api_State_7) <| o_gu rfl rfl rfl <| oy hS (y_load (fun w hS => hS.own (mH)) underlying3 rfl rfl) <| o_gu rfl rfl rfl <| oy hS y_bin <| oy hS y_pickT <| n_thenN ?_
   refine c_if (ht := fun c154 => ?_) (hf := fun c154 => ?_)
   · replace hF := bt c154 hF
     refine wp_skip <| c_block <| c_seq <| c_region ?_
     iterate 2 (refine oy hS y_move ?_)
     have hS2 := hS.spl (.cons _ (.app _ (.app _ (.app _ (.app _ (.app _ (.app _ (.nil _))))))))
     obtain ⟨r155, hr155, hF⟩ := ob hF
     refine o_callVG hS2 func26 rfl rfl (hc := (w_pipe_Run_1 (a0 := a0) (a1 := (⟨x82, x87, x92, x97, x98, x103, x104, x109, x110, x115, x116⟩ : T_State)) (h0 := h0.plus) (h1 := (⟨_, _, _, _, _, _, _, _, _, _, _, _, rfl, h84, h89, h94, h100, h106, h112⟩ : Bx_State b2 (⟨x82, x87, x92, x97, x98, x103, x104, x109, x110, x115, x116⟩ : T_State) ((b2, blk (cl_State v83 v88 v93 x97 v99 x103 v105 x109 v111 x115 x116) 27) :: (LX85 ++ (LX90 ++ (LX95 ++ (LX101 ++ (LX107 ++ (LX113 ++ []))))))))) (hF := hr155))) (h := ?_)
     clear hS; intro v156 LY157 w hS hr158
     clear hS2
     obtain ⟨LB159, rfl, rfl, hb160⟩ := hr158
     obtain ⟨vB_0_161, vB_1_165, vB_2_169, vB_4_173, vB_6_177, vB_8_181, LXB_0_162, LXB_1_166, LXB_2_170, LXB_4_174, LXB_6_178, LXB_8_182, rfl, hB_0_163, hB_1_167, hB_2_171, hB_4_175, hB_6_179, hB_8_183⟩ := hb160
     simp only [aa, ac, al] at hS
     refine n_thenN <| c_region <| oy hS y_move <| oy hS y_bin <| oy hS y_assign ?_
     refine n_anyN ?_
     obtain rfl := osi hF
     exact ⟨_, hK150, vB_0_161, vB_1_165, vB_2_169, vB_4_173, vB_6_177, vB_8_181, LXB_0_162, LXB_1_166, LXB_2_170, LXB_4_174, LXB_6_178, LXB_8_182, hB_0_163, hB_1_167, hB_2_171, hB_4_175, hB_6_179, hB_8_183, mk_exF, (hS.re (.b .hb (.t .h (.t .h (.t .h (.t .h (.t .h (.t .h .n))))))))⟩
   replace hF := bf c154 hF
   refine wp_exit ?_
   refine c_seq <| c_region ?_
   refine oy hS (y_loadW (fun w hS => hS.own (mH)) underlying27 rfl (by exact sz_api_State)) ?_
   refine oy hS y_move ?_
   refine o_storeW (vs := (cl_State v83 v88 v93 x97 v99 x103 v105 x109 v111 x115 x116)) hS (by exact rfl) (Upd.here _) (by exact sz_api_State) (one_State (h84).one (h89).one (h94).one (h100).one (h106).one (h112).one) ?_
   clear hS; intro w hS
   iterate 2 (refine oy hS y_assign ?_)
   refine n_thenN ?_
   obtain rfl := osi hF
   obtain rfl : _ = r := hK150
   refine wp_ret (r_ret (vs := [.agg (cl_State v83 v88 v93 x97 v99 x103 v105 x109 v111 x115 x116).toArray, .int .i64 x81, .int .i64 0]) (hS.re (.t (.thereb _ .h) (.t (.thereb _ .h) (.t (.thereb _ .h) (.t (.thereb _ .h) (.t (.thereb _ .h) (.t (.thereb _ .h) .n))))))) (rsC (res_cell (hS.own (mH)) underlying27 rfl (by exact sz_api_State)) (rsC res_tmp (rsC res_tmp rsN))) rfl ⟨_, _, rfl, (by first | rfl | simp only [aa, ac, al, an]), ⟨_, _, _, _, _, _, _, _, _, _, _, _, rfl, rfl, h84, h89, h94, h100, h106, h112⟩⟩)
 replace hF := bf c153 hF
 iterate 3 (refine o_sk rfl rfl ?_)
 refine oy hS y_pickF <| n_thenN ?_
 refine c_if_false (h := ?_)
 refine wp_exit ?_
 refine c_seq <| c_region ?_
 refine oy hS (y_loadW (fun w hS => hS.own (mH)) underlying27 rfl (by exact sz_api_State)) ?_
 refine oy hS y_move ?_
 refine o_storeW (vs := (cl_State v83 v88 v93 x97 v99 x103 v105 x109 v111 x115 x116)) hS (by exact rfl) (Upd.here _) (by exact sz_api_State) (one_State (h84).one (h89).one (h94).one (h100).one (h106).one (h112).one) ?_
 clear hS; intro w hS
 iterate 2 (refine oy hS y_assign ?_)
 refine n_thenN ?_
 obtain rfl := osi hF
 obtain rfl : _ = r := hK150
 refine wp_ret (r_ret (vs := [.agg (cl_State v83 v88 v93 x97 v99 x103 v105 x109 v111 x115 x116).toArray, .int .i64 x81, .int .i64 0]) (hS.re (.t (.thereb _ .h) (.t (.thereb _ .h) (.t (.thereb _ .h) (.t (.thereb _ .h) (.t (.thereb _ .h) (.t (.thereb _ .h) .n))))))) (rsC (res_cell (hS.own (mH)) underlying27 rfl (by exact sz_api_State)) (rsC res_tmp (rsC res_tmp rsN))) rfl ⟨_, _, rfl, (by first | rfl | simp only [aa, ac, al, an]), ⟨_, _, _, _, _, _, _, _, _, _, _, _, rfl, rfl, h84, h89, h94, h100, h106, h112⟩⟩)
theorem w_pipe_By_pipe_Run_1 {g : Frag} {a0 : (List (A4 T_Ins))} {v0_ : Value} {a1 : T_State} {v1_ : Value} {a2 : Int} {r : (T_State × Int × Int)} (h0 : SlT g enc_Bundle 24 a0 v0_) (h1 : Rd_State g a1 v1_) (hF : pipe_By_pipe_Run_1 a0 a1 a2 = some r) : LC Try.prog 25 #[v0_, v1_, .int .i64 a2, .func (.func 26) #[] #[]] g [] (fun v L => ∃ (u0 : Value) (M0 : Own), v = .tuple #[u0, .int .i64 r.2.1, .int .i64 r.2.2] ∧ L = (M0 ++ []) ∧ Ow_State r.1 u0 M0) := w_pipe_By_pipe_Run_1_ h0 h1 hF

noncomputable def pipe_Run (a0 : (List (A4 T_Ins))) (a1 : T_State) (a2 : Int) : Option (T_State × Int × Int) :=
  (pipe_By_pipe_Run_1 a0 a1 a2).bind fun r3 => some (r3.1, r3.2.1, r3.2.2)
theorem w_pipe_Run_ {g : Frag} {a0 : (List (A4 T_Ins))} {v0_ : Value} {a1 : T_State} {v1_ : Value} {a2 : Int} {r : (T_State × Int × Int)} (h0 : SlT g enc_Bundle 24 a0 v0_) (h1 : Rd_State g a1 v1_) (hF : pipe_Run a0 a1 a2 = some r) : LC Try.prog 10 #[v0_, v1_, .int .i64 a2] g [] (fun v L => ∃ (u0 : Value) (M0 : Own), v = .tuple #[u0, .int .i64 r.2.1, .int .i64 r.2.2] ∧ L = (M0 ++ []) ∧ Ow_State r.1 u0 M0) := by
 obtain ⟨v1_0_, v1_1_, v1_2_, v1_4_, v1_6_, v1_8_, rfl, h1_0_, h1_1_, h1_2_, h1_4_, h1_6_, h1_8_⟩ := h1
 unfold pipe_Run at hF
 refine lc_body (k := 16) (av := [v0_, .agg (cl_State v1_0_ v1_1_ v1_2_ a1.Taken v1_4_ a1.PC v1_6_ a1.Stop v1_8_ a1.Jump a1.Delay).toArray, .int .i64 a2]) func10 rfl rfl (h := fun W hS => ?_)
 refine c_seq <| c_region ?_
 refine o_boxP (cl := (cl_State v1_0_ v1_1_ v1_2_ a1.Taken v1_4_ a1.PC v1_6_ a1.Stop v1_8_ a1.Jump a1.Delay)) rfl hS ?_
 clear hS; intro b1 w hS
 refine o_allocP (cl := (cl_State (.slice none 0 0) (.slice none 0 0) (.slice none 0 0) 0 (.slice none 0 0) 0 (.slice none 0 0) 0 (.slice none 0 0) 0 0)) zr_api_State rfl hS ?_
 clear hS; intro b2 w hS
 iterate 2 (refine oy hS y_assign ?_)
 refine n_thenN <| c_seq <| c_region <| oy hS y_move ?_
 refine oy hS (y_loadW (fun w hS => hS.own (mC (mH))) underlying27 rfl (by exact sz_api_State)) ?_
 refine oy hS y_move ?_
 obtain ⟨r3, hr3, hF⟩ := ob hF
 refine o_call0 hS func25 rfl rfl (hc := (w_pipe_By_pipe_Run_1 (a0 := a0) (a1 := a1) (a2 := a2) (h0 := h0.plus) (h1 := ⟨_, _, _, _, _, _, rfl, h1_0_.plus, h1_1_.plus, h1_2_.plus, h1_4_.plus, h1_6_.plus, h1_8_.plus⟩) (hF := hr3))) (h := ?_)
 clear hS; intro v4 LY5 w hS hr6
 obtain ⟨v_0_7, LX_0_8, rfl, rfl, h_0_9⟩ := hr6
 obtain ⟨vR0_0_10, vR0_1_14, vR0_2_18, vR0_4_22, vR0_6_26, vR0_8_30, LXR0_0_11, LXR0_1_15, LXR0_2_19, LXR0_4_23, LXR0_6_27, LXR0_8_31, rfl, rfl, hR0_0_12, hR0_1_16, hR0_2_20, hR0_4_24, hR0_6_28, hR0_8_32⟩ := h_0_9
 simp only [aa, ac, al] at hS
 iterate 3 (refine oy hS (y_extract rfl) ?_)
 have hS := hS.re (.b (.there _ (.there _ (.there _ (.there _ (.there _ (.there _ .hb)))))) (.t .h (.t .h (.t .h (.t .h (.t .h (.t .h (.b .hb .n))))))))
 refine o_storeW (vs := (cl_State vR0_0_10 vR0_1_14 vR0_2_18 r3.1.Taken vR0_4_22 r3.1.PC vR0_6_26 r3.1.Stop vR0_8_30 r3.1.Jump r3.1.Delay)) hS (by exact rfl) (Upd.here _) (by exact sz_api_State) (one_State (hR0_0_12).one (hR0_1_16).one (hR0_2_20).one (hR0_4_24).one (hR0_6_28).one (hR0_8_32).one) ?_
 clear hS; intro w hS
 iterate 2 (refine oy hS y_assign ?_)
 refine n_thenN ?_
 obtain rfl := osi hF
 refine wp_ret (r_ret (vs := [.agg (cl_State vR0_0_10 vR0_1_14 vR0_2_18 r3.1.Taken vR0_4_22 r3.1.PC vR0_6_26 r3.1.Stop vR0_8_30 r3.1.Jump r3.1.Delay).toArray, .int .i64 r3.2.1, .int .i64 r3.2.2]) (hS.re (.t (.thereb _ .h) (.t (.thereb _ .h) (.t (.thereb _ .h) (.t (.thereb _ .h) (.t (.thereb _ .h) (.t (.thereb _ .h) .n))))))) (rsC (res_cell (hS.own (mH)) underlying27 rfl (by exact sz_api_State)) (rsC res_tmp (rsC res_tmp rsN))) rfl ⟨_, _, rfl, (by first | rfl | simp only [aa, ac, al, an]), ⟨_, _, _, _, _, _, _, _, _, _, _, _, rfl, rfl, hR0_0_12, hR0_1_16, hR0_2_20, hR0_4_24, hR0_6_28, hR0_8_32⟩⟩)
theorem w_pipe_Run {g : Frag} {a0 : (List (A4 T_Ins))} {v0_ : Value} {a1 : T_State} {v1_ : Value} {a2 : Int} {r : (T_State × Int × Int)} (h0 : SlT g enc_Bundle 24 a0 v0_) (h1 : Rd_State g a1 v1_) (hF : pipe_Run a0 a1 a2 = some r) : LC Try.prog 10 #[v0_, v1_, .int .i64 a2] g [] (fun v L => ∃ (u0 : Value) (M0 : Own), v = .tuple #[u0, .int .i64 r.2.1, .int .i64 r.2.2] ∧ L = (M0 ++ []) ∧ Ow_State r.1 u0 M0) := w_pipe_Run_ h0 h1 hF

noncomputable def r0_CopyNumbers_b1 (a0 : (List Int)) : ((List Int) × Int) → Option (Step ((List Int) × Int) (List Int)) := fun (x24, x29) => bif decide (x29 < (a0.length : Int)) then (at' a0 x29).bind fun x57 => (app' x24 ([x57] : List Int)).bind fun zs76 => some (.next (zs76, IntKind.i64.wrap (x29 + 1))) else some (.done (x24))
noncomputable def r0_CopyNumbers (a0 : (List Int)) : Option (List Int) :=
  loop (σ := ((List Int) × Int)) (r0_CopyNumbers_b1 a0) ([], 0)
theorem w_r0_CopyNumbers_ {g : Frag} {a0 : (List Int)} {v0_ : Value} {r : (List Int)} (h0 : SlT g enc_int 1 a0 v0_) (hF : r0_CopyNumbers a0 = some r) : LC Try.prog 47 #[v0_] g [] (fun v L => ∃ (u0 : Value) (M0 : Own), u0 = v ∧ L = (M0 ++ []) ∧ OwT 3 enc_int 1 r u0 M0) := by
 unfold r0_CopyNumbers at hF
 refine lc_body (k := 19) (av := [v0_]) func47 rfl rfl (h := fun W hS => ?_)
 refine c_seq <| c_region <| oy hS y_assign <| n_thenN <| c_seq <| c_region <| oy hS y_assign <| n_thenN ?_
 iterate 2 (refine c_seq ?_)
 refine c_region <| oy hS y_assign <| n_thenN <| c_block ?_
 refine c_loopP hF (fun (q : ((List Int) × Int)) a w' => ∃ (v25 : Value) (LX27 : Own), OwT 3 enc_int 1 q.1 v25 LX27 ∧ (∃ s : Nat → Value, a = Ac ((((Fm.dead 19 s).upd 0 v0_).upd 3 v25).upd 4 (.int .i64 q.2))) ∧ St W g [] (LX27 ++ []) w') ⟨(.slice none 0 0), [], (OwT.nil _ _ _), mk_exF, (hS.re (.take (X := []) (.here [] _) .n))⟩ ?_
 clear hS hF
 intro n54 q a w hI hq
 obtain ⟨x24, x29⟩ := q
 obtain ⟨v25, LX27, h26, ⟨s55, rfl⟩, hS⟩ := hq
 replace h26 : OwT 3 enc_int 1 x24 v25 LX27 := h26
 obtain ⟨z51, hF, hK52⟩ := iter_step hI
 clear hI
 dsimp only [r0_CopyNumbers_b1] at hF
 iterate 2 (refine c_seq ?_)
 refine c_region ?_
 iterate 2 (refine oy hS y_move ?_)
 refine oy hS (y_len h0 underlying24) <| oy hS y_bin <| n_thenN ?_
 refine c_if (ht := fun c56 => ?_) (hf := fun c56 => ?_)
 · replace hF := bt c56 hF
   refine wp_skip <| c_seq <| c_block <| c_region ?_
   iterate 3 (refine oy hS y_move ?_)
   obtain ⟨x57, hx57, hF⟩ := ob hF
   obtain ⟨b58, o59, c60, cs61, e62, fz63, hv64, ha65, hb66, hd67, hc68⟩ := SlT.at hx57 h0 enc_len_int
   refine oy hS (y_index hv64 ha65 hb66 underlying24 el_int.size) <| oy hS (y_load (fun w hS => hS.block hd67) underlying3 rfl (hc68 0 _ rfl)) ?_
   refine o_buildT val_int ([x57] : List Int) hS el_int (fun _ => rfl) enc_len_int (by decide) rfl (by decide) (hp := rfl) (h := ?_)
   clear hS; intro b69 w hS h70
   have hS : St W g [] ([(b69, blk (([x57] : List Int).flatMap enc_int) 3)] ++ (LX27 ++ [])) w := hS
   obtain ⟨zs76, hzs76, hF⟩ := ob hF
   refine o_appPn (ys := ([x57] : List Int)) (LX := LX27) hzs76 hS el_int h26 rfl enc_len_int (enc_ones_int _) (by decide) ?_
   clear hS; intro v72 LX73 w h74 hS
   refine oy hS y_assign ?_
   refine n_anyN ?_
   refine c_region <| oy hS y_move <| oy hS y_bin <| oy hS y_assign <| n_thenN ?_
   obtain rfl := osi hF
   exact ⟨_, hK52, v72, LX73, h74, mk_exF, (hS.re (.t .h .n))⟩
 replace hF := bf c56 hF
 refine wp_exit ?_
 refine c_seq <| c_region <| oy hS y_move <| oy hS y_assign <| n_thenN ?_
 obtain rfl := osi hF
 obtain rfl : _ = r := hK52
 refine wp_ret (r_ret (vs := [v25]) (hS.re (.t .h .n)) (rsC res_tmp rsN) rfl ⟨_, _, rfl, (by first | rfl | simp only [aa, ac, al, an]), h26⟩)
theorem w_r0_CopyNumbers {g : Frag} {a0 : (List Int)} {v0_ : Value} {r : (List Int)} (h0 : SlT g enc_int 1 a0 v0_) (hF : r0_CopyNumbers a0 = some r) : LC Try.prog 47 #[v0_] g [] (fun v L => ∃ (u0 : Value) (M0 : Own), u0 = v ∧ L = (M0 ++ []) ∧ OwT 3 enc_int 1 r u0 M0) := w_r0_CopyNumbers_ h0 hF

noncomputable def r0_CopyFlies_b1 (a0 : (List T_Write)) : ((List T_Write) × Int) → Option (Step ((List T_Write) × Int) (List T_Write)) := fun (x24, x29) => bif decide (x29 < (a0.length : Int)) then (at' a0 x29).bind fun x57 => (app' x24 ([x57] : List T_Write)).bind fun zs76 => some (.next (zs76, IntKind.i64.wrap (x29 + 1))) else some (.done (x24))
noncomputable def r0_CopyFlies (a0 : (List T_Write)) : Option (List T_Write) :=
  loop (σ := ((List T_Write) × Int)) (r0_CopyFlies_b1 a0) ([], 0)
theorem w_r0_CopyFlies_ {g : Frag} {a0 : (List T_Write)} {v0_ : Value} {r : (List T_Write)} (h0 : SlT g enc_Write 3 a0 v0_) (hF : r0_CopyFlies a0 = some r) : LC Try.prog 48 #[v0_] g [] (fun v L => ∃ (u0 : Value) (M0 : Own), u0 = v ∧ L = (M0 ++ []) ∧ OwT 71 enc_Write 3 r u0 M0) := by
 unfold r0_CopyFlies at hF
 refine lc_body (k := 19) (av := [v0_]) func48 rfl rfl (h := fun W hS => ?_)
 refine c_seq <| c_region <| oy hS y_assign <| n_thenN <| c_seq <| c_region <| oy hS y_assign <| n_thenN ?_
 iterate 2 (refine c_seq ?_)
 refine c_region <| oy hS y_assign <| n_thenN <| c_block ?_
 refine c_loopP hF (fun (q : ((List T_Write) × Int)) a w' => ∃ (v25 : Value) (LX27 : Own), OwT 71 enc_Write 3 q.1 v25 LX27 ∧ (∃ s : Nat → Value, a = Ac ((((Fm.dead 19 s).upd 0 v0_).upd 3 v25).upd 4 (.int .i64 q.2))) ∧ St W g [] (LX27 ++ []) w') ⟨(.slice none 0 0), [], (OwT.nil _ _ _), mk_exF, (hS.re (.take (X := []) (.here [] _) .n))⟩ ?_
 clear hS hF
 intro n54 q a w hI hq
 obtain ⟨x24, x29⟩ := q
 obtain ⟨v25, LX27, h26, ⟨s55, rfl⟩, hS⟩ := hq
 replace h26 : OwT 71 enc_Write 3 x24 v25 LX27 := h26
 obtain ⟨z51, hF, hK52⟩ := iter_step hI
 clear hI
 dsimp only [r0_CopyFlies_b1] at hF
 iterate 2 (refine c_seq ?_)
 refine c_region ?_
 iterate 2 (refine oy hS y_move ?_)
 refine oy hS (y_len h0 underlying25) <| oy hS y_bin <| n_thenN ?_
 refine c_if (ht := fun c56 => ?_) (hf := fun c56 => ?_)
 · replace hF := bt c56 hF
   refine wp_skip <| c_seq <| c_block <| c_region ?_
   iterate 3 (refine oy hS y_move ?_)
   obtain ⟨x57, hx57, hF⟩ := ob hF
   obtain ⟨b58, o59, c60, cs61, e62, fz63, hv64, ha65, hb66, hd67, hc68⟩ := SlT.at hx57 h0 enc_len_Write
   refine oy hS (y_index hv64 ha65 hb66 underlying25 el_api_Write.size) ?_
   refine oy hS (y_loadN (vs := (enc_Write x57)) (fun w hS => hS.block hd67) underlying71 rfl (by exact sz_api_Write) (fun j u hj => hc68 j u hj)) ?_
   refine o_buildT val_Write ([x57] : List T_Write) hS el_api_Write (fun _ => rfl) enc_len_Write (by decide) rfl (by decide) (hp := rfl) (h := ?_)
   clear hS; intro b69 w hS h70
   have hS : St W g [] ([(b69, blk (([x57] : List T_Write).flatMap enc_Write) 71)] ++ (LX27 ++ [])) w := hS
   obtain ⟨zs76, hzs76, hF⟩ := ob hF
   refine o_appPn (ys := ([x57] : List T_Write)) (LX := LX27) hzs76 hS el_api_Write h26 rfl enc_len_Write (enc_ones_Write _) (by decide) ?_
   clear hS; intro v72 LX73 w h74 hS
   refine oy hS y_assign ?_
   refine n_anyN ?_
   refine c_region <| oy hS y_move <| oy hS y_bin <| oy hS y_assign <| n_thenN ?_
   obtain rfl := osi hF
   exact ⟨_, hK52, v72, LX73, h74, mk_exF, (hS.re (.t .h .n))⟩
 replace hF := bf c56 hF
 refine wp_exit ?_
 refine c_seq <| c_region <| oy hS y_move <| oy hS y_assign <| n_thenN ?_
 obtain rfl := osi hF
 obtain rfl : _ = r := hK52
 refine wp_ret (r_ret (vs := [v25]) (hS.re (.t .h .n)) (rsC res_tmp rsN) rfl ⟨_, _, rfl, (by first | rfl | simp only [aa, ac, al, an]), h26⟩)
theorem w_r0_CopyFlies {g : Frag} {a0 : (List T_Write)} {v0_ : Value} {r : (List T_Write)} (h0 : SlT g enc_Write 3 a0 v0_) (hF : r0_CopyFlies a0 = some r) : LC Try.prog 48 #[v0_] g [] (fun v L => ∃ (u0 : Value) (M0 : Own), u0 = v ∧ L = (M0 ++ []) ∧ OwT 71 enc_Write 3 r u0 M0) := w_r0_CopyFlies_ h0 hF

noncomputable def r0_CopyState (a0 : T_State) : Option T_State :=
  (r0_CopyWords a0.Regs).bind fun r4 => (r0_CopyWords a0.Mem).bind fun r12 => (r0_CopyWords a0.In_).bind fun r20 => (r0_CopyWords a0.Out).bind fun r28 => (r0_CopyNumbers a0.Stack).bind fun r36 => (r0_CopyFlies a0.Fly).bind fun r44 => some (⟨r4, r12, r20, a0.Taken, r28, a0.PC, r36, a0.Stop, r44, a0.Jump, a0.Delay⟩ : T_State)
theorem w_r0_CopyState_ {g : Frag} {a0 : T_State} {v0_ : Value} {r : T_State} (h0 : Rd_State g a0 v0_) (hF : r0_CopyState a0 = some r) : LC Try.prog 29 #[v0_] g [] (fun v L => ∃ (u0 : Value) (M0 : Own), u0 = v ∧ L = (M0 ++ []) ∧ Ow_State r u0 M0) := by
 obtain ⟨v0_0_, v0_1_, v0_2_, v0_4_, v0_6_, v0_8_, rfl, h0_0_, h0_1_, h0_2_, h0_4_, h0_6_, h0_8_⟩ := h0
 unfold r0_CopyState at hF
 refine lc_body (k := 30) (av := [.agg (cl_State v0_0_ v0_1_ v0_2_ a0.Taken v0_4_ a0.PC v0_6_ a0.Stop v0_8_ a0.Jump a0.Delay).toArray]) func29 rfl rfl (h := fun W hS => ?_)
 refine c_seq <| c_region ?_
 refine o_boxP (cl := (cl_State v0_0_ v0_1_ v0_2_ a0.Taken v0_4_ a0.PC v0_6_ a0.Stop v0_8_ a0.Jump a0.Delay)) rfl hS ?_
 clear hS; intro b1 w hS
 refine o_allocP (cl := (cl_State (.slice none 0 0) (.slice none 0 0) (.slice none 0 0) 0 (.slice none 0 0) 0 (.slice none 0 0) 0 (.slice none 0 0) 0 0)) zr_api_State rfl hS ?_
 clear hS; intro b2 w hS
 refine n_thenN <| c_seq <| c_region ?_
 refine oy hS (y_loadW (fun w hS => hS.own (mC (mH))) underlying27 rfl (by exact sz_api_State)) ?_
 refine o_allocP (cl := (cl_State (.slice none 0 0) (.slice none 0 0) (.slice none 0 0) 0 (.slice none 0 0) 0 (.slice none 0 0) 0 (.slice none 0 0) 0 0)) zr_api_State rfl hS ?_
 clear hS; intro b3 w hS
 refine o_storeW (vs := (cl_State v0_0_ v0_1_ v0_2_ a0.Taken v0_4_ a0.PC v0_6_ a0.Stop v0_8_ a0.Jump a0.Delay)) hS (by exact rfl) (Upd.here _) (by exact sz_api_State) (one_State (h0_0_).one (h0_1_).one (h0_2_).one (h0_4_).one (h0_6_).one (h0_8_).one) ?_
 clear hS; intro w hS
 refine n_thenN <| c_seq <| c_region <| oy hS (y_field fa_api_State_0) <| oy hS (y_load (fun w hS => hS.own (mC (mC (mH)))) underlying23 rfl rfl) ?_
 obtain ⟨r4, hr4, hF⟩ := ob hF
 refine o_call0 hS func23 rfl rfl (hc := (w_r0_CopyWords (a0 := a0.Regs) (h0 := h0_0_.plus) (hF := hr4))) (h := ?_)
 clear hS; intro v5 LY6 w hS hr7
 obtain ⟨v_0_8, LX_0_9, rfl, rfl, h_0_10⟩ := hr7
 simp only [aa, ac, al] at hS
 refine oy hS (y_field fa_api_State_0) ?_
 have hS := hS.re (.b (.there _ .hb) (.t .h (.b .hb (.b .hb .n))))
 refine o_storeA1 (o := 0) (cl' := (cl_State v_0_8 v0_1_ v0_2_ a0.Taken v0_4_ a0.PC v0_6_ a0.Stop v0_8_ a0.Jump a0.Delay)) hS (by kernel_rfl) (by exact Nat.le_of_ble_eq_true rfl) (Upd.here _) (by exact sz_S_uint32) (h_0_10).one (h_0_10).cell ?_
 clear hS; intro w hS
 refine n_thenN <| c_seq <| c_region <| oy hS (y_field fa_api_State_1) <| oy hS (y_load (fun w hS => hS.own (mC (mB (mC (mH))))) underlying23 rfl rfl) ?_
 obtain ⟨r12, hr12, hF⟩ := ob hF
 refine o_call0 hS func23 rfl rfl (hc := (w_r0_CopyWords (a0 := a0.Mem) (h0 := h0_1_.plus) (hF := hr12))) (h := ?_)
 clear hS; intro v13 LY14 w hS hr15
 obtain ⟨v_0_16, LX_0_17, rfl, rfl, h_0_18⟩ := hr15
 simp only [aa, ac, al] at hS
 refine oy hS (y_field fa_api_State_1) ?_
 have hS := hS.re (.b (.there _ .hb) (.t .h (.t .h (.b .hb (.b .hb .n)))))
 refine o_storeA1 (o := 1) (cl' := (cl_State v_0_8 v_0_16 v0_2_ a0.Taken v0_4_ a0.PC v0_6_ a0.Stop v0_8_ a0.Jump a0.Delay)) hS (by kernel_rfl) (by exact Nat.le_of_ble_eq_true rfl) (Upd.here _) (by exact sz_S_uint32) (h_0_18).one (h_0_18).cell ?_
 clear hS; intro w hS
 refine n_thenN <| c_seq <| c_region <| oy hS (y_field fa_api_State_2) <| oy hS (y_load (fun w hS => hS.own (mC (mB (mB (mC (mH)))))) underlying23 rfl rfl) ?_
 obtain ⟨r20, hr20, hF⟩ := ob hF
 refine o_call0 hS func23 rfl rfl (hc := (w_r0_CopyWords (a0 := a0.In_) (h0 := h0_2_.plus) (hF := hr20))) (h := ?_)
 clear hS; intro v21 LY22 w hS hr23
 obtain ⟨v_0_24, LX_0_25, rfl, rfl, h_0_26⟩ := hr23
 simp only [aa, ac, al] at hS
 refine oy hS (y_field fa_api_State_2) ?_
 have hS := hS.re (.b (.there _ .hb) (.t .h (.t .h (.t .h (.b .hb (.b .hb .n))))))
 refine o_storeA1 (o := 2) (cl' := (cl_State v_0_8 v_0_16 v_0_24 a0.Taken v0_4_ a0.PC v0_6_ a0.Stop v0_8_ a0.Jump a0.Delay)) hS (by kernel_rfl) (by exact Nat.le_of_ble_eq_true rfl) (Upd.here _) (by exact sz_S_uint32) (h_0_26).one (h_0_26).cell ?_
 clear hS; intro w hS
 refine n_thenN <| c_seq <| c_region <| oy hS (y_field fa_api_State_4) <| oy hS (y_load (fun w hS => hS.own (mC (mB (mB (mB (mC (mH))))))) underlying23 rfl rfl) ?_
 obtain ⟨r28, hr28, hF⟩ := ob hF
 refine o_call0 hS func23 rfl rfl (hc := (w_r0_CopyWords (a0 := a0.Out) (h0 := h0_4_.plus) (hF := hr28))) (h := ?_)
 clear hS; intro v29 LY30 w hS hr31
 obtain ⟨v_0_32, LX_0_33, rfl, rfl, h_0_34⟩ := hr31
 simp only [aa, ac, al] at hS
 refine oy hS (y_field fa_api_State_4) ?_
 have hS := hS.re (.b (.there _ .hb) (.t .h (.t .h (.t .h (.t .h (.b .hb (.b .hb .n)))))))
 refine o_storeA1 (o := 4) (cl' := (cl_State v_0_8 v_0_16 v_0_24 a0.Taken v_0_32 a0.PC v0_6_ a0.Stop v0_8_ a0.Jump a0.Delay)) hS (by kernel_rfl) (by exact Nat.le_of_ble_eq_true rfl) (Upd.here _) (by exact sz_S_uint32) (h_0_34).one (h_0_34).cell ?_
 clear hS; intro w hS
 refine n_thenN <| c_seq <| c_region <| oy hS (y_field fa_api_State_6) <| oy hS (y_load (fun w hS => hS.own (mC (mB (mB (mB (mB (mC (mH)))))))) underlying24 rfl rfl) ?_
 obtain ⟨r36, hr36, hF⟩ := ob hF
 refine o_call0 hS func47 rfl rfl (hc := (w_r0_CopyNumbers (a0 := a0.Stack) (h0 := h0_6_.plus) (hF := hr36))) (h := ?_)
 clear hS; intro v37 LY38 w hS hr39
 obtain ⟨v_0_40, LX_0_41, rfl, rfl, h_0_42⟩ := hr39
 simp only [aa, ac, al] at hS
 refine oy hS (y_field fa_api_State_6) ?_
 have hS := hS.re (.b (.there _ .hb) (.t .h (.t .h (.t .h (.t .h (.t .h (.b .hb (.b .hb .n))))))))
 refine o_storeA1 (o := 6) (cl' := (cl_State v_0_8 v_0_16 v_0_24 a0.Taken v_0_32 a0.PC v_0_40 a0.Stop v0_8_ a0.Jump a0.Delay)) hS (by kernel_rfl) (by exact Nat.le_of_ble_eq_true rfl) (Upd.here _) (by exact sz_S_int) (h_0_42).one (h_0_42).cell ?_
 clear hS; intro w hS
 refine n_thenN <| c_seq <| c_region <| oy hS (y_field fa_api_State_8) <| oy hS (y_load (fun w hS => hS.own (mC (mB (mB (mB (mB (mB (mC (mH))))))))) underlying25 rfl rfl) ?_
 obtain ⟨r44, hr44, hF⟩ := ob hF
 refine o_call0 hS func48 rfl rfl (hc := (w_r0_CopyFlies (a0 := a0.Fly) (h0 := h0_8_.plus) (hF := hr44))) (h := ?_)
 clear hS; intro v45 LY46 w hS hr47
 obtain ⟨v_0_48, LX_0_49, rfl, rfl, h_0_50⟩ := hr47
 simp only [aa, ac, al] at hS
 refine oy hS (y_field fa_api_State_8) ?_
 have hS := hS.re (.b (.there _ .hb) (.t .h (.t .h (.t .h (.t .h (.t .h (.t .h (.b .hb (.b .hb .n)))))))))
 refine o_storeA1 (o := 8) (cl' := (cl_State v_0_8 v_0_16 v_0_24 a0.Taken v_0_32 a0.PC v_0_40 a0.Stop v_0_48 a0.Jump a0.Delay)) hS (by kernel_rfl) (by exact Nat.le_of_ble_eq_true rfl) (Upd.here _) (by exact sz_S_api_Write) (h_0_50).one (h_0_50).cell ?_
 clear hS; intro w hS
 refine n_thenN <| c_seq <| c_region ?_
 refine oy hS (y_loadW (fun w hS => hS.own (mH)) underlying27 rfl (by exact sz_api_State)) ?_
 have hS := hS.re (.b (.thereb _ (.there _ (.there _ (.there _ (.there _ (.there _ (.there _ .hb))))))) (.b .hb (.t .h (.t .h (.t .h (.t .h (.t .h (.t .h (.b .hb .n)))))))))
 refine o_storeW (vs := (cl_State v_0_8 v_0_16 v_0_24 a0.Taken v_0_32 a0.PC v_0_40 a0.Stop v_0_48 a0.Jump a0.Delay)) hS (by exact rfl) (Upd.here _) (by exact sz_api_State) (one_State (h_0_10).one (h_0_18).one (h_0_26).one (h_0_34).one (h_0_42).one (h_0_50).one) ?_
 clear hS; intro w hS
 refine n_thenN ?_
 obtain rfl := osi hF
 refine wp_ret (r_ret (vs := [.agg (cl_State v_0_8 v_0_16 v_0_24 a0.Taken v_0_32 a0.PC v_0_40 a0.Stop v_0_48 a0.Jump a0.Delay).toArray]) (hS.re (.t (.thereb _ (.thereb _ (.there _ (.there _ (.there _ (.there _ (.there _ .h))))))) (.t (.thereb _ (.thereb _ (.there _ (.there _ (.there _ (.there _ .h)))))) (.t (.thereb _ (.thereb _ (.there _ (.there _ (.there _ .h))))) (.t (.thereb _ (.thereb _ (.there _ (.there _ .h)))) (.t (.thereb _ (.thereb _ (.there _ .h))) (.t (.thereb _ (.thereb _ .h)) .n))))))) (rsC (res_cell (hS.own (mH)) underlying27 rfl (by exact sz_api_State)) rsN) rfl ⟨_, _, rfl, (by first | rfl | simp only [aa, ac, al, an]), ⟨_, _, _, _, _, _, _, _, _, _, _, _, rfl, rfl, h_0_10, h_0_18, h_0_26, h_0_34, h_0_42, h_0_50⟩⟩)
theorem w_r0_CopyState {g : Frag} {a0 : T_State} {v0_ : Value} {r : T_State} (h0 : Rd_State g a0 v0_) (hF : r0_CopyState a0 = some r) : LC Try.prog 29 #[v0_] g [] (fun v L => ∃ (u0 : Value) (M0 : Own), u0 = v ∧ L = (M0 ++ []) ∧ Ow_State r u0 M0) := w_r0_CopyState_ h0 hF

noncomputable def r5_lands_b2 (a0 : T_State) : ((List T_Write) × Int × (List Int)) → Option (Step ((List T_Write) × Int × (List Int)) (Step ((List T_Write) × (List Int) × (List Int) × (List Int) × (List Int) × (List Int) × (List T_Write)) T_State)) := fun (x180, x185, x186) => bif decide (x185 < (a0.Fly.length : Int)) then (at' a0.Fly x185).bind fun x227 => bif decide (x227.Left = 0) then (set' x186 x227.Reg x227.Value).bind fun zs245 => some (.next (x180, IntKind.i64.wrap (x185 + 1), zs245)) else (app' x180 ([(⟨x227.Reg, x227.Value, IntKind.i64.wrap (x227.Left - 1)⟩ : T_Write)] : List T_Write)).bind fun zs256 => some (.next (zs256, IntKind.i64.wrap (x185 + 1), x186)) else some (.done (.next (x180, x186, a0.Mem, a0.In_, a0.Out, a0.Stack, a0.Fly)))
noncomputable def r5_lands_k1 (a0 : T_State) : ((List T_Write) × (List Int) × (List Int) × (List Int) × (List Int) × (List Int) × (List T_Write)) → Option T_State := fun (x110, x115, x120, x125, x130, x135, x140) => some (⟨x115, x120, x125, a0.Taken, x130, a0.PC, x135, a0.Stop, x110, a0.Jump, a0.Delay⟩ : T_State)
noncomputable def r5_lands (a0 : T_State) : Option T_State :=
  cut (σ := ((List T_Write) × (List Int) × (List Int) × (List Int) × (List Int) × (List Int) × (List T_Write))) (loop (σ := ((List T_Write) × Int × (List Int))) (r5_lands_b2 a0) ([], 0, a0.Regs)) (r5_lands_k1 a0)
theorem w_r5_lands_ {g : Frag} {a0 : T_State} {b0_ : Nat} {LB0_ : Own} {r : T_State} (h0 : Bx_State b0_ a0 LB0_) (hF : r5_lands a0 = some r) : LC Try.prog 30 #[.pointer (some ⟨b0_, 0, none⟩)] g LB0_ (fun v L => ∃ (LB' : Own), v = .tuple #[] ∧ L = (LB' ++ []) ∧ Bx_State b0_ r LB') := by
 obtain ⟨vP0_0_1, vP0_1_5, vP0_2_9, vP0_4_13, vP0_6_17, vP0_8_21, LXP0_0_2, LXP0_1_6, LXP0_2_10, LXP0_4_14, LXP0_6_18, LXP0_8_22, hL0_, hP0_0_3, hP0_1_7, hP0_2_11, hP0_4_15, hP0_6_19, hP0_8_23⟩ := h0
 unfold r5_lands at hF
 refine lc_body (k := 48) (av := [.pointer (some ⟨b0_, 0, none⟩)]) func30 rfl rfl (h := fun W hS => ?_)
 have hS := hS.own_eq hL0_
 refine c_seq <| c_region <| oy hS y_assign <| n_thenN ?_
 obtain ⟨z145, hF, hK146⟩ := cut_step hF
 refine c_cutP (fun a w' => ∃ (x110 : (List T_Write)) (x115 : (List Int)) (x120 : (List Int)) (x125 : (List Int)) (x130 : (List Int)) (x135 : (List Int)) (x140 : (List T_Write)) (v111 : Value) (v116 : Value) (v121 : Value) (v126 : Value) (v131 : Value) (v136 : Value) (v141 : Value) (LX113 : Own) (LX118 : Own) (LX123 : Own) (LX128 : Own) (LX133 : Own) (LX138 : Own) (LX143 : Own), r5_lands_k1 a0 (x110, x115, x120, x125, x130, x135, x140) = some r ∧ OwT 71 enc_Write 3 x110 v111 LX113 ∧ OwT 35 enc_uint32 1 x115 v116 LX118 ∧ OwT 35 enc_uint32 1 x120 v121 LX123 ∧ OwT 35 enc_uint32 1 x125 v126 LX128 ∧ OwT 35 enc_uint32 1 x130 v131 LX133 ∧ OwT 3 enc_int 1 x135 v136 LX138 ∧ OwT 71 enc_Write 3 x140 v141 LX143 ∧ (∃ s : Nat → Value, a = Ac (((Fm.dead 48 s).upd 0 (.pointer (some ⟨b0_, 0, none⟩))).upd 2 v111)) ∧ St W g LB0_ ((b0_, blk (cl_State v116 v121 v126 a0.Taken v131 a0.PC v136 a0.Stop v141 a0.Jump a0.Delay) 27) :: (LX118 ++ (LX123 ++ (LX128 ++ (LX133 ++ (LX138 ++ (LX143 ++ (LX113 ++ [])))))))) w') ?_ ?_
 · skip
   refine c_seq <| c_region <| oy hS y_assign <| n_thenN <| c_block ?_
   refine c_loopP hF (fun (q : ((List T_Write) × Int × (List Int))) a w' => ∃ (v181 : Value) (LX183 : Own) (LX188 : Own), OwT 71 enc_Write 3 q.1 v181 LX183 ∧ OwT 35 enc_uint32 1 q.2.2 vP0_0_1 LX188 ∧ (∃ s : Nat → Value, a = Ac ((((Fm.dead 48 s).upd 0 (.pointer (some ⟨b0_, 0, none⟩))).upd 2 v181).upd 3 (.int .i64 q.2.1))) ∧ St W g LB0_ ((b0_, blk (cl_State vP0_0_1 vP0_1_5 vP0_2_9 a0.Taken vP0_4_13 a0.PC vP0_6_17 a0.Stop vP0_8_21 a0.Jump a0.Delay) 27) :: (LX188 ++ (LXP0_1_6 ++ (LXP0_2_10 ++ (LXP0_4_14 ++ (LXP0_6_18 ++ (LXP0_8_22 ++ (LX183 ++ [])))))))) w') ⟨(.slice none 0 0), [], LXP0_0_2, (OwT.nil _ _ _), hP0_0_3, mk_exF, (hS.re (.b .hb (.t .h (.t .h (.t .h (.t .h (.t .h (.t .h (.take (X := []) (.here [] _) .n)))))))))⟩ ?_
   clear hS hF
   intro n224 q a w hI hq
   obtain ⟨x180, x185, x186⟩ := q
   obtain ⟨v181, LX183, LX188, h182, h187, ⟨s225, rfl⟩, hS⟩ := hq
   replace h182 : OwT 71 enc_Write 3 x180 v181 LX183 := h182
   replace h187 : OwT 35 enc_uint32 1 x186 vP0_0_1 LX188 := h187
   obtain ⟨z221, hF, hK222⟩ := iter_step hI
   clear hI
   dsimp only [r5_lands_b2] at hF
   iterate 2 (refine c_seq ?_)
   refine c_region ?_
   iterate 2 (refine oy hS y_move ?_)
   refine oy hS y_nilCheck <| oy hS (y_field fa_api_State_8) <| oy hS (y_load (fun w hS => hS.own (mH)) underlying25 rfl rfl) <| oy hS (y_lenO hP0_8_23 underlying25) <| oy hS y_bin <| n_thenN ?_
   refine c_if (ht := fun c226 => ?_) (hf := fun c226 => ?_)
   · replace hF := bt c226 hF
     refine wp_skip <| c_seq <| c_block <| c_seq <| c_region <| oy hS y_move <| oy hS y_nilCheck <| oy hS (y_field fa_api_State_8) ?_
     refine oy hS (y_load (fun w hS => hS.own (mH)) underlying25 rfl rfl) <| oy hS y_move ?_
     obtain ⟨x227, hx227, hF⟩ := ob hF
     obtain ⟨b228, c229, cl230, hv231, ha232, hb233, hl234, hc235⟩ := OwT.at hx227 hP0_8_23 enc_len_Write
     refine oy hS (y_index hv231 ha232 hb233 underlying25 el_api_Write.size) ?_
     refine oy hS (y_loadN (vs := (enc_Write x227)) (fun w hS => hS.own (mC (mB (mB (mB (mB (mB (mA (mX hl234))))))))) underlying71 rfl (by exact sz_api_Write) (fun j u hj => hc235 j u hj)) ?_
     refine o_allocP (cl := (enc_Write ⟨0, 0, 0⟩)) zr_api_Write rfl hS ?_
     clear hS; intro b236 w hS
     refine o_storeW (vs := (enc_Write x227)) hS (by exact rfl) (Upd.here _) (by exact sz_api_Write) (enc_one_Write _) ?_
     clear hS; intro w hS
     refine n_thenN <| c_seq <| c_region <| oy hS (y_field fa_api_Write_2) <| oy hS (y_load (fun w hS => hS.own (mH)) underlying3 rfl rfl) <| oy hS y_bin <| n_thenN ?_
     refine c_if (ht := fun c237 => ?_) (hf := fun c237 => ?_)
     · replace hF := bt c237 hF
       refine c_heldL 9 10 (by kernel_rfl) rfl hS ?_
       clear hS; intro w hS
       refine hy0 0 rfl wn (by kernel_rfl) (nq (P := Try.prog) (fn := Try.f30)) (fun _ => hS.cb) y_move ?_
       refine hy0 1 rfl wn (by kernel_rfl) (nq (P := Try.prog) (fn := Try.f30)) (fun _ => hS.cb) y_nilCheck ?_
       refine hy0 2 rfl wn (by kernel_rfl) (nq (P := Try.prog) (fn := Try.f30)) (fun _ => hS.cb) (y_field fa_api_State_0) ?_
       refine hy 3 rfl wn (by kernel_rfl) (nq (P := Try.prog) (fn := Try.f30)) hS.cb (y_load (fun w hS => hS.own (mC (mH))) underlying23 rfl rfl) ?_
       refine hy0 4 rfl wn (by kernel_rfl) (nq (P := Try.prog) (fn := Try.f30)) (fun _ => hS.cb) (y_field fa_api_Write_0) ?_
       refine hy 5 rfl wn (by kernel_rfl) (nq (P := Try.prog) (fn := Try.f30)) hS.cb (y_load (fun w hS => hS.own (mH)) underlying3 rfl rfl) ?_
       refine hy0 6 rfl wn (by kernel_rfl) (nq (P := Try.prog) (fn := Try.f30)) (fun _ => hS.cb) (y_field fa_api_Write_1) ?_
       refine hy 7 rfl wn (by kernel_rfl) (nq (P := Try.prog) (fn := Try.f30)) hS.cb (y_load (fun w hS => hS.own (mH)) underlying35 rfl rfl) ?_
       obtain ⟨zs245, hzs245, hF⟩ := ob hF
       obtain ⟨b238, c239, cl240, hv241, ha242, hb243, hl244⟩ := OwT.at_set hzs245 h187 enc_len_uint32
       refine hy0 8 rfl wn (by kernel_rfl) (nq (P := Try.prog) (fn := Try.f30)) (fun _ => hS.cb) (y_index hv241 ha242 hb243 underlying23 el_uint32.size) ?_
       refine hb1 9 (by kernel_rfl) (hb_op rfl wn (nl (P := Try.prog) (fn := Try.f30)) ?_)
       refine o_storeO (L' := fun X => ((b236, blk (enc_Write x227) 71) :: ((b0_, blk (cl_State vP0_0_1 vP0_1_5 vP0_2_9 a0.Taken vP0_4_13 a0.PC vP0_6_17 a0.Stop vP0_8_21 a0.Jump a0.Delay) 27) :: (X ++ (LXP0_1_6 ++ (LXP0_2_10 ++ (LXP0_4_14 ++ (LXP0_6_18 ++ (LXP0_8_22 ++ (LX183 ++ [])))))))))) hzs245 hS h187 hl244 (fun X => .thereb _ (.thereb _ (.here _))) enc_len_uint32 rfl (by exact sz_uint32) rfl rfl ?_
       clear hS; intro LX246 w h247 hS
       refine hb_next (fun h => absurd h (by decide)) ?_
       refine hb_done (by kernel_rfl) ?_
       refine c_region <| oy hS y_move <| oy hS y_bin <| oy hS y_assign <| n_thenN ?_
       obtain rfl := osi hF
       exact ⟨_, hK222, v181, LX183, LX246, h182, h247, mk_exF, (hS.re (.b (.thereb _ .hb) (.t (.thereb _ .h) (.t (.thereb _ .h) (.t (.thereb _ .h) (.t (.thereb _ .h) (.t (.thereb _ .h) (.t (.thereb _ .h) (.t (.thereb _ .h) .n)))))))))⟩
     replace hF := bf c237 hF
     refine c_region <| oy hS y_move <| oy hS (y_field fa_api_Write_0) <| oy hS (y_load (fun w hS => hS.own (mH)) underlying3 rfl rfl) <| oy hS (y_field fa_api_Write_1) <| oy hS (y_load (fun w hS => hS.own (mH)) underlying35 rfl rfl) <| oy hS (y_field fa_api_Write_2) <| oy hS (y_load (fun w hS => hS.own (mH)) underlying3 rfl rfl) ?_
     refine oy hS y_bin ?_
     refine oy hS (y_build (cl := (enc_Write ⟨x227.Reg, x227.Value, IntKind.i64.wrap (x227.Left - 1)⟩)) bt_api_Write rfl (by kernel_rfl)) ?_
     refine o_buildT val_Write ([(⟨x227.Reg, x227.Value, IntKind.i64.wrap (x227.Left - 1)⟩ : T_Write)] : List T_Write) hS el_api_Write (fun _ => rfl) enc_len_Write (by decide) rfl (by decide) (hp := rfl) (h := ?_)
     clear hS; intro b249 w hS h250
     have hS : St W g LB0_ ([(b249, blk (([(⟨x227.Reg, x227.Value, IntKind.i64.wrap (x227.Left - 1)⟩ : T_Write)] : List T_Write).flatMap enc_Write) 71)] ++ ((b236, blk (enc_Write x227) 71) :: ((b0_, blk (cl_State vP0_0_1 vP0_1_5 vP0_2_9 a0.Taken vP0_4_13 a0.PC vP0_6_17 a0.Stop vP0_8_21 a0.Jump a0.Delay) 27) :: (LX188 ++ (LXP0_1_6 ++ (LXP0_2_10 ++ (LXP0_4_14 ++ (LXP0_6_18 ++ (LXP0_8_22 ++ (LX183 ++ [])))))))))) w := hS
     obtain ⟨zs256, hzs256, hF⟩ := ob hF
     have hS := hS.re (.t .h (.t (.thereb _ (.thereb _ (.there _ (.there _ (.there _ (.there _ (.there _ (.there _ .h)))))))) (.b .hb (.b .hb (.t .h (.t .h (.t .h (.t .h (.t .h (.t .h .n))))))))))
     refine o_appPn (ys := ([(⟨x227.Reg, x227.Value, IntKind.i64.wrap (x227.Left - 1)⟩ : T_Write)] : List T_Write)) (LX := LX183) hzs256 hS el_api_Write h182 rfl enc_len_Write (enc_ones_Write _) (by decide) ?_
     clear hS; intro v252 LX253 w h254 hS
     refine oy hS y_assign ?_
     refine n_anyN ?_
     refine c_region <| oy hS y_move <| oy hS y_bin <| oy hS y_assign <| n_thenN ?_
     obtain rfl := osi hF
     exact ⟨_, hK222, v252, LX253, LX188, h254, h187, mk_exF, (hS.re (.b (.there _ (.thereb _ .hb)) (.t (.there _ (.thereb _ .h)) (.t (.there _ (.thereb _ .h)) (.t (.there _ (.thereb _ .h)) (.t (.there _ (.thereb _ .h)) (.t (.there _ (.thereb _ .h)) (.t (.there _ (.thereb _ .h)) (.t .h .n)))))))))⟩
   replace hF := bf c226 hF
   refine wp_exit ?_
   obtain rfl := osi hF
   obtain rfl : _ = z145 := hK222
   change ∃ _, _
   exact ⟨x180, x186, a0.Mem, a0.In_, a0.Out, a0.Stack, a0.Fly, v181, vP0_0_1, vP0_1_5, vP0_2_9, vP0_4_13, vP0_6_17, vP0_8_21, LX183, LX188, LXP0_1_6, LXP0_2_10, LXP0_4_14, LXP0_6_18, LXP0_8_22, hK146, h182, h187, hP0_1_7, hP0_2_11, hP0_4_15, hP0_6_19, hP0_8_23, mk_exF, (hS.re (.b .hb (.t .h (.t .h (.t .h (.t .h (.t .h (.t .h (.t .h .n)))))))))⟩
 rintro a w ⟨x110, x115, x120, x125, x130, x135, x140, v111, v116, v121, v126, v131, v136, v141, LX113, LX118, LX123, LX128, LX133, LX138, LX143, hF, h112, h117, h122, h127, h132, h137, h142, ⟨s257, rfl⟩, hS⟩
 dsimp only [r5_lands_k1] at hF
 refine c_region ?_
 iterate 2 (refine oy hS y_move ?_)
 refine oy hS y_nilCheck <| oy hS (y_field fa_api_State_8) ?_
 refine o_storeA1 (o := 8) (cl' := (cl_State v116 v121 v126 a0.Taken v131 a0.PC v136 a0.Stop v111 a0.Jump a0.Delay)) hS (by kernel_rfl) (by exact Nat.le_of_ble_eq_true rfl) (Upd.here _) (by exact sz_S_api_Write) (h112).one (h112).cell ?_
 clear hS; intro w hS
 refine n_anyN ?_
 obtain rfl := osi hF
 refine (r_end (vs := []) (hS.re (.b .hb (.t .h (.t .h (.t .h (.t .h (.t .h (.t (.there _ .h) .n)))))))) rsN rfl ⟨_, rfl, (by first | rfl | simp only [aa, ac, al, an]), ⟨_, _, _, _, _, _, _, _, _, _, _, _, rfl, h117, h122, h127, h132, h137, h112⟩⟩)
theorem w_r5_lands {g : Frag} {a0 : T_State} {b0_ : Nat} {LB0_ : Own} {r : T_State} (h0 : Bx_State b0_ a0 LB0_) (hF : r5_lands a0 = some r) : LC Try.prog 30 #[.pointer (some ⟨b0_, 0, none⟩)] g LB0_ (fun v L => ∃ (LB' : Own), v = .tuple #[] ∧ L = (LB' ++ []) ∧ Bx_State b0_ r LB') := w_r5_lands_ h0 hF

def r3_HasB (a0 : Int) : Bool :=
  bif decide (a0 = 1) then true else decide (a0 = 5)
theorem w_r3_HasB_ {g : Frag} {a0 : Int} {r : Bool}  (hF : r3_HasB a0 = r) : LCs Try.prog 70 #[.int .i64 a0] g (.bool r) := by
 unfold r3_HasB at hF
 refine lc_body (k := 9) (av := [.int .i64 a0]) func70 rfl rfl (h := fun W hS => ?_)
 refine c_seq <| c_region <| oy hS y_assign <| n_thenN <| c_seq <| c_region <| oy hS y_move <| oy hS y_bin ?_
 refine o_split (ht := fun c1 => ?_) (hf := fun c1 => ?_)
 · replace hF := bt c1 hF
   iterate 2 (refine o_sk rfl rfl ?_)
   refine oy hS y_pickT <| oy hS y_assign <| n_thenN ?_
   subst hF
   exact wp_ret (wr1 hS)
 replace hF := bf c1 hF
 refine o_gu rfl rfl rfl <| oy hS y_move <| o_gu rfl rfl rfl <| oy hS y_bin <| oy hS y_pickF <| oy hS y_assign <| n_thenN ?_
 subst hF
 exact wp_ret (wr1 hS)
theorem w_r3_HasB {g : Frag} {a0 : Int}  : LCs Try.prog 70 #[.int .i64 a0] g (.bool (r3_HasB a0)) := w_r3_HasB_  rfl

noncomputable def r3_Reads (a0 : T_Ins) : Option (List Int) :=
  (r3_Form a0.Op).bind fun r2 => bif (r3_HasA r2) then (app' ([]) ([a0.A] : List Int)).bind fun zs12 => bif (r3_HasB r2) then (app' zs12 ([a0.B] : List Int)).bind fun zs21 => some (zs21) else some (zs12) else bif (r3_HasB r2) then (app' ([]) ([a0.B] : List Int)).bind fun zs31 => some (zs31) else some ([])
theorem w_r3_Reads_ {g : Frag} {a0 : T_Ins} {r : (List Int)}  (hF : r3_Reads a0 = some r) : LC Try.prog 49 #[.agg (enc_Ins a0).toArray] g [] (fun v L => ∃ (u0 : Value) (M0 : Own), u0 = v ∧ L = (M0 ++ []) ∧ OwT 3 enc_int 1 r u0 M0) := by
 unfold r3_Reads at hF
 refine lc_body (k := 23) (av := [.agg (enc_Ins a0).toArray]) func49 rfl rfl (h := fun W hS => ?_)
 refine c_seq <| c_region ?_
 refine o_boxP (cl := (enc_Ins a0)) rfl hS ?_
 clear hS; intro b1 w hS
 refine oy hS y_assign <| n_thenN <| c_seq <| c_region <| oy hS y_assign <| n_thenN <| c_seq <| c_region ?_
 refine oy hS (y_field fa_api_Ins_0) <| oy hS (y_load (fun w hS => hS.own (mH)) underlying3 rfl rfl) ?_
 obtain ⟨r2, hr2, hF⟩ := ob hF
 refine o_callS hS func6 rfl rfl (hc := (w_r3_Form (a0 := a0.Op) (hF := hr2))) (h := ?_)
 clear hS; intro w hS
 refine oy hS y_assign <| n_thenN ?_
 iterate 2 (refine c_seq ?_)
 refine c_region <| oy hS y_move ?_
 refine o_callS hS func7 rfl rfl (hc := (w_r3_HasA (a0 := r2))) (h := ?_)
 clear hS; intro w hS
 refine n_thenN ?_
 refine c_if (ht := fun c3 => ?_) (hf := fun c3 => ?_)
 · replace hF := bt c3 hF
   refine c_region <| oy hS y_move <| oy hS (y_field fa_api_Ins_2) <| oy hS (y_load (fun w hS => hS.own (mH)) underlying3 rfl rfl) ?_
   refine o_buildT val_int ([a0.A] : List Int) hS el_int (fun _ => rfl) enc_len_int (by decide) rfl (by decide) (hp := rfl) (h := ?_)
   clear hS; intro b4 w hS h5
   have hS : St W g [] ([(b4, blk (([a0.A] : List Int).flatMap enc_int) 3)] ++ ((b1, blk (enc_Ins a0) 31) :: [])) w := hS
   obtain ⟨zs12, hzs12, hF⟩ := ob hF
   refine o_appPn (ys := ([a0.A] : List Int)) (LX := []) hzs12 hS el_int (OwT.nil _ _ _) rfl enc_len_int (enc_ones_int _) (by decide) ?_
   clear hS; intro v8 LX9 w h10 hS
   refine oy hS y_assign <| n_thenN ?_
   iterate 2 (refine c_seq ?_)
   refine c_region <| oy hS y_move ?_
   refine o_callS hS func70 rfl rfl (hc := (w_r3_HasB (a0 := r2))) (h := ?_)
   clear hS; intro w hS
   refine n_thenN ?_
   refine c_if (ht := fun c13 => ?_) (hf := fun c13 => ?_)
   · replace hF := bt c13 hF
     refine c_region <| oy hS y_move <| oy hS (y_field fa_api_Ins_3) <| oy hS (y_load (fun w hS => hS.own (mB (mH))) underlying3 rfl rfl) ?_
     refine o_buildT val_int ([a0.B] : List Int) hS el_int (fun _ => rfl) enc_len_int (by decide) rfl (by decide) (hp := rfl) (h := ?_)
     clear hS; intro b14 w hS h15
     have hS : St W g [] ([(b14, blk (([a0.B] : List Int).flatMap enc_int) 3)] ++ (LX9 ++ ((b1, blk (enc_Ins a0) 31) :: []))) w := hS
     obtain ⟨zs21, hzs21, hF⟩ := ob hF
     refine o_appPn (ys := ([a0.B] : List Int)) (LX := LX9) hzs21 hS el_int h10 rfl enc_len_int (enc_ones_int _) (by decide) ?_
     clear hS; intro v17 LX18 w h19 hS
     refine oy hS y_assign <| n_thenN <| c_seq <| c_region <| oy hS y_move <| oy hS y_assign <| n_thenN ?_
     obtain rfl := osi hF
     refine wp_ret (r_ret (vs := [v17]) (hS.re (.t .h .n)) (rsC res_tmp rsN) rfl ⟨_, _, rfl, (by first | rfl | simp only [aa, ac, al, an]), h19⟩)
   replace hF := bf c13 hF
   refine wp_skip <| c_seq <| c_region <| oy hS y_move <| oy hS y_assign <| n_thenN ?_
   obtain rfl := osi hF
   refine wp_ret (r_ret (vs := [v8]) (hS.re (.t .h .n)) (rsC res_tmp rsN) rfl ⟨_, _, rfl, (by first | rfl | simp only [aa, ac, al, an]), h10⟩)
 replace hF := bf c3 hF
 refine wp_skip ?_
 iterate 2 (refine c_seq ?_)
 refine c_region <| oy hS y_move ?_
 refine o_callS hS func70 rfl rfl (hc := (w_r3_HasB (a0 := r2))) (h := ?_)
 clear hS; intro w hS
 refine n_thenN ?_
 refine c_if (ht := fun c22 => ?_) (hf := fun c22 => ?_)
 · replace hF := bt c22 hF
   refine c_region <| oy hS y_move <| oy hS (y_field fa_api_Ins_3) <| oy hS (y_load (fun w hS => hS.own (mH)) underlying3 rfl rfl) ?_
   refine o_buildT val_int ([a0.B] : List Int) hS el_int (fun _ => rfl) enc_len_int (by decide) rfl (by decide) (hp := rfl) (h := ?_)
   clear hS; intro b23 w hS h24
   have hS : St W g [] ([(b23, blk (([a0.B] : List Int).flatMap enc_int) 3)] ++ ((b1, blk (enc_Ins a0) 31) :: [])) w := hS
   obtain ⟨zs31, hzs31, hF⟩ := ob hF
   refine o_appPn (ys := ([a0.B] : List Int)) (LX := []) hzs31 hS el_int (OwT.nil _ _ _) rfl enc_len_int (enc_ones_int _) (by decide) ?_
   clear hS; intro v27 LX28 w h29 hS
   refine oy hS y_assign <| n_thenN <| c_seq <| c_region <| oy hS y_move <| oy hS y_assign <| n_thenN ?_
   obtain rfl := osi hF
   refine wp_ret (r_ret (vs := [v27]) (hS.re (.t .h .n)) (rsC res_tmp rsN) rfl ⟨_, _, rfl, (by first | rfl | simp only [aa, ac, al, an]), h29⟩)
 replace hF := bf c22 hF
 refine wp_skip <| c_seq <| c_region <| oy hS y_move <| oy hS y_assign <| n_thenN ?_
 obtain rfl := osi hF
 refine wp_ret (r_ret (vs := [(.slice none 0 0)]) (hS.re (.n)) (rsC res_tmp rsN) rfl ⟨_, _, rfl, (by first | rfl | simp only [aa, ac, al, an]), (OwT.nil _ _ _)⟩)
theorem w_r3_Reads {g : Frag} {a0 : T_Ins} {r : (List Int)}  (hF : r3_Reads a0 = some r) : LC Try.prog 49 #[.agg (enc_Ins a0).toArray] g [] (fun v L => ∃ (u0 : Value) (M0 : Own), u0 = v ∧ L = (M0 ++ []) ∧ OwT 3 enc_int 1 r u0 M0) := w_r3_Reads_  hF

noncomputable def r0_In_b1 (a0 : (List Int)) (a1 : Int) : Int → Option (Step Int Int) := fun x15 => bif decide (x15 < (a0.length : Int)) then (at' a0 x15).bind fun x35 => bif decide (x35 = a1) then some (.done (x15)) else some (.next (IntKind.i64.wrap (x15 + 1))) else some (.done ((-1)))
noncomputable def r0_In (a0 : (List Int)) (a1 : Int) : Option Int :=
  loop (σ := Int) (r0_In_b1 a0 a1) 0
theorem w_r0_In_ {g : Frag} {a0 : (List Int)} {v0_ : Value} {a1 : Int} {r : Int} (h0 : SlT g enc_int 1 a0 v0_) (hF : r0_In a0 a1 = some r) : LCs Try.prog 50 #[v0_, .int .i64 a1] g (.int .i64 r) := by
 unfold r0_In at hF
 refine lc_body (k := 19) (av := [v0_, .int .i64 a1]) func50 rfl rfl (h := fun W hS => ?_)
 refine c_seq <| c_region <| oy hS y_assign <| n_thenN ?_
 iterate 2 (refine c_seq ?_)
 refine c_region <| oy hS y_assign <| n_thenN <| c_block ?_
 refine c_loopP hF (fun (q : Int) a w' => (∃ s : Nat → Value, a = Ac ((((Fm.dead 19 s).upd 0 v0_).upd 1 (.int .i64 a1)).upd 5 (.int .i64 q))) ∧ St W g [] [] w') ⟨mk_exF, (hS.re (.n))⟩ ?_
 clear hS hF
 intro n32 q a w hI hq
 revert hq hI; revert q; intro x15 hI hq
 obtain ⟨⟨s33, rfl⟩, hS⟩ := hq
 obtain ⟨z30, hF, hK31⟩ := iter_step hI
 clear hI
 dsimp only [r0_In_b1] at hF
 iterate 2 (refine c_seq ?_)
 refine c_region ?_
 iterate 2 (refine oy hS y_move ?_)
 refine oy hS (y_len h0 underlying24) <| oy hS y_bin <| n_thenN ?_
 refine c_if (ht := fun c34 => ?_) (hf := fun c34 => ?_)
 · replace hF := bt c34 hF
   refine wp_skip <| c_seq <| c_block <| c_seq <| c_region ?_
   iterate 2 (refine oy hS y_move ?_)
   obtain ⟨x35, hx35, hF⟩ := ob hF
   obtain ⟨b36, o37, c38, cs39, e40, fz41, hv42, ha43, hb44, hd45, hc46⟩ := SlT.at hx35 h0 enc_len_int
   refine oy hS (y_index hv42 ha43 hb44 underlying24 el_int.size) <| oy hS (y_load (fun w hS => hS.block hd45) underlying3 rfl (hc46 0 _ rfl)) <| oy hS y_move <| oy hS y_bin <| n_thenN ?_
   refine c_if (ht := fun c47 => ?_) (hf := fun c47 => ?_)
   · replace hF := bt c47 hF
     refine c_seq <| c_region <| oy hS y_move <| oy hS y_assign <| n_thenN ?_
     obtain rfl := osi hF
     obtain rfl : _ = r := hK31
     exact wp_ret (wr1 hS)
   replace hF := bf c47 hF
   refine wp_skip <| c_region <| oy hS y_move <| oy hS y_bin <| oy hS y_assign <| n_thenN ?_
   obtain rfl := osi hF
   exact ⟨_, hK31, mk_exF, (hS.re (.n))⟩
 replace hF := bf c34 hF
 refine wp_exit ?_
 refine c_seq <| c_region <| oy hS y_assign <| n_thenN ?_
 obtain rfl := osi hF
 obtain rfl : _ = r := hK31
 exact wp_ret (wr1 hS)
theorem w_r0_In {g : Frag} {a0 : (List Int)} {v0_ : Value} {a1 : Int} {r : Int} (h0 : SlT g enc_int 1 a0 v0_) (hF : r0_In a0 a1 = some r) : LCs Try.prog 50 #[v0_, .int .i64 a1] g (.int .i64 r) := w_r0_In_ h0 hF

noncomputable def r3_Writes (a0 : T_Ins) : Option Int :=
  (r3_Form a0.Op).bind fun r2 => bif (r3_HasD r2) then some (a0.D) else some (-1)
theorem w_r3_Writes_ {g : Frag} {a0 : T_Ins} {r : Int}  (hF : r3_Writes a0 = some r) : LCs Try.prog 51 #[.agg (enc_Ins a0).toArray] g (.int .i64 r) := by
 unfold r3_Writes at hF
 refine lc_body (k := 9) (av := [.agg (enc_Ins a0).toArray]) func51 rfl rfl (h := fun W hS => ?_)
 refine c_seq <| c_region ?_
 refine o_boxP (cl := (enc_Ins a0)) rfl hS ?_
 clear hS; intro b1 w hS
 refine oy hS y_assign <| n_thenN ?_
 iterate 2 (refine c_seq ?_)
 refine c_region <| oy hS (y_field fa_api_Ins_0) <| oy hS (y_load (fun w hS => hS.own (mH)) underlying3 rfl rfl) ?_
 obtain ⟨r2, hr2, hF⟩ := ob hF
 refine o_callS hS func6 rfl rfl (hc := (w_r3_Form (a0 := a0.Op) (hF := hr2))) (h := ?_)
 clear hS; intro w hS
 refine o_callS hS func5 rfl rfl (hc := (w_r3_HasD (a0 := r2))) (h := ?_)
 clear hS; intro w hS
 refine n_thenN ?_
 refine c_if (ht := fun c3 => ?_) (hf := fun c3 => ?_)
 · replace hF := bt c3 hF
   refine c_seq <| c_region <| oy hS (y_field fa_api_Ins_1) <| oy hS (y_load (fun w hS => hS.own (mH)) underlying3 rfl rfl) <| oy hS y_assign <| n_thenN ?_
   obtain rfl := osi hF
   exact wp_ret (wr1 hS)
 replace hF := bf c3 hF
 refine wp_skip <| c_seq <| c_region <| oy hS y_assign <| n_thenN ?_
 obtain rfl := osi hF
 exact wp_ret (wr1 hS)
theorem w_r3_Writes {g : Frag} {a0 : T_Ins} {r : Int}  (hF : r3_Writes a0 = some r) : LCs Try.prog 51 #[.agg (enc_Ins a0).toArray] g (.int .i64 r) := w_r3_Writes_  hF
end Go.Proofs.Ythbpicnbkdbbmaa
