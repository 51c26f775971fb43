/- Functions, lifted. Printed by lift.py. -/
import Derived.Test.YthbpicnbkdbbmaaProg
import Derived.Test.YthbpicnbkdbbmaaP2
import Derived.Test.YthbpicnbkdbbmaaP3
import Derived.KernelRfl
namespace Go.Proofs.Ythbpicnbkdbbmaa
open Go Go.RowKit Fr
set_option linter.unusedVariables false
set_option linter.unusedSimpArgs false
set_option maxRecDepth 20000
open Try
set_option maxHeartbeats 2000000
noncomputable def seq_Turn_k1 (a0 : T_State) (a1 : T_Ins) (a3 : Int) : (Bool × (List Int) × (List Int) × (List Int) × (List Int) × (List T_Write)) → Option (T_State × Int × Bool × Int) := fun (x7, x8, x13, x18, x23, x28) => bif x7 then some ((⟨a0.Regs, x8, x13, a0.Taken, x18, a0.PC, x23, a0.Stop, x28, a0.Jump, a0.Delay⟩ : T_State), a1.Imm, true, 0) else bif decide (a1.Op = 31) then bif decide (16 ≤ (x23.length : Int)) then some ((⟨a0.Regs, x8, x13, a0.Taken, x18, a0.PC, x23, a0.Stop, x28, a0.Jump, a0.Delay⟩ : T_State), 0, false, 4) else (app' x23 ([a3] : List Int)).bind fun zs51 => some ((⟨a0.Regs, x8, x13, a0.Taken, x18, a0.PC, zs51, a0.Stop, x28, a0.Jump, a0.Delay⟩ : T_State), a1.Imm, true, 0) else bif decide (a1.Op = 32) then bif decide ((IntKind.i64.wrap ((x23.length : Int) - 1)) < 0) then some ((⟨a0.Regs, x8, x13, a0.Taken, x18, a0.PC, x23, a0.Stop, x28, a0.Jump, a0.Delay⟩ : T_State), 0, false, 4) else (at' x23 (IntKind.i64.wrap ((x23.length : Int) - 1))).bind fun x54 => (upto' x23 (IntKind.i64.wrap ((x23.length : Int) - 1))).bind fun zs63 => some ((⟨a0.Regs, x8, x13, a0.Taken, x18, a0.PC, zs63, a0.Stop, x28, a0.Jump, a0.Delay⟩ : T_State), x54, true, 0) else some ((⟨a0.Regs, x8, x13, a0.Taken, x18, a0.PC, x23, a0.Stop, x28, a0.Jump, a0.Delay⟩ : T_State), 0, false, 0)
noncomputable def seq_Turn (a0 : T_State) (a1 : T_Ins) (a2 : Int) (a3 : Int) : Option (T_State × Int × Bool × Int) :=
  cut (σ := (Bool × (List Int) × (List Int) × (List Int) × (List Int) × (List T_Write))) (bif decide (a1.Op = 28) then some (.next (decide (a1.Op = 28), a0.Mem, a0.In_, a0.Out, a0.Stack, a0.Fly)) else bif decide (a1.Op = 29) then bif decide (a2 = 0) then some (.next (decide (a2 = 0), a0.Mem, a0.In_, a0.Out, a0.Stack, a0.Fly)) else bif decide (a1.Op = 30) then some (.next (decide (a2 ≠ 0), a0.Mem, a0.In_, a0.Out, a0.Stack, a0.Fly)) else some (.next (false, a0.Mem, a0.In_, a0.Out, a0.Stack, a0.Fly)) else bif decide (a1.Op = 30) then some (.next (decide (a2 ≠ 0), a0.Mem, a0.In_, a0.Out, a0.Stack, a0.Fly)) else some (.next (false, a0.Mem, a0.In_, a0.Out, a0.Stack, a0.Fly))) (seq_Turn_k1 a0 a1 a3)
theorem w_seq_Turn_ {g : Frag} {a0 : T_State} {b0_ : Nat} {LB0_ : Own} {a1 : T_Ins} {a2 : Int} {a3 : Int} {r : (T_State × Int × Bool × Int)} (h0 : Bx_State b0_ a0 LB0_) (hF : seq_Turn a0 a1 a2 a3 = some r) : LC Try.prog 64 #[.pointer (some ⟨b0_, 0, none⟩), .agg (enc_Ins a1).toArray, .int .u32 a2, .int .i64 a3] g LB0_ (fun v L => ∃ (LB' : Own), v = .tuple #[.int .i64 r.2.1, .bool r.2.2.1, .int .i64 r.2.2.2] ∧ L = (LB' ++ []) ∧ Bx_State b0_ r.1 LB') := by
 obtain ⟨vP0_0_1, vP0_1_5, vP0_2_9, vP0_4_13, vP0_6_17, vP0_8_21, LXP0_0_2, LXP0_1_6, LXP0_2_10, LXP0_4_14, LXP0_6_18, LXP0_8_22, hL0_, hP0_0_3, hP0_1_7, hP0_2_11, hP0_4_15, hP0_6_19, hP0_8_23⟩ := h0
 unfold seq_Turn at hF
 refine lc_body (k := 83) (av := [.pointer (some ⟨b0_, 0, none⟩), .agg (enc_Ins a1).toArray, .int .u32 a2, .int .i64 a3]) func64 rfl rfl (h := fun W hS => ?_)
 have hS := hS.own_eq hL0_
 refine c_seq <| c_region ?_
 refine o_boxP (cl := (enc_Ins a1)) rfl hS ?_
 clear hS; intro b1 w hS
 iterate 3 (refine oy hS y_assign ?_)
 refine n_thenN <| c_seq <| c_block ?_
 obtain ⟨z33, hF, hK34⟩ := cut_step hF
 refine c_cutP (fun a w' => ∃ (x7 : Bool) (x8 : (List Int)) (x13 : (List Int)) (x18 : (List Int)) (x23 : (List Int)) (x28 : (List T_Write)) (v9 : Value) (v14 : Value) (v19 : Value) (v24 : Value) (v29 : Value) (LX11 : Own) (LX16 : Own) (LX21 : Own) (LX26 : Own) (LX31 : Own), seq_Turn_k1 a0 a1 a3 (x7, x8, x13, x18, x23, x28) = some r ∧ OwT 35 enc_uint32 1 x8 v9 LX11 ∧ OwT 35 enc_uint32 1 x13 v14 LX16 ∧ OwT 35 enc_uint32 1 x18 v19 LX21 ∧ OwT 3 enc_int 1 x23 v24 LX26 ∧ OwT 71 enc_Write 3 x28 v29 LX31 ∧ (∃ s : Nat → Value, a = Ac (((((Fm.dead 83 s).upd 0 (.pointer (some ⟨b0_, 0, none⟩))).upd 3 (.int .i64 a3)).upd 5 (.pointer (some ⟨b1, 0, none⟩))).upd 12 (.bool x7))) ∧ St W g LB0_ ((b0_, blk (cl_State vP0_0_1 v9 v14 a0.Taken v19 a0.PC v24 a0.Stop v29 a0.Jump a0.Delay) 27) :: ((b1, blk (enc_Ins a1) 31) :: (LXP0_0_2 ++ (LX11 ++ (LX16 ++ (LX21 ++ (LX26 ++ (LX31 ++ [])))))))) w') ?_ ?_
 · skip
   refine c_seq <| c_region <| oy hS (y_field fa_api_Ins_0) <| oy hS (y_load (fun w hS => hS.own (mH)) underlying3 rfl rfl) <| oy hS y_bin <| oy hS y_assign <| n_thenN ?_
   refine c_if (ht := fun c35 => ?_) (hf := fun c35 => ?_)
   · replace hF := bt c35 hF
     refine wp_skip ?_
     obtain rfl := osi hF
     change ∃ _, _
     exact ⟨decide (a1.Op = 28), a0.Mem, a0.In_, a0.Out, a0.Stack, a0.Fly, vP0_1_5, vP0_2_9, vP0_4_13, vP0_6_17, vP0_8_21, LXP0_1_6, LXP0_2_10, LXP0_4_14, LXP0_6_18, LXP0_8_22, hK34, hP0_1_7, hP0_2_11, hP0_4_15, hP0_6_19, hP0_8_23, mk_exF, (hS.re (.b (.thereb _ .hb) (.b .hb (.t .h (.t .h (.t .h (.t .h (.t .h (.t .h .n)))))))))⟩
   replace hF := bf c35 hF
   refine c_seq <| c_region <| oy hS (y_field fa_api_Ins_0) <| oy hS (y_load (fun w hS => hS.own (mH)) underlying3 rfl rfl) <| oy hS y_bin ?_
   refine o_split (ht := fun c36 => ?_) (hf := fun c36 => ?_)
   · replace hF := bt c36 hF
     refine o_gu rfl rfl rfl <| oy hS y_move <| o_gu rfl rfl rfl <| oy hS y_bin <| oy hS y_pickT <| oy hS y_assign <| n_thenN ?_
     refine c_if (ht := fun c37 => ?_) (hf := fun c37 => ?_)
     · replace hF := bt c37 hF
       refine wp_skip ?_
       obtain rfl := osi hF
       change ∃ _, _
       exact ⟨decide (a2 = 0), a0.Mem, a0.In_, a0.Out, a0.Stack, a0.Fly, vP0_1_5, vP0_2_9, vP0_4_13, vP0_6_17, vP0_8_21, LXP0_1_6, LXP0_2_10, LXP0_4_14, LXP0_6_18, LXP0_8_22, hK34, hP0_1_7, hP0_2_11, hP0_4_15, hP0_6_19, hP0_8_23, mk_exF, (hS.re (.b (.thereb _ .hb) (.b .hb (.t .h (.t .h (.t .h (.t .h (.t .h (.t .h .n)))))))))⟩
     replace hF := bf c37 hF
     refine c_region <| oy hS (y_field fa_api_Ins_0) <| oy hS (y_load (fun w hS => hS.own (mH)) underlying3 rfl rfl) <| oy hS y_bin ?_
     refine o_split (ht := fun c38 => ?_) (hf := fun c38 => ?_)
     · replace hF := bt c38 hF
       refine o_gu rfl rfl rfl <| oy hS y_move <| o_gu rfl rfl rfl <| oy hS y_bin <| oy hS y_pickT <| oy hS y_assign <| n_thenN ?_
       obtain rfl := osi hF
       change ∃ _, _
       exact ⟨decide (a2 ≠ 0), a0.Mem, a0.In_, a0.Out, a0.Stack, a0.Fly, vP0_1_5, vP0_2_9, vP0_4_13, vP0_6_17, vP0_8_21, LXP0_1_6, LXP0_2_10, LXP0_4_14, LXP0_6_18, LXP0_8_22, hK34, hP0_1_7, hP0_2_11, hP0_4_15, hP0_6_19, hP0_8_23, mk_exF, (hS.re (.b (.thereb _ .hb) (.b .hb (.t .h (.t .h (.t .h (.t .h (.t .h (.t .h .n)))))))))⟩
     replace hF := bf c38 hF
     iterate 2 (refine o_sk rfl rfl ?_)
     refine oy hS y_pickF <| oy hS y_assign <| n_thenN ?_
     obtain rfl := osi hF
     change ∃ _, _
     exact ⟨false, a0.Mem, a0.In_, a0.Out, a0.Stack, a0.Fly, vP0_1_5, vP0_2_9, vP0_4_13, vP0_6_17, vP0_8_21, LXP0_1_6, LXP0_2_10, LXP0_4_14, LXP0_6_18, LXP0_8_22, hK34, hP0_1_7, hP0_2_11, hP0_4_15, hP0_6_19, hP0_8_23, mk_exF, (hS.re (.b (.thereb _ .hb) (.b .hb (.t .h (.t .h (.t .h (.t .h (.t .h (.t .h .n)))))))))⟩
   replace hF := bf c36 hF
   iterate 2 (refine o_sk rfl rfl ?_)
   refine oy hS y_pickF <| oy hS y_assign <| n_thenN ?_
   refine c_if_false (h := ?_)
   refine c_region <| oy hS (y_field fa_api_Ins_0) <| oy hS (y_load (fun w hS => hS.own (mH)) underlying3 rfl rfl) <| oy hS y_bin ?_
   refine o_split (ht := fun c39 => ?_) (hf := fun c39 => ?_)
   · replace hF := bt c39 hF
     refine o_gu rfl rfl rfl <| oy hS y_move <| o_gu rfl rfl rfl <| oy hS y_bin <| oy hS y_pickT <| oy hS y_assign <| n_thenN ?_
     obtain rfl := osi hF
     change ∃ _, _
     exact ⟨decide (a2 ≠ 0), a0.Mem, a0.In_, a0.Out, a0.Stack, a0.Fly, vP0_1_5, vP0_2_9, vP0_4_13, vP0_6_17, vP0_8_21, LXP0_1_6, LXP0_2_10, LXP0_4_14, LXP0_6_18, LXP0_8_22, hK34, hP0_1_7, hP0_2_11, hP0_4_15, hP0_6_19, hP0_8_23, mk_exF, (hS.re (.b (.thereb _ .hb) (.b .hb (.t .h (.t .h (.t .h (.t .h (.t .h (.t .h .n)))))))))⟩
   replace hF := bf c39 hF
   iterate 2 (refine o_sk rfl rfl ?_)
   refine oy hS y_pickF <| oy hS y_assign <| n_thenN ?_
   obtain rfl := osi hF
   change ∃ _, _
   exact ⟨false, a0.Mem, a0.In_, a0.Out, a0.Stack, a0.Fly, vP0_1_5, vP0_2_9, vP0_4_13, vP0_6_17, vP0_8_21, LXP0_1_6, LXP0_2_10, LXP0_4_14, LXP0_6_18, LXP0_8_22, hK34, hP0_1_7, hP0_2_11, hP0_4_15, hP0_6_19, hP0_8_23, mk_exF, (hS.re (.b (.thereb _ .hb) (.b .hb (.t .h (.t .h (.t .h (.t .h (.t .h (.t .h .n)))))))))⟩
 rintro a w ⟨x7, x8, x13, x18, x23, x28, v9, v14, v19, v24, v29, LX11, LX16, LX21, LX26, LX31, hF, h10, h15, h20, h25, h30, ⟨s40, rfl⟩, hS⟩
 dsimp only [seq_Turn_k1] at hF
 refine c_if (ht := fun c41 => ?_) (hf := fun c41 => ?_)
 · replace hF := bt c41 hF
   refine c_seq <| c_region <| oy hS (y_field fa_api_Ins_4) <| oy hS (y_load (fun w hS => hS.own (mC (mH))) underlying3 rfl rfl) ?_
   iterate 3 (refine oy hS y_assign ?_)
   refine n_thenN ?_
   obtain rfl := osi hF
   refine wp_ret (r_ret (vs := [.int .i64 a1.Imm, .bool true, .int .i64 0]) (hS.re (.b .hb (.t (.thereb _ .h) (.t (.thereb _ .h) (.t (.thereb _ .h) (.t (.thereb _ .h) (.t (.thereb _ .h) (.t (.thereb _ .h) .n)))))))) (rsC res_tmp (rsC res_tmp (rsC res_tmp rsN))) rfl ⟨_, rfl, (by first | rfl | simp only [aa, ac, al, an]), ⟨_, _, _, _, _, _, _, _, _, _, _, _, rfl, hP0_0_3, h10, h15, h20, h25, h30⟩⟩)
 replace hF := bf c41 hF
 refine c_seq <| c_region <| oy hS (y_field fa_api_Ins_0) <| oy hS (y_load (fun w hS => hS.own (mC (mH))) underlying3 rfl rfl) <| oy hS y_bin <| oy hS y_assign <| n_thenN ?_
 refine c_if (ht := fun c42 => ?_) (hf := fun c42 => ?_)
 · replace hF := bt c42 hF
   iterate 2 (refine c_seq ?_)
   refine c_region <| oy hS y_move <| oy hS y_nilCheck <| oy hS (y_field fa_api_State_6) <| oy hS (y_load (fun w hS => hS.own (mH)) underlying24 rfl rfl) <| oy hS (y_lenO h25 underlying24) <| oy hS y_bin <| n_thenN ?_
   refine c_if (ht := fun c43 => ?_) (hf := fun c43 => ?_)
   · replace hF := bt c43 hF
     refine c_seq <| c_region ?_
     iterate 3 (refine oy hS y_assign ?_)
     refine n_thenN ?_
     obtain rfl := osi hF
     refine wp_ret (r_ret (vs := [.int .i64 0, .bool false, .int .i64 4]) (hS.re (.b .hb (.t (.thereb _ .h) (.t (.thereb _ .h) (.t (.thereb _ .h) (.t (.thereb _ .h) (.t (.thereb _ .h) (.t (.thereb _ .h) .n)))))))) (rsC res_tmp (rsC res_tmp (rsC res_tmp rsN))) rfl ⟨_, rfl, (by first | rfl | simp only [aa, ac, al, an]), ⟨_, _, _, _, _, _, _, _, _, _, _, _, rfl, hP0_0_3, h10, h15, h20, h25, h30⟩⟩)
   replace hF := bf c43 hF
   refine wp_skip <| c_seq <| c_region ?_
   iterate 2 (refine oy hS y_move ?_)
   refine oy hS y_nilCheck <| oy hS (y_field fa_api_State_6) <| oy hS (y_load (fun w hS => hS.own (mH)) underlying24 rfl rfl) <| oy hS y_move ?_
   refine o_buildT val_int ([a3] : List Int) hS el_int (fun _ => rfl) enc_len_int (by decide) rfl (by decide) (hp := rfl) (h := ?_)
   clear hS; intro b44 w hS h45
   have hS : St W g LB0_ ([(b44, blk (([a3] : List Int).flatMap enc_int) 3)] ++ ((b0_, blk (cl_State vP0_0_1 v9 v14 a0.Taken v19 a0.PC v24 a0.Stop v29 a0.Jump a0.Delay) 27) :: ((b1, blk (enc_Ins a1) 31) :: (LXP0_0_2 ++ (LX11 ++ (LX16 ++ (LX21 ++ (LX26 ++ (LX31 ++ []))))))))) w := hS
   obtain ⟨zs51, hzs51, hF⟩ := ob hF
   have hS := hS.re (.t .h (.t (.thereb _ (.thereb _ (.there _ (.there _ (.there _ (.there _ .h)))))) (.b .hb (.b .hb (.t .h (.t .h (.t .h (.t .h (.t .h .n)))))))))
   refine o_appPn (ys := ([a3] : List Int)) (LX := LX26) hzs51 hS el_int h25 rfl enc_len_int (enc_ones_int _) (by decide) ?_
   clear hS; intro v47 LX48 w h49 hS
   refine oy hS y_nilCheck <| oy hS (y_field fa_api_State_6) ?_
   have hS := hS.re (.b (.there _ .hb) (.t .h (.b .hb (.t .h (.t .h (.t .h (.t .h (.t .h .n))))))))
   refine o_storeA1 (o := 6) (cl' := (cl_State vP0_0_1 v9 v14 a0.Taken v19 a0.PC v47 a0.Stop v29 a0.Jump a0.Delay)) hS (by kernel_rfl) (by exact Nat.le_of_ble_eq_true rfl) (Upd.here _) (by exact sz_S_int) (h49).one (h49).cell ?_
   clear hS; intro w hS
   refine n_thenN <| c_seq <| c_region <| oy hS (y_field fa_api_Ins_4) <| oy hS (y_load (fun w hS => hS.own (mC (mB (mH)))) underlying3 rfl rfl) ?_
   iterate 3 (refine oy hS y_assign ?_)
   refine n_thenN ?_
   obtain rfl := osi hF
   refine wp_ret (r_ret (vs := [.int .i64 a1.Imm, .bool true, .int .i64 0]) (hS.re (.b .hb (.t (.there _ (.thereb _ .h)) (.t (.there _ (.thereb _ .h)) (.t (.there _ (.thereb _ .h)) (.t (.there _ (.thereb _ .h)) (.t .h (.t (.thereb _ .h) .n)))))))) (rsC res_tmp (rsC res_tmp (rsC res_tmp rsN))) rfl ⟨_, rfl, (by first | rfl | simp only [aa, ac, al, an]), ⟨_, _, _, _, _, _, _, _, _, _, _, _, rfl, hP0_0_3, h10, h15, h20, h49, h30⟩⟩)
 replace hF := bf c42 hF
 refine c_seq <| c_region <| oy hS (y_field fa_api_Ins_0) <| oy hS (y_load (fun w hS => hS.own (mC (mH))) underlying3 rfl rfl) <| oy hS y_bin <| oy hS y_assign <| n_thenN ?_
 refine c_if (ht := fun c52 => ?_) (hf := fun c52 => ?_)
 · replace hF := bt c52 hF
   refine c_seq <| c_region <| oy hS y_move <| oy hS y_nilCheck <| oy hS (y_field fa_api_State_6) <| oy hS (y_load (fun w hS => hS.own (mH)) underlying24 rfl rfl) <| oy hS (y_lenO h25 underlying24) <| oy hS y_bin ?_
   refine oy hS y_assign <| n_thenN ?_
   iterate 2 (refine c_seq ?_)
   refine c_region <| oy hS y_move <| oy hS y_bin <| n_thenN ?_
   refine c_if (ht := fun c53 => ?_) (hf := fun c53 => ?_)
   · replace hF := bt c53 hF
     refine c_seq <| c_region ?_
     iterate 3 (refine oy hS y_assign ?_)
     refine n_thenN ?_
     obtain rfl := osi hF
     refine wp_ret (r_ret (vs := [.int .i64 0, .bool false, .int .i64 4]) (hS.re (.b .hb (.t (.thereb _ .h) (.t (.thereb _ .h) (.t (.thereb _ .h) (.t (.thereb _ .h) (.t (.thereb _ .h) (.t (.thereb _ .h) .n)))))))) (rsC res_tmp (rsC res_tmp (rsC res_tmp rsN))) rfl ⟨_, rfl, (by first | rfl | simp only [aa, ac, al, an]), ⟨_, _, _, _, _, _, _, _, _, _, _, _, rfl, hP0_0_3, h10, h15, h20, h25, h30⟩⟩)
   replace hF := bf c53 hF
   refine wp_skip <| c_seq <| c_region <| oy hS y_move <| oy hS y_nilCheck <| oy hS (y_field fa_api_State_6) <| oy hS (y_load (fun w hS => hS.own (mH)) underlying24 rfl rfl) <| oy hS y_move ?_
   obtain ⟨x54, hx54, hF⟩ := ob hF
   obtain ⟨b55, c56, cl57, hv58, ha59, hb60, hl61, hc62⟩ := OwT.at hx54 h25 enc_len_int
   refine oy hS (y_index hv58 ha59 hb60 underlying24 el_int.size) <| oy hS (y_load (fun w hS => hS.own (mC (mC (mB (mB (mB (mB (mA (mX hl61))))))))) underlying3 rfl (hc62 0 _ rfl)) <| oy hS y_assign <| n_thenN <| c_seq <| c_region ?_
   iterate 2 (refine oy hS y_move ?_)
   refine oy hS y_nilCheck <| oy hS (y_field fa_api_State_6) <| oy hS (y_load (fun w hS => hS.own (mH)) underlying24 rfl rfl) <| oy hS y_move ?_
   obtain ⟨zs63, hzs63, hF⟩ := ob hF
   refine o_uptoP hzs63 h25 enc_len_int underlying24 el_int.size ?_
   intro v64 h65
   refine oy hS y_nilCheck <| oy hS (y_field fa_api_State_6) ?_
   refine o_storeA1 (o := 6) (cl' := (cl_State vP0_0_1 v9 v14 a0.Taken v19 a0.PC v64 a0.Stop v29 a0.Jump a0.Delay)) hS (by kernel_rfl) (by exact Nat.le_of_ble_eq_true rfl) (Upd.here _) (by exact sz_S_int) (h65).one (h65).cell ?_
   clear hS; intro w hS
   refine n_thenN <| c_seq <| c_region <| oy hS y_move ?_
   iterate 3 (refine oy hS y_assign ?_)
   refine n_thenN ?_
   obtain rfl := osi hF
   refine wp_ret (r_ret (vs := [.int .i64 x54, .bool true, .int .i64 0]) (hS.re (.b .hb (.t (.thereb _ .h) (.t (.thereb _ .h) (.t (.thereb _ .h) (.t (.thereb _ .h) (.t (.thereb _ .h) (.t (.thereb _ .h) .n)))))))) (rsC res_tmp (rsC res_tmp (rsC res_tmp rsN))) rfl ⟨_, rfl, (by first | rfl | simp only [aa, ac, al, an]), ⟨_, _, _, _, _, _, _, _, _, _, _, _, rfl, hP0_0_3, h10, h15, h20, h65, h30⟩⟩)
 replace hF := bf c52 hF
 refine wp_skip <| c_seq <| c_region ?_
 iterate 3 (refine oy hS y_assign ?_)
 refine n_thenN ?_
 obtain rfl := osi hF
 refine wp_ret (r_ret (vs := [.int .i64 0, .bool false, .int .i64 0]) (hS.re (.b .hb (.t (.thereb _ .h) (.t (.thereb _ .h) (.t (.thereb _ .h) (.t (.thereb _ .h) (.t (.thereb _ .h) (.t (.thereb _ .h) .n)))))))) (rsC res_tmp (rsC res_tmp (rsC res_tmp rsN))) rfl ⟨_, rfl, (by first | rfl | simp only [aa, ac, al, an]), ⟨_, _, _, _, _, _, _, _, _, _, _, _, rfl, hP0_0_3, h10, h15, h20, h25, h30⟩⟩)
theorem w_seq_Turn {g : Frag} {a0 : T_State} {b0_ : Nat} {LB0_ : Own} {a1 : T_Ins} {a2 : Int} {a3 : Int} {r : (T_State × Int × Bool × Int)} (h0 : Bx_State b0_ a0 LB0_) (hF : seq_Turn a0 a1 a2 a3 = some r) : LC Try.prog 64 #[.pointer (some ⟨b0_, 0, none⟩), .agg (enc_Ins a1).toArray, .int .u32 a2, .int .i64 a3] g LB0_ (fun v L => ∃ (LB' : Own), v = .tuple #[.int .i64 r.2.1, .bool r.2.2.1, .int .i64 r.2.2.2] ∧ L = (LB' ++ []) ∧ Bx_State b0_ r.1 LB') := w_seq_Turn_ h0 hF

def isa_Late (a0 : Int) : Int :=
  bif decide (a0 = 14) then 2 else bif decide (a0 = 15) then 2 else bif decide (a0 = 26) then 2 else bif decide (a0 = 20) then 3 else bif decide (a0 = 24) then 3 else bif decide (a0 = 16) then 4 else bif decide (a0 = 17) then 4 else 1
theorem w_isa_Late_ {g : Frag} {a0 : Int} {r : Int}  (hF : isa_Late a0 = r) : LCs Try.prog 67 #[.int .i64 a0] g (.int .i64 r) := by
 unfold isa_Late at hF
 refine lc_body (k := 14) (av := [.int .i64 a0]) func67 rfl rfl (h := fun W hS => ?_)
 refine c_seq <| c_region <| oy hS y_assign <| n_thenN ?_
 iterate 2 (refine c_seq ?_)
 refine c_region <| oy hS y_move <| n_thenN <| c_block ?_
 iterate 2 (refine c_seq ?_)
 refine c_region <| oy hS y_bin <| oy hS y_assign <| n_thenN ?_
 refine c_if (ht := fun c1 => ?_) (hf := fun c1 => ?_)
 · replace hF := bt c1 hF
   refine wp_skip ?_
   refine c_ifT c1 ?_
   refine c_seq <| c_region <| oy hS y_assign <| n_thenN ?_
   subst hF
   exact wp_ret (wr1 hS)
 replace hF := bf c1 hF
 refine c_seq <| c_region <| oy hS y_bin <| oy hS y_assign <| n_thenN ?_
 refine c_if (ht := fun c2 => ?_) (hf := fun c2 => ?_)
 · replace hF := bt c2 hF
   refine wp_skip ?_
   refine c_ifT c2 ?_
   refine c_seq <| c_region <| oy hS y_assign <| n_thenN ?_
   subst hF
   exact wp_ret (wr1 hS)
 replace hF := bf c2 hF
 refine c_region <| oy hS y_bin <| oy hS y_assign <| n_thenN ?_
 refine c_if (ht := fun c3 => ?_) (hf := fun c3 => ?_)
 · replace hF := bt c3 hF
   refine c_seq <| c_region <| oy hS y_assign <| n_thenN ?_
   subst hF
   exact wp_ret (wr1 hS)
 replace hF := bf c3 hF
 iterate 2 (refine c_seq ?_)
 refine c_region <| oy hS y_bin <| oy hS y_assign <| n_thenN ?_
 refine c_if (ht := fun c4 => ?_) (hf := fun c4 => ?_)
 · replace hF := bt c4 hF
   refine wp_skip ?_
   refine c_ifT c4 ?_
   refine c_seq <| c_region <| oy hS y_assign <| n_thenN ?_
   subst hF
   exact wp_ret (wr1 hS)
 replace hF := bf c4 hF
 refine c_region <| oy hS y_bin <| oy hS y_assign <| n_thenN ?_
 refine c_if (ht := fun c5 => ?_) (hf := fun c5 => ?_)
 · replace hF := bt c5 hF
   refine c_seq <| c_region <| oy hS y_assign <| n_thenN ?_
   subst hF
   exact wp_ret (wr1 hS)
 replace hF := bf c5 hF
 iterate 2 (refine c_seq ?_)
 refine c_region <| oy hS y_bin <| oy hS y_assign <| n_thenN ?_
 refine c_if (ht := fun c6 => ?_) (hf := fun c6 => ?_)
 · replace hF := bt c6 hF
   refine wp_skip ?_
   refine c_ifT c6 ?_
   refine c_seq <| c_region <| oy hS y_assign <| n_thenN ?_
   subst hF
   exact wp_ret (wr1 hS)
 replace hF := bf c6 hF
 refine c_region <| oy hS y_bin <| oy hS y_assign <| n_thenN ?_
 refine c_if (ht := fun c7 => ?_) (hf := fun c7 => ?_)
 · replace hF := bt c7 hF
   refine c_seq <| c_region <| oy hS y_assign <| n_thenN ?_
   subst hF
   exact wp_ret (wr1 hS)
 replace hF := bf c7 hF
 refine wp_skip <| c_seq <| c_region <| oy hS y_assign <| n_thenN ?_
 subst hF
 exact wp_ret (wr1 hS)
theorem w_isa_Late {g : Frag} {a0 : Int}  : LCs Try.prog 67 #[.int .i64 a0] g (.int .i64 (isa_Late a0)) := w_isa_Late_  rfl

noncomputable def pipe_issue_k2 (x381 : T_Ins) (r401 : (T_State × Int × Int)) (x175 : Int) : (Bool × Int × (List Int) × (List Int) × (List Int) × Int × (List Int) × Int × (List Int) × Int × (List T_Write) × Int × Int) → Option (Step (Bool × Int × (List Int) × (List Int) × (List Int) × Int × (List Int) × Int × (List Int) × Int × (List T_Write) × Int × Int) (T_State × Bool)) := fun (x463, x464, x465, x470, x475, x480, x481, x486, x487, x492, x493, x498, x499) => bif decide (x464 ≠ 0) then some (.done (((⟨x465, x470, x475, x480, x481, x486, x487, x464, x493, x498, x499⟩ : T_State), x463))) else bif (isa_HasD (isa_Shape x381.Op)) then (app' x493 ([(⟨x381.D, r401.2.1, IntKind.i64.wrap ((isa_Late x381.Op) - 1)⟩ : T_Write)] : List T_Write)).bind fun zs544 => some (.next (x463, IntKind.i64.wrap (x175 + 1), x465, x470, x475, x480, x481, x486, x487, x492, zs544, x498, x499)) else some (.next (x463, IntKind.i64.wrap (x175 + 1), x465, x470, x475, x480, x481, x486, x487, x492, x493, x498, x499))
noncomputable def pipe_issue_b1 (a1 : (A4 T_Ins)) (r2 : (List Int)) : (Bool × Int × (List Int) × (List Int) × (List Int) × Int × (List Int) × Int × (List Int) × Int × (List T_Write) × Int × Int) → Option (Step (Bool × Int × (List Int) × (List Int) × (List Int) × Int × (List Int) × Int × (List Int) × Int × (List T_Write) × Int × Int) (T_State × Bool)) := fun (x174, x175, x176, x181, x186, x191, x192, x197, x198, x203, x204, x209, x210) => bif decide (x175 < 4) then (at' [a1.x0, a1.x1, a1.x2, a1.x3] x175).bind fun x381 => (at' r2 x381.A).bind fun x383 => (at' r2 x381.B).bind fun x392 => (seq_Act (⟨x176, x181, x186, x191, x192, x197, x198, x203, x204, x209, x210⟩ : T_State) x381 x383 x392).bind fun r401 => cut (σ := (Bool × Int × (List Int) × (List Int) × (List Int) × Int × (List Int) × Int × (List Int) × Int × (List T_Write) × Int × Int)) (bif decide (r401.2.2 = 0) then (seq_Turn r401.1 x381 x383 (imin (IntKind.i64.wrap ((IntKind.i64.wrap (r401.1.PC + 1)) + 2)) 1024)).bind fun r503 => bif r503.2.2.1 then some (.next (true, r503.2.2.2, r503.1.Regs, r503.1.Mem, r503.1.In_, r503.1.Taken, r503.1.Out, r503.1.PC, r503.1.Stack, r503.1.Stop, r503.1.Fly, r503.2.1, 2)) else some (.next (x174, r503.2.2.2, r503.1.Regs, r503.1.Mem, r503.1.In_, r503.1.Taken, r503.1.Out, r503.1.PC, r503.1.Stack, r503.1.Stop, r503.1.Fly, r503.1.Jump, r503.1.Delay)) else some (.next (x174, r401.2.2, r401.1.Regs, r401.1.Mem, r401.1.In_, r401.1.Taken, r401.1.Out, r401.1.PC, r401.1.Stack, r401.1.Stop, r401.1.Fly, r401.1.Jump, r401.1.Delay))) (pipe_issue_k2 x381 r401 x175) else some (.done (((⟨x176, x181, x186, x191, x192, x197, x198, x203, x204, x209, x210⟩ : T_State), x174)))
noncomputable def pipe_issue (a0 : T_State) (a1 : (A4 T_Ins)) : Option (T_State × Bool) :=
  (slices_Clone_uint32 a0.Regs).bind fun r2 => loop (σ := (Bool × Int × (List Int) × (List Int) × (List Int) × Int × (List Int) × Int × (List Int) × Int × (List T_Write) × Int × Int)) (pipe_issue_b1 a1 r2) (false, 0, a0.Regs, a0.Mem, a0.In_, a0.Taken, a0.Out, a0.PC, a0.Stack, a0.Stop, a0.Fly, a0.Jump, a0.Delay)
theorem w_pipe_issue_ {g : Frag} {a0 : T_State} {b0_ : Nat} {LB0_ : Own} {a1 : (A4 T_Ins)} {r : (T_State × Bool)} (h0 : Bx_State b0_ a0 LB0_) (hF : pipe_issue a0 a1 = some r) : LC Try.prog 45 #[.pointer (some ⟨b0_, 0, none⟩), .agg (enc_Bundle a1).toArray] g LB0_ (fun v L => ∃ (LB' : Own), v = .bool r.2 ∧ L = (LB' ++ []) ∧ Bx_State b0_ r.1 LB') := by
 obtain ⟨vP0_0_1, vP0_1_5, vP0_2_9, vP0_4_13, vP0_6_17, vP0_8_21, LXP0_0_2, LXP0_1_6, LXP0_2_10, LXP0_4_14, LXP0_6_18, LXP0_8_22, hL0_, hP0_0_3, hP0_1_7, hP0_2_11, hP0_4_15, hP0_6_19, hP0_8_23⟩ := h0
 unfold pipe_issue at hF
 refine lc_body (k := 96) (av := [.pointer (some ⟨b0_, 0, none⟩), .agg (enc_Bundle a1).toArray]) func45 rfl rfl (h := fun W hS => ?_)
 have hS := hS.own_eq hL0_
 refine c_seq <| c_region ?_
 refine o_boxP (cl := (enc_Bundle a1)) rfl hS ?_
 clear hS; intro b1 w hS
 refine oy hS y_assign <| n_thenN <| c_seq <| c_region <| oy hS y_move <| oy hS y_nilCheck <| oy hS (y_field fa_api_State_0) <| oy hS (y_load (fun w hS => hS.own (mC (mH))) underlying23 rfl rfl) ?_
 obtain ⟨r2, hr2, hF⟩ := ob hF
 refine o_call0 hS func60 rfl rfl (hc := (w_slices_Clone_uint32 (a0 := a0.Regs) (h0 := (OwT.plus hP0_0_3 hS (fun p hp => mC (mC (mA (hp)))))) (hF := hr2))) (h := ?_)
 clear hS; intro v3 LY4 w hS hr5
 obtain ⟨v_0_6, LX_0_7, rfl, rfl, h_0_8⟩ := hr5
 simp only [aa, ac, al] at hS
 refine oy hS y_assign <| n_thenN ?_
 iterate 2 (refine c_seq ?_)
 refine c_region ?_
 refine oy hS (y_loadW (fun w hS => hS.own (mB (mH))) underlying37 rfl (by exact sz_api_Bundle)) ?_
 refine oy hS y_move <| n_thenN <| c_block ?_
 refine c_loopP hF (fun (q : (Bool × Int × (List Int) × (List Int) × (List Int) × Int × (List Int) × Int × (List Int) × Int × (List T_Write) × Int × Int)) a w' => ∃ (v177 : Value) (v182 : Value) (v187 : Value) (v193 : Value) (v199 : Value) (v205 : Value) (LX179 : Own) (LX184 : Own) (LX189 : Own) (LX195 : Own) (LX201 : Own) (LX207 : Own), OwT 35 enc_uint32 1 q.2.2.1 v177 LX179 ∧ OwT 35 enc_uint32 1 q.2.2.2.1 v182 LX184 ∧ OwT 35 enc_uint32 1 q.2.2.2.2.1 v187 LX189 ∧ OwT 35 enc_uint32 1 q.2.2.2.2.2.2.1 v193 LX195 ∧ OwT 3 enc_int 1 q.2.2.2.2.2.2.2.2.1 v199 LX201 ∧ OwT 71 enc_Write 3 q.2.2.2.2.2.2.2.2.2.2.1 v205 LX207 ∧ (∃ s : Nat → Value, a = Ac ((((((Fm.dead 96 s).upd 0 (.pointer (some ⟨b0_, 0, none⟩))).upd 4 (.bool q.1)).upd 5 v_0_6).upd 19 (.agg (enc_Bundle a1).toArray)).upd 20 (.int .i64 q.2.1))) ∧ St W g LB0_ ((b0_, blk (cl_State v177 v182 v187 q.2.2.2.2.2.1 v193 q.2.2.2.2.2.2.2.1 v199 q.2.2.2.2.2.2.2.2.2.1 v205 q.2.2.2.2.2.2.2.2.2.2.2.1 q.2.2.2.2.2.2.2.2.2.2.2.2) 27) :: (LX179 ++ (LX184 ++ (LX189 ++ (LX195 ++ (LX201 ++ (LX207 ++ (LX_0_7 ++ [])))))))) w') ⟨vP0_0_1, vP0_1_5, vP0_2_9, vP0_4_13, vP0_6_17, vP0_8_21, LXP0_0_2, LXP0_1_6, LXP0_2_10, LXP0_4_14, LXP0_6_18, LXP0_8_22, hP0_0_3, hP0_1_7, hP0_2_11, hP0_4_15, hP0_6_19, hP0_8_23, mk_exF, (hS.re (.b (.there _ (.thereb _ .hb)) (.t (.there _ (.thereb _ .h)) (.t (.there _ (.thereb _ .h)) (.t (.there _ (.thereb _ .h)) (.t (.there _ (.thereb _ .h)) (.t (.there _ (.thereb _ .h)) (.t (.there _ (.thereb _ .h)) (.t .h .n)))))))))⟩ ?_
 clear hS hF
 intro n378 q a w hI hq
 obtain ⟨x174, x175, x176, x181, x186, x191, x192, x197, x198, x203, x204, x209, x210⟩ := q
 obtain ⟨v177, v182, v187, v193, v199, v205, LX179, LX184, LX189, LX195, LX201, LX207, h178, h183, h188, h194, h200, h206, ⟨s379, rfl⟩, hS⟩ := hq
 replace h178 : OwT 35 enc_uint32 1 x176 v177 LX179 := h178
 replace h183 : OwT 35 enc_uint32 1 x181 v182 LX184 := h183
 replace h188 : OwT 35 enc_uint32 1 x186 v187 LX189 := h188
 replace h194 : OwT 35 enc_uint32 1 x192 v193 LX195 := h194
 replace h200 : OwT 3 enc_int 1 x198 v199 LX201 := h200
 replace h206 : OwT 71 enc_Write 3 x204 v205 LX207 := h206
 obtain ⟨z376, hF, hK377⟩ := iter_step hI
 clear hI
 dsimp only [pipe_issue_b1] at hF
 refine c_seq <| c_region <| oy hS y_bin <| n_thenN <| c_seq ?_
 refine c_if (ht := fun c380 => ?_) (hf := fun c380 => ?_)
 · replace hF := bt c380 hF
   refine wp_skip <| c_seq <| c_block <| c_seq <| c_region ?_
   obtain ⟨x381, hx381, hF⟩ := ob hF
   refine oy hS (y_ixA (enc := enc_Ins) hx381 enc_len_Ins underlying37 rfl underlying31 rfl (by exact sz_api_Ins)) ?_
   refine o_allocP (cl := (enc_Ins ⟨0, 0, 0, 0, 0, ByteArray.empty⟩)) zr_api_Ins rfl hS ?_
   clear hS; intro b382 w hS
   refine o_storeW (vs := (enc_Ins x381)) hS (by exact rfl) (Upd.here _) (by exact sz_api_Ins) (enc_one_Ins _) ?_
   clear hS; intro w hS
   refine n_thenN <| c_seq ?_
   refine c_quiet (by kernel_rfl) (by kernel_rfl) hS ?_
   refine qy y_move <| qy (y_field fa_api_Ins_2) <| qy (y_load (fun w hS => hS.own (mH)) underlying3 rfl rfl) ?_
   obtain ⟨x383, hx383, hF⟩ := ob hF
   obtain ⟨b384, c385, cl386, hv387, ha388, hb389, hl390, hc391⟩ := OwT.at hx383 h_0_8 enc_len_uint32
   refine qy (y_index hv387 ha388 hb389 underlying23 el_uint32.size) <| qy (y_load (fun w hS => hS.own (mC (mC (mB (mB (mB (mB (mB (mB (mA (mX hl390))))))))))) underlying35 rfl (hc391 0 _ rfl)) <| qy y_move <| qy (y_field fa_api_Ins_3) <| qy (y_load (fun w hS => hS.own (mH)) underlying3 rfl rfl) ?_
   obtain ⟨x392, hx392, hF⟩ := ob hF
   obtain ⟨b393, c394, cl395, hv396, ha397, hb398, hl399, hc400⟩ := OwT.at hx392 h_0_8 enc_len_uint32
   refine qy (y_index hv396 ha397 hb398 underlying23 el_uint32.size) <| qy (y_load (fun w hS => hS.own (mC (mC (mB (mB (mB (mB (mB (mB (mA (mX hl399))))))))))) underlying35 rfl (hc400 0 _ rfl)) ?_
   iterate 2 (refine qy y_assign ?_)
   refine q_nilN (h := ?_)
   clear hS; intro w hS
   refine c_seq <| c_region <| oy hS y_move ?_
   refine oy hS (y_loadW (fun w hS => hS.own (mH)) underlying31 rfl (by exact sz_api_Ins)) ?_
   iterate 2 (refine oy hS y_move ?_)
   have hS := hS.re (.b (.thereb _ .hb) (.t (.thereb _ .h) (.t (.thereb _ .h) (.t (.thereb _ .h) (.t (.thereb _ .h) (.t (.thereb _ .h) (.t (.thereb _ .h) (.b .hb (.t .h .n)))))))))
   have hS2 := hS.spl (.cons _ (.app _ (.app _ (.app _ (.app _ (.app _ (.app _ (.nil _))))))))
   obtain ⟨r401, hr401, hF⟩ := ob hF
   refine o_call hS2 func63 rfl rfl (hc := (w_seq_Act (a0 := (⟨x176, x181, x186, x191, x192, x197, x198, x203, x204, x209, x210⟩ : T_State)) (a1 := x381) (a2 := x383) (a3 := x392) (h0 := (⟨_, _, _, _, _, _, _, _, _, _, _, _, rfl, h178, h183, h188, h194, h200, h206⟩ : Bx_State b0_ (⟨x176, x181, x186, x191, x192, x197, x198, x203, x204, x209, x210⟩ : T_State) ((b0_, blk (cl_State v177 v182 v187 x191 v193 x197 v199 x203 v205 x209 x210) 27) :: (LX179 ++ (LX184 ++ (LX189 ++ (LX195 ++ (LX201 ++ (LX207 ++ []))))))))) (hF := hr401))) (h := ?_)
   clear hS; intro v402 LY403 w hS hr404
   clear hS2
   obtain ⟨LB405, rfl, rfl, hb406⟩ := hr404
   obtain ⟨vB_0_407, vB_1_411, vB_2_415, vB_4_419, vB_6_423, vB_8_427, LXB_0_408, LXB_1_412, LXB_2_416, LXB_4_420, LXB_6_424, LXB_8_428, rfl, hB_0_409, hB_1_413, hB_2_417, hB_4_421, hB_6_425, hB_8_429⟩ := hb406
   simp only [aa, ac, al] at hS
   refine oy hS y_move ?_
   iterate 2 (refine oy hS (y_extract rfl) ?_)
   iterate 2 (refine oy hS y_assign ?_)
   refine n_thenN ?_
   obtain ⟨z500, hF, hK501⟩ := cut_step hF
   refine c_cutP (fun a w' => ∃ (x463 : Bool) (x464 : Int) (x465 : (List Int)) (x470 : (List Int)) (x475 : (List Int)) (x480 : Int) (x481 : (List Int)) (x486 : Int) (x487 : (List Int)) (x492 : Int) (x493 : (List T_Write)) (x498 : Int) (x499 : Int) (v466 : Value) (v471 : Value) (v476 : Value) (v482 : Value) (v488 : Value) (v494 : Value) (LX468 : Own) (LX473 : Own) (LX478 : Own) (LX484 : Own) (LX490 : Own) (LX496 : Own), pipe_issue_k2 x381 r401 x175 (x463, x464, x465, x470, x475, x480, x481, x486, x487, x492, x493, x498, x499) = some z376 ∧ OwT 35 enc_uint32 1 x465 v466 LX468 ∧ OwT 35 enc_uint32 1 x470 v471 LX473 ∧ OwT 35 enc_uint32 1 x475 v476 LX478 ∧ OwT 35 enc_uint32 1 x481 v482 LX484 ∧ OwT 3 enc_int 1 x487 v488 LX490 ∧ OwT 71 enc_Write 3 x493 v494 LX496 ∧ (∃ s : Nat → Value, a = Ac (((((((((Fm.dead 96 s).upd 0 (.pointer (some ⟨b0_, 0, none⟩))).upd 4 (.bool x463)).upd 5 v_0_6).upd 7 (.pointer (some ⟨b382, 0, none⟩))).upd 10 (.int .u32 r401.2.1)).upd 11 (.int .i64 x464)).upd 19 (.agg (enc_Bundle a1).toArray)).upd 20 (.int .i64 x175))) ∧ St W g LB0_ ((b0_, blk (cl_State v466 v471 v476 x480 v482 x486 v488 x492 v494 x498 x499) 27) :: ((b382, blk (enc_Ins x381) 31) :: (LX468 ++ (LX473 ++ (LX478 ++ (LX484 ++ (LX490 ++ (LX496 ++ (LX_0_7 ++ []))))))))) w') ?_ ?_
   · skip
     refine c_seq <| c_region <| oy hS y_move <| oy hS y_bin <| n_thenN ?_
     refine c_if (ht := fun c502 => ?_) (hf := fun c502 => ?_)
     · replace hF := bt c502 hF
       refine c_seq <| c_region <| oy hS y_assign <| n_thenN <| c_seq <| c_region <| oy hS y_assign <| n_thenN ?_
       refine c_seq ?_
       refine c_heldL 10 18 (by kernel_rfl) rfl hS ?_
       clear hS; intro w hS
       refine hy0 0 rfl wn (by kernel_rfl) (nq (P := Try.prog) (fn := Try.f45)) (fun _ => hS.cb) y_move ?_
       refine hy 1 rfl wn (by kernel_rfl) (nq (P := Try.prog) (fn := Try.f45)) hS.cb (y_loadW (fun w hS => hS.own (mC (mB (mB (mB (mB (mB (mB (mH))))))))) underlying31 rfl (by exact sz_api_Ins)) ?_
       refine hy0 2 rfl wn (by kernel_rfl) (nq (P := Try.prog) (fn := Try.f45)) (fun _ => hS.cb) y_move ?_
       refine hy0 3 rfl wn (by kernel_rfl) (nq (P := Try.prog) (fn := Try.f45)) (fun _ => hS.cb) y_move ?_
       refine hy0 4 rfl wn (by kernel_rfl) (nq (P := Try.prog) (fn := Try.f45)) (fun _ => hS.cb) y_nilCheck ?_
       refine hy0 5 rfl wn (by kernel_rfl) (nq (P := Try.prog) (fn := Try.f45)) (fun _ => hS.cb) (y_field fa_api_State_5) ?_
       refine hy 6 rfl wn (by kernel_rfl) (nq (P := Try.prog) (fn := Try.f45)) hS.cb (y_load (fun w hS => hS.own (mH)) underlying3 rfl rfl) ?_
       refine hy0 7 rfl wn (by kernel_rfl) (nq (P := Try.prog) (fn := Try.f45)) (fun _ => hS.cb) y_bin ?_
       refine hy0 8 rfl wn (by kernel_rfl) (nq (P := Try.prog) (fn := Try.f45)) (fun _ => hS.cb) y_bin ?_
       refine hy0 9 rfl wn (by kernel_rfl) (nq (P := Try.prog) (fn := Try.f45)) (fun _ => hS.cb) y_min ?_
       refine hb1 10 (by kernel_rfl) (hb_op rfl wn (nl (P := Try.prog) (fn := Try.f45)) ?_)
       have hS2 := hS.spl (.cons _ (.app _ (.app _ (.app _ (.app _ (.app _ (.app _ (.nil _))))))))
       obtain ⟨r503, hr503, hF⟩ := ob hF
       refine o_call hS2 func64 rfl rfl (hc := (w_seq_Turn (a0 := r401.1) (a1 := x381) (a2 := x383) (a3 := (imin (IntKind.i64.wrap ((IntKind.i64.wrap (r401.1.PC + 1)) + 2)) 1024)) (h0 := (⟨_, _, _, _, _, _, _, _, _, _, _, _, rfl, hB_0_409, hB_1_413, hB_2_417, hB_4_421, hB_6_425, hB_8_429⟩ : Bx_State b0_ r401.1 ((b0_, blk (cl_State vB_0_407 vB_1_411 vB_2_415 r401.1.Taken vB_4_419 r401.1.PC vB_6_423 r401.1.Stop vB_8_427 r401.1.Jump r401.1.Delay) 27) :: (LXB_0_408 ++ (LXB_1_412 ++ (LXB_2_416 ++ (LXB_4_420 ++ (LXB_6_424 ++ (LXB_8_428 ++ []))))))))) (hF := hr503))) (h := ?_)
       clear hS; intro v504 LY505 w hS hr506
       clear hS2
       obtain ⟨LB507, rfl, rfl, hb508⟩ := hr506
       obtain ⟨vB_0_509, vB_1_513, vB_2_517, vB_4_521, vB_6_525, vB_8_529, LXB_0_510, LXB_1_514, LXB_2_518, LXB_4_522, LXB_6_526, LXB_8_530, rfl, hB_0_511, hB_1_515, hB_2_519, hB_4_523, hB_6_527, hB_8_531⟩ := hb508
       simp only [aa, ac, al] at hS
       refine hb_next (fun h => absurd h (by decide)) ?_
       refine hy0 11 rfl wn (by kernel_rfl) (nq (P := Try.prog) (fn := Try.f45)) (fun h => absurd h (by decide)) y_move ?_
       refine hy0 12 rfl wn (by kernel_rfl) (nq (P := Try.prog) (fn := Try.f45)) (fun h => absurd h (by decide)) (y_extract rfl) ?_
       refine hy0 13 rfl wn (by kernel_rfl) (nq (P := Try.prog) (fn := Try.f45)) (fun h => absurd h (by decide)) (y_extract rfl) ?_
       refine hy0 14 rfl wn (by kernel_rfl) (nq (P := Try.prog) (fn := Try.f45)) (fun h => absurd h (by decide)) (y_extract rfl) ?_
       refine hy0 15 rfl wn (by kernel_rfl) (nq (P := Try.prog) (fn := Try.f45)) (fun h => absurd h (by decide)) y_assign ?_
       refine hy0 16 rfl wn (by kernel_rfl) (nq (P := Try.prog) (fn := Try.f45)) (fun h => absurd h (by decide)) y_assign ?_
       refine hy0 17 rfl wn (by kernel_rfl) (nq (P := Try.prog) (fn := Try.f45)) (fun h => absurd h (by decide)) y_assign ?_
       refine hb_done (by kernel_rfl) ?_
       refine c_seq <| c_region <| oy hS y_move <| n_thenN ?_
       refine c_if (ht := fun c533 => ?_) (hf := fun c533 => ?_)
       · replace hF := bt c533 hF
         refine c_region ?_
         iterate 3 (refine oy hS y_move ?_)
         refine oy hS y_nilCheck <| oy hS (y_field fa_api_State_9) ?_
         refine o_storeA1 (o := 9) (cl' := (cl_State vB_0_509 vB_1_513 vB_2_517 r503.1.Taken vB_4_521 r503.1.PC vB_6_525 r503.1.Stop vB_8_529 r503.2.1 r503.1.Delay)) hS (by kernel_rfl) (by exact Nat.le_of_ble_eq_true rfl) (Upd.here _) (by exact sz_int) rfl rfl ?_
         clear hS; intro w hS
         refine oy hS y_nilCheck <| oy hS (y_field fa_api_State_10) ?_
         refine o_storeA1 (o := 10) (cl' := (cl_State vB_0_509 vB_1_513 vB_2_517 r503.1.Taken vB_4_521 r503.1.PC vB_6_525 r503.1.Stop vB_8_529 r503.2.1 2)) hS (by kernel_rfl) (by exact Nat.le_of_ble_eq_true rfl) (Upd.here _) (by exact sz_int) rfl rfl ?_
         clear hS; intro w hS
         refine oy hS y_assign <| n_thenN ?_
         obtain rfl := osi hF
         change ∃ _, _
         exact ⟨true, r503.2.2.2, r503.1.Regs, r503.1.Mem, r503.1.In_, r503.1.Taken, r503.1.Out, r503.1.PC, r503.1.Stack, r503.1.Stop, r503.1.Fly, r503.2.1, 2, vB_0_509, vB_1_513, vB_2_517, vB_4_521, vB_6_525, vB_8_529, LXB_0_510, LXB_1_514, LXB_2_518, LXB_4_522, LXB_6_526, LXB_8_530, hK501, hB_0_511, hB_1_515, hB_2_519, hB_4_523, hB_6_527, hB_8_531, mk_exF, (hS.re (.b .hb (.b (.there _ (.there _ (.there _ (.there _ (.there _ (.there _ .hb)))))) (.t .h (.t .h (.t .h (.t .h (.t .h (.t .h (.t .h .n))))))))))⟩
       replace hF := bf c533 hF
       refine wp_skip ?_
       obtain rfl := osi hF
       change ∃ _, _
       exact ⟨x174, r503.2.2.2, r503.1.Regs, r503.1.Mem, r503.1.In_, r503.1.Taken, r503.1.Out, r503.1.PC, r503.1.Stack, r503.1.Stop, r503.1.Fly, r503.1.Jump, r503.1.Delay, vB_0_509, vB_1_513, vB_2_517, vB_4_521, vB_6_525, vB_8_529, LXB_0_510, LXB_1_514, LXB_2_518, LXB_4_522, LXB_6_526, LXB_8_530, hK501, hB_0_511, hB_1_515, hB_2_519, hB_4_523, hB_6_527, hB_8_531, mk_exF, (hS.re (.b .hb (.b (.there _ (.there _ (.there _ (.there _ (.there _ (.there _ .hb)))))) (.t .h (.t .h (.t .h (.t .h (.t .h (.t .h (.t .h .n))))))))))⟩
     replace hF := bf c502 hF
     refine wp_skip ?_
     obtain rfl := osi hF
     change ∃ _, _
     exact ⟨x174, r401.2.2, r401.1.Regs, r401.1.Mem, r401.1.In_, r401.1.Taken, r401.1.Out, r401.1.PC, r401.1.Stack, r401.1.Stop, r401.1.Fly, r401.1.Jump, r401.1.Delay, vB_0_407, vB_1_411, vB_2_415, vB_4_419, vB_6_423, vB_8_427, LXB_0_408, LXB_1_412, LXB_2_416, LXB_4_420, LXB_6_424, LXB_8_428, hK501, hB_0_409, hB_1_413, hB_2_417, hB_4_421, hB_6_425, hB_8_429, mk_exF, (hS.re (.b .hb (.b (.there _ (.there _ (.there _ (.there _ (.there _ (.there _ .hb)))))) (.t .h (.t .h (.t .h (.t .h (.t .h (.t .h (.t .h .n))))))))))⟩
   rintro a w ⟨x463, x464, x465, x470, x475, x480, x481, x486, x487, x492, x493, x498, x499, v466, v471, v476, v482, v488, v494, LX468, LX473, LX478, LX484, LX490, LX496, hF, h467, h472, h477, h483, h489, h495, ⟨s534, rfl⟩, hS⟩
   dsimp only [pipe_issue_k2] at hF
   iterate 2 (refine c_seq ?_)
   refine c_region <| oy hS y_move <| oy hS y_bin <| n_thenN ?_
   refine c_if (ht := fun c535 => ?_) (hf := fun c535 => ?_)
   · replace hF := bt c535 hF
     refine c_seq <| c_region ?_
     iterate 2 (refine oy hS y_move ?_)
     refine oy hS y_nilCheck <| oy hS (y_field fa_api_State_7) ?_
     refine o_storeA1 (o := 7) (cl' := (cl_State v466 v471 v476 x480 v482 x486 v488 x464 v494 x498 x499)) hS (by kernel_rfl) (by exact Nat.le_of_ble_eq_true rfl) (Upd.here _) (by exact sz_int) rfl rfl ?_
     clear hS; intro w hS
     refine n_thenN <| c_seq <| c_region <| oy hS y_move <| oy hS y_assign <| n_thenN ?_
     obtain rfl := osi hF
     obtain rfl : _ = r := hK377
     refine wp_ret (r_ret (vs := [.bool x463]) (hS.re (.b .hb (.t (.thereb _ .h) (.t (.thereb _ .h) (.t (.thereb _ .h) (.t (.thereb _ .h) (.t (.thereb _ .h) (.t (.thereb _ .h) .n)))))))) (rsC res_tmp rsN) rfl ⟨_, rfl, (by first | rfl | simp only [aa, ac, al, an]), ⟨_, _, _, _, _, _, _, _, _, _, _, _, rfl, h467, h472, h477, h483, h489, h495⟩⟩)
   replace hF := bf c535 hF
   refine wp_skip <| c_seq <| c_region <| oy hS (y_field fa_api_Ins_0) <| oy hS (y_load (fun w hS => hS.own (mC (mH))) underlying3 rfl rfl) ?_
   refine o_callS hS func66 rfl rfl (hc := (w_isa_Shape (a0 := x381.Op))) (h := ?_)
   clear hS; intro w hS
   refine o_callS hS func65 rfl rfl (hc := (w_isa_HasD (a0 := (isa_Shape x381.Op)))) (h := ?_)
   clear hS; intro w hS
   refine n_thenN ?_
   refine c_if (ht := fun c536 => ?_) (hf := fun c536 => ?_)
   · replace hF := bt c536 hF
     refine c_heldL 14 18 (by kernel_rfl) rfl hS ?_
     clear hS; intro w hS
     refine hy0 0 rfl wn (by kernel_rfl) (nq (P := Try.prog) (fn := Try.f45)) (fun _ => hS.cb) y_move ?_
     refine hy0 1 rfl wn (by kernel_rfl) (nq (P := Try.prog) (fn := Try.f45)) (fun _ => hS.cb) y_move ?_
     refine hy0 2 rfl wn (by kernel_rfl) (nq (P := Try.prog) (fn := Try.f45)) (fun _ => hS.cb) y_nilCheck ?_
     refine hy0 3 rfl wn (by kernel_rfl) (nq (P := Try.prog) (fn := Try.f45)) (fun _ => hS.cb) (y_field fa_api_State_8) ?_
     refine hy 4 rfl wn (by kernel_rfl) (nq (P := Try.prog) (fn := Try.f45)) hS.cb (y_load (fun w hS => hS.own (mH)) underlying25 rfl rfl) ?_
     refine hy0 5 rfl wn (by kernel_rfl) (nq (P := Try.prog) (fn := Try.f45)) (fun _ => hS.cb) (y_field fa_api_Ins_1) ?_
     refine hy 6 rfl wn (by kernel_rfl) (nq (P := Try.prog) (fn := Try.f45)) hS.cb (y_load (fun w hS => hS.own (mC (mH))) underlying3 rfl rfl) ?_
     refine hy0 7 rfl wn (by kernel_rfl) (nq (P := Try.prog) (fn := Try.f45)) (fun _ => hS.cb) y_move ?_
     refine hy0 8 rfl wn (by kernel_rfl) (nq (P := Try.prog) (fn := Try.f45)) (fun _ => hS.cb) (y_field fa_api_Ins_0) ?_
     refine hy 9 rfl wn (by kernel_rfl) (nq (P := Try.prog) (fn := Try.f45)) hS.cb (y_load (fun w hS => hS.own (mC (mH))) underlying3 rfl rfl) ?_
     refine hb1 10 (by kernel_rfl) (hb_op rfl wn (nl (P := Try.prog) (fn := Try.f45)) ?_)
     refine o_callS hS func67 rfl rfl (hc := (w_isa_Late (a0 := x381.Op))) (h := ?_)
     clear hS; intro w hS
     refine hb_next (fun _ => hS.cb) ?_
     refine hy0 11 rfl wn (by kernel_rfl) (nq (P := Try.prog) (fn := Try.f45)) (fun _ => hS.cb) y_bin ?_
     refine hy0 12 rfl wn (by kernel_rfl) (nq (P := Try.prog) (fn := Try.f45)) (fun _ => hS.cb) (y_build (cl := (enc_Write ⟨x381.D, r401.2.1, IntKind.i64.wrap ((isa_Late x381.Op) - 1)⟩)) bt_api_Write rfl (by kernel_rfl)) ?_
     refine hb1 13 (by kernel_rfl) (hb_op rfl wn (nl (P := Try.prog) (fn := Try.f45)) ?_)
     refine o_buildT val_Write ([(⟨x381.D, r401.2.1, IntKind.i64.wrap ((isa_Late x381.Op) - 1)⟩ : T_Write)] : List T_Write) hS el_api_Write (fun _ => rfl) enc_len_Write (by decide) rfl (by decide) (hp := rfl) (h := ?_)
     clear hS; intro b537 w hS h538
     have hS : St W g LB0_ ([(b537, blk (([(⟨x381.D, r401.2.1, IntKind.i64.wrap ((isa_Late x381.Op) - 1)⟩ : T_Write)] : List T_Write).flatMap enc_Write) 71)] ++ ((b0_, blk (cl_State v466 v471 v476 x480 v482 x486 v488 x492 v494 x498 x499) 27) :: ((b382, blk (enc_Ins x381) 31) :: (LX468 ++ (LX473 ++ (LX478 ++ (LX484 ++ (LX490 ++ (LX496 ++ (LX_0_7 ++ [])))))))))) w := hS
     refine hb_next (fun _ => (hS.re (.b (.there _ .hb) (.b (.there _ .hb) (.t (.there _ .h) (.t (.there _ .h) (.t (.there _ .h) (.t (.there _ .h) (.t (.there _ .h) (.t (.there _ .h) (.t (.there _ .h) .n)))))))))).cb) ?_
     refine hb1 14 (by kernel_rfl) (hb_op rfl wn (nl (P := Try.prog) (fn := Try.f45)) ?_)
     obtain ⟨zs544, hzs544, hF⟩ := ob hF
     have hS := hS.re (.t .h (.t (.thereb _ (.thereb _ (.there _ (.there _ (.there _ (.there _ (.there _ .h))))))) (.b .hb (.b .hb (.t .h (.t .h (.t .h (.t .h (.t .h (.t .h .n))))))))))
     refine o_appPn (ys := ([(⟨x381.D, r401.2.1, IntKind.i64.wrap ((isa_Late x381.Op) - 1)⟩ : T_Write)] : List T_Write)) (LX := LX496) hzs544 hS el_api_Write h495 rfl enc_len_Write (enc_ones_Write _) (by decide) ?_
     clear hS; intro v540 LX541 w h542 hS
     refine hb_next (fun h => absurd h (by decide)) ?_
     refine hy0 15 rfl wn (by kernel_rfl) (nq (P := Try.prog) (fn := Try.f45)) (fun h => absurd h (by decide)) y_nilCheck ?_
     refine hy0 16 rfl wn (by kernel_rfl) (nq (P := Try.prog) (fn := Try.f45)) (fun h => absurd h (by decide)) (y_field fa_api_State_8) ?_
     refine hb1 17 (by kernel_rfl) (hb_op rfl wn (nl (P := Try.prog) (fn := Try.f45)) ?_)
     have hS := hS.re (.b (.there _ .hb) (.t .h (.b .hb (.t .h (.t .h (.t .h (.t .h (.t .h (.t .h .n)))))))))
     refine o_storeA1 (o := 8) (cl' := (cl_State v466 v471 v476 x480 v482 x486 v488 x492 v540 x498 x499)) hS (by kernel_rfl) (by exact Nat.le_of_ble_eq_true rfl) (Upd.here _) (by exact sz_S_api_Write) (h542).one (h542).cell ?_
     clear hS; intro w hS
     refine hb_next (fun h => absurd h (by decide)) ?_
     refine hb_done (by kernel_rfl) ?_
     refine c_region <| oy hS y_bin <| oy hS y_move <| n_thenN ?_
     obtain rfl := osi hF
     exact ⟨_, hK377, v466, v471, v476, v482, v488, v540, LX468, LX473, LX478, LX484, LX490, LX541, h467, h472, h477, h483, h489, h542, mk_exF, (hS.re (.b .hb (.t (.there _ (.thereb _ .h)) (.t (.there _ (.thereb _ .h)) (.t (.there _ (.thereb _ .h)) (.t (.there _ (.thereb _ .h)) (.t (.there _ (.thereb _ .h)) (.t .h (.t (.thereb _ .h) .n)))))))))⟩
   replace hF := bf c536 hF
   refine wp_skip <| c_region <| oy hS y_bin <| oy hS y_move <| n_thenN ?_
   obtain rfl := osi hF
   exact ⟨_, hK377, v466, v471, v476, v482, v488, v494, LX468, LX473, LX478, LX484, LX490, LX496, h467, h472, h477, h483, h489, h495, mk_exF, (hS.re (.b .hb (.t (.thereb _ .h) (.t (.thereb _ .h) (.t (.thereb _ .h) (.t (.thereb _ .h) (.t (.thereb _ .h) (.t (.thereb _ .h) (.t (.thereb _ .h) .n)))))))))⟩
 replace hF := bf c380 hF
 refine wp_exit ?_
 refine c_seq <| c_region <| oy hS y_move <| oy hS y_assign <| n_thenN ?_
 obtain rfl := osi hF
 obtain rfl : _ = r := hK377
 refine wp_ret (r_ret (vs := [.bool x174]) (hS.re (.b .hb (.t .h (.t .h (.t .h (.t .h (.t .h (.t .h .n)))))))) (rsC res_tmp rsN) rfl ⟨_, rfl, (by first | rfl | simp only [aa, ac, al, an]), ⟨_, _, _, _, _, _, _, _, _, _, _, _, rfl, h178, h183, h188, h194, h200, h206⟩⟩)
theorem w_pipe_issue {g : Frag} {a0 : T_State} {b0_ : Nat} {LB0_ : Own} {a1 : (A4 T_Ins)} {r : (T_State × Bool)} (h0 : Bx_State b0_ a0 LB0_) (hF : pipe_issue a0 a1 = some r) : LC Try.prog 45 #[.pointer (some ⟨b0_, 0, none⟩), .agg (enc_Bundle a1).toArray] g LB0_ (fun v L => ∃ (LB' : Own), v = .bool r.2 ∧ L = (LB' ++ []) ∧ Bx_State b0_ r.1 LB') := w_pipe_issue_ h0 hF

def pipe_settle_1 (a0 : T_Write) (a1 : T_Write) : Int :=
  IntKind.i64.wrap (a0.Left - a1.Left)
theorem w_pipe_settle_1_ {g : Frag} {a0 : T_Write} {a1 : T_Write} {r : Int}  (hF : pipe_settle_1 a0 a1 = r) : LCs Try.prog 69 #[.agg (enc_Write a0).toArray, .agg (enc_Write a1).toArray] g (.int .i64 r) := by
 unfold pipe_settle_1 at hF
 refine lc_body (k := 10) (av := [.agg (enc_Write a0).toArray, .agg (enc_Write a1).toArray]) func69 rfl rfl (h := fun W hS => ?_)
 refine c_seq <| c_region ?_
 refine o_boxP (cl := (enc_Write a0)) rfl hS ?_
 clear hS; intro b1 w hS
 refine o_boxP (cl := (enc_Write a1)) rfl hS ?_
 clear hS; intro b2 w hS
 refine oy hS y_assign <| n_thenN <| c_seq <| c_region <| oy hS (y_field fa_api_Write_2) <| oy hS (y_load (fun w hS => hS.own (mC (mH))) underlying3 rfl rfl) <| oy hS (y_field fa_api_Write_2) <| oy hS (y_load (fun w hS => hS.own (mH)) underlying3 rfl rfl) ?_
 refine oy hS y_bin <| oy hS y_assign <| n_thenN ?_
 subst hF
 exact wp_ret (wr1 hS)
theorem w_pipe_settle_1 {g : Frag} {a0 : T_Write} {a1 : T_Write}  : LCs Try.prog 69 #[.agg (enc_Write a0).toArray, .agg (enc_Write a1).toArray] g (.int .i64 (pipe_settle_1 a0 a1)) := w_pipe_settle_1_  rfl

noncomputable def slices_insertionSortCmpFunc_api_Write_pipe_settle_1_b2 (a1 : Int) (x195 : Int) : ((List T_Write) × Int) → Option (Step ((List T_Write) × Int) (Step ((List T_Write) × Int) (List T_Write))) := fun (x451, x455) => bif decide (a1 < x455) then (at' x451 x455).bind fun x521 => (at' x451 (IntKind.i64.wrap (x455 - 1))).bind fun x530 => bif decide ((pipe_settle_1 x521 x530) < 0) then (at' x451 (IntKind.i64.wrap (x455 - 1))).bind fun x540 => (at' x451 x455).bind fun x549 => (set' x451 x455 x540).bind fun zs565 => (set' zs565 (IntKind.i64.wrap (x455 - 1)) x549).bind fun zs576 => some (.next (zs576, IntKind.i64.wrap (x455 - 1))) else some (.done (.next (x451, IntKind.i64.wrap (x195 + 1)))) else some (.done (.next (x451, IntKind.i64.wrap (x195 + 1))))
noncomputable def slices_insertionSortCmpFunc_api_Write_pipe_settle_1_b1 (a2 : Int) (a1 : Int) : ((List T_Write) × Int) → Option (Step ((List T_Write) × Int) (List T_Write)) := fun (x191, x195) => bif decide (x195 < a2) then loop (σ := ((List T_Write) × Int)) (slices_insertionSortCmpFunc_api_Write_pipe_settle_1_b2 a1 x195) (x191, x195) else some (.done (x191))
noncomputable def slices_insertionSortCmpFunc_api_Write_pipe_settle_1 (a0 : (List T_Write)) (a1 : Int) (a2 : Int) : Option (List T_Write) :=
  loop (σ := ((List T_Write) × Int)) (slices_insertionSortCmpFunc_api_Write_pipe_settle_1_b1 a2 a1) (a0, IntKind.i64.wrap (a1 + 1))
theorem w_slices_insertionSortCmpFunc_api_Write_pipe_settle_1_ {g : Frag} {a0 : (List T_Write)} {v0_ : Value} {LB0_ : Own} {a1 : Int} {a2 : Int} {r : (List T_Write)} (h0 : OwT 71 enc_Write 3 a0 v0_ LB0_) (hF : slices_insertionSortCmpFunc_api_Write_pipe_settle_1 a0 a1 a2 = some r) : LC Try.prog 110 #[v0_, .int .i64 a1, .int .i64 a2, .func (.func 69) #[] #[]] g (LB0_ ++ []) (fun v L => ∃ (LB' : Own), v = .tuple #[] ∧ L = (LB' ++ []) ∧ OwT 71 enc_Write 3 r v0_ LB') := by
 unfold slices_insertionSortCmpFunc_api_Write_pipe_settle_1 at hF
 refine lc_body (k := 53) (av := [v0_, .int .i64 a1, .int .i64 a2, .func (.func 69) #[] #[]]) func110 rfl rfl (h := fun W hS => ?_)
 refine c_seq <| c_region <| oy hS y_move <| oy hS y_bin <| oy hS y_assign <| n_thenN <| c_block ?_
 refine c_loopP hF (fun (q : ((List T_Write) × Int)) a w' => ∃ (LX193 : Own), OwT 71 enc_Write 3 q.1 v0_ LX193 ∧ (∃ s : Nat → Value, a = Ac ((((((Fm.dead 53 s).upd 0 v0_).upd 1 (.int .i64 a1)).upd 2 (.int .i64 a2)).upd 3 (.func (.func 69) #[] #[])).upd 8 (.int .i64 q.2))) ∧ St W g ((LB0_ ++ [])) (LX193 ++ []) w') ⟨LB0_, h0, mk_exF, (hS.re (.t .h .n))⟩ ?_
 clear hS hF
 intro n388 q a w hI hq
 obtain ⟨x191, x195⟩ := q
 obtain ⟨LX193, h192, ⟨s389, rfl⟩, hS⟩ := hq
 replace h192 : OwT 71 enc_Write 3 x191 v0_ LX193 := h192
 obtain ⟨z386, hF, hK387⟩ := iter_step hI
 clear hI
 dsimp only [slices_insertionSortCmpFunc_api_Write_pipe_settle_1_b1] at hF
 iterate 2 (refine c_seq ?_)
 refine c_region ?_
 iterate 2 (refine oy hS y_move ?_)
 refine oy hS y_bin <| n_thenN ?_
 refine c_if (ht := fun c390 => ?_) (hf := fun c390 => ?_)
 · replace hF := bt c390 hF
   refine wp_skip <| c_seq <| c_block <| c_seq <| c_region <| oy hS y_move <| oy hS y_assign <| n_thenN ?_
   refine c_block ?_
   refine c_loopP hF (fun (q : ((List T_Write) × Int)) a w' => ∃ (LX453 : Own), OwT 71 enc_Write 3 q.1 v0_ LX453 ∧ (∃ s : Nat → Value, a = Ac (((((((Fm.dead 53 s).upd 0 v0_).upd 1 (.int .i64 a1)).upd 2 (.int .i64 a2)).upd 3 (.func (.func 69) #[] #[])).upd 8 (.int .i64 x195)).upd 9 (.int .i64 q.2))) ∧ St W g ((LB0_ ++ [])) (LX453 ++ []) w') ⟨LX193, h192, mk_exF, (hS.re (.t .h .n))⟩ ?_
   clear hS hF
   intro n518 q a w hI hq
   obtain ⟨x451, x455⟩ := q
   obtain ⟨LX453, h452, ⟨s519, rfl⟩, hS⟩ := hq
   replace h452 : OwT 71 enc_Write 3 x451 v0_ LX453 := h452
   obtain ⟨z516, hF, hK517⟩ := iter_step hI
   clear hI
   dsimp only [slices_insertionSortCmpFunc_api_Write_pipe_settle_1_b2] at hF
   iterate 2 (refine c_seq ?_)
   refine c_quiet (by kernel_rfl) (by kernel_rfl) hS ?_
   iterate 2 (refine qy y_move ?_)
   refine qy y_bin ?_
   refine q_split (ht := fun c520 => ?_) (hf := fun c520 => ?_)
   · replace hF := bt c520 hF
     refine q_gu rfl rfl rfl ?_
     refine qy y_move ?_
     refine q_gu rfl rfl rfl ?_
     refine qy y_move ?_
     refine q_gu rfl rfl rfl ?_
     refine qy y_move ?_
     refine q_gu rfl rfl rfl ?_
     obtain ⟨x521, hx521, hF⟩ := ob hF
     obtain ⟨b522, c523, cl524, hv525, ha526, hb527, hl528, hc529⟩ := OwT.at hx521 h452 enc_len_Write
     refine qy (y_index hv525 ha526 hb527 underlying25 el_api_Write.size) ?_
     refine q_gu rfl rfl rfl ?_
     refine qy (y_loadN (vs := (enc_Write x521)) (fun w hS => hS.own (mA (mX hl528))) underlying71 rfl (by exact sz_api_Write) (fun j u hj => hc529 j u hj)) ?_
     refine q_gu rfl rfl rfl ?_
     refine qy y_move ?_
     refine q_gu rfl rfl rfl ?_
     refine qy y_move ?_
     refine q_gu rfl rfl rfl ?_
     refine qy y_bin ?_
     refine q_gu rfl rfl rfl ?_
     obtain ⟨x530, hx530, hF⟩ := ob hF
     obtain ⟨b531, c532, cl533, hv534, ha535, hb536, hl537, hc538⟩ := OwT.at hx530 h452 enc_len_Write
     refine qy (y_index hv534 ha535 hb536 underlying25 el_api_Write.size) ?_
     refine q_gu rfl rfl rfl ?_
     refine qy (y_loadN (vs := (enc_Write x530)) (fun w hS => hS.own (mA (mX hl537))) underlying71 rfl (by exact sz_api_Write) (fun j u hj => hc538 j u hj)) ?_
     refine q_gu rfl rfl rfl ?_
     refine q_callVS2 func69 rfl rfl (hc := (w_pipe_settle_1 (a0 := x521) (a1 := x530))) (h := ?_)
     refine q_gu rfl rfl rfl ?_
     refine qy y_bin <| qy y_pickT ?_
     refine q_nilN (h := ?_)
     clear hS; intro w hS
     refine c_if (ht := fun c539 => ?_) (hf := fun c539 => ?_)
     · replace hF := bt c539 hF
       refine wp_skip <| c_seq <| c_block ?_
       refine c_heldL 15 18 (by kernel_rfl) rfl hS ?_
       clear hS; intro w hS
       refine hy0 0 rfl wn (by kernel_rfl) (nq (P := Try.prog) (fn := Try.f110)) (fun _ => hS.cb) y_move ?_
       refine hy0 1 rfl wn (by kernel_rfl) (nq (P := Try.prog) (fn := Try.f110)) (fun _ => hS.cb) y_move ?_
       refine hy0 2 rfl wn (by kernel_rfl) (nq (P := Try.prog) (fn := Try.f110)) (fun _ => hS.cb) y_move ?_
       refine hy0 3 rfl wn (by kernel_rfl) (nq (P := Try.prog) (fn := Try.f110)) (fun _ => hS.cb) y_move ?_
       refine hy0 4 rfl wn (by kernel_rfl) (nq (P := Try.prog) (fn := Try.f110)) (fun _ => hS.cb) y_bin ?_
       refine hy0 5 rfl wn (by kernel_rfl) (nq (P := Try.prog) (fn := Try.f110)) (fun _ => hS.cb) y_move ?_
       refine hy0 6 rfl wn (by kernel_rfl) (nq (P := Try.prog) (fn := Try.f110)) (fun _ => hS.cb) y_move ?_
       refine hy0 7 rfl wn (by kernel_rfl) (nq (P := Try.prog) (fn := Try.f110)) (fun _ => hS.cb) y_bin ?_
       obtain ⟨x540, hx540, hF⟩ := ob hF
       obtain ⟨b541, c542, cl543, hv544, ha545, hb546, hl547, hc548⟩ := OwT.at hx540 h452 enc_len_Write
       refine hy0 8 rfl wn (by kernel_rfl) (nq (P := Try.prog) (fn := Try.f110)) (fun _ => hS.cb) (y_index hv544 ha545 hb546 underlying25 el_api_Write.size) ?_
       refine hy 9 rfl wn (by kernel_rfl) (nq (P := Try.prog) (fn := Try.f110)) hS.cb (y_loadN (vs := (enc_Write x540)) (fun w hS => hS.own (mA (mX hl547))) underlying71 rfl (by exact sz_api_Write) (fun j u hj => hc548 j u hj)) ?_
       refine hy0 10 rfl wn (by kernel_rfl) (nq (P := Try.prog) (fn := Try.f110)) (fun _ => hS.cb) y_move ?_
       refine hy0 11 rfl wn (by kernel_rfl) (nq (P := Try.prog) (fn := Try.f110)) (fun _ => hS.cb) y_move ?_
       obtain ⟨x549, hx549, hF⟩ := ob hF
       obtain ⟨b550, c551, cl552, hv553, ha554, hb555, hl556, hc557⟩ := OwT.at hx549 h452 enc_len_Write
       refine hy0 12 rfl wn (by kernel_rfl) (nq (P := Try.prog) (fn := Try.f110)) (fun _ => hS.cb) (y_index hv553 ha554 hb555 underlying25 el_api_Write.size) ?_
       refine hy 13 rfl wn (by kernel_rfl) (nq (P := Try.prog) (fn := Try.f110)) hS.cb (y_loadN (vs := (enc_Write x549)) (fun w hS => hS.own (mA (mX hl556))) underlying71 rfl (by exact sz_api_Write) (fun j u hj => hc557 j u hj)) ?_
       obtain ⟨zs565, hzs565, hF⟩ := ob hF
       obtain ⟨b558, c559, cl560, hv561, ha562, hb563, hl564⟩ := OwT.at_set hzs565 h452 enc_len_Write
       refine hy0 14 rfl wn (by kernel_rfl) (nq (P := Try.prog) (fn := Try.f110)) (fun _ => hS.cb) (y_index hv561 ha562 hb563 underlying25 el_api_Write.size) ?_
       refine hb1 15 (by kernel_rfl) (hb_op rfl wn (nl (P := Try.prog) (fn := Try.f110)) ?_)
       refine o_storeON (L' := fun X => (X ++ [])) hzs565 hS h452 hl564 (fun X => .here _) enc_len_Write (by exact sz_api_Write) (enc_one_Write _) ?_
       clear hS; intro LX566 w h567 hS
       refine hb_next (fun h => absurd h (by decide)) ?_
       obtain ⟨zs576, hzs576, hF⟩ := ob hF
       obtain ⟨b569, c570, cl571, hv572, ha573, hb574, hl575⟩ := OwT.at_set hzs576 h567 enc_len_Write
       refine hy0 16 rfl wn (by kernel_rfl) (nq (P := Try.prog) (fn := Try.f110)) (fun h => absurd h (by decide)) (y_index hv572 ha573 hb574 underlying25 el_api_Write.size) ?_
       refine hb1 17 (by kernel_rfl) (hb_op rfl wn (nl (P := Try.prog) (fn := Try.f110)) ?_)
       refine o_storeON (L' := fun X => (X ++ [])) hzs576 hS h567 hl575 (fun X => .here _) enc_len_Write (by exact sz_api_Write) (enc_one_Write _) ?_
       clear hS; intro LX577 w h578 hS
       refine hb_next (fun h => absurd h (by decide)) ?_
       refine hb_done (by kernel_rfl) ?_
       refine c_region <| oy hS y_move <| oy hS y_bin <| oy hS y_assign <| n_thenN ?_
       obtain rfl := osi hF
       exact ⟨_, hK517, LX577, h578, mk_exF, (hS.re (.t .h .n))⟩
     replace hF := bf c539 hF
     refine wp_exit ?_
     refine c_region <| oy hS y_move <| oy hS y_bin <| oy hS y_assign <| n_thenN ?_
     obtain rfl := osi hF
     obtain rfl : _ = z386 := hK517
     exact ⟨_, hK387, LX453, h452, mk_exF, (hS.re (.t .h .n))⟩
   replace hF := bf c520 hF
   iterate 12 (refine q_sk rfl rfl ?_)
   refine qy y_pickF ?_
   refine q_nilN (h := ?_)
   clear hS; intro w hS
   refine c_if_false (h := ?_)
   refine wp_exit ?_
   refine c_region <| oy hS y_move <| oy hS y_bin <| oy hS y_assign <| n_thenN ?_
   obtain rfl := osi hF
   obtain rfl : _ = z386 := hK517
   exact ⟨_, hK387, LX453, h452, mk_exF, (hS.re (.t .h .n))⟩
 replace hF := bf c390 hF
 refine wp_exit ?_
 obtain rfl := osi hF
 obtain rfl : _ = r := hK387
 refine (r_end (vs := []) (hS.re (.t .h .n)) rsN rfl ⟨_, rfl, (by first | rfl | simp only [aa, ac, al, an]), h192⟩)
theorem w_slices_insertionSortCmpFunc_api_Write_pipe_settle_1 {g : Frag} {a0 : (List T_Write)} {v0_ : Value} {LB0_ : Own} {a1 : Int} {a2 : Int} {r : (List T_Write)} (h0 : OwT 71 enc_Write 3 a0 v0_ LB0_) (hF : slices_insertionSortCmpFunc_api_Write_pipe_settle_1 a0 a1 a2 = some r) : LC Try.prog 110 #[v0_, .int .i64 a1, .int .i64 a2, .func (.func 69) #[] #[]] g (LB0_ ++ []) (fun v L => ∃ (LB' : Own), v = .tuple #[] ∧ L = (LB' ++ []) ∧ OwT 71 enc_Write 3 r v0_ LB') := w_slices_insertionSortCmpFunc_api_Write_pipe_settle_1_ h0 hF

noncomputable def slices_stableCmpFunc_api_Write_pipe_settle_1_b2 (a1 : Int) : ((List T_Write) × Int × Int) → Option (Step ((List T_Write) × Int × Int) (Step ((List T_Write) × Int) (List T_Write))) := fun (x50, x54, x55) => bif decide (x55 ≤ a1) then (slices_insertionSortCmpFunc_api_Write_pipe_settle_1 x50 x54 x55).bind fun r69 => some (.next (r69, x55, IntKind.i64.wrap (x55 + 20))) else some (.done (.next (x50, x54)))
noncomputable def slices_stableCmpFunc_api_Write_pipe_settle_1_b5 (x101 : Int) (a1 : Int) : Unit → Option (Step Unit (Step Unit (Step Int (List T_Write)))) := fun _ => bif decide ((IntKind.i64.wrap (2 * x101)) ≤ a1) then none else some (.done (.next ()))
noncomputable def slices_stableCmpFunc_api_Write_pipe_settle_1_k4 (x101 : Int) (a1 : Int) : Unit → Option (Step Int (List T_Write)) := fun _ => bif decide ((IntKind.i64.wrap (0 + x101)) < a1) then none else some (.next (IntKind.i64.wrap (x101 * 2)))
noncomputable def slices_stableCmpFunc_api_Write_pipe_settle_1_b3 (a1 : Int) (r77 : (List T_Write)) : Int → Option (Step Int (List T_Write)) := fun x101 => bif decide (x101 < a1) then cut (σ := Unit) (loop (σ := Unit) (slices_stableCmpFunc_api_Write_pipe_settle_1_b5 x101 a1) ()) (slices_stableCmpFunc_api_Write_pipe_settle_1_k4 x101 a1) else some (.done (r77))
noncomputable def slices_stableCmpFunc_api_Write_pipe_settle_1_k1 (a1 : Int) : ((List T_Write) × Int) → Option (List T_Write) := fun (x35, x39) => (slices_insertionSortCmpFunc_api_Write_pipe_settle_1 x35 x39 a1).bind fun r77 => loop (σ := Int) (slices_stableCmpFunc_api_Write_pipe_settle_1_b3 a1 r77) 20
noncomputable def slices_stableCmpFunc_api_Write_pipe_settle_1 (a0 : (List T_Write)) (a1 : Int) : Option (List T_Write) :=
  cut (σ := ((List T_Write) × Int)) (loop (σ := ((List T_Write) × Int × Int)) (slices_stableCmpFunc_api_Write_pipe_settle_1_b2 a1) (a0, 0, 20)) (slices_stableCmpFunc_api_Write_pipe_settle_1_k1 a1)
theorem w_slices_stableCmpFunc_api_Write_pipe_settle_1_ {g : Frag} {a0 : (List T_Write)} {v0_ : Value} {LB0_ : Own} {a1 : Int} {r : (List T_Write)} (h0 : OwT 71 enc_Write 3 a0 v0_ LB0_) (hF : slices_stableCmpFunc_api_Write_pipe_settle_1 a0 a1 = some r) : LC Try.prog 86 #[v0_, .int .i64 a1, .func (.func 69) #[] #[]] g (LB0_ ++ []) (fun v L => ∃ (LB' : Own), v = .tuple #[] ∧ L = (LB' ++ []) ∧ OwT 71 enc_Write 3 r v0_ LB') := by
 unfold slices_stableCmpFunc_api_Write_pipe_settle_1 at hF
 refine lc_body (k := 63) (av := [v0_, .int .i64 a1, .func (.func 69) #[] #[]]) func86 rfl rfl (h := fun W hS => ?_)
 refine c_seq <| c_region <| oy hS y_assign <| n_thenN <| c_seq <| c_region <| oy hS y_move ?_
 iterate 2 (refine oy hS y_assign ?_)
 refine n_thenN ?_
 obtain ⟨z40, hF, hK41⟩ := cut_step hF
 refine c_cutP (fun a w' => ∃ (x35 : (List T_Write)) (x39 : Int) (LX37 : Own), slices_stableCmpFunc_api_Write_pipe_settle_1_k1 a1 (x35, x39) = some r ∧ OwT 71 enc_Write 3 x35 v0_ LX37 ∧ (∃ s : Nat → Value, a = Ac ((((((Fm.dead 63 s).upd 0 v0_).upd 1 (.int .i64 a1)).upd 2 (.func (.func 69) #[] #[])).upd 6 (.int .i64 20)).upd 7 (.int .i64 x39))) ∧ St W g ((LB0_ ++ [])) (LX37 ++ []) w') ?_ ?_
 · skip
   refine c_block ?_
   refine c_loopP hF (fun (q : ((List T_Write) × Int × Int)) a w' => ∃ (LX52 : Own), OwT 71 enc_Write 3 q.1 v0_ LX52 ∧ (∃ s : Nat → Value, a = Ac (((((((Fm.dead 63 s).upd 0 v0_).upd 1 (.int .i64 a1)).upd 2 (.func (.func 69) #[] #[])).upd 6 (.int .i64 20)).upd 7 (.int .i64 q.2.1)).upd 8 (.int .i64 q.2.2))) ∧ St W g ((LB0_ ++ [])) (LX52 ++ []) w') ⟨LB0_, h0, mk_exF, (hS.re (.t .h .n))⟩ ?_
   clear hS hF
   intro n66 q a w hI hq
   obtain ⟨x50, x54, x55⟩ := q
   obtain ⟨LX52, h51, ⟨s67, rfl⟩, hS⟩ := hq
   replace h51 : OwT 71 enc_Write 3 x50 v0_ LX52 := h51
   obtain ⟨z64, hF, hK65⟩ := iter_step hI
   clear hI
   dsimp only [slices_stableCmpFunc_api_Write_pipe_settle_1_b2] at hF
   iterate 2 (refine c_seq ?_)
   refine c_region ?_
   iterate 2 (refine oy hS y_move ?_)
   refine oy hS y_bin <| n_thenN ?_
   refine c_if (ht := fun c68 => ?_) (hf := fun c68 => ?_)
   · replace hF := bt c68 hF
     refine wp_skip <| c_block <| c_seq <| c_region ?_
     iterate 4 (refine oy hS y_move ?_)
     have hS2 := hS.spl (.app _ (.nil _))
     obtain ⟨r69, hr69, hF⟩ := ob hF
     refine o_call hS2 func110 rfl rfl (hc := (w_slices_insertionSortCmpFunc_api_Write_pipe_settle_1 (a0 := x50) (a1 := x54) (a2 := x55) (h0 := h51) (hF := hr69))) (h := ?_)
     clear hS; intro v70 LY71 w hS hr72
     clear hS2
     obtain ⟨LB73, rfl, rfl, hq74⟩ := hr72
     simp only [aa, ac, al] at hS
     refine n_thenN <| c_seq <| c_region <| oy hS y_move <| oy hS y_assign <| n_thenN <| c_region ?_
     iterate 2 (refine oy hS y_move ?_)
     refine oy hS y_bin <| oy hS y_assign ?_
     refine n_anyN ?_
     obtain rfl := osi hF
     exact ⟨_, hK65, LB73, hq74, mk_exF, (hS.re (.t .h .n))⟩
   replace hF := bf c68 hF
   refine wp_exit ?_
   obtain rfl := osi hF
   obtain rfl : _ = z40 := hK65
   change ∃ _, _
   exact ⟨x50, x54, LX52, hK41, h51, mk_exF, (hS.re (.t .h .n))⟩
 rintro a w ⟨x35, x39, LX37, hF, h36, ⟨s76, rfl⟩, hS⟩
 dsimp only [slices_stableCmpFunc_api_Write_pipe_settle_1_k1] at hF
 refine c_seq <| c_region ?_
 iterate 4 (refine oy hS y_move ?_)
 have hS2 := hS.spl (.app _ (.nil _))
 obtain ⟨r77, hr77, hF⟩ := ob hF
 refine o_call hS2 func110 rfl rfl (hc := (w_slices_insertionSortCmpFunc_api_Write_pipe_settle_1 (a0 := x35) (a1 := x39) (a2 := a1) (h0 := h36) (hF := hr77))) (h := ?_)
 clear hS; intro v78 LY79 w hS hr80
 clear hS2
 obtain ⟨LB81, rfl, rfl, hq82⟩ := hr80
 simp only [aa, ac, al] at hS
 refine n_thenN <| c_block ?_
 refine c_loopP hF (fun (q : Int) a w' => (∃ s : Nat → Value, a = Ac (((((Fm.dead 63 s).upd 0 v0_).upd 1 (.int .i64 a1)).upd 2 (.func (.func 69) #[] #[])).upd 6 (.int .i64 q))) ∧ St W g ((LB0_ ++ [])) (LB81 ++ []) w') ⟨mk_exF, (hS.re (.t .h .n))⟩ ?_
 clear hS hF
 intro n121 q a w hI hq
 revert hq hI; revert q; intro x101 hI hq
 obtain ⟨⟨s122, rfl⟩, hS⟩ := hq
 obtain ⟨z119, hF, hK120⟩ := iter_step hI
 clear hI
 dsimp only [slices_stableCmpFunc_api_Write_pipe_settle_1_b3] at hF
 iterate 2 (refine c_seq ?_)
 refine c_region ?_
 iterate 2 (refine oy hS y_move ?_)
 refine oy hS y_bin <| n_thenN ?_
 refine c_if (ht := fun c123 => ?_) (hf := fun c123 => ?_)
 · replace hF := bt c123 hF
   refine wp_skip <| c_block <| c_seq <| c_region <| oy hS y_move <| oy hS y_bin ?_
   iterate 2 (refine oy hS y_assign ?_)
   refine n_thenN ?_
   obtain ⟨z130, hF, hK131⟩ := cut_step hF
   refine c_cutP (fun a w' => slices_stableCmpFunc_api_Write_pipe_settle_1_k4 x101 a1 () = some z119 ∧ (∃ s : Nat → Value, a = Ac ((((((Fm.dead 63 s).upd 0 v0_).upd 1 (.int .i64 a1)).upd 2 (.func (.func 69) #[] #[])).upd 6 (.int .i64 x101)).upd 7 (.int .i64 0))) ∧ St W g ((LB0_ ++ [])) (LB81 ++ []) w') ?_ ?_
   · skip
     refine c_block ?_
     refine c_loopP hF (fun (q : Unit) a w' => (∃ s : Nat → Value, a = Ac (((((((Fm.dead 63 s).upd 0 v0_).upd 1 (.int .i64 a1)).upd 2 (.func (.func 69) #[] #[])).upd 6 (.int .i64 x101)).upd 7 (.int .i64 0)).upd 8 (.int .i64 (IntKind.i64.wrap (2 * x101))))) ∧ St W g ((LB0_ ++ [])) (LB81 ++ []) w') ⟨mk_exF, (hS.re (.t .h .n))⟩ ?_
     clear hS hF
     intro n135 q a w hI hq
     obtain ⟨⟩ := q
     obtain ⟨⟨s136, rfl⟩, hS⟩ := hq
     obtain ⟨z133, hF, hK134⟩ := iter_step hI
     clear hI
     dsimp only [slices_stableCmpFunc_api_Write_pipe_settle_1_b5] at hF
     iterate 2 (refine c_seq ?_)
     refine c_region ?_
     iterate 2 (refine oy hS y_move ?_)
     refine oy hS y_bin <| n_thenN ?_
     refine c_if (ht := fun c137 => ?_) (hf := fun c137 => ?_)
     · replace hF := bt c137 hF
       refine wp_skip <| c_block <| c_seq <| c_region ?_
       iterate 4 (refine oy hS y_move ?_)
       refine oy hS y_bin ?_
       iterate 2 (refine oy hS y_move ?_)
       exact nomatch hF
     replace hF := bf c137 hF
     refine wp_exit ?_
     obtain rfl := osi hF
     obtain rfl : _ = z130 := hK134
     change _ ∧ _
     exact ⟨hK131, mk_exF, (hS.re (.t .h .n))⟩
   rintro a w ⟨hF, ⟨s138, rfl⟩, hS⟩
   dsimp only [slices_stableCmpFunc_api_Write_pipe_settle_1_k4] at hF
   iterate 2 (refine c_seq ?_)
   refine c_region ?_
   iterate 2 (refine oy hS y_move ?_)
   refine oy hS y_bin <| oy hS y_assign <| n_thenN <| c_seq <| c_region ?_
   iterate 2 (refine oy hS y_move ?_)
   refine oy hS y_bin <| n_thenN ?_
   refine c_if (ht := fun c139 => ?_) (hf := fun c139 => ?_)
   · replace hF := bt c139 hF
     refine c_region ?_
     iterate 5 (refine oy hS y_move ?_)
     exact nomatch hF
   replace hF := bf c139 hF
   refine wp_skip <| c_region <| oy hS y_move <| oy hS y_bin <| oy hS y_assign ?_
   refine n_anyN ?_
   obtain rfl := osi hF
   exact ⟨_, hK120, mk_exF, (hS.re (.t .h .n))⟩
 replace hF := bf c123 hF
 refine wp_exit ?_
 obtain rfl := osi hF
 obtain rfl : _ = r := hK120
 refine (r_end (vs := []) (hS.re (.t .h .n)) rsN rfl ⟨_, rfl, (by first | rfl | simp only [aa, ac, al, an]), hq82⟩)
theorem w_slices_stableCmpFunc_api_Write_pipe_settle_1 {g : Frag} {a0 : (List T_Write)} {v0_ : Value} {LB0_ : Own} {a1 : Int} {r : (List T_Write)} (h0 : OwT 71 enc_Write 3 a0 v0_ LB0_) (hF : slices_stableCmpFunc_api_Write_pipe_settle_1 a0 a1 = some r) : LC Try.prog 86 #[v0_, .int .i64 a1, .func (.func 69) #[] #[]] g (LB0_ ++ []) (fun v L => ∃ (LB' : Own), v = .tuple #[] ∧ L = (LB' ++ []) ∧ OwT 71 enc_Write 3 r v0_ LB') := w_slices_stableCmpFunc_api_Write_pipe_settle_1_ h0 hF

noncomputable def slices_SortStableFunc_api_Write_api_Write_pipe_settle_1 (a0 : (List T_Write)) : Option (List T_Write) :=
  (slices_stableCmpFunc_api_Write_pipe_settle_1 a0 (a0.length : Int)).bind fun r1 => some (r1)
theorem w_slices_SortStableFunc_api_Write_api_Write_pipe_settle_1_ {g : Frag} {a0 : (List T_Write)} {v0_ : Value} {LB0_ : Own} {r : (List T_Write)} (h0 : OwT 71 enc_Write 3 a0 v0_ LB0_) (hF : slices_SortStableFunc_api_Write_api_Write_pipe_settle_1 a0 = some r) : LC Try.prog 68 #[v0_, .func (.func 69) #[] #[]] g (LB0_ ++ []) (fun v L => ∃ (LB' : Own), v = .tuple #[] ∧ L = (LB' ++ []) ∧ OwT 71 enc_Write 3 r v0_ LB') := by
 unfold slices_SortStableFunc_api_Write_api_Write_pipe_settle_1 at hF
 refine lc_body (k := 9) (av := [v0_, .func (.func 69) #[] #[]]) func68 rfl rfl (h := fun W hS => ?_)
 refine c_region ?_
 iterate 2 (refine oy hS y_move ?_)
 refine oy hS (y_lenO h0 underlying25) <| oy hS y_move ?_
 have hS2 := hS.spl (.app _ (.nil _))
 obtain ⟨r1, hr1, hF⟩ := ob hF
 refine o_call hS2 func86 rfl rfl (hc := (w_slices_stableCmpFunc_api_Write_pipe_settle_1 (a0 := a0) (a1 := (a0.length : Int)) (h0 := h0) (hF := hr1))) (h := ?_)
 clear hS; intro v2 LY3 w hS hr4
 clear hS2
 obtain ⟨LB5, rfl, rfl, hq6⟩ := hr4
 simp only [aa, ac, al] at hS
 refine n_anyN ?_
 obtain rfl := osi hF
 refine (r_end (vs := []) (hS.re (.t .h .n)) rsN rfl ⟨_, rfl, (by first | rfl | simp only [aa, ac, al, an]), hq6⟩)
theorem w_slices_SortStableFunc_api_Write_api_Write_pipe_settle_1 {g : Frag} {a0 : (List T_Write)} {v0_ : Value} {LB0_ : Own} {r : (List T_Write)} (h0 : OwT 71 enc_Write 3 a0 v0_ LB0_) (hF : slices_SortStableFunc_api_Write_api_Write_pipe_settle_1 a0 = some r) : LC Try.prog 68 #[v0_, .func (.func 69) #[] #[]] g (LB0_ ++ []) (fun v L => ∃ (LB' : Own), v = .tuple #[] ∧ L = (LB' ++ []) ∧ OwT 71 enc_Write 3 r v0_ LB') := w_slices_SortStableFunc_api_Write_api_Write_pipe_settle_1_ h0 hF

noncomputable def pipe_settle_b2 (r1 : (List T_Write)) (a0 : T_State) : (Int × (List Int)) → Option (Step (Int × (List Int)) (Step ((List Int) × (List Int) × (List Int) × (List Int) × (List T_Write)) T_State)) := fun (x131, x132) => bif decide (x131 < (r1.length : Int)) then (at' r1 x131).bind fun x163 => (set' x132 x163.Reg x163.Value).bind fun zs180 => some (.next (IntKind.i64.wrap (x131 + 1), zs180)) else some (.done (.next (x132, a0.In_, a0.Out, a0.Stack, r1)))
noncomputable def pipe_settle_k1 (a0 : T_State) : ((List Int) × (List Int) × (List Int) × (List Int) × (List T_Write)) → Option T_State := fun (x83, x87, x92, x97, x102) => some (⟨x83, a0.Mem, x87, a0.Taken, x92, a0.PC, x97, a0.Stop, [], a0.Jump, a0.Delay⟩ : T_State)
noncomputable def pipe_settle (a0 : T_State) : Option T_State :=
  (slices_SortStableFunc_api_Write_api_Write_pipe_settle_1 a0.Fly).bind fun r1 => cut (σ := ((List Int) × (List Int) × (List Int) × (List Int) × (List T_Write))) (loop (σ := (Int × (List Int))) (pipe_settle_b2 r1 a0) (0, a0.Regs)) (pipe_settle_k1 a0)
theorem w_pipe_settle_ {g : Frag} {a0 : T_State} {b0_ : Nat} {LB0_ : Own} {r : T_State} (h0 : Bx_State b0_ a0 LB0_) (hF : pipe_settle a0 = some r) : LC Try.prog 46 #[.pointer (some ⟨b0_, 0, none⟩)] g LB0_ (fun v L => ∃ (LB' : Own), v = .tuple #[] ∧ L = (LB' ++ []) ∧ Bx_State b0_ r LB') := by
 obtain ⟨vP0_0_1, vP0_1_5, vP0_2_9, vP0_4_13, vP0_6_17, vP0_8_21, LXP0_0_2, LXP0_1_6, LXP0_2_10, LXP0_4_14, LXP0_6_18, LXP0_8_22, hL0_, hP0_0_3, hP0_1_7, hP0_2_11, hP0_4_15, hP0_6_19, hP0_8_23⟩ := h0
 unfold pipe_settle at hF
 refine lc_body (k := 31) (av := [.pointer (some ⟨b0_, 0, none⟩)]) func46 rfl rfl (h := fun W hS => ?_)
 have hS := hS.own_eq hL0_
 refine c_seq <| c_region <| oy hS y_move <| oy hS y_nilCheck <| oy hS (y_field fa_api_State_8) <| oy hS (y_load (fun w hS => hS.own (mH)) underlying25 rfl rfl) ?_
 have hS := hS.re (.t (.thereb _ (.there _ (.there _ (.there _ (.there _ (.there _ .h)))))) (.b .hb (.t .h (.t .h (.t .h (.t .h (.t .h .n)))))))
 have hS2 := hS.spl (.app _ (.nil _))
 obtain ⟨r1, hr1, hF⟩ := ob hF
 refine o_call hS2 func68 rfl rfl (hc := (w_slices_SortStableFunc_api_Write_api_Write_pipe_settle_1 (a0 := a0.Fly) (h0 := hP0_8_23) (hF := hr1))) (h := ?_)
 clear hS; intro v2 LY3 w hS hr4
 clear hS2
 obtain ⟨LB5, rfl, rfl, hq6⟩ := hr4
 simp only [aa, ac, al] at hS
 refine n_thenN ?_
 obtain ⟨z107, hF, hK108⟩ := cut_step hF
 refine c_cutP (fun a w' => ∃ (x83 : (List Int)) (x87 : (List Int)) (x92 : (List Int)) (x97 : (List Int)) (x102 : (List T_Write)) (v88 : Value) (v93 : Value) (v98 : Value) (v103 : Value) (LX85 : Own) (LX90 : Own) (LX95 : Own) (LX100 : Own) (LX105 : Own), pipe_settle_k1 a0 (x83, x87, x92, x97, x102) = some r ∧ OwT 35 enc_uint32 1 x83 vP0_0_1 LX85 ∧ OwT 35 enc_uint32 1 x87 v88 LX90 ∧ OwT 35 enc_uint32 1 x92 v93 LX95 ∧ OwT 3 enc_int 1 x97 v98 LX100 ∧ OwT 71 enc_Write 3 x102 v103 LX105 ∧ (∃ s : Nat → Value, a = Ac ((Fm.dead 31 s).upd 0 (.pointer (some ⟨b0_, 0, none⟩)))) ∧ St W g LB0_ ((b0_, blk (cl_State vP0_0_1 vP0_1_5 v88 a0.Taken v93 a0.PC v98 a0.Stop v103 a0.Jump a0.Delay) 27) :: (LX85 ++ (LXP0_1_6 ++ (LX90 ++ (LX95 ++ (LX100 ++ (LX105 ++ []))))))) w') ?_ ?_
 · skip
   refine c_seq <| c_region <| oy hS y_move <| oy hS y_nilCheck <| oy hS (y_field fa_api_State_8) <| oy hS (y_load (fun w hS => hS.own (mB (mH))) underlying25 rfl rfl) <| oy hS (y_lenO hq6 underlying25) <| oy hS y_move ?_
   refine n_thenN <| c_block ?_
   refine c_loopP hF (fun (q : (Int × (List Int))) a w' => ∃ (LX134 : Own), OwT 35 enc_uint32 1 q.2 vP0_0_1 LX134 ∧ (∃ s : Nat → Value, a = Ac (((((Fm.dead 31 s).upd 0 (.pointer (some ⟨b0_, 0, none⟩))).upd 12 vP0_8_21).upd 13 (.int .i64 (r1.length : Int))).upd 14 (.int .i64 q.1))) ∧ St W g LB0_ ((b0_, blk (cl_State vP0_0_1 vP0_1_5 vP0_2_9 a0.Taken vP0_4_13 a0.PC vP0_6_17 a0.Stop vP0_8_21 a0.Jump a0.Delay) 27) :: (LX134 ++ (LXP0_1_6 ++ (LXP0_2_10 ++ (LXP0_4_14 ++ (LXP0_6_18 ++ (LB5 ++ []))))))) w') ⟨LXP0_0_2, hP0_0_3, mk_exF, (hS.re (.b (.there _ .hb) (.t (.there _ .h) (.t (.there _ .h) (.t (.there _ .h) (.t (.there _ .h) (.t (.there _ .h) (.t .h .n))))))))⟩ ?_
   clear hS hF
   intro n160 q a w hI hq
   obtain ⟨x131, x132⟩ := q
   obtain ⟨LX134, h133, ⟨s161, rfl⟩, hS⟩ := hq
   replace h133 : OwT 35 enc_uint32 1 x132 vP0_0_1 LX134 := h133
   obtain ⟨z158, hF, hK159⟩ := iter_step hI
   clear hI
   dsimp only [pipe_settle_b2] at hF
   refine c_seq <| c_region <| oy hS y_bin <| n_thenN <| c_seq ?_
   refine c_if (ht := fun c162 => ?_) (hf := fun c162 => ?_)
   · replace hF := bt c162 hF
     refine wp_skip <| c_seq <| c_block <| c_seq <| c_region ?_
     obtain ⟨x163, hx163, hF⟩ := ob hF
     obtain ⟨b164, c165, cl166, hv167, ha168, hb169, hl170, hc171⟩ := OwT.at hx163 hq6 enc_len_Write
     refine oy hS (y_index hv167 ha168 hb169 underlying25 el_api_Write.size) ?_
     refine oy hS (y_loadN (vs := (enc_Write x163)) (fun w hS => hS.own (mC (mB (mB (mB (mB (mB (mA (mX hl170))))))))) underlying71 rfl (by exact sz_api_Write) (fun j u hj => hc171 j u hj)) ?_
     refine o_allocP (cl := (enc_Write ⟨0, 0, 0⟩)) zr_api_Write rfl hS ?_
     clear hS; intro b172 w hS
     refine o_storeW (vs := (enc_Write x163)) hS (by exact rfl) (Upd.here _) (by exact sz_api_Write) (enc_one_Write _) ?_
     clear hS; intro w hS
     refine n_thenN ?_
     refine c_heldL 9 10 (by kernel_rfl) rfl hS ?_
     clear hS; intro w hS
     refine hy0 0 rfl wn (by kernel_rfl) (nq (P := Try.prog) (fn := Try.f46)) (fun _ => hS.cb) y_move ?_
     refine hy0 1 rfl wn (by kernel_rfl) (nq (P := Try.prog) (fn := Try.f46)) (fun _ => hS.cb) y_nilCheck ?_
     refine hy0 2 rfl wn (by kernel_rfl) (nq (P := Try.prog) (fn := Try.f46)) (fun _ => hS.cb) (y_field fa_api_State_0) ?_
     refine hy 3 rfl wn (by kernel_rfl) (nq (P := Try.prog) (fn := Try.f46)) hS.cb (y_load (fun w hS => hS.own (mC (mH))) underlying23 rfl rfl) ?_
     refine hy0 4 rfl wn (by kernel_rfl) (nq (P := Try.prog) (fn := Try.f46)) (fun _ => hS.cb) (y_field fa_api_Write_0) ?_
     refine hy 5 rfl wn (by kernel_rfl) (nq (P := Try.prog) (fn := Try.f46)) hS.cb (y_load (fun w hS => hS.own (mH)) underlying3 rfl rfl) ?_
     refine hy0 6 rfl wn (by kernel_rfl) (nq (P := Try.prog) (fn := Try.f46)) (fun _ => hS.cb) (y_field fa_api_Write_1) ?_
     refine hy 7 rfl wn (by kernel_rfl) (nq (P := Try.prog) (fn := Try.f46)) hS.cb (y_load (fun w hS => hS.own (mH)) underlying35 rfl rfl) ?_
     obtain ⟨zs180, hzs180, hF⟩ := ob hF
     obtain ⟨b173, c174, cl175, hv176, ha177, hb178, hl179⟩ := OwT.at_set hzs180 h133 enc_len_uint32
     refine hy0 8 rfl wn (by kernel_rfl) (nq (P := Try.prog) (fn := Try.f46)) (fun _ => hS.cb) (y_index hv176 ha177 hb178 underlying23 el_uint32.size) ?_
     refine hb1 9 (by kernel_rfl) (hb_op rfl wn (nl (P := Try.prog) (fn := Try.f46)) ?_)
     refine o_storeO (L' := fun X => ((b172, blk (enc_Write x163) 71) :: ((b0_, blk (cl_State vP0_0_1 vP0_1_5 vP0_2_9 a0.Taken vP0_4_13 a0.PC vP0_6_17 a0.Stop vP0_8_21 a0.Jump a0.Delay) 27) :: (X ++ (LXP0_1_6 ++ (LXP0_2_10 ++ (LXP0_4_14 ++ (LXP0_6_18 ++ (LB5 ++ []))))))))) hzs180 hS h133 hl179 (fun X => .thereb _ (.thereb _ (.here _))) enc_len_uint32 rfl (by exact sz_uint32) rfl rfl ?_
     clear hS; intro LX181 w h182 hS
     refine hb_next (fun h => absurd h (by decide)) ?_
     refine hb_done (by kernel_rfl) ?_
     refine c_region <| oy hS y_bin <| oy hS y_move <| n_thenN ?_
     obtain rfl := osi hF
     exact ⟨_, hK159, LX181, h182, mk_exF, (hS.re (.b (.thereb _ .hb) (.t (.thereb _ .h) (.t (.thereb _ .h) (.t (.thereb _ .h) (.t (.thereb _ .h) (.t (.thereb _ .h) (.t (.thereb _ .h) .n))))))))⟩
   replace hF := bf c162 hF
   refine wp_exit ?_
   obtain rfl := osi hF
   obtain rfl : _ = z107 := hK159
   change ∃ _, _
   exact ⟨x132, a0.In_, a0.Out, a0.Stack, r1, vP0_2_9, vP0_4_13, vP0_6_17, vP0_8_21, LX134, LXP0_2_10, LXP0_4_14, LXP0_6_18, LB5, hK108, h133, hP0_2_11, hP0_4_15, hP0_6_19, hq6, mk_exF, (hS.re (.b .hb (.t .h (.t .h (.t .h (.t .h (.t .h (.t .h .n))))))))⟩
 rintro a w ⟨x83, x87, x92, x97, x102, v88, v93, v98, v103, LX85, LX90, LX95, LX100, LX105, hF, h84, h89, h94, h99, h104, ⟨s184, rfl⟩, hS⟩
 dsimp only [pipe_settle_k1] at hF
 refine c_region <| oy hS y_move <| oy hS y_nilCheck <| oy hS (y_field fa_api_State_8) ?_
 refine o_storeA1 (o := 8) (cl' := (cl_State vP0_0_1 vP0_1_5 v88 a0.Taken v93 a0.PC v98 a0.Stop (.slice none 0 0) a0.Jump a0.Delay)) hS (by kernel_rfl) (by exact Nat.le_of_ble_eq_true rfl) (Upd.here _) (by exact sz_S_api_Write) rfl rfl ?_
 clear hS; intro w hS
 refine n_anyN ?_
 obtain rfl := osi hF
 refine (r_end (vs := []) (hS.re (.b .hb (.t .h (.t .h (.t .h (.t .h (.t .h .n))))))) rsN rfl ⟨_, rfl, (by first | rfl | simp only [aa, ac, al, an]), ⟨_, _, _, _, _, _, _, _, _, _, _, _, rfl, h84, hP0_1_7, h89, h94, h99, OwT.nil _ _ _⟩⟩)
theorem w_pipe_settle {g : Frag} {a0 : T_State} {b0_ : Nat} {LB0_ : Own} {r : T_State} (h0 : Bx_State b0_ a0 LB0_) (hF : pipe_settle a0 = some r) : LC Try.prog 46 #[.pointer (some ⟨b0_, 0, none⟩)] g LB0_ (fun v L => ∃ (LB' : Own), v = .tuple #[] ∧ L = (LB' ++ []) ∧ Bx_State b0_ r LB') := w_pipe_settle_ h0 hF
end Go.Proofs.Ythbpicnbkdbbmaa
