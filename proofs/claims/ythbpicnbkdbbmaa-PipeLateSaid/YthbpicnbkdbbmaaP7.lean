/- Functions, lifted. Printed by lift.py. -/
import Derived.Test.YthbpicnbkdbbmaaProg
import Derived.Test.YthbpicnbkdbbmaaP6
import Derived.KernelRfl
namespace Go.Proofs.Ythbpicnbkdbbmaa
open Go Go.RowKit Fr
set_option linter.unusedVariables false
set_option linter.unusedSimpArgs false
set_option maxRecDepth 20000
open Try
set_option maxHeartbeats 2000000
noncomputable def r5_do_k1 (a2 : Int) (a1 : T_Ins) (a0 : T_State) (a3 : Int) (a4 : Int) : (Bool × (List Int) × (List Int) × (List T_Write)) → Option (T_State × T_deed) := fun (x11, x12, x17, x22) => bif x11 then bif decide (256 ≤ (IntKind.u32.wrap (a2 + (IntKind.u32.wrap a1.Imm)))) then some ((⟨a0.Regs, a0.Mem, a0.In_, a0.Taken, x12, a0.PC, x17, a0.Stop, x22, a0.Jump, a0.Delay⟩ : T_State), (⟨false, 0, false, 0, 2⟩ : T_deed)) else bif decide (a1.Op = 24) then (at' a0.Mem (IntKind.u32.wrap (a2 + (IntKind.u32.wrap a1.Imm)))).bind fun x34 => some ((⟨a0.Regs, a0.Mem, a0.In_, a0.Taken, x12, a0.PC, x17, a0.Stop, x22, a0.Jump, a0.Delay⟩ : T_State), (⟨true, x34, false, 0, 0⟩ : T_deed)) else (set' a0.Mem (IntKind.u32.wrap (a2 + (IntKind.u32.wrap a1.Imm))) a3).bind fun zs50 => some ((⟨a0.Regs, zs50, a0.In_, a0.Taken, x12, a0.PC, x17, a0.Stop, x22, a0.Jump, a0.Delay⟩ : T_State), (⟨false, 0, false, 0, 0⟩ : T_deed)) else bif decide (a1.Op = 26) then bif decide (a0.Taken < (a0.In_.length : Int)) then (at' a0.In_ a0.Taken).bind fun x56 => some ((⟨a0.Regs, a0.Mem, a0.In_, IntKind.i64.wrap (a0.Taken + 1), x12, a0.PC, x17, a0.Stop, x22, a0.Jump, a0.Delay⟩ : T_State), (⟨true, x56, false, 0, 0⟩ : T_deed)) else some ((⟨a0.Regs, a0.Mem, a0.In_, a0.Taken, x12, a0.PC, x17, a0.Stop, x22, a0.Jump, a0.Delay⟩ : T_State), (⟨true, 0, false, 0, 0⟩ : T_deed)) else bif decide (a1.Op = 27) then (app' x12 ([a2] : List Int)).bind fun zs73 => some ((⟨a0.Regs, a0.Mem, a0.In_, a0.Taken, zs73, a0.PC, x17, a0.Stop, x22, a0.Jump, a0.Delay⟩ : T_State), (⟨false, 0, false, 0, 0⟩ : T_deed)) else bif decide (a1.Op = 28) then some ((⟨a0.Regs, a0.Mem, a0.In_, a0.Taken, x12, a0.PC, x17, a0.Stop, x22, a0.Jump, a0.Delay⟩ : T_State), (⟨false, 0, true, a1.Imm, 0⟩ : T_deed)) else bif decide (a1.Op = 29) then some ((⟨a0.Regs, a0.Mem, a0.In_, a0.Taken, x12, a0.PC, x17, a0.Stop, x22, a0.Jump, a0.Delay⟩ : T_State), (⟨false, 0, decide (a2 = 0), a1.Imm, 0⟩ : T_deed)) else bif decide (a1.Op = 30) then some ((⟨a0.Regs, a0.Mem, a0.In_, a0.Taken, x12, a0.PC, x17, a0.Stop, x22, a0.Jump, a0.Delay⟩ : T_State), (⟨false, 0, decide (a2 ≠ 0), a1.Imm, 0⟩ : T_deed)) else bif decide (a1.Op = 31) then bif decide (16 ≤ (x17.length : Int)) then some ((⟨a0.Regs, a0.Mem, a0.In_, a0.Taken, x12, a0.PC, x17, a0.Stop, x22, a0.Jump, a0.Delay⟩ : T_State), (⟨false, 0, false, 0, 4⟩ : T_deed)) else (app' x17 ([a4] : List Int)).bind fun zs86 => some ((⟨a0.Regs, a0.Mem, a0.In_, a0.Taken, x12, a0.PC, zs86, a0.Stop, x22, a0.Jump, a0.Delay⟩ : T_State), (⟨false, 0, true, a1.Imm, 0⟩ : T_deed)) else bif decide (a1.Op = 32) then bif decide ((x17.length : Int) = 0) then some ((⟨a0.Regs, a0.Mem, a0.In_, a0.Taken, x12, a0.PC, x17, a0.Stop, x22, a0.Jump, a0.Delay⟩ : T_State), (⟨false, 0, false, 0, 4⟩ : T_deed)) else (at' x17 (IntKind.i64.wrap ((x17.length : Int) - 1))).bind fun x89 => (upto' x17 (IntKind.i64.wrap ((x17.length : Int) - 1))).bind fun zs98 => some ((⟨a0.Regs, a0.Mem, a0.In_, a0.Taken, x12, a0.PC, zs98, a0.Stop, x22, a0.Jump, a0.Delay⟩ : T_State), (⟨false, 0, true, x89, 0⟩ : T_deed)) else bif decide (a1.Op = 33) then some ((⟨a0.Regs, a0.Mem, a0.In_, a0.Taken, x12, a0.PC, x17, a0.Stop, x22, a0.Jump, a0.Delay⟩ : T_State), (⟨false, 0, false, 0, 1⟩ : T_deed)) else some ((⟨a0.Regs, a0.Mem, a0.In_, a0.Taken, x12, a0.PC, x17, a0.Stop, x22, a0.Jump, a0.Delay⟩ : T_State), (⟨false, 0, false, 0, 0⟩ : T_deed))
noncomputable def r5_do (a0 : T_State) (a1 : T_Ins) (a2 : Int) (a3 : Int) (a4 : Int) : Option (T_State × T_deed) :=
  bif (r1_Has a1.Op) then (r1_Of a1.Op a2 a3).bind fun r4 => bif !r4.2 then some (a0, (⟨false, 0, false, 0, 3⟩ : T_deed)) else some (a0, (⟨true, r4.1, false, 0, 0⟩ : T_deed)) else bif (r1_Paired a1.Op) then (r1_Pair a1.Op a2 a3).bind fun r7 => some (a0, (⟨true, r7, false, 0, 0⟩ : T_deed)) else bif decide (a1.Op = 22) then some (a0, (⟨true, IntKind.u32.wrap (a2 + (IntKind.u32.wrap a1.Imm)), false, 0, 0⟩ : T_deed)) else bif decide (a1.Op = 23) then some (a0, (⟨true, IntKind.u32.wrap a1.Imm, false, 0, 0⟩ : T_deed)) else cut (σ := (Bool × (List Int) × (List Int) × (List T_Write))) (bif decide (a1.Op = 24) then some (.next (decide (a1.Op = 24), a0.Out, a0.Stack, a0.Fly)) else some (.next (decide (a1.Op = 25), a0.Out, a0.Stack, a0.Fly))) (r5_do_k1 a2 a1 a0 a3 a4)
theorem w_r5_do_ {g : Frag} {a0 : T_State} {b0_ : Nat} {LB0_ : Own} {a1 : T_Ins} {a2 : Int} {a3 : Int} {a4 : Int} {r : (T_State × T_deed)} (h0 : Bx_State b0_ a0 LB0_) (hF : r5_do a0 a1 a2 a3 a4 = some r) : LC Try.prog 52 #[.pointer (some ⟨b0_, 0, none⟩), .agg (enc_Ins a1).toArray, .int .u32 a2, .int .u32 a3, .int .i64 a4] g LB0_ (fun v L => ∃ (LB' : Own), v = .agg (enc_deed r.2).toArray ∧ L = (LB' ++ []) ∧ Bx_State b0_ r.1 LB') := by
 obtain ⟨vP0_0_1, vP0_1_5, vP0_2_9, vP0_4_13, vP0_6_17, vP0_8_21, LXP0_0_2, LXP0_1_6, LXP0_2_10, LXP0_4_14, LXP0_6_18, LXP0_8_22, hL0_, hP0_0_3, hP0_1_7, hP0_2_11, hP0_4_15, hP0_6_19, hP0_8_23⟩ := h0
 unfold r5_do at hF
 refine lc_body (k := 213) (av := [.pointer (some ⟨b0_, 0, none⟩), .agg (enc_Ins a1).toArray, .int .u32 a2, .int .u32 a3, .int .i64 a4]) func52 rfl rfl (h := fun W hS => ?_)
 have hS := hS.own_eq hL0_
 refine c_seq <| c_region ?_
 refine o_boxP (cl := (enc_Ins a1)) rfl hS ?_
 clear hS; intro b1 w hS
 refine o_allocP (cl := (enc_deed ⟨false, 0, false, 0, 0⟩)) zr_sledgeref5_deed rfl hS ?_
 clear hS; intro b2 w hS
 refine n_thenN <| c_seq <| c_block <| c_seq <| c_region <| oy hS (y_field fa_api_Ins_0) <| oy hS (y_load (fun w hS => hS.own (mC (mH))) underlying3 rfl rfl) ?_
 refine o_callS hS func71 rfl rfl (hc := (w_r1_Has (a0 := a1.Op))) (h := ?_)
 clear hS; intro w hS
 refine oy hS y_assign <| n_thenN ?_
 refine c_if (ht := fun c3 => ?_) (hf := fun c3 => ?_)
 · replace hF := bt c3 hF
   refine c_seq <| c_region <| oy hS (y_field fa_api_Ins_0) <| oy hS (y_load (fun w hS => hS.own (mC (mH))) underlying3 rfl rfl) ?_
   iterate 2 (refine oy hS y_move ?_)
   obtain ⟨r4, hr4, hF⟩ := ob hF
   refine o_callS hS func72 rfl rfl (hc := (w_r1_Of (a0 := a1.Op) (a1 := a2) (a2 := a3) (hF := hr4))) (h := ?_)
   clear hS; intro w hS
   refine oy hS y_move ?_
   iterate 2 (refine oy hS (y_extract rfl) ?_)
   iterate 2 (refine oy hS y_assign ?_)
   refine n_thenN ?_
   iterate 2 (refine c_seq ?_)
   refine c_region <| oy hS y_move <| oy hS y_not <| n_thenN ?_
   refine c_if (ht := fun c5 => ?_) (hf := fun c5 => ?_)
   · replace hF := bt c5 hF
     refine c_seq <| c_region ?_
     refine oy hS (y_build (cl := (enc_deed ⟨false, 0, false, 0, 3⟩)) bt_sledgeref5_deed rfl (by kernel_rfl)) ?_
     refine o_storeW (vs := (enc_deed ⟨false, 0, false, 0, 3⟩)) hS (by exact rfl) (Upd.here _) (by exact sz_sledgeref5_deed) (enc_one_deed _) ?_
     clear hS; intro w hS
     refine n_thenN ?_
     obtain rfl := osi hF
     refine wp_ret (r_ret (vs := [.agg (enc_deed ⟨false, 0, false, 0, 3⟩).toArray]) (hS.re (.b (.thereb _ (.thereb _ .hb)) (.t (.thereb _ (.thereb _ .h)) (.t (.thereb _ (.thereb _ .h)) (.t (.thereb _ (.thereb _ .h)) (.t (.thereb _ (.thereb _ .h)) (.t (.thereb _ (.thereb _ .h)) (.t (.thereb _ (.thereb _ .h)) .n)))))))) (rsC (res_cell (hS.own (mH)) underlying79 rfl (by exact sz_sledgeref5_deed)) rsN) rfl ⟨_, rfl, (by first | rfl | simp only [aa, ac, al, an]), ⟨_, _, _, _, _, _, _, _, _, _, _, _, rfl, hP0_0_3, hP0_1_7, hP0_2_11, hP0_4_15, hP0_6_19, hP0_8_23⟩⟩)
   replace hF := bf c5 hF
   refine wp_skip <| c_seq <| c_region <| oy hS y_move ?_
   refine oy hS (y_build (cl := (enc_deed ⟨true, r4.1, false, 0, 0⟩)) bt_sledgeref5_deed rfl (by kernel_rfl)) ?_
   refine o_storeW (vs := (enc_deed ⟨true, r4.1, false, 0, 0⟩)) hS (by exact rfl) (Upd.here _) (by exact sz_sledgeref5_deed) (enc_one_deed _) ?_
   clear hS; intro w hS
   refine n_thenN ?_
   obtain rfl := osi hF
   refine wp_ret (r_ret (vs := [.agg (enc_deed ⟨true, r4.1, false, 0, 0⟩).toArray]) (hS.re (.b (.thereb _ (.thereb _ .hb)) (.t (.thereb _ (.thereb _ .h)) (.t (.thereb _ (.thereb _ .h)) (.t (.thereb _ (.thereb _ .h)) (.t (.thereb _ (.thereb _ .h)) (.t (.thereb _ (.thereb _ .h)) (.t (.thereb _ (.thereb _ .h)) .n)))))))) (rsC (res_cell (hS.own (mH)) underlying79 rfl (by exact sz_sledgeref5_deed)) rsN) rfl ⟨_, rfl, (by first | rfl | simp only [aa, ac, al, an]), ⟨_, _, _, _, _, _, _, _, _, _, _, _, rfl, hP0_0_3, hP0_1_7, hP0_2_11, hP0_4_15, hP0_6_19, hP0_8_23⟩⟩)
 replace hF := bf c3 hF
 refine c_seq <| c_region <| oy hS (y_field fa_api_Ins_0) <| oy hS (y_load (fun w hS => hS.own (mC (mH))) underlying3 rfl rfl) ?_
 refine o_callS hS func73 rfl rfl (hc := (w_r1_Paired (a0 := a1.Op))) (h := ?_)
 clear hS; intro w hS
 refine oy hS y_assign <| n_thenN ?_
 refine c_if (ht := fun c6 => ?_) (hf := fun c6 => ?_)
 · replace hF := bt c6 hF
   refine c_seq <| c_region <| oy hS (y_field fa_api_Ins_0) <| oy hS (y_load (fun w hS => hS.own (mC (mH))) underlying3 rfl rfl) ?_
   iterate 2 (refine oy hS y_move ?_)
   obtain ⟨r7, hr7, hF⟩ := ob hF
   refine o_callS hS func74 rfl rfl (hc := (w_r1_Pair (a0 := a1.Op) (a1 := a2) (a2 := a3) (hF := hr7))) (h := ?_)
   clear hS; intro w hS
   refine oy hS (y_build (cl := (enc_deed ⟨true, r7, false, 0, 0⟩)) bt_sledgeref5_deed rfl (by kernel_rfl)) ?_
   refine o_storeW (vs := (enc_deed ⟨true, r7, false, 0, 0⟩)) hS (by exact rfl) (Upd.here _) (by exact sz_sledgeref5_deed) (enc_one_deed _) ?_
   clear hS; intro w hS
   refine n_thenN ?_
   obtain rfl := osi hF
   refine wp_ret (r_ret (vs := [.agg (enc_deed ⟨true, r7, false, 0, 0⟩).toArray]) (hS.re (.b (.thereb _ (.thereb _ .hb)) (.t (.thereb _ (.thereb _ .h)) (.t (.thereb _ (.thereb _ .h)) (.t (.thereb _ (.thereb _ .h)) (.t (.thereb _ (.thereb _ .h)) (.t (.thereb _ (.thereb _ .h)) (.t (.thereb _ (.thereb _ .h)) .n)))))))) (rsC (res_cell (hS.own (mH)) underlying79 rfl (by exact sz_sledgeref5_deed)) rsN) rfl ⟨_, rfl, (by first | rfl | simp only [aa, ac, al, an]), ⟨_, _, _, _, _, _, _, _, _, _, _, _, rfl, hP0_0_3, hP0_1_7, hP0_2_11, hP0_4_15, hP0_6_19, hP0_8_23⟩⟩)
 replace hF := bf c6 hF
 refine wp_skip ?_
 iterate 2 (refine c_seq ?_)
 refine c_region <| oy hS (y_field fa_api_Ins_0) <| oy hS (y_load (fun w hS => hS.own (mC (mH))) underlying3 rfl rfl) <| n_thenN <| c_block <| c_seq <| c_region <| oy hS y_bin ?_
 refine oy hS y_assign <| n_thenN ?_
 refine c_if (ht := fun c8 => ?_) (hf := fun c8 => ?_)
 · replace hF := bt c8 hF
   refine c_seq <| c_region <| oy hS y_move <| oy hS (y_field fa_api_Ins_4) <| oy hS (y_load (fun w hS => hS.own (mC (mH))) underlying3 rfl rfl) <| oy hS (y_conv underlying3 underlying35) <| oy hS y_bin ?_
   refine oy hS (y_build (cl := (enc_deed ⟨true, IntKind.u32.wrap (a2 + (IntKind.u32.wrap a1.Imm)), false, 0, 0⟩)) bt_sledgeref5_deed rfl (by kernel_rfl)) ?_
   refine o_storeW (vs := (enc_deed ⟨true, IntKind.u32.wrap (a2 + (IntKind.u32.wrap a1.Imm)), false, 0, 0⟩)) hS (by exact rfl) (Upd.here _) (by exact sz_sledgeref5_deed) (enc_one_deed _) ?_
   clear hS; intro w hS
   refine n_thenN ?_
   obtain rfl := osi hF
   refine wp_ret (r_ret (vs := [.agg (enc_deed ⟨true, IntKind.u32.wrap (a2 + (IntKind.u32.wrap a1.Imm)), false, 0, 0⟩).toArray]) (hS.re (.b (.thereb _ (.thereb _ .hb)) (.t (.thereb _ (.thereb _ .h)) (.t (.thereb _ (.thereb _ .h)) (.t (.thereb _ (.thereb _ .h)) (.t (.thereb _ (.thereb _ .h)) (.t (.thereb _ (.thereb _ .h)) (.t (.thereb _ (.thereb _ .h)) .n)))))))) (rsC (res_cell (hS.own (mH)) underlying79 rfl (by exact sz_sledgeref5_deed)) rsN) rfl ⟨_, rfl, (by first | rfl | simp only [aa, ac, al, an]), ⟨_, _, _, _, _, _, _, _, _, _, _, _, rfl, hP0_0_3, hP0_1_7, hP0_2_11, hP0_4_15, hP0_6_19, hP0_8_23⟩⟩)
 replace hF := bf c8 hF
 refine c_seq <| c_region <| oy hS y_bin <| oy hS y_assign <| n_thenN ?_
 refine c_if (ht := fun c9 => ?_) (hf := fun c9 => ?_)
 · replace hF := bt c9 hF
   refine c_seq <| c_region <| oy hS (y_field fa_api_Ins_4) <| oy hS (y_load (fun w hS => hS.own (mC (mH))) underlying3 rfl rfl) <| oy hS (y_conv underlying3 underlying35) ?_
   refine oy hS (y_build (cl := (enc_deed ⟨true, IntKind.u32.wrap a1.Imm, false, 0, 0⟩)) bt_sledgeref5_deed rfl (by kernel_rfl)) ?_
   refine o_storeW (vs := (enc_deed ⟨true, IntKind.u32.wrap a1.Imm, false, 0, 0⟩)) hS (by exact rfl) (Upd.here _) (by exact sz_sledgeref5_deed) (enc_one_deed _) ?_
   clear hS; intro w hS
   refine n_thenN ?_
   obtain rfl := osi hF
   refine wp_ret (r_ret (vs := [.agg (enc_deed ⟨true, IntKind.u32.wrap a1.Imm, false, 0, 0⟩).toArray]) (hS.re (.b (.thereb _ (.thereb _ .hb)) (.t (.thereb _ (.thereb _ .h)) (.t (.thereb _ (.thereb _ .h)) (.t (.thereb _ (.thereb _ .h)) (.t (.thereb _ (.thereb _ .h)) (.t (.thereb _ (.thereb _ .h)) (.t (.thereb _ (.thereb _ .h)) .n)))))))) (rsC (res_cell (hS.own (mH)) underlying79 rfl (by exact sz_sledgeref5_deed)) rsN) rfl ⟨_, rfl, (by first | rfl | simp only [aa, ac, al, an]), ⟨_, _, _, _, _, _, _, _, _, _, _, _, rfl, hP0_0_3, hP0_1_7, hP0_2_11, hP0_4_15, hP0_6_19, hP0_8_23⟩⟩)
 replace hF := bf c9 hF
 obtain ⟨z27, hF, hK28⟩ := cut_step hF
 refine c_cutP (fun a w' => ∃ (x11 : Bool) (x12 : (List Int)) (x17 : (List Int)) (x22 : (List T_Write)) (v13 : Value) (v18 : Value) (v23 : Value) (LX15 : Own) (LX20 : Own) (LX25 : Own), r5_do_k1 a2 a1 a0 a3 a4 (x11, x12, x17, x22) = some r ∧ OwT 35 enc_uint32 1 x12 v13 LX15 ∧ OwT 3 enc_int 1 x17 v18 LX20 ∧ OwT 71 enc_Write 3 x22 v23 LX25 ∧ (∃ s : Nat → Value, a = Ac (((((((((Fm.dead 213 s).upd 0 (.pointer (some ⟨b0_, 0, none⟩))).upd 2 (.int .u32 a2)).upd 3 (.int .u32 a3)).upd 4 (.int .i64 a4)).upd 6 (.pointer (some ⟨b1, 0, none⟩))).upd 10 (.pointer (some ⟨b2, 0, none⟩))).upd 44 (.int .i64 a1.Op)).upd 59 (.bool x11))) ∧ St W g LB0_ ((b0_, blk (cl_State vP0_0_1 vP0_1_5 vP0_2_9 a0.Taken v13 a0.PC v18 a0.Stop v23 a0.Jump a0.Delay) 27) :: ((b1, blk (enc_Ins a1) 31) :: ((b2, blk (enc_deed ⟨false, 0, false, 0, 0⟩) 79) :: (LXP0_0_2 ++ (LXP0_1_6 ++ (LXP0_2_10 ++ (LX15 ++ (LX20 ++ (LX25 ++ []))))))))) w') ?_ ?_
 · skip
   refine c_seq <| c_region <| oy hS y_bin <| oy hS y_assign <| n_thenN ?_
   refine c_if (ht := fun c29 => ?_) (hf := fun c29 => ?_)
   · replace hF := bt c29 hF
     refine wp_skip ?_
     obtain rfl := osi hF
     change ∃ _, _
     exact ⟨decide (a1.Op = 24), a0.Out, a0.Stack, a0.Fly, vP0_4_13, vP0_6_17, vP0_8_21, LXP0_4_14, LXP0_6_18, LXP0_8_22, hK28, hP0_4_15, hP0_6_19, hP0_8_23, mk_exF, (hS.re (.b (.thereb _ (.thereb _ .hb)) (.b (.thereb _ .hb) (.b .hb (.t .h (.t .h (.t .h (.t .h (.t .h (.t .h .n))))))))))⟩
   replace hF := bf c29 hF
   refine c_region <| oy hS y_bin <| oy hS y_assign <| n_thenN ?_
   obtain rfl := osi hF
   change ∃ _, _
   exact ⟨decide (a1.Op = 25), a0.Out, a0.Stack, a0.Fly, vP0_4_13, vP0_6_17, vP0_8_21, LXP0_4_14, LXP0_6_18, LXP0_8_22, hK28, hP0_4_15, hP0_6_19, hP0_8_23, mk_exF, (hS.re (.b (.thereb _ (.thereb _ .hb)) (.b (.thereb _ .hb) (.b .hb (.t .h (.t .h (.t .h (.t .h (.t .h (.t .h .n))))))))))⟩
 rintro a w ⟨x11, x12, x17, x22, v13, v18, v23, LX15, LX20, LX25, hF, h14, h19, h24, ⟨s30, rfl⟩, hS⟩
 dsimp only [r5_do_k1] at hF
 refine c_if (ht := fun c31 => ?_) (hf := fun c31 => ?_)
 · replace hF := bt c31 hF
   refine c_seq <| c_region <| oy hS y_move <| oy hS (y_field fa_api_Ins_4) <| oy hS (y_load (fun w hS => hS.own (mC (mH))) underlying3 rfl rfl) <| oy hS (y_conv underlying3 underlying35) <| oy hS y_bin <| oy hS y_assign ?_
   refine n_thenN ?_
   iterate 2 (refine c_seq ?_)
   refine c_region <| oy hS y_move <| oy hS y_bin <| n_thenN ?_
   refine c_if (ht := fun c32 => ?_) (hf := fun c32 => ?_)
   · replace hF := bt c32 hF
     refine c_seq <| c_region ?_
     refine oy hS (y_build (cl := (enc_deed ⟨false, 0, false, 0, 2⟩)) bt_sledgeref5_deed rfl (by kernel_rfl)) ?_
     refine o_storeW (vs := (enc_deed ⟨false, 0, false, 0, 2⟩)) hS (by exact rfl) (Upd.there _ (Upd.there _ (Upd.here _))) (by exact sz_sledgeref5_deed) (enc_one_deed _) ?_
     clear hS; intro w hS
     refine n_thenN ?_
     obtain rfl := osi hF
     refine wp_ret (r_ret (vs := [.agg (enc_deed ⟨false, 0, false, 0, 2⟩).toArray]) (hS.re (.b .hb (.t (.thereb _ (.thereb _ .h)) (.t (.thereb _ (.thereb _ .h)) (.t (.thereb _ (.thereb _ .h)) (.t (.thereb _ (.thereb _ .h)) (.t (.thereb _ (.thereb _ .h)) (.t (.thereb _ (.thereb _ .h)) .n)))))))) (rsC (res_cell (hS.own (mC (mC (mH)))) underlying79 rfl (by exact sz_sledgeref5_deed)) rsN) rfl ⟨_, rfl, (by first | rfl | simp only [aa, ac, al, an]), ⟨_, _, _, _, _, _, _, _, _, _, _, _, rfl, hP0_0_3, hP0_1_7, hP0_2_11, h14, h19, h24⟩⟩)
   replace hF := bf c32 hF
   refine wp_skip ?_
   iterate 2 (refine c_seq ?_)
   refine c_region <| oy hS (y_field fa_api_Ins_0) <| oy hS (y_load (fun w hS => hS.own (mC (mH))) underlying3 rfl rfl) <| oy hS y_bin <| n_thenN ?_
   refine c_if (ht := fun c33 => ?_) (hf := fun c33 => ?_)
   · replace hF := bt c33 hF
     refine c_seq <| c_region <| oy hS y_move <| oy hS y_nilCheck <| oy hS (y_field fa_api_State_1) <| oy hS (y_load (fun w hS => hS.own (mH)) underlying23 rfl rfl) <| oy hS y_move ?_
     obtain ⟨x34, hx34, hF⟩ := ob hF
     obtain ⟨b35, c36, cl37, hv38, ha39, hb40, hl41, hc42⟩ := OwT.at hx34 hP0_1_7 enc_len_uint32
     refine oy hS (y_index hv38 ha39 hb40 underlying23 el_uint32.size) <| oy hS (y_load (fun w hS => hS.own (mC (mC (mC (mB (mA (mX hl41))))))) underlying35 rfl (hc42 0 _ rfl)) ?_
     refine oy hS (y_build (cl := (enc_deed ⟨true, x34, false, 0, 0⟩)) bt_sledgeref5_deed rfl (by kernel_rfl)) ?_
     refine o_storeW (vs := (enc_deed ⟨true, x34, false, 0, 0⟩)) hS (by exact rfl) (Upd.there _ (Upd.there _ (Upd.here _))) (by exact sz_sledgeref5_deed) (enc_one_deed _) ?_
     clear hS; intro w hS
     refine n_thenN ?_
     obtain rfl := osi hF
     refine wp_ret (r_ret (vs := [.agg (enc_deed ⟨true, x34, false, 0, 0⟩).toArray]) (hS.re (.b .hb (.t (.thereb _ (.thereb _ .h)) (.t (.thereb _ (.thereb _ .h)) (.t (.thereb _ (.thereb _ .h)) (.t (.thereb _ (.thereb _ .h)) (.t (.thereb _ (.thereb _ .h)) (.t (.thereb _ (.thereb _ .h)) .n)))))))) (rsC (res_cell (hS.own (mC (mC (mH)))) underlying79 rfl (by exact sz_sledgeref5_deed)) rsN) rfl ⟨_, rfl, (by first | rfl | simp only [aa, ac, al, an]), ⟨_, _, _, _, _, _, _, _, _, _, _, _, rfl, hP0_0_3, hP0_1_7, hP0_2_11, h14, h19, h24⟩⟩)
   replace hF := bf c33 hF
   refine wp_skip <| c_region <| oy hS y_move <| oy hS y_nilCheck <| oy hS (y_field fa_api_State_1) <| oy hS (y_load (fun w hS => hS.own (mH)) underlying23 rfl rfl) ?_
   iterate 2 (refine oy hS y_move ?_)
   obtain ⟨zs50, hzs50, hF⟩ := ob hF
   obtain ⟨b43, c44, cl45, hv46, ha47, hb48, hl49⟩ := OwT.at_set hzs50 hP0_1_7 enc_len_uint32
   refine oy hS (y_index hv46 ha47 hb48 underlying23 el_uint32.size) ?_
   refine o_storeO (L' := fun X => ((b0_, blk (cl_State vP0_0_1 vP0_1_5 vP0_2_9 a0.Taken v13 a0.PC v18 a0.Stop v23 a0.Jump a0.Delay) 27) :: ((b1, blk (enc_Ins a1) 31) :: ((b2, blk (enc_deed ⟨false, 0, false, 0, 0⟩) 79) :: (LXP0_0_2 ++ (X ++ (LXP0_2_10 ++ (LX15 ++ (LX20 ++ (LX25 ++ [])))))))))) hzs50 hS hP0_1_7 hl49 (fun X => .thereb _ (.thereb _ (.thereb _ (.there _ (.here _))))) enc_len_uint32 rfl (by exact sz_uint32) rfl rfl ?_
   clear hS; intro LX51 w h52 hS
   refine n_anyN ?_
   refine c_seq <| c_region ?_
   refine oy hS (y_build (cl := (enc_deed ⟨false, 0, false, 0, 0⟩)) bt_sledgeref5_deed rfl (by kernel_rfl)) ?_
   refine o_storeW (vs := (enc_deed ⟨false, 0, false, 0, 0⟩)) hS (by exact rfl) (Upd.there _ (Upd.there _ (Upd.here _))) (by exact sz_sledgeref5_deed) (enc_one_deed _) ?_
   clear hS; intro w hS
   refine n_thenN ?_
   obtain rfl := osi hF
   refine wp_ret (r_ret (vs := [.agg (enc_deed ⟨false, 0, false, 0, 0⟩).toArray]) (hS.re (.b .hb (.t (.thereb _ (.thereb _ .h)) (.t (.thereb _ (.thereb _ .h)) (.t (.thereb _ (.thereb _ .h)) (.t (.thereb _ (.thereb _ .h)) (.t (.thereb _ (.thereb _ .h)) (.t (.thereb _ (.thereb _ .h)) .n)))))))) (rsC (res_cell (hS.own (mC (mC (mH)))) underlying79 rfl (by exact sz_sledgeref5_deed)) rsN) rfl ⟨_, rfl, (by first | rfl | simp only [aa, ac, al, an]), ⟨_, _, _, _, _, _, _, _, _, _, _, _, rfl, hP0_0_3, h52, hP0_2_11, h14, h19, h24⟩⟩)
 replace hF := bf c31 hF
 refine c_seq <| c_region <| oy hS y_bin <| oy hS y_assign <| n_thenN ?_
 refine c_if (ht := fun c54 => ?_) (hf := fun c54 => ?_)
 · replace hF := bt c54 hF
   refine c_seq <| c_region <| oy hS y_assign <| n_thenN ?_
   iterate 2 (refine c_seq ?_)
   refine c_quiet (by kernel_rfl) (by kernel_rfl) hS ?_
   refine qy y_move <| qy y_nilCheck <| qy (y_field fa_api_State_3) <| qy (y_load (fun w hS => hS.own (mH)) underlying3 rfl rfl) <| qy y_move <| qy y_nilCheck <| qy (y_field fa_api_State_2) <| qy (y_load (fun w hS => hS.own (mH)) underlying23 rfl rfl) ?_
   refine qy (y_lenO hP0_2_11 underlying23) <| qy y_bin ?_
   refine q_nilN (h := ?_)
   clear hS; intro w hS
   refine c_if (ht := fun c55 => ?_) (hf := fun c55 => ?_)
   · replace hF := bt c55 hF
     refine c_seq ?_
     refine c_quiet (by kernel_rfl) (by kernel_rfl) hS ?_
     refine qy y_move <| qy y_nilCheck <| qy (y_field fa_api_State_2) <| qy (y_load (fun w hS => hS.own (mH)) underlying23 rfl rfl) <| qy y_move <| qy y_nilCheck <| qy (y_field fa_api_State_3) <| qy (y_load (fun w hS => hS.own (mH)) underlying3 rfl rfl) ?_
     obtain ⟨x56, hx56, hF⟩ := ob hF
     obtain ⟨b57, c58, cl59, hv60, ha61, hb62, hl63, hc64⟩ := OwT.at hx56 hP0_2_11 enc_len_uint32
     refine qy (y_index hv60 ha61 hb62 underlying23 el_uint32.size) <| qy (y_load (fun w hS => hS.own (mC (mC (mC (mB (mB (mA (mX hl63)))))))) underlying35 rfl (hc64 0 _ rfl)) <| qy y_assign ?_
     refine q_nilN (h := ?_)
     clear hS; intro w hS
     refine c_region <| oy hS y_move <| oy hS y_nilCheck <| oy hS (y_field fa_api_State_3) <| oy hS (y_load (fun w hS => hS.own (mH)) underlying3 rfl rfl) <| oy hS y_bin <| oy hS y_nilCheck <| oy hS (y_field fa_api_State_3) ?_
     refine o_storeA1 (o := 3) (cl' := (cl_State vP0_0_1 vP0_1_5 vP0_2_9 (IntKind.i64.wrap (a0.Taken + 1)) v13 a0.PC v18 a0.Stop v23 a0.Jump a0.Delay)) hS (by kernel_rfl) (by exact Nat.le_of_ble_eq_true rfl) (Upd.here _) (by exact sz_int) rfl rfl ?_
     clear hS; intro w hS
     refine n_thenN <| c_seq <| c_region <| oy hS y_move ?_
     refine oy hS (y_build (cl := (enc_deed ⟨true, x56, false, 0, 0⟩)) bt_sledgeref5_deed rfl (by kernel_rfl)) ?_
     refine o_storeW (vs := (enc_deed ⟨true, x56, false, 0, 0⟩)) hS (by exact rfl) (Upd.there _ (Upd.there _ (Upd.here _))) (by exact sz_sledgeref5_deed) (enc_one_deed _) ?_
     clear hS; intro w hS
     refine n_thenN ?_
     obtain rfl := osi hF
     refine wp_ret (r_ret (vs := [.agg (enc_deed ⟨true, x56, false, 0, 0⟩).toArray]) (hS.re (.b .hb (.t (.thereb _ (.thereb _ .h)) (.t (.thereb _ (.thereb _ .h)) (.t (.thereb _ (.thereb _ .h)) (.t (.thereb _ (.thereb _ .h)) (.t (.thereb _ (.thereb _ .h)) (.t (.thereb _ (.thereb _ .h)) .n)))))))) (rsC (res_cell (hS.own (mC (mC (mH)))) underlying79 rfl (by exact sz_sledgeref5_deed)) rsN) rfl ⟨_, rfl, (by first | rfl | simp only [aa, ac, al, an]), ⟨_, _, _, _, _, _, _, _, _, _, _, _, rfl, hP0_0_3, hP0_1_7, hP0_2_11, h14, h19, h24⟩⟩)
   replace hF := bf c55 hF
   refine wp_skip <| c_seq <| c_region <| oy hS y_move ?_
   refine oy hS (y_build (cl := (enc_deed ⟨true, 0, false, 0, 0⟩)) bt_sledgeref5_deed rfl (by kernel_rfl)) ?_
   refine o_storeW (vs := (enc_deed ⟨true, 0, false, 0, 0⟩)) hS (by exact rfl) (Upd.there _ (Upd.there _ (Upd.here _))) (by exact sz_sledgeref5_deed) (enc_one_deed _) ?_
   clear hS; intro w hS
   refine n_thenN ?_
   obtain rfl := osi hF
   refine wp_ret (r_ret (vs := [.agg (enc_deed ⟨true, 0, false, 0, 0⟩).toArray]) (hS.re (.b .hb (.t (.thereb _ (.thereb _ .h)) (.t (.thereb _ (.thereb _ .h)) (.t (.thereb _ (.thereb _ .h)) (.t (.thereb _ (.thereb _ .h)) (.t (.thereb _ (.thereb _ .h)) (.t (.thereb _ (.thereb _ .h)) .n)))))))) (rsC (res_cell (hS.own (mC (mC (mH)))) underlying79 rfl (by exact sz_sledgeref5_deed)) rsN) rfl ⟨_, rfl, (by first | rfl | simp only [aa, ac, al, an]), ⟨_, _, _, _, _, _, _, _, _, _, _, _, rfl, hP0_0_3, hP0_1_7, hP0_2_11, h14, h19, h24⟩⟩)
 replace hF := bf c54 hF
 refine c_seq <| c_region <| oy hS y_bin <| oy hS y_assign <| n_thenN ?_
 refine c_if (ht := fun c65 => ?_) (hf := fun c65 => ?_)
 · replace hF := bt c65 hF
   refine c_region ?_
   iterate 2 (refine oy hS y_move ?_)
   refine oy hS y_nilCheck <| oy hS (y_field fa_api_State_4) <| oy hS (y_load (fun w hS => hS.own (mH)) underlying23 rfl rfl) <| oy hS y_move ?_
   refine o_buildT val_uint32 ([a2] : List Int) hS el_uint32 (fun _ => rfl) enc_len_uint32 (by decide) rfl (by decide) (hp := rfl) (h := ?_)
   clear hS; intro b66 w hS h67
   have hS : St W g LB0_ ([(b66, blk (([a2] : List Int).flatMap enc_uint32) 35)] ++ ((b0_, blk (cl_State vP0_0_1 vP0_1_5 vP0_2_9 a0.Taken v13 a0.PC v18 a0.Stop v23 a0.Jump a0.Delay) 27) :: ((b1, blk (enc_Ins a1) 31) :: ((b2, blk (enc_deed ⟨false, 0, false, 0, 0⟩) 79) :: (LXP0_0_2 ++ (LXP0_1_6 ++ (LXP0_2_10 ++ (LX15 ++ (LX20 ++ (LX25 ++ [])))))))))) w := hS
   obtain ⟨zs73, hzs73, hF⟩ := ob hF
   have hS := hS.re (.t .h (.t (.thereb _ (.thereb _ (.thereb _ (.there _ (.there _ (.there _ .h)))))) (.b .hb (.b .hb (.b .hb (.t .h (.t .h (.t .h (.t .h (.t .h .n))))))))))
   refine o_appPn (ys := ([a2] : List Int)) (LX := LX15) hzs73 hS el_uint32 h14 rfl enc_len_uint32 (enc_ones_uint32 _) (by decide) ?_
   clear hS; intro v69 LX70 w h71 hS
   refine oy hS y_nilCheck <| oy hS (y_field fa_api_State_4) ?_
   have hS := hS.re (.b (.there _ .hb) (.t .h (.b .hb (.b .hb (.t .h (.t .h (.t .h (.t .h (.t .h .n)))))))))
   refine o_storeA1 (o := 4) (cl' := (cl_State vP0_0_1 vP0_1_5 vP0_2_9 a0.Taken v69 a0.PC v18 a0.Stop v23 a0.Jump a0.Delay)) hS (by kernel_rfl) (by exact Nat.le_of_ble_eq_true rfl) (Upd.here _) (by exact sz_S_uint32) (h71).one (h71).cell ?_
   clear hS; intro w hS
   refine n_anyN ?_
   refine c_seq <| c_region ?_
   refine oy hS (y_build (cl := (enc_deed ⟨false, 0, false, 0, 0⟩)) bt_sledgeref5_deed rfl (by kernel_rfl)) ?_
   have hS := hS.re (.b (.thereb _ (.there _ (.thereb _ .hb))) (.b .hb (.t .h (.b .hb (.t .h (.t .h (.t .h (.t .h (.t .h .n)))))))))
   refine o_storeW (vs := (enc_deed ⟨false, 0, false, 0, 0⟩)) hS (by exact rfl) (Upd.here _) (by exact sz_sledgeref5_deed) (enc_one_deed _) ?_
   clear hS; intro w hS
   refine n_thenN ?_
   obtain rfl := osi hF
   refine wp_ret (r_ret (vs := [.agg (enc_deed ⟨false, 0, false, 0, 0⟩).toArray]) (hS.re (.b (.thereb _ .hb) (.t (.thereb _ (.there _ (.thereb _ .h))) (.t (.thereb _ (.there _ (.thereb _ .h))) (.t (.thereb _ (.there _ (.thereb _ .h))) (.t (.thereb _ .h) (.t (.thereb _ (.thereb _ .h)) (.t (.thereb _ (.thereb _ .h)) .n)))))))) (rsC (res_cell (hS.own (mH)) underlying79 rfl (by exact sz_sledgeref5_deed)) rsN) rfl ⟨_, rfl, (by first | rfl | simp only [aa, ac, al, an]), ⟨_, _, _, _, _, _, _, _, _, _, _, _, rfl, hP0_0_3, hP0_1_7, hP0_2_11, h71, h19, h24⟩⟩)
 replace hF := bf c65 hF
 refine c_seq <| c_region <| oy hS y_bin <| oy hS y_assign <| n_thenN ?_
 refine c_if (ht := fun c74 => ?_) (hf := fun c74 => ?_)
 · replace hF := bt c74 hF
   refine c_seq <| c_region <| oy hS (y_field fa_api_Ins_4) <| oy hS (y_load (fun w hS => hS.own (mC (mH))) underlying3 rfl rfl) ?_
   refine oy hS (y_build (cl := (enc_deed ⟨false, 0, true, a1.Imm, 0⟩)) bt_sledgeref5_deed rfl (by kernel_rfl)) ?_
   refine o_storeW (vs := (enc_deed ⟨false, 0, true, a1.Imm, 0⟩)) hS (by exact rfl) (Upd.there _ (Upd.there _ (Upd.here _))) (by exact sz_sledgeref5_deed) (enc_one_deed _) ?_
   clear hS; intro w hS
   refine n_thenN ?_
   obtain rfl := osi hF
   refine wp_ret (r_ret (vs := [.agg (enc_deed ⟨false, 0, true, a1.Imm, 0⟩).toArray]) (hS.re (.b .hb (.t (.thereb _ (.thereb _ .h)) (.t (.thereb _ (.thereb _ .h)) (.t (.thereb _ (.thereb _ .h)) (.t (.thereb _ (.thereb _ .h)) (.t (.thereb _ (.thereb _ .h)) (.t (.thereb _ (.thereb _ .h)) .n)))))))) (rsC (res_cell (hS.own (mC (mC (mH)))) underlying79 rfl (by exact sz_sledgeref5_deed)) rsN) rfl ⟨_, rfl, (by first | rfl | simp only [aa, ac, al, an]), ⟨_, _, _, _, _, _, _, _, _, _, _, _, rfl, hP0_0_3, hP0_1_7, hP0_2_11, h14, h19, h24⟩⟩)
 replace hF := bf c74 hF
 refine c_seq <| c_region <| oy hS y_bin <| oy hS y_assign <| n_thenN ?_
 refine c_if (ht := fun c75 => ?_) (hf := fun c75 => ?_)
 · replace hF := bt c75 hF
   refine c_seq <| c_region <| oy hS y_move <| oy hS y_bin <| oy hS (y_field fa_api_Ins_4) <| oy hS (y_load (fun w hS => hS.own (mC (mH))) underlying3 rfl rfl) ?_
   refine oy hS (y_build (cl := (enc_deed ⟨false, 0, decide (a2 = 0), a1.Imm, 0⟩)) bt_sledgeref5_deed rfl (by kernel_rfl)) ?_
   refine o_storeW (vs := (enc_deed ⟨false, 0, decide (a2 = 0), a1.Imm, 0⟩)) hS (by exact rfl) (Upd.there _ (Upd.there _ (Upd.here _))) (by exact sz_sledgeref5_deed) (enc_one_deed _) ?_
   clear hS; intro w hS
   refine n_thenN ?_
   obtain rfl := osi hF
   refine wp_ret (r_ret (vs := [.agg (enc_deed ⟨false, 0, decide (a2 = 0), a1.Imm, 0⟩).toArray]) (hS.re (.b .hb (.t (.thereb _ (.thereb _ .h)) (.t (.thereb _ (.thereb _ .h)) (.t (.thereb _ (.thereb _ .h)) (.t (.thereb _ (.thereb _ .h)) (.t (.thereb _ (.thereb _ .h)) (.t (.thereb _ (.thereb _ .h)) .n)))))))) (rsC (res_cell (hS.own (mC (mC (mH)))) underlying79 rfl (by exact sz_sledgeref5_deed)) rsN) rfl ⟨_, rfl, (by first | rfl | simp only [aa, ac, al, an]), ⟨_, _, _, _, _, _, _, _, _, _, _, _, rfl, hP0_0_3, hP0_1_7, hP0_2_11, h14, h19, h24⟩⟩)
 replace hF := bf c75 hF
 refine c_seq <| c_region <| oy hS y_bin <| oy hS y_assign <| n_thenN ?_
 refine c_if (ht := fun c76 => ?_) (hf := fun c76 => ?_)
 · replace hF := bt c76 hF
   refine c_seq <| c_region <| oy hS y_move <| oy hS y_bin <| oy hS (y_field fa_api_Ins_4) <| oy hS (y_load (fun w hS => hS.own (mC (mH))) underlying3 rfl rfl) ?_
   refine oy hS (y_build (cl := (enc_deed ⟨false, 0, decide (a2 ≠ 0), a1.Imm, 0⟩)) bt_sledgeref5_deed rfl (by kernel_rfl)) ?_
   refine o_storeW (vs := (enc_deed ⟨false, 0, decide (a2 ≠ 0), a1.Imm, 0⟩)) hS (by exact rfl) (Upd.there _ (Upd.there _ (Upd.here _))) (by exact sz_sledgeref5_deed) (enc_one_deed _) ?_
   clear hS; intro w hS
   refine n_thenN ?_
   obtain rfl := osi hF
   refine wp_ret (r_ret (vs := [.agg (enc_deed ⟨false, 0, decide (a2 ≠ 0), a1.Imm, 0⟩).toArray]) (hS.re (.b .hb (.t (.thereb _ (.thereb _ .h)) (.t (.thereb _ (.thereb _ .h)) (.t (.thereb _ (.thereb _ .h)) (.t (.thereb _ (.thereb _ .h)) (.t (.thereb _ (.thereb _ .h)) (.t (.thereb _ (.thereb _ .h)) .n)))))))) (rsC (res_cell (hS.own (mC (mC (mH)))) underlying79 rfl (by exact sz_sledgeref5_deed)) rsN) rfl ⟨_, rfl, (by first | rfl | simp only [aa, ac, al, an]), ⟨_, _, _, _, _, _, _, _, _, _, _, _, rfl, hP0_0_3, hP0_1_7, hP0_2_11, h14, h19, h24⟩⟩)
 replace hF := bf c76 hF
 refine c_seq <| c_region <| oy hS y_bin <| oy hS y_assign <| n_thenN ?_
 refine c_if (ht := fun c77 => ?_) (hf := fun c77 => ?_)
 · replace hF := bt c77 hF
   iterate 2 (refine c_seq ?_)
   refine c_region <| oy hS y_move <| oy hS y_nilCheck <| oy hS (y_field fa_api_State_6) <| oy hS (y_load (fun w hS => hS.own (mH)) underlying24 rfl rfl) <| oy hS (y_lenO h19 underlying24) <| oy hS y_bin <| n_thenN ?_
   refine c_if (ht := fun c78 => ?_) (hf := fun c78 => ?_)
   · replace hF := bt c78 hF
     refine c_seq <| c_region ?_
     refine oy hS (y_build (cl := (enc_deed ⟨false, 0, false, 0, 4⟩)) bt_sledgeref5_deed rfl (by kernel_rfl)) ?_
     refine o_storeW (vs := (enc_deed ⟨false, 0, false, 0, 4⟩)) hS (by exact rfl) (Upd.there _ (Upd.there _ (Upd.here _))) (by exact sz_sledgeref5_deed) (enc_one_deed _) ?_
     clear hS; intro w hS
     refine n_thenN ?_
     obtain rfl := osi hF
     refine wp_ret (r_ret (vs := [.agg (enc_deed ⟨false, 0, false, 0, 4⟩).toArray]) (hS.re (.b .hb (.t (.thereb _ (.thereb _ .h)) (.t (.thereb _ (.thereb _ .h)) (.t (.thereb _ (.thereb _ .h)) (.t (.thereb _ (.thereb _ .h)) (.t (.thereb _ (.thereb _ .h)) (.t (.thereb _ (.thereb _ .h)) .n)))))))) (rsC (res_cell (hS.own (mC (mC (mH)))) underlying79 rfl (by exact sz_sledgeref5_deed)) rsN) rfl ⟨_, rfl, (by first | rfl | simp only [aa, ac, al, an]), ⟨_, _, _, _, _, _, _, _, _, _, _, _, rfl, hP0_0_3, hP0_1_7, hP0_2_11, h14, h19, h24⟩⟩)
   replace hF := bf c78 hF
   refine wp_skip <| c_seq <| c_region ?_
   iterate 2 (refine oy hS y_move ?_)
   refine oy hS y_nilCheck <| oy hS (y_field fa_api_State_6) <| oy hS (y_load (fun w hS => hS.own (mH)) underlying24 rfl rfl) <| oy hS y_move ?_
   refine o_buildT val_int ([a4] : List Int) hS el_int (fun _ => rfl) enc_len_int (by decide) rfl (by decide) (hp := rfl) (h := ?_)
   clear hS; intro b79 w hS h80
   have hS : St W g LB0_ ([(b79, blk (([a4] : List Int).flatMap enc_int) 3)] ++ ((b0_, blk (cl_State vP0_0_1 vP0_1_5 vP0_2_9 a0.Taken v13 a0.PC v18 a0.Stop v23 a0.Jump a0.Delay) 27) :: ((b1, blk (enc_Ins a1) 31) :: ((b2, blk (enc_deed ⟨false, 0, false, 0, 0⟩) 79) :: (LXP0_0_2 ++ (LXP0_1_6 ++ (LXP0_2_10 ++ (LX15 ++ (LX20 ++ (LX25 ++ [])))))))))) w := hS
   obtain ⟨zs86, hzs86, hF⟩ := ob hF
   have hS := hS.re (.t .h (.t (.thereb _ (.thereb _ (.thereb _ (.there _ (.there _ (.there _ (.there _ .h))))))) (.b .hb (.b .hb (.b .hb (.t .h (.t .h (.t .h (.t .h (.t .h .n))))))))))
   refine o_appPn (ys := ([a4] : List Int)) (LX := LX20) hzs86 hS el_int h19 rfl enc_len_int (enc_ones_int _) (by decide) ?_
   clear hS; intro v82 LX83 w h84 hS
   refine oy hS y_nilCheck <| oy hS (y_field fa_api_State_6) ?_
   have hS := hS.re (.b (.there _ .hb) (.t .h (.b .hb (.b .hb (.t .h (.t .h (.t .h (.t .h (.t .h .n)))))))))
   refine o_storeA1 (o := 6) (cl' := (cl_State vP0_0_1 vP0_1_5 vP0_2_9 a0.Taken v13 a0.PC v82 a0.Stop v23 a0.Jump a0.Delay)) hS (by kernel_rfl) (by exact Nat.le_of_ble_eq_true rfl) (Upd.here _) (by exact sz_S_int) (h84).one (h84).cell ?_
   clear hS; intro w hS
   refine n_thenN <| c_seq <| c_region <| oy hS (y_field fa_api_Ins_4) <| oy hS (y_load (fun w hS => hS.own (mC (mB (mH)))) underlying3 rfl rfl) ?_
   refine oy hS (y_build (cl := (enc_deed ⟨false, 0, true, a1.Imm, 0⟩)) bt_sledgeref5_deed rfl (by kernel_rfl)) ?_
   have hS := hS.re (.b (.thereb _ (.there _ (.thereb _ .hb))) (.b .hb (.t .h (.b .hb (.t .h (.t .h (.t .h (.t .h (.t .h .n)))))))))
   refine o_storeW (vs := (enc_deed ⟨false, 0, true, a1.Imm, 0⟩)) hS (by exact rfl) (Upd.here _) (by exact sz_sledgeref5_deed) (enc_one_deed _) ?_
   clear hS; intro w hS
   refine n_thenN ?_
   obtain rfl := osi hF
   refine wp_ret (r_ret (vs := [.agg (enc_deed ⟨false, 0, true, a1.Imm, 0⟩).toArray]) (hS.re (.b (.thereb _ .hb) (.t (.thereb _ (.there _ (.thereb _ .h))) (.t (.thereb _ (.there _ (.thereb _ .h))) (.t (.thereb _ (.there _ (.thereb _ .h))) (.t (.thereb _ (.there _ (.thereb _ .h))) (.t (.thereb _ .h) (.t (.thereb _ (.thereb _ .h)) .n)))))))) (rsC (res_cell (hS.own (mH)) underlying79 rfl (by exact sz_sledgeref5_deed)) rsN) rfl ⟨_, rfl, (by first | rfl | simp only [aa, ac, al, an]), ⟨_, _, _, _, _, _, _, _, _, _, _, _, rfl, hP0_0_3, hP0_1_7, hP0_2_11, h14, h84, h24⟩⟩)
 replace hF := bf c77 hF
 refine c_seq <| c_region <| oy hS y_bin <| oy hS y_assign <| n_thenN ?_
 refine c_if (ht := fun c87 => ?_) (hf := fun c87 => ?_)
 · replace hF := bt c87 hF
   iterate 2 (refine c_seq ?_)
   refine c_region <| oy hS y_move <| oy hS y_nilCheck <| oy hS (y_field fa_api_State_6) <| oy hS (y_load (fun w hS => hS.own (mH)) underlying24 rfl rfl) <| oy hS (y_lenO h19 underlying24) <| oy hS y_bin <| n_thenN ?_
   refine c_if (ht := fun c88 => ?_) (hf := fun c88 => ?_)
   · replace hF := bt c88 hF
     refine c_seq <| c_region ?_
     refine oy hS (y_build (cl := (enc_deed ⟨false, 0, false, 0, 4⟩)) bt_sledgeref5_deed rfl (by kernel_rfl)) ?_
     refine o_storeW (vs := (enc_deed ⟨false, 0, false, 0, 4⟩)) hS (by exact rfl) (Upd.there _ (Upd.there _ (Upd.here _))) (by exact sz_sledgeref5_deed) (enc_one_deed _) ?_
     clear hS; intro w hS
     refine n_thenN ?_
     obtain rfl := osi hF
     refine wp_ret (r_ret (vs := [.agg (enc_deed ⟨false, 0, false, 0, 4⟩).toArray]) (hS.re (.b .hb (.t (.thereb _ (.thereb _ .h)) (.t (.thereb _ (.thereb _ .h)) (.t (.thereb _ (.thereb _ .h)) (.t (.thereb _ (.thereb _ .h)) (.t (.thereb _ (.thereb _ .h)) (.t (.thereb _ (.thereb _ .h)) .n)))))))) (rsC (res_cell (hS.own (mC (mC (mH)))) underlying79 rfl (by exact sz_sledgeref5_deed)) rsN) rfl ⟨_, rfl, (by first | rfl | simp only [aa, ac, al, an]), ⟨_, _, _, _, _, _, _, _, _, _, _, _, rfl, hP0_0_3, hP0_1_7, hP0_2_11, h14, h19, h24⟩⟩)
   replace hF := bf c88 hF
   refine wp_skip <| c_seq ?_
   refine c_quiet (by kernel_rfl) (by kernel_rfl) hS ?_
   refine qy y_move <| qy y_nilCheck <| qy (y_field fa_api_State_6) <| qy (y_load (fun w hS => hS.own (mH)) underlying24 rfl rfl) <| qy y_move <| qy y_nilCheck <| qy (y_field fa_api_State_6) <| qy (y_load (fun w hS => hS.own (mH)) underlying24 rfl rfl) ?_
   refine qy (y_lenO h19 underlying24) <| qy y_bin ?_
   obtain ⟨x89, hx89, hF⟩ := ob hF
   obtain ⟨b90, c91, cl92, hv93, ha94, hb95, hl96, hc97⟩ := OwT.at hx89 h19 enc_len_int
   refine qy (y_index hv93 ha94 hb95 underlying24 el_int.size) <| qy (y_load (fun w hS => hS.own (mC (mC (mC (mB (mB (mB (mB (mA (mX hl96)))))))))) underlying3 rfl (hc97 0 _ rfl)) <| qy y_assign ?_
   refine q_nilN (h := ?_)
   clear hS; intro w hS
   refine c_seq ?_
   refine c_heldL 14 15 (by kernel_rfl) rfl hS ?_
   clear hS; intro w hS
   refine hy0 0 rfl wn (by kernel_rfl) (nq (P := Try.prog) (fn := Try.f52)) (fun _ => hS.cb) y_move ?_
   refine hy0 1 rfl wn (by kernel_rfl) (nq (P := Try.prog) (fn := Try.f52)) (fun _ => hS.cb) y_move ?_
   refine hy0 2 rfl wn (by kernel_rfl) (nq (P := Try.prog) (fn := Try.f52)) (fun _ => hS.cb) y_nilCheck ?_
   refine hy0 3 rfl wn (by kernel_rfl) (nq (P := Try.prog) (fn := Try.f52)) (fun _ => hS.cb) (y_field fa_api_State_6) ?_
   refine hy 4 rfl wn (by kernel_rfl) (nq (P := Try.prog) (fn := Try.f52)) hS.cb (y_load (fun w hS => hS.own (mH)) underlying24 rfl rfl) ?_
   refine hy0 5 rfl wn (by kernel_rfl) (nq (P := Try.prog) (fn := Try.f52)) (fun _ => hS.cb) y_move ?_
   refine hy0 6 rfl wn (by kernel_rfl) (nq (P := Try.prog) (fn := Try.f52)) (fun _ => hS.cb) y_nilCheck ?_
   refine hy0 7 rfl wn (by kernel_rfl) (nq (P := Try.prog) (fn := Try.f52)) (fun _ => hS.cb) (y_field fa_api_State_6) ?_
   refine hy 8 rfl wn (by kernel_rfl) (nq (P := Try.prog) (fn := Try.f52)) hS.cb (y_load (fun w hS => hS.own (mH)) underlying24 rfl rfl) ?_
   refine hy0 9 rfl wn (by kernel_rfl) (nq (P := Try.prog) (fn := Try.f52)) (fun _ => hS.cb) (y_lenO h19 underlying24) ?_
   refine hy0 10 rfl wn (by kernel_rfl) (nq (P := Try.prog) (fn := Try.f52)) (fun _ => hS.cb) y_bin ?_
   refine hb1 11 (by kernel_rfl) (hb_op rfl wn (nl (P := Try.prog) (fn := Try.f52)) ?_)
   obtain ⟨zs98, hzs98, hF⟩ := ob hF
   refine o_uptoP hzs98 h19 enc_len_int underlying24 el_int.size ?_
   intro v99 h100
   refine hb_next (fun _ => hS.cb) ?_
   refine hy0 12 rfl wn (by kernel_rfl) (nq (P := Try.prog) (fn := Try.f52)) (fun _ => hS.cb) y_nilCheck ?_
   refine hy0 13 rfl wn (by kernel_rfl) (nq (P := Try.prog) (fn := Try.f52)) (fun _ => hS.cb) (y_field fa_api_State_6) ?_
   refine hb1 14 (by kernel_rfl) (hb_op rfl wn (nl (P := Try.prog) (fn := Try.f52)) ?_)
   refine o_storeA1 (o := 6) (cl' := (cl_State vP0_0_1 vP0_1_5 vP0_2_9 a0.Taken v13 a0.PC v99 a0.Stop v23 a0.Jump a0.Delay)) hS (by kernel_rfl) (by exact Nat.le_of_ble_eq_true rfl) (Upd.here _) (by exact sz_S_int) (h100).one (h100).cell ?_
   clear hS; intro w hS
   refine hb_next (fun h => absurd h (by decide)) ?_
   refine hb_done (by kernel_rfl) ?_
   refine c_seq <| c_region <| oy hS y_move ?_
   refine oy hS (y_build (cl := (enc_deed ⟨false, 0, true, x89, 0⟩)) bt_sledgeref5_deed rfl (by kernel_rfl)) ?_
   refine o_storeW (vs := (enc_deed ⟨false, 0, true, x89, 0⟩)) hS (by exact rfl) (Upd.there _ (Upd.there _ (Upd.here _))) (by exact sz_sledgeref5_deed) (enc_one_deed _) ?_
   clear hS; intro w hS
   refine n_thenN ?_
   obtain rfl := osi hF
   refine wp_ret (r_ret (vs := [.agg (enc_deed ⟨false, 0, true, x89, 0⟩).toArray]) (hS.re (.b .hb (.t (.thereb _ (.thereb _ .h)) (.t (.thereb _ (.thereb _ .h)) (.t (.thereb _ (.thereb _ .h)) (.t (.thereb _ (.thereb _ .h)) (.t (.thereb _ (.thereb _ .h)) (.t (.thereb _ (.thereb _ .h)) .n)))))))) (rsC (res_cell (hS.own (mC (mC (mH)))) underlying79 rfl (by exact sz_sledgeref5_deed)) rsN) rfl ⟨_, rfl, (by first | rfl | simp only [aa, ac, al, an]), ⟨_, _, _, _, _, _, _, _, _, _, _, _, rfl, hP0_0_3, hP0_1_7, hP0_2_11, h14, h100, h24⟩⟩)
 replace hF := bf c87 hF
 refine c_seq <| c_region <| oy hS y_bin <| oy hS y_assign <| n_thenN ?_
 refine c_if (ht := fun c101 => ?_) (hf := fun c101 => ?_)
 · replace hF := bt c101 hF
   refine c_seq <| c_region ?_
   refine oy hS (y_build (cl := (enc_deed ⟨false, 0, false, 0, 1⟩)) bt_sledgeref5_deed rfl (by kernel_rfl)) ?_
   refine o_storeW (vs := (enc_deed ⟨false, 0, false, 0, 1⟩)) hS (by exact rfl) (Upd.there _ (Upd.there _ (Upd.here _))) (by exact sz_sledgeref5_deed) (enc_one_deed _) ?_
   clear hS; intro w hS
   refine n_thenN ?_
   obtain rfl := osi hF
   refine wp_ret (r_ret (vs := [.agg (enc_deed ⟨false, 0, false, 0, 1⟩).toArray]) (hS.re (.b .hb (.t (.thereb _ (.thereb _ .h)) (.t (.thereb _ (.thereb _ .h)) (.t (.thereb _ (.thereb _ .h)) (.t (.thereb _ (.thereb _ .h)) (.t (.thereb _ (.thereb _ .h)) (.t (.thereb _ (.thereb _ .h)) .n)))))))) (rsC (res_cell (hS.own (mC (mC (mH)))) underlying79 rfl (by exact sz_sledgeref5_deed)) rsN) rfl ⟨_, rfl, (by first | rfl | simp only [aa, ac, al, an]), ⟨_, _, _, _, _, _, _, _, _, _, _, _, rfl, hP0_0_3, hP0_1_7, hP0_2_11, h14, h19, h24⟩⟩)
 replace hF := bf c101 hF
 refine wp_skip <| c_seq <| c_region ?_
 refine oy hS (y_build (cl := (enc_deed ⟨false, 0, false, 0, 0⟩)) bt_sledgeref5_deed rfl (by kernel_rfl)) ?_
 refine o_storeW (vs := (enc_deed ⟨false, 0, false, 0, 0⟩)) hS (by exact rfl) (Upd.there _ (Upd.there _ (Upd.here _))) (by exact sz_sledgeref5_deed) (enc_one_deed _) ?_
 clear hS; intro w hS
 refine n_thenN ?_
 obtain rfl := osi hF
 refine wp_ret (r_ret (vs := [.agg (enc_deed ⟨false, 0, false, 0, 0⟩).toArray]) (hS.re (.b .hb (.t (.thereb _ (.thereb _ .h)) (.t (.thereb _ (.thereb _ .h)) (.t (.thereb _ (.thereb _ .h)) (.t (.thereb _ (.thereb _ .h)) (.t (.thereb _ (.thereb _ .h)) (.t (.thereb _ (.thereb _ .h)) .n)))))))) (rsC (res_cell (hS.own (mC (mC (mH)))) underlying79 rfl (by exact sz_sledgeref5_deed)) rsN) rfl ⟨_, rfl, (by first | rfl | simp only [aa, ac, al, an]), ⟨_, _, _, _, _, _, _, _, _, _, _, _, rfl, hP0_0_3, hP0_1_7, hP0_2_11, h14, h19, h24⟩⟩)
theorem w_r5_do {g : Frag} {a0 : T_State} {b0_ : Nat} {LB0_ : Own} {a1 : T_Ins} {a2 : Int} {a3 : Int} {a4 : Int} {r : (T_State × T_deed)} (h0 : Bx_State b0_ a0 LB0_) (hF : r5_do a0 a1 a2 a3 a4 = some r) : LC Try.prog 52 #[.pointer (some ⟨b0_, 0, none⟩), .agg (enc_Ins a1).toArray, .int .u32 a2, .int .u32 a3, .int .i64 a4] g LB0_ (fun v L => ∃ (LB' : Own), v = .agg (enc_deed r.2).toArray ∧ L = (LB' ++ []) ∧ Bx_State b0_ r.1 LB') := w_r5_do_ h0 hF

def r3_Latency (a0 : Int) : Int :=
  bif decide (a0 = 14) then 2 else bif decide (a0 = 15) then 2 else bif decide (a0 = 26) then 2 else bif decide (a0 = 20) then 3 else bif decide (a0 = 24) then 3 else bif decide (a0 = 16) then 4 else bif decide (a0 = 17) then 4 else 1
theorem w_r3_Latency_ {g : Frag} {a0 : Int} {r : Int}  (hF : r3_Latency a0 = r) : LCs Try.prog 14 #[.int .i64 a0] g (.int .i64 r) := by
 unfold r3_Latency at hF
 refine lc_body (k := 14) (av := [.int .i64 a0]) func14 rfl rfl (h := fun W hS => ?_)
 refine c_seq <| c_region <| oy hS y_assign <| n_thenN ?_
 iterate 2 (refine c_seq ?_)
 refine c_region <| oy hS y_move <| n_thenN <| c_block ?_
 iterate 2 (refine c_seq ?_)
 refine c_region <| oy hS y_bin <| oy hS y_assign <| n_thenN ?_
 refine c_if (ht := fun c1 => ?_) (hf := fun c1 => ?_)
 · replace hF := bt c1 hF
   refine wp_skip ?_
   refine c_ifT c1 ?_
   refine c_seq <| c_region <| oy hS y_assign <| n_thenN ?_
   subst hF
   exact wp_ret (wr1 hS)
 replace hF := bf c1 hF
 refine c_seq <| c_region <| oy hS y_bin <| oy hS y_assign <| n_thenN ?_
 refine c_if (ht := fun c2 => ?_) (hf := fun c2 => ?_)
 · replace hF := bt c2 hF
   refine wp_skip ?_
   refine c_ifT c2 ?_
   refine c_seq <| c_region <| oy hS y_assign <| n_thenN ?_
   subst hF
   exact wp_ret (wr1 hS)
 replace hF := bf c2 hF
 refine c_region <| oy hS y_bin <| oy hS y_assign <| n_thenN ?_
 refine c_if (ht := fun c3 => ?_) (hf := fun c3 => ?_)
 · replace hF := bt c3 hF
   refine c_seq <| c_region <| oy hS y_assign <| n_thenN ?_
   subst hF
   exact wp_ret (wr1 hS)
 replace hF := bf c3 hF
 iterate 2 (refine c_seq ?_)
 refine c_region <| oy hS y_bin <| oy hS y_assign <| n_thenN ?_
 refine c_if (ht := fun c4 => ?_) (hf := fun c4 => ?_)
 · replace hF := bt c4 hF
   refine wp_skip ?_
   refine c_ifT c4 ?_
   refine c_seq <| c_region <| oy hS y_assign <| n_thenN ?_
   subst hF
   exact wp_ret (wr1 hS)
 replace hF := bf c4 hF
 refine c_region <| oy hS y_bin <| oy hS y_assign <| n_thenN ?_
 refine c_if (ht := fun c5 => ?_) (hf := fun c5 => ?_)
 · replace hF := bt c5 hF
   refine c_seq <| c_region <| oy hS y_assign <| n_thenN ?_
   subst hF
   exact wp_ret (wr1 hS)
 replace hF := bf c5 hF
 iterate 2 (refine c_seq ?_)
 refine c_region <| oy hS y_bin <| oy hS y_assign <| n_thenN ?_
 refine c_if (ht := fun c6 => ?_) (hf := fun c6 => ?_)
 · replace hF := bt c6 hF
   refine wp_skip ?_
   refine c_ifT c6 ?_
   refine c_seq <| c_region <| oy hS y_assign <| n_thenN ?_
   subst hF
   exact wp_ret (wr1 hS)
 replace hF := bf c6 hF
 refine c_region <| oy hS y_bin <| oy hS y_assign <| n_thenN ?_
 refine c_if (ht := fun c7 => ?_) (hf := fun c7 => ?_)
 · replace hF := bt c7 hF
   refine c_seq <| c_region <| oy hS y_assign <| n_thenN ?_
   subst hF
   exact wp_ret (wr1 hS)
 replace hF := bf c7 hF
 refine wp_skip <| c_seq <| c_region <| oy hS y_assign <| n_thenN ?_
 subst hF
 exact wp_ret (wr1 hS)
theorem w_r3_Latency {g : Frag} {a0 : Int}  : LCs Try.prog 14 #[.int .i64 a0] g (.int .i64 (r3_Latency a0)) := w_r3_Latency_  rfl
end Go.Proofs.Ythbpicnbkdbbmaa
