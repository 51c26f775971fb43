/- Functions, lifted. Printed by lift.py. -/
import Derived.Test.YtfnmihhcopkkbaaGreatProg
import Derived.Test.YtfnmihhcopkkbaaGreatP9
import Derived.KernelRfl
namespace Go.Proofs.YtfnmihhcopkkbaaGreat
open Go Go.RowKit Fr
set_option linter.unusedVariables false
set_option linter.unusedSimpArgs false
set_option maxRecDepth 20000
open Tryz
set_option maxHeartbeats 2000000
noncomputable def r5_do_k1 (a2 : Int) (a1 : T_Ins) (a0 : T_State) (a3 : Int) (a4 : Int) : (Bool × (List Int) × (List Int) × (List T_Write)) → Option (T_State × T_deed) := fun (x11, x12, x17, x22) => bif x11 then bif decide (256 ≤ (IntKind.u32.wrap (a2 + (IntKind.u32.wrap a1.Imm)))) then some ((⟨a0.Regs, a0.Mem, a0.In_, a0.Taken, x12, a0.PC, x17, a0.Stop, x22, a0.Jump, a0.Delay⟩ : T_State), (⟨false, 0, false, 0, 2⟩ : T_deed)) else bif decide (a1.Op = 24) then (at' a0.Mem (IntKind.u32.wrap (a2 + (IntKind.u32.wrap a1.Imm)))).bind fun x34 => some ((⟨a0.Regs, a0.Mem, a0.In_, a0.Taken, x12, a0.PC, x17, a0.Stop, x22, a0.Jump, a0.Delay⟩ : T_State), (⟨true, x34, false, 0, 0⟩ : T_deed)) else (set' a0.Mem (IntKind.u32.wrap (a2 + (IntKind.u32.wrap a1.Imm))) a3).bind fun B0 => some ((⟨a0.Regs, B0, a0.In_, a0.Taken, x12, a0.PC, x17, a0.Stop, x22, a0.Jump, a0.Delay⟩ : T_State), (⟨false, 0, false, 0, 0⟩ : T_deed)) else bif decide (a1.Op = 26) then bif decide (a0.Taken < (a0.In_.length : Int)) then (at' a0.In_ a0.Taken).bind fun x56 => some ((⟨a0.Regs, a0.Mem, a0.In_, IntKind.i64.wrap (a0.Taken + 1), x12, a0.PC, x17, a0.Stop, x22, a0.Jump, a0.Delay⟩ : T_State), (⟨true, x56, false, 0, 0⟩ : T_deed)) else some ((⟨a0.Regs, a0.Mem, a0.In_, a0.Taken, x12, a0.PC, x17, a0.Stop, x22, a0.Jump, a0.Delay⟩ : T_State), (⟨true, 0, false, 0, 0⟩ : T_deed)) else bif decide (a1.Op = 27) then (app' x12 ([a2] : List Int)).bind fun D0 => some ((⟨a0.Regs, a0.Mem, a0.In_, a0.Taken, D0, a0.PC, x17, a0.Stop, x22, a0.Jump, a0.Delay⟩ : T_State), (⟨false, 0, false, 0, 0⟩ : T_deed)) else bif decide (a1.Op = 28) then some ((⟨a0.Regs, a0.Mem, a0.In_, a0.Taken, x12, a0.PC, x17, a0.Stop, x22, a0.Jump, a0.Delay⟩ : T_State), (⟨false, 0, true, a1.Imm, 0⟩ : T_deed)) else bif decide (a1.Op = 29) then some ((⟨a0.Regs, a0.Mem, a0.In_, a0.Taken, x12, a0.PC, x17, a0.Stop, x22, a0.Jump, a0.Delay⟩ : T_State), (⟨false, 0, decide (a2 = 0), a1.Imm, 0⟩ : T_deed)) else bif decide (a1.Op = 30) then some ((⟨a0.Regs, a0.Mem, a0.In_, a0.Taken, x12, a0.PC, x17, a0.Stop, x22, a0.Jump, a0.Delay⟩ : T_State), (⟨false, 0, decide (a2 ≠ 0), a1.Imm, 0⟩ : T_deed)) else bif decide (a1.Op = 31) then bif decide (16 ≤ (x17.length : Int)) then some ((⟨a0.Regs, a0.Mem, a0.In_, a0.Taken, x12, a0.PC, x17, a0.Stop, x22, a0.Jump, a0.Delay⟩ : T_State), (⟨false, 0, false, 0, 4⟩ : T_deed)) else (app' x17 ([a4] : List Int)).bind fun E0 => some ((⟨a0.Regs, a0.Mem, a0.In_, a0.Taken, x12, a0.PC, E0, a0.Stop, x22, a0.Jump, a0.Delay⟩ : T_State), (⟨false, 0, true, a1.Imm, 0⟩ : T_deed)) else bif decide (a1.Op = 32) then bif decide ((x17.length : Int) = 0) then some ((⟨a0.Regs, a0.Mem, a0.In_, a0.Taken, x12, a0.PC, x17, a0.Stop, x22, a0.Jump, a0.Delay⟩ : T_State), (⟨false, 0, false, 0, 4⟩ : T_deed)) else (at' x17 (IntKind.i64.wrap ((x17.length : Int) - 1))).bind fun x89 => (upto' x17 (IntKind.i64.wrap ((x17.length : Int) - 1))).bind fun G0 => some ((⟨a0.Regs, a0.Mem, a0.In_, a0.Taken, x12, a0.PC, G0, a0.Stop, x22, a0.Jump, a0.Delay⟩ : T_State), (⟨false, 0, true, x89, 0⟩ : T_deed)) else bif decide (a1.Op = 33) then some ((⟨a0.Regs, a0.Mem, a0.In_, a0.Taken, x12, a0.PC, x17, a0.Stop, x22, a0.Jump, a0.Delay⟩ : T_State), (⟨false, 0, false, 0, 1⟩ : T_deed)) else some ((⟨a0.Regs, a0.Mem, a0.In_, a0.Taken, x12, a0.PC, x17, a0.Stop, x22, a0.Jump, a0.Delay⟩ : T_State), (⟨false, 0, false, 0, 0⟩ : T_deed))
noncomputable def r5_do (a0 : T_State) (a1 : T_Ins) (a2 : Int) (a3 : Int) (a4 : Int) : Option (T_State × T_deed) :=
  bif (r1_Has a1.Op) then (r1_Of a1.Op a2 a3).bind fun r4 => bif !r4.2 then some (a0, (⟨false, 0, false, 0, 3⟩ : T_deed)) else some (a0, (⟨true, r4.1, false, 0, 0⟩ : T_deed)) else bif (r1_Paired a1.Op) then (r1_Pair a1.Op a2 a3).bind fun r7 => some (a0, (⟨true, r7, false, 0, 0⟩ : T_deed)) else bif decide (a1.Op = 22) then some (a0, (⟨true, IntKind.u32.wrap (a2 + (IntKind.u32.wrap a1.Imm)), false, 0, 0⟩ : T_deed)) else bif decide (a1.Op = 23) then some (a0, (⟨true, IntKind.u32.wrap a1.Imm, false, 0, 0⟩ : T_deed)) else cut (σ := (Bool × (List Int) × (List Int) × (List T_Write))) (bif decide (a1.Op = 24) then some (.next (decide (a1.Op = 24), a0.Out, a0.Stack, a0.Fly)) else some (.next (decide (a1.Op = 25), a0.Out, a0.Stack, a0.Fly))) (r5_do_k1 a2 a1 a0 a3 a4)
theorem w_r5_do_ {g : Frag} {a0 : T_State} {b0_ : Nat} {LB0_ : Own} {a1 : T_Ins} {a2 : Int} {a3 : Int} {a4 : Int} {r : (T_State × T_deed)} (h0 : Bx_State b0_ a0 LB0_) (hF : r5_do a0 a1 a2 a3 a4 = some r) : LC Tryz.prog 74 #[.pointer (some ⟨b0_, 0, none⟩), .agg (enc_Ins a1).toArray, .int .u32 a2, .int .u32 a3, .int .i64 a4] g LB0_ (fun v L => ∃ (LB' : Own), v = .agg (enc_deed r.2).toArray ∧ L = (LB' ++ []) ∧ Bx_State b0_ r.1 LB') := by
 obtain ⟨K0, M0, N0, E1, G1, I1, T0, U0, R0, Z0, B1, D1, V1, E0, D0, B0, G0, I0, J0⟩ := h0
 unfold r5_do at hF
 refine lc_body (k := 213) (av := [.pointer (some ⟨b0_, 0, none⟩), .agg (enc_Ins a1).toArray, .int .u32 a2, .int .u32 a3, .int .i64 a4]) func74 rfl rfl (h := fun W hS => ?_)
 have hS := hS.own_eq V1
 refine c_seq <| c_region ?_
 refine o_boxP (cl := (enc_Ins a1)) rfl hS ?_
 clear hS; intro b1 w hS
 refine o_allocP (cl := (enc_deed ⟨false, 0, false, 0, 0⟩)) zr_sledgeref5_deed rfl hS ?_
 clear hS; intro b2 w hS
 refine n_thenN <| c_seq <| c_block <| c_seq <| c_region <| oy hS (y_field fa_api_Ins_0) <| oy hS (y_load (fun w hS => hS.own (mC (mH))) underlying3 rfl rfl) ?_
 refine o_callS hS func110 rfl rfl (hc := (w_r1_Has (a0 := a1.Op))) (h := ?_)
 clear hS; intro w hS
 refine oy hS y_assign <| n_thenN ?_
 refine c_if (ht := fun c3 => ?_) (hf := fun c3 => ?_)
 · replace hF := bt c3 hF
   refine c_seq <| c_region <| oy hS (y_field fa_api_Ins_0) <| oy hS (y_load (fun w hS => hS.own (mC (mH))) underlying3 rfl rfl) ?_
   iterate 2 (refine oy hS y_move ?_)
   obtain ⟨r4, hr4, hF⟩ := ob hF
   refine o_callS hS func111 rfl rfl (hc := (w_r1_Of (a0 := a1.Op) (a1 := a2) (a2 := a3) (hF := hr4))) (h := ?_)
   clear hS; intro w hS
   refine oy hS y_move ?_
   iterate 2 (refine oy hS (y_extract rfl) ?_)
   iterate 2 (refine oy hS y_assign ?_)
   refine n_thenN ?_
   iterate 2 (refine c_seq ?_)
   refine c_region <| oy hS y_move <| oy hS y_not <| n_thenN ?_
   refine c_if (ht := fun c5 => ?_) (hf := fun c5 => ?_)
   · replace hF := bt c5 hF
     refine c_seq <| c_region ?_
     refine oy hS (y_build (cl := (enc_deed ⟨false, 0, false, 0, 3⟩)) bt_sledgeref5_deed rfl (by kernel_rfl)) ?_
     refine o_storeW (vs := (enc_deed ⟨false, 0, false, 0, 3⟩)) hS (by exact rfl) (Upd.here _) (by exact sz_sledgeref5_deed) (enc_one_deed _) ?_
     clear hS; intro w hS
     refine n_thenN ?_
     obtain rfl := osi hF
     refine wp_ret (r_ret (vs := [.agg (enc_deed ⟨false, 0, false, 0, 3⟩).toArray]) (hS.re (.b (.e (.e .hb)) (.t (.e (.e .h)) (.t (.e (.e .h)) (.t (.e (.e .h)) (.t (.e (.e .h)) (.t (.e (.e .h)) (.t (.e (.e .h)) .n)))))))) (rsC (res_cell (hS.own (mH)) underlying122 rfl (by exact sz_sledgeref5_deed)) rsN) rfl ⟨_, rfl, (by first | rfl | simp only [aa, ac, al, an]), ⟨_, _, _, _, _, _, _, _, _, _, _, _, rfl, E0, D0, B0, G0, I0, J0⟩⟩)
   replace hF := bf c5 hF
   refine wp_skip <| c_seq <| c_region <| oy hS y_move ?_
   refine oy hS (y_build (cl := (enc_deed ⟨true, r4.1, false, 0, 0⟩)) bt_sledgeref5_deed rfl (by kernel_rfl)) ?_
   refine o_storeW (vs := (enc_deed ⟨true, r4.1, false, 0, 0⟩)) hS (by exact rfl) (Upd.here _) (by exact sz_sledgeref5_deed) (enc_one_deed _) ?_
   clear hS; intro w hS
   refine n_thenN ?_
   obtain rfl := osi hF
   refine wp_ret (r_ret (vs := [.agg (enc_deed ⟨true, r4.1, false, 0, 0⟩).toArray]) (hS.re (.b (.e (.e .hb)) (.t (.e (.e .h)) (.t (.e (.e .h)) (.t (.e (.e .h)) (.t (.e (.e .h)) (.t (.e (.e .h)) (.t (.e (.e .h)) .n)))))))) (rsC (res_cell (hS.own (mH)) underlying122 rfl (by exact sz_sledgeref5_deed)) rsN) rfl ⟨_, rfl, (by first | rfl | simp only [aa, ac, al, an]), ⟨_, _, _, _, _, _, _, _, _, _, _, _, rfl, E0, D0, B0, G0, I0, J0⟩⟩)
 replace hF := bf c3 hF
 refine c_seq <| c_region <| oy hS (y_field fa_api_Ins_0) <| oy hS (y_load (fun w hS => hS.own (mC (mH))) underlying3 rfl rfl) ?_
 refine o_callS hS func112 rfl rfl (hc := (w_r1_Paired (a0 := a1.Op))) (h := ?_)
 clear hS; intro w hS
 refine oy hS y_assign <| n_thenN ?_
 refine c_if (ht := fun c6 => ?_) (hf := fun c6 => ?_)
 · replace hF := bt c6 hF
   refine c_seq <| c_region <| oy hS (y_field fa_api_Ins_0) <| oy hS (y_load (fun w hS => hS.own (mC (mH))) underlying3 rfl rfl) ?_
   iterate 2 (refine oy hS y_move ?_)
   obtain ⟨r7, hr7, hF⟩ := ob hF
   refine o_callS hS func113 rfl rfl (hc := (w_r1_Pair (a0 := a1.Op) (a1 := a2) (a2 := a3) (hF := hr7))) (h := ?_)
   clear hS; intro w hS
   refine oy hS (y_build (cl := (enc_deed ⟨true, r7, false, 0, 0⟩)) bt_sledgeref5_deed rfl (by kernel_rfl)) ?_
   refine o_storeW (vs := (enc_deed ⟨true, r7, false, 0, 0⟩)) hS (by exact rfl) (Upd.here _) (by exact sz_sledgeref5_deed) (enc_one_deed _) ?_
   clear hS; intro w hS
   refine n_thenN ?_
   obtain rfl := osi hF
   refine wp_ret (r_ret (vs := [.agg (enc_deed ⟨true, r7, false, 0, 0⟩).toArray]) (hS.re (.b (.e (.e .hb)) (.t (.e (.e .h)) (.t (.e (.e .h)) (.t (.e (.e .h)) (.t (.e (.e .h)) (.t (.e (.e .h)) (.t (.e (.e .h)) .n)))))))) (rsC (res_cell (hS.own (mH)) underlying122 rfl (by exact sz_sledgeref5_deed)) rsN) rfl ⟨_, rfl, (by first | rfl | simp only [aa, ac, al, an]), ⟨_, _, _, _, _, _, _, _, _, _, _, _, rfl, E0, D0, B0, G0, I0, J0⟩⟩)
 replace hF := bf c6 hF
 refine wp_skip ?_
 iterate 2 (refine c_seq ?_)
 refine c_region <| oy hS (y_field fa_api_Ins_0) <| oy hS (y_load (fun w hS => hS.own (mC (mH))) underlying3 rfl rfl) <| n_thenN <| c_block <| c_seq <| c_region <| oy hS y_bin ?_
 refine oy hS y_assign <| n_thenN ?_
 refine c_if (ht := fun c8 => ?_) (hf := fun c8 => ?_)
 · replace hF := bt c8 hF
   refine c_seq <| c_region <| oy hS y_move <| oy hS (y_field fa_api_Ins_4) <| oy hS (y_load (fun w hS => hS.own (mC (mH))) underlying3 rfl rfl) <| oy hS (y_conv underlying3 underlying87) <| oy hS y_bin ?_
   refine oy hS (y_build (cl := (enc_deed ⟨true, IntKind.u32.wrap (a2 + (IntKind.u32.wrap a1.Imm)), false, 0, 0⟩)) bt_sledgeref5_deed rfl (by kernel_rfl)) ?_
   refine o_storeW (vs := (enc_deed ⟨true, IntKind.u32.wrap (a2 + (IntKind.u32.wrap a1.Imm)), false, 0, 0⟩)) hS (by exact rfl) (Upd.here _) (by exact sz_sledgeref5_deed) (enc_one_deed _) ?_
   clear hS; intro w hS
   refine n_thenN ?_
   obtain rfl := osi hF
   refine wp_ret (r_ret (vs := [.agg (enc_deed ⟨true, IntKind.u32.wrap (a2 + (IntKind.u32.wrap a1.Imm)), false, 0, 0⟩).toArray]) (hS.re (.b (.e (.e .hb)) (.t (.e (.e .h)) (.t (.e (.e .h)) (.t (.e (.e .h)) (.t (.e (.e .h)) (.t (.e (.e .h)) (.t (.e (.e .h)) .n)))))))) (rsC (res_cell (hS.own (mH)) underlying122 rfl (by exact sz_sledgeref5_deed)) rsN) rfl ⟨_, rfl, (by first | rfl | simp only [aa, ac, al, an]), ⟨_, _, _, _, _, _, _, _, _, _, _, _, rfl, E0, D0, B0, G0, I0, J0⟩⟩)
 replace hF := bf c8 hF
 refine c_seq <| c_region <| oy hS y_bin <| oy hS y_assign <| n_thenN ?_
 refine c_if (ht := fun c9 => ?_) (hf := fun c9 => ?_)
 · replace hF := bt c9 hF
   refine c_seq <| c_region <| oy hS (y_field fa_api_Ins_4) <| oy hS (y_load (fun w hS => hS.own (mC (mH))) underlying3 rfl rfl) <| oy hS (y_conv underlying3 underlying87) ?_
   refine oy hS (y_build (cl := (enc_deed ⟨true, IntKind.u32.wrap a1.Imm, false, 0, 0⟩)) bt_sledgeref5_deed rfl (by kernel_rfl)) ?_
   refine o_storeW (vs := (enc_deed ⟨true, IntKind.u32.wrap a1.Imm, false, 0, 0⟩)) hS (by exact rfl) (Upd.here _) (by exact sz_sledgeref5_deed) (enc_one_deed _) ?_
   clear hS; intro w hS
   refine n_thenN ?_
   obtain rfl := osi hF
   refine wp_ret (r_ret (vs := [.agg (enc_deed ⟨true, IntKind.u32.wrap a1.Imm, false, 0, 0⟩).toArray]) (hS.re (.b (.e (.e .hb)) (.t (.e (.e .h)) (.t (.e (.e .h)) (.t (.e (.e .h)) (.t (.e (.e .h)) (.t (.e (.e .h)) (.t (.e (.e .h)) .n)))))))) (rsC (res_cell (hS.own (mH)) underlying122 rfl (by exact sz_sledgeref5_deed)) rsN) rfl ⟨_, rfl, (by first | rfl | simp only [aa, ac, al, an]), ⟨_, _, _, _, _, _, _, _, _, _, _, _, rfl, E0, D0, B0, G0, I0, J0⟩⟩)
 replace hF := bf c9 hF
 obtain ⟨z27, hF, N1⟩ := cut_step hF
 refine c_cutP (fun a w' => ∃ (x11 : Bool) (x12 : (List Int)) (x17 : (List Int)) (x22 : (List T_Write)) (v13 : Value) (v18 : Value) (v23 : Value) (V0 : Own) (X0 : Own) (Y0 : Own), r5_do_k1 a2 a1 a0 a3 a4 (x11, x12, x17, x22) = some r ∧ OwT 87 enc_uint32 1 x12 v13 V0 ∧ OwT 3 enc_int 1 x17 v18 X0 ∧ OwT 89 enc_Write 3 x22 v23 Y0 ∧ (∃ s : Nat → Value, a = Ac (((((((((Fm.dead 213 s).upd 0 (.pointer (some ⟨b0_, 0, none⟩))).upd 2 (.int .u32 a2)).upd 3 (.int .u32 a3)).upd 4 (.int .i64 a4)).upd 6 (.pointer (some ⟨b1, 0, none⟩))).upd 10 (.pointer (some ⟨b2, 0, none⟩))).upd 44 (.int .i64 a1.Op)).upd 59 (.bool x11))) ∧ St W g LB0_ ((b0_, blk (cl_State K0 M0 N0 a0.Taken v13 a0.PC v18 a0.Stop v23 a0.Jump a0.Delay) 62) :: ((b1, blk (enc_Ins a1) 81) :: ((b2, blk (enc_deed ⟨false, 0, false, 0, 0⟩) 122) :: (T0 ++ (U0 ++ (R0 ++ (V0 ++ (X0 ++ (Y0 ++ []))))))))) w') ?_ ?_
 · skip
   refine c_seq <| c_region <| oy hS y_bin <| oy hS y_assign <| n_thenN ?_
   refine c_if (ht := fun c29 => ?_) (hf := fun c29 => ?_)
   · replace hF := bt c29 hF
     refine wp_skip ?_
     obtain rfl := osi hF
     change ∃ _, _
     exact ⟨decide (a1.Op = 24), a0.Out, a0.Stack, a0.Fly, E1, G1, I1, Z0, B1, D1, N1, G0, I0, J0, mk_exF, (hS.re (.b (.e (.e .hb)) (.b (.e .hb) (.b .hb (.t .h (.t .h (.t .h (.t .h (.t .h (.t .h .n))))))))))⟩
   replace hF := bf c29 hF
   refine c_region <| oy hS y_bin <| oy hS y_assign <| n_thenN ?_
   obtain rfl := osi hF
   change ∃ _, _
   exact ⟨decide (a1.Op = 25), a0.Out, a0.Stack, a0.Fly, E1, G1, I1, Z0, B1, D1, N1, G0, I0, J0, mk_exF, (hS.re (.b (.e (.e .hb)) (.b (.e .hb) (.b .hb (.t .h (.t .h (.t .h (.t .h (.t .h (.t .h .n))))))))))⟩
 rintro a w ⟨x11, x12, x17, x22, v13, v18, v23, V0, X0, Y0, hF, h14, h19, h24, ⟨s30, rfl⟩, hS⟩
 dsimp only [r5_do_k1] at hF
 refine c_if (ht := fun c31 => ?_) (hf := fun c31 => ?_)
 · replace hF := bt c31 hF
   refine c_seq <| c_region <| oy hS y_move <| oy hS (y_field fa_api_Ins_4) <| oy hS (y_load (fun w hS => hS.own (mC (mH))) underlying3 rfl rfl) <| oy hS (y_conv underlying3 underlying87) <| oy hS y_bin <| oy hS y_assign ?_
   refine n_thenN ?_
   iterate 2 (refine c_seq ?_)
   refine c_region <| oy hS y_move <| oy hS y_bin <| n_thenN ?_
   refine c_if (ht := fun c32 => ?_) (hf := fun c32 => ?_)
   · replace hF := bt c32 hF
     refine c_seq <| c_region ?_
     refine oy hS (y_build (cl := (enc_deed ⟨false, 0, false, 0, 2⟩)) bt_sledgeref5_deed rfl (by kernel_rfl)) ?_
     refine o_storeW (vs := (enc_deed ⟨false, 0, false, 0, 2⟩)) hS (by exact rfl) (Upd.there _ (Upd.there _ (Upd.here _))) (by exact sz_sledgeref5_deed) (enc_one_deed _) ?_
     clear hS; intro w hS
     refine n_thenN ?_
     obtain rfl := osi hF
     refine wp_ret (r_ret (vs := [.agg (enc_deed ⟨false, 0, false, 0, 2⟩).toArray]) (hS.re (.b .hb (.t (.e (.e .h)) (.t (.e (.e .h)) (.t (.e (.e .h)) (.t (.e (.e .h)) (.t (.e (.e .h)) (.t (.e (.e .h)) .n)))))))) (rsC (res_cell (hS.own (mC (mC (mH)))) underlying122 rfl (by exact sz_sledgeref5_deed)) rsN) rfl ⟨_, rfl, (by first | rfl | simp only [aa, ac, al, an]), ⟨_, _, _, _, _, _, _, _, _, _, _, _, rfl, E0, D0, B0, h14, h19, h24⟩⟩)
   replace hF := bf c32 hF
   refine wp_skip ?_
   iterate 2 (refine c_seq ?_)
   refine c_region <| oy hS (y_field fa_api_Ins_0) <| oy hS (y_load (fun w hS => hS.own (mC (mH))) underlying3 rfl rfl) <| oy hS y_bin <| n_thenN ?_
   refine c_if (ht := fun c33 => ?_) (hf := fun c33 => ?_)
   · replace hF := bt c33 hF
     refine c_seq <| c_region <| oy hS y_move <| oy hS y_nilCheck <| oy hS (y_field fa_api_State_1) <| oy hS (y_load oH underlying31 rfl rfl) <| oy hS y_move ?_
     obtain ⟨x34, X1, hF⟩ := ob hF
     obtain ⟨b35, c36, G3, Y1, Z1, B2, D2, E2⟩ := OwT.at X1 D0 enc_len_uint32
     refine oy hS (y_index Y1 Z1 B2 underlying31 el_uint32.size) <| oy hS (y_load (fun w hS => hS.own (mC (mC (mC (mB (mA (mX D2))))))) underlying87 rfl (E2 0 _ rfl)) ?_
     refine oy hS (y_build (cl := (enc_deed ⟨true, x34, false, 0, 0⟩)) bt_sledgeref5_deed rfl (by kernel_rfl)) ?_
     refine o_storeW (vs := (enc_deed ⟨true, x34, false, 0, 0⟩)) hS (by exact rfl) (Upd.there _ (Upd.there _ (Upd.here _))) (by exact sz_sledgeref5_deed) (enc_one_deed _) ?_
     clear hS; intro w hS
     refine n_thenN ?_
     obtain rfl := osi hF
     refine wp_ret (r_ret (vs := [.agg (enc_deed ⟨true, x34, false, 0, 0⟩).toArray]) (hS.re (.b .hb (.t (.e (.e .h)) (.t (.e (.e .h)) (.t (.e (.e .h)) (.t (.e (.e .h)) (.t (.e (.e .h)) (.t (.e (.e .h)) .n)))))))) (rsC (res_cell (hS.own (mC (mC (mH)))) underlying122 rfl (by exact sz_sledgeref5_deed)) rsN) rfl ⟨_, rfl, (by first | rfl | simp only [aa, ac, al, an]), ⟨_, _, _, _, _, _, _, _, _, _, _, _, rfl, E0, D0, B0, h14, h19, h24⟩⟩)
   replace hF := bf c33 hF
   refine wp_skip <| c_region <| oy hS y_move <| oy hS y_nilCheck <| oy hS (y_field fa_api_State_1) <| oy hS (y_load oH underlying31 rfl rfl) ?_
   iterate 2 (refine oy hS y_move ?_)
   obtain ⟨I3, M1, hF⟩ := ob hF
   obtain ⟨b43, c44, J3, G2, I2, J2, K2⟩ := OwT.at_set M1 D0 enc_len_uint32
   refine oy hS (y_index G2 I2 J2 underlying31 el_uint32.size) ?_
   refine o_storeO (L' := fun X => ((b0_, blk (cl_State K0 M0 N0 a0.Taken v13 a0.PC v18 a0.Stop v23 a0.Jump a0.Delay) 62) :: ((b1, blk (enc_Ins a1) 81) :: ((b2, blk (enc_deed ⟨false, 0, false, 0, 0⟩) 122) :: (T0 ++ (X ++ (R0 ++ (V0 ++ (X0 ++ (Y0 ++ [])))))))))) M1 hS D0 K2 (fun X => .thereb _ (.thereb _ (.thereb _ (.there _ (.here _))))) enc_len_uint32 rfl (by exact sz_uint32) rfl rfl ?_
   clear hS; intro K3 w h52 hS
   refine n_anyN ?_
   refine c_seq <| c_region ?_
   refine oy hS (y_build (cl := (enc_deed ⟨false, 0, false, 0, 0⟩)) bt_sledgeref5_deed rfl (by kernel_rfl)) ?_
   refine o_storeW (vs := (enc_deed ⟨false, 0, false, 0, 0⟩)) hS (by exact rfl) (Upd.there _ (Upd.there _ (Upd.here _))) (by exact sz_sledgeref5_deed) (enc_one_deed _) ?_
   clear hS; intro w hS
   refine n_thenN ?_
   obtain rfl := osi hF
   refine wp_ret (r_ret (vs := [.agg (enc_deed ⟨false, 0, false, 0, 0⟩).toArray]) (hS.re (.b .hb (.t (.e (.e .h)) (.t (.e (.e .h)) (.t (.e (.e .h)) (.t (.e (.e .h)) (.t (.e (.e .h)) (.t (.e (.e .h)) .n)))))))) (rsC (res_cell (hS.own (mC (mC (mH)))) underlying122 rfl (by exact sz_sledgeref5_deed)) rsN) rfl ⟨_, rfl, (by first | rfl | simp only [aa, ac, al, an]), ⟨_, _, _, _, _, _, _, _, _, _, _, _, rfl, E0, h52, B0, h14, h19, h24⟩⟩)
 replace hF := bf c31 hF
 refine c_seq <| c_region <| oy hS y_bin <| oy hS y_assign <| n_thenN ?_
 refine c_if (ht := fun c54 => ?_) (hf := fun c54 => ?_)
 · replace hF := bt c54 hF
   refine c_seq <| c_region <| oy hS y_assign <| n_thenN ?_
   iterate 2 (refine c_seq ?_)
   refine c_quiet (by kernel_rfl) (by kernel_rfl) hS ?_
   refine qy y_move <| qy y_nilCheck <| qy (y_field fa_api_State_3) <| qy (y_load (fun w hS => hS.own (mH)) underlying3 rfl rfl) <| qy y_move <| qy y_nilCheck <| qy (y_field fa_api_State_2) <| qy (y_load (fun w hS => hS.own (mH)) underlying31 rfl rfl) ?_
   refine qy (y_lenO B0 underlying31) <| qy y_bin ?_
   refine q_nilN (h := ?_)
   clear hS; intro w hS
   refine c_if (ht := fun c55 => ?_) (hf := fun c55 => ?_)
   · replace hF := bt c55 hF
     refine c_seq ?_
     refine c_quiet (by kernel_rfl) (by kernel_rfl) hS ?_
     refine qy y_move <| qy y_nilCheck <| qy (y_field fa_api_State_2) <| qy (y_load (fun w hS => hS.own (mH)) underlying31 rfl rfl) <| qy y_move <| qy y_nilCheck <| qy (y_field fa_api_State_3) <| qy (y_load (fun w hS => hS.own (mH)) underlying3 rfl rfl) ?_
     obtain ⟨x56, M2, hF⟩ := ob hF
     obtain ⟨b57, c58, M3, N2, R2, T2, U2, V2⟩ := OwT.at M2 B0 enc_len_uint32
     refine qy (y_index N2 R2 T2 underlying31 el_uint32.size) <| qy (y_load (fun w hS => hS.own (mC (mC (mC (mB (mB (mA (mX U2)))))))) underlying87 rfl (V2 0 _ rfl)) <| qy y_assign ?_
     refine q_nilN (h := ?_)
     clear hS; intro w hS
     refine c_region <| oy hS y_move <| oy hS y_nilCheck <| oy hS (y_field fa_api_State_3) <| oy hS (y_load oH underlying3 rfl rfl) <| oy hS y_bin <| oy hS y_nilCheck <| oy hS (y_field fa_api_State_3) ?_
     refine o_storeA1 (o := 3) (cl' := (cl_State K0 M0 N0 (IntKind.i64.wrap (a0.Taken + 1)) v13 a0.PC v18 a0.Stop v23 a0.Jump a0.Delay)) hS (by kernel_rfl) (by exact Nat.le_of_ble_eq_true rfl) (Upd.here _) (by exact sz_int) rfl rfl ?_
     clear hS; intro w hS
     refine n_thenN <| c_seq <| c_region <| oy hS y_move ?_
     refine oy hS (y_build (cl := (enc_deed ⟨true, x56, false, 0, 0⟩)) bt_sledgeref5_deed rfl (by kernel_rfl)) ?_
     refine o_storeW (vs := (enc_deed ⟨true, x56, false, 0, 0⟩)) hS (by exact rfl) (Upd.there _ (Upd.there _ (Upd.here _))) (by exact sz_sledgeref5_deed) (enc_one_deed _) ?_
     clear hS; intro w hS
     refine n_thenN ?_
     obtain rfl := osi hF
     refine wp_ret (r_ret (vs := [.agg (enc_deed ⟨true, x56, false, 0, 0⟩).toArray]) (hS.re (.b .hb (.t (.e (.e .h)) (.t (.e (.e .h)) (.t (.e (.e .h)) (.t (.e (.e .h)) (.t (.e (.e .h)) (.t (.e (.e .h)) .n)))))))) (rsC (res_cell (hS.own (mC (mC (mH)))) underlying122 rfl (by exact sz_sledgeref5_deed)) rsN) rfl ⟨_, rfl, (by first | rfl | simp only [aa, ac, al, an]), ⟨_, _, _, _, _, _, _, _, _, _, _, _, rfl, E0, D0, B0, h14, h19, h24⟩⟩)
   replace hF := bf c55 hF
   refine wp_skip <| c_seq <| c_region <| oy hS y_move ?_
   refine oy hS (y_build (cl := (enc_deed ⟨true, 0, false, 0, 0⟩)) bt_sledgeref5_deed rfl (by kernel_rfl)) ?_
   refine o_storeW (vs := (enc_deed ⟨true, 0, false, 0, 0⟩)) hS (by exact rfl) (Upd.there _ (Upd.there _ (Upd.here _))) (by exact sz_sledgeref5_deed) (enc_one_deed _) ?_
   clear hS; intro w hS
   refine n_thenN ?_
   obtain rfl := osi hF
   refine wp_ret (r_ret (vs := [.agg (enc_deed ⟨true, 0, false, 0, 0⟩).toArray]) (hS.re (.b .hb (.t (.e (.e .h)) (.t (.e (.e .h)) (.t (.e (.e .h)) (.t (.e (.e .h)) (.t (.e (.e .h)) (.t (.e (.e .h)) .n)))))))) (rsC (res_cell (hS.own (mC (mC (mH)))) underlying122 rfl (by exact sz_sledgeref5_deed)) rsN) rfl ⟨_, rfl, (by first | rfl | simp only [aa, ac, al, an]), ⟨_, _, _, _, _, _, _, _, _, _, _, _, rfl, E0, D0, B0, h14, h19, h24⟩⟩)
 replace hF := bf c54 hF
 refine c_seq <| c_region <| oy hS y_bin <| oy hS y_assign <| n_thenN ?_
 refine c_if (ht := fun c65 => ?_) (hf := fun c65 => ?_)
 · replace hF := bt c65 hF
   refine c_region ?_
   iterate 2 (refine oy hS y_move ?_)
   refine oy hS y_nilCheck <| oy hS (y_field fa_api_State_4) <| oy hS (y_load oH underlying31 rfl rfl) <| oy hS y_move ?_
   refine o_buildT val_uint32 ([a2] : List Int) hS el_uint32 (fun _ => rfl) enc_len_uint32 (by decide) rfl (by decide) (hp := rfl) (h := ?_)
   clear hS; intro b66 w hS h67
   have hS : St W g LB0_ ([(b66, blk (([a2] : List Int).flatMap enc_uint32) 87)] ++ ((b0_, blk (cl_State K0 M0 N0 a0.Taken v13 a0.PC v18 a0.Stop v23 a0.Jump a0.Delay) 62) :: ((b1, blk (enc_Ins a1) 81) :: ((b2, blk (enc_deed ⟨false, 0, false, 0, 0⟩) 122) :: (T0 ++ (U0 ++ (R0 ++ (V0 ++ (X0 ++ (Y0 ++ [])))))))))) w := hS
   obtain ⟨N3, R1, hF⟩ := ob hF
   have hS := hS.re (.t .h (.t (.e (.e (.e (.d (.d (.d .h)))))) (.b .hb (.b .hb (.b .hb (.t .h (.t .h (.t .h (.t .h (.t .h .n))))))))))
   refine o_appPn (ys := ([a2] : List Int)) (LX := V0) R1 hS el_uint32 h14 rfl enc_len_uint32 (enc_ones_uint32 _) (by decide) ?_
   clear hS; intro v69 R3 w h71 hS
   refine oy hS y_nilCheck <| oy hS (y_field fa_api_State_4) ?_
   have hS := hS.re (.b (.d .hb) (.t .h (.b .hb (.b .hb (.t .h (.t .h (.t .h (.t .h (.t .h .n)))))))))
   refine o_storeA1 (o := 4) (cl' := (cl_State K0 M0 N0 a0.Taken v69 a0.PC v18 a0.Stop v23 a0.Jump a0.Delay)) hS (by kernel_rfl) (by exact Nat.le_of_ble_eq_true rfl) (Upd.here _) (by exact sz_S_uint32) (h71).one (h71).cell ?_
   clear hS; intro w hS
   refine n_anyN ?_
   refine c_seq <| c_region ?_
   refine oy hS (y_build (cl := (enc_deed ⟨false, 0, false, 0, 0⟩)) bt_sledgeref5_deed rfl (by kernel_rfl)) ?_
   have hS := hS.re (.b (.e (.d (.e .hb))) (.b .hb (.t .h (.b .hb (.t .h (.t .h (.t .h (.t .h (.t .h .n)))))))))
   refine o_storeW (vs := (enc_deed ⟨false, 0, false, 0, 0⟩)) hS (by exact rfl) (Upd.here _) (by exact sz_sledgeref5_deed) (enc_one_deed _) ?_
   clear hS; intro w hS
   refine n_thenN ?_
   obtain rfl := osi hF
   refine wp_ret (r_ret (vs := [.agg (enc_deed ⟨false, 0, false, 0, 0⟩).toArray]) (hS.re (.b (.e .hb) (.t (.e (.d (.e .h))) (.t (.e (.d (.e .h))) (.t (.e (.d (.e .h))) (.t (.e .h) (.t (.e (.e .h)) (.t (.e (.e .h)) .n)))))))) (rsC (res_cell (hS.own (mH)) underlying122 rfl (by exact sz_sledgeref5_deed)) rsN) rfl ⟨_, rfl, (by first | rfl | simp only [aa, ac, al, an]), ⟨_, _, _, _, _, _, _, _, _, _, _, _, rfl, E0, D0, B0, h71, h19, h24⟩⟩)
 replace hF := bf c65 hF
 refine c_seq <| c_region <| oy hS y_bin <| oy hS y_assign <| n_thenN ?_
 refine c_if (ht := fun c74 => ?_) (hf := fun c74 => ?_)
 · replace hF := bt c74 hF
   refine c_seq <| c_region <| oy hS (y_field fa_api_Ins_4) <| oy hS (y_load (fun w hS => hS.own (mC (mH))) underlying3 rfl rfl) ?_
   refine oy hS (y_build (cl := (enc_deed ⟨false, 0, true, a1.Imm, 0⟩)) bt_sledgeref5_deed rfl (by kernel_rfl)) ?_
   refine o_storeW (vs := (enc_deed ⟨false, 0, true, a1.Imm, 0⟩)) hS (by exact rfl) (Upd.there _ (Upd.there _ (Upd.here _))) (by exact sz_sledgeref5_deed) (enc_one_deed _) ?_
   clear hS; intro w hS
   refine n_thenN ?_
   obtain rfl := osi hF
   refine wp_ret (r_ret (vs := [.agg (enc_deed ⟨false, 0, true, a1.Imm, 0⟩).toArray]) (hS.re (.b .hb (.t (.e (.e .h)) (.t (.e (.e .h)) (.t (.e (.e .h)) (.t (.e (.e .h)) (.t (.e (.e .h)) (.t (.e (.e .h)) .n)))))))) (rsC (res_cell (hS.own (mC (mC (mH)))) underlying122 rfl (by exact sz_sledgeref5_deed)) rsN) rfl ⟨_, rfl, (by first | rfl | simp only [aa, ac, al, an]), ⟨_, _, _, _, _, _, _, _, _, _, _, _, rfl, E0, D0, B0, h14, h19, h24⟩⟩)
 replace hF := bf c74 hF
 refine c_seq <| c_region <| oy hS y_bin <| oy hS y_assign <| n_thenN ?_
 refine c_if (ht := fun c75 => ?_) (hf := fun c75 => ?_)
 · replace hF := bt c75 hF
   refine c_seq <| c_region <| oy hS y_move <| oy hS y_bin <| oy hS (y_field fa_api_Ins_4) <| oy hS (y_load (fun w hS => hS.own (mC (mH))) underlying3 rfl rfl) ?_
   refine oy hS (y_build (cl := (enc_deed ⟨false, 0, decide (a2 = 0), a1.Imm, 0⟩)) bt_sledgeref5_deed rfl (by kernel_rfl)) ?_
   refine o_storeW (vs := (enc_deed ⟨false, 0, decide (a2 = 0), a1.Imm, 0⟩)) hS (by exact rfl) (Upd.there _ (Upd.there _ (Upd.here _))) (by exact sz_sledgeref5_deed) (enc_one_deed _) ?_
   clear hS; intro w hS
   refine n_thenN ?_
   obtain rfl := osi hF
   refine wp_ret (r_ret (vs := [.agg (enc_deed ⟨false, 0, decide (a2 = 0), a1.Imm, 0⟩).toArray]) (hS.re (.b .hb (.t (.e (.e .h)) (.t (.e (.e .h)) (.t (.e (.e .h)) (.t (.e (.e .h)) (.t (.e (.e .h)) (.t (.e (.e .h)) .n)))))))) (rsC (res_cell (hS.own (mC (mC (mH)))) underlying122 rfl (by exact sz_sledgeref5_deed)) rsN) rfl ⟨_, rfl, (by first | rfl | simp only [aa, ac, al, an]), ⟨_, _, _, _, _, _, _, _, _, _, _, _, rfl, E0, D0, B0, h14, h19, h24⟩⟩)
 replace hF := bf c75 hF
 refine c_seq <| c_region <| oy hS y_bin <| oy hS y_assign <| n_thenN ?_
 refine c_if (ht := fun c76 => ?_) (hf := fun c76 => ?_)
 · replace hF := bt c76 hF
   refine c_seq <| c_region <| oy hS y_move <| oy hS y_bin <| oy hS (y_field fa_api_Ins_4) <| oy hS (y_load (fun w hS => hS.own (mC (mH))) underlying3 rfl rfl) ?_
   refine oy hS (y_build (cl := (enc_deed ⟨false, 0, decide (a2 ≠ 0), a1.Imm, 0⟩)) bt_sledgeref5_deed rfl (by kernel_rfl)) ?_
   refine o_storeW (vs := (enc_deed ⟨false, 0, decide (a2 ≠ 0), a1.Imm, 0⟩)) hS (by exact rfl) (Upd.there _ (Upd.there _ (Upd.here _))) (by exact sz_sledgeref5_deed) (enc_one_deed _) ?_
   clear hS; intro w hS
   refine n_thenN ?_
   obtain rfl := osi hF
   refine wp_ret (r_ret (vs := [.agg (enc_deed ⟨false, 0, decide (a2 ≠ 0), a1.Imm, 0⟩).toArray]) (hS.re (.b .hb (.t (.e (.e .h)) (.t (.e (.e .h)) (.t (.e (.e .h)) (.t (.e (.e .h)) (.t (.e (.e .h)) (.t (.e (.e .h)) .n)))))))) (rsC (res_cell (hS.own (mC (mC (mH)))) underlying122 rfl (by exact sz_sledgeref5_deed)) rsN) rfl ⟨_, rfl, (by first | rfl | simp only [aa, ac, al, an]), ⟨_, _, _, _, _, _, _, _, _, _, _, _, rfl, E0, D0, B0, h14, h19, h24⟩⟩)
 replace hF := bf c76 hF
 refine c_seq <| c_region <| oy hS y_bin <| oy hS y_assign <| n_thenN ?_
 refine c_if (ht := fun c77 => ?_) (hf := fun c77 => ?_)
 · replace hF := bt c77 hF
   iterate 2 (refine c_seq ?_)
   refine c_region <| oy hS y_move <| oy hS y_nilCheck <| oy hS (y_field fa_api_State_6) <| oy hS (y_load oH underlying37 rfl rfl) <| oy hS (y_lenO h19 underlying37) <| oy hS y_bin <| n_thenN ?_
   refine c_if (ht := fun c78 => ?_) (hf := fun c78 => ?_)
   · replace hF := bt c78 hF
     refine c_seq <| c_region ?_
     refine oy hS (y_build (cl := (enc_deed ⟨false, 0, false, 0, 4⟩)) bt_sledgeref5_deed rfl (by kernel_rfl)) ?_
     refine o_storeW (vs := (enc_deed ⟨false, 0, false, 0, 4⟩)) hS (by exact rfl) (Upd.there _ (Upd.there _ (Upd.here _))) (by exact sz_sledgeref5_deed) (enc_one_deed _) ?_
     clear hS; intro w hS
     refine n_thenN ?_
     obtain rfl := osi hF
     refine wp_ret (r_ret (vs := [.agg (enc_deed ⟨false, 0, false, 0, 4⟩).toArray]) (hS.re (.b .hb (.t (.e (.e .h)) (.t (.e (.e .h)) (.t (.e (.e .h)) (.t (.e (.e .h)) (.t (.e (.e .h)) (.t (.e (.e .h)) .n)))))))) (rsC (res_cell (hS.own (mC (mC (mH)))) underlying122 rfl (by exact sz_sledgeref5_deed)) rsN) rfl ⟨_, rfl, (by first | rfl | simp only [aa, ac, al, an]), ⟨_, _, _, _, _, _, _, _, _, _, _, _, rfl, E0, D0, B0, h14, h19, h24⟩⟩)
   replace hF := bf c78 hF
   refine wp_skip <| c_seq <| c_region ?_
   iterate 2 (refine oy hS y_move ?_)
   refine oy hS y_nilCheck <| oy hS (y_field fa_api_State_6) <| oy hS (y_load oH underlying37 rfl rfl) <| oy hS y_move ?_
   refine o_buildT val_int ([a4] : List Int) hS el_int (fun _ => rfl) enc_len_int (by decide) rfl (by decide) (hp := rfl) (h := ?_)
   clear hS; intro b79 w hS h80
   have hS : St W g LB0_ ([(b79, blk (([a4] : List Int).flatMap enc_int) 3)] ++ ((b0_, blk (cl_State K0 M0 N0 a0.Taken v13 a0.PC v18 a0.Stop v23 a0.Jump a0.Delay) 62) :: ((b1, blk (enc_Ins a1) 81) :: ((b2, blk (enc_deed ⟨false, 0, false, 0, 0⟩) 122) :: (T0 ++ (U0 ++ (R0 ++ (V0 ++ (X0 ++ (Y0 ++ [])))))))))) w := hS
   obtain ⟨T3, T1, hF⟩ := ob hF
   have hS := hS.re (.t .h (.t (.e (.e (.e (.d (.d (.d (.d .h))))))) (.b .hb (.b .hb (.b .hb (.t .h (.t .h (.t .h (.t .h (.t .h .n))))))))))
   refine o_appPn (ys := ([a4] : List Int)) (LX := X0) T1 hS el_int h19 rfl enc_len_int (enc_ones_int _) (by decide) ?_
   clear hS; intro v82 U3 w h84 hS
   refine oy hS y_nilCheck <| oy hS (y_field fa_api_State_6) ?_
   have hS := hS.re (.b (.d .hb) (.t .h (.b .hb (.b .hb (.t .h (.t .h (.t .h (.t .h (.t .h .n)))))))))
   refine o_storeA1 (o := 6) (cl' := (cl_State K0 M0 N0 a0.Taken v13 a0.PC v82 a0.Stop v23 a0.Jump a0.Delay)) hS (by kernel_rfl) (by exact Nat.le_of_ble_eq_true rfl) (Upd.here _) (by exact sz_S_int) (h84).one (h84).cell ?_
   clear hS; intro w hS
   refine n_thenN <| c_seq <| c_region <| oy hS (y_field fa_api_Ins_4) <| oy hS (y_load (fun w hS => hS.own (mC (mB (mH)))) underlying3 rfl rfl) ?_
   refine oy hS (y_build (cl := (enc_deed ⟨false, 0, true, a1.Imm, 0⟩)) bt_sledgeref5_deed rfl (by kernel_rfl)) ?_
   have hS := hS.re (.b (.e (.d (.e .hb))) (.b .hb (.t .h (.b .hb (.t .h (.t .h (.t .h (.t .h (.t .h .n)))))))))
   refine o_storeW (vs := (enc_deed ⟨false, 0, true, a1.Imm, 0⟩)) hS (by exact rfl) (Upd.here _) (by exact sz_sledgeref5_deed) (enc_one_deed _) ?_
   clear hS; intro w hS
   refine n_thenN ?_
   obtain rfl := osi hF
   refine wp_ret (r_ret (vs := [.agg (enc_deed ⟨false, 0, true, a1.Imm, 0⟩).toArray]) (hS.re (.b (.e .hb) (.t (.e (.d (.e .h))) (.t (.e (.d (.e .h))) (.t (.e (.d (.e .h))) (.t (.e (.d (.e .h))) (.t (.e .h) (.t (.e (.e .h)) .n)))))))) (rsC (res_cell (hS.own (mH)) underlying122 rfl (by exact sz_sledgeref5_deed)) rsN) rfl ⟨_, rfl, (by first | rfl | simp only [aa, ac, al, an]), ⟨_, _, _, _, _, _, _, _, _, _, _, _, rfl, E0, D0, B0, h14, h84, h24⟩⟩)
 replace hF := bf c77 hF
 refine c_seq <| c_region <| oy hS y_bin <| oy hS y_assign <| n_thenN ?_
 refine c_if (ht := fun c87 => ?_) (hf := fun c87 => ?_)
 · replace hF := bt c87 hF
   iterate 2 (refine c_seq ?_)
   refine c_region <| oy hS y_move <| oy hS y_nilCheck <| oy hS (y_field fa_api_State_6) <| oy hS (y_load oH underlying37 rfl rfl) <| oy hS (y_lenO h19 underlying37) <| oy hS y_bin <| n_thenN ?_
   refine c_if (ht := fun c88 => ?_) (hf := fun c88 => ?_)
   · replace hF := bt c88 hF
     refine c_seq <| c_region ?_
     refine oy hS (y_build (cl := (enc_deed ⟨false, 0, false, 0, 4⟩)) bt_sledgeref5_deed rfl (by kernel_rfl)) ?_
     refine o_storeW (vs := (enc_deed ⟨false, 0, false, 0, 4⟩)) hS (by exact rfl) (Upd.there _ (Upd.there _ (Upd.here _))) (by exact sz_sledgeref5_deed) (enc_one_deed _) ?_
     clear hS; intro w hS
     refine n_thenN ?_
     obtain rfl := osi hF
     refine wp_ret (r_ret (vs := [.agg (enc_deed ⟨false, 0, false, 0, 4⟩).toArray]) (hS.re (.b .hb (.t (.e (.e .h)) (.t (.e (.e .h)) (.t (.e (.e .h)) (.t (.e (.e .h)) (.t (.e (.e .h)) (.t (.e (.e .h)) .n)))))))) (rsC (res_cell (hS.own (mC (mC (mH)))) underlying122 rfl (by exact sz_sledgeref5_deed)) rsN) rfl ⟨_, rfl, (by first | rfl | simp only [aa, ac, al, an]), ⟨_, _, _, _, _, _, _, _, _, _, _, _, rfl, E0, D0, B0, h14, h19, h24⟩⟩)
   replace hF := bf c88 hF
   refine wp_skip <| c_seq ?_
   refine c_quiet (by kernel_rfl) (by kernel_rfl) hS ?_
   refine qy y_move <| qy y_nilCheck <| qy (y_field fa_api_State_6) <| qy (y_load (fun w hS => hS.own (mH)) underlying37 rfl rfl) <| qy y_move <| qy y_nilCheck <| qy (y_field fa_api_State_6) <| qy (y_load (fun w hS => hS.own (mH)) underlying37 rfl rfl) ?_
   refine qy (y_lenO h19 underlying37) <| qy y_bin ?_
   obtain ⟨x89, X2, hF⟩ := ob hF
   obtain ⟨b90, c91, V3, Y2, Z2, B3, D3, E3⟩ := OwT.at X2 h19 enc_len_int
   refine qy (y_index Y2 Z2 B3 underlying37 el_int.size) <| qy (y_load (fun w hS => hS.own (mC (mC (mC (mB (mB (mB (mB (mA (mX D3)))))))))) underlying3 rfl (E3 0 _ rfl)) <| qy y_assign ?_
   refine q_nilN (h := ?_)
   clear hS; intro w hS
   refine c_seq ?_
   refine c_heldL 14 15 (by kernel_rfl) rfl hS ?_
   clear hS; intro w hS
   refine hy0 0 rfl wn (by kernel_rfl) (nq (P := Tryz.prog) (fn := Tryz.f74)) (fun _ => hS.cb) y_move ?_
   refine hy0 1 rfl wn (by kernel_rfl) (nq (P := Tryz.prog) (fn := Tryz.f74)) (fun _ => hS.cb) y_move ?_
   refine hy0 2 rfl wn (by kernel_rfl) (nq (P := Tryz.prog) (fn := Tryz.f74)) (fun _ => hS.cb) y_nilCheck ?_
   refine hy0 3 rfl wn (by kernel_rfl) (nq (P := Tryz.prog) (fn := Tryz.f74)) (fun _ => hS.cb) (y_field fa_api_State_6) ?_
   refine hy 4 rfl wn (by kernel_rfl) (nq (P := Tryz.prog) (fn := Tryz.f74)) hS.cb (y_load (fun w hS => hS.own (mH)) underlying37 rfl rfl) ?_
   refine hy0 5 rfl wn (by kernel_rfl) (nq (P := Tryz.prog) (fn := Tryz.f74)) (fun _ => hS.cb) y_move ?_
   refine hy0 6 rfl wn (by kernel_rfl) (nq (P := Tryz.prog) (fn := Tryz.f74)) (fun _ => hS.cb) y_nilCheck ?_
   refine hy0 7 rfl wn (by kernel_rfl) (nq (P := Tryz.prog) (fn := Tryz.f74)) (fun _ => hS.cb) (y_field fa_api_State_6) ?_
   refine hy 8 rfl wn (by kernel_rfl) (nq (P := Tryz.prog) (fn := Tryz.f74)) hS.cb (y_load (fun w hS => hS.own (mH)) underlying37 rfl rfl) ?_
   refine hy0 9 rfl wn (by kernel_rfl) (nq (P := Tryz.prog) (fn := Tryz.f74)) (fun _ => hS.cb) (y_lenO h19 underlying37) ?_
   refine hy0 10 rfl wn (by kernel_rfl) (nq (P := Tryz.prog) (fn := Tryz.f74)) (fun _ => hS.cb) y_bin ?_
   refine hb1 11 (by kernel_rfl) (hb_op rfl wn (nl (P := Tryz.prog) (fn := Tryz.f74)) ?_)
   obtain ⟨X3, U1, hF⟩ := ob hF
   refine o_uptoP U1 h19 enc_len_int underlying37 el_int.size ?_
   intro v99 J1
   refine hb_next (fun _ => hS.cb) ?_
   refine hy0 12 rfl wn (by kernel_rfl) (nq (P := Tryz.prog) (fn := Tryz.f74)) (fun _ => hS.cb) y_nilCheck ?_
   refine hy0 13 rfl wn (by kernel_rfl) (nq (P := Tryz.prog) (fn := Tryz.f74)) (fun _ => hS.cb) (y_field fa_api_State_6) ?_
   refine hb1 14 (by kernel_rfl) (hb_op rfl wn (nl (P := Tryz.prog) (fn := Tryz.f74)) ?_)
   refine o_storeA1 (o := 6) (cl' := (cl_State K0 M0 N0 a0.Taken v13 a0.PC v99 a0.Stop v23 a0.Jump a0.Delay)) hS (by kernel_rfl) (by exact Nat.le_of_ble_eq_true rfl) (Upd.here _) (by exact sz_S_int) (J1).one (J1).cell ?_
   clear hS; intro w hS
   refine hb_next (fun h => absurd h (by decide)) ?_
   refine hb_done (by kernel_rfl) ?_
   refine c_seq <| c_region <| oy hS y_move ?_
   refine oy hS (y_build (cl := (enc_deed ⟨false, 0, true, x89, 0⟩)) bt_sledgeref5_deed rfl (by kernel_rfl)) ?_
   refine o_storeW (vs := (enc_deed ⟨false, 0, true, x89, 0⟩)) hS (by exact rfl) (Upd.there _ (Upd.there _ (Upd.here _))) (by exact sz_sledgeref5_deed) (enc_one_deed _) ?_
   clear hS; intro w hS
   refine n_thenN ?_
   obtain rfl := osi hF
   refine wp_ret (r_ret (vs := [.agg (enc_deed ⟨false, 0, true, x89, 0⟩).toArray]) (hS.re (.b .hb (.t (.e (.e .h)) (.t (.e (.e .h)) (.t (.e (.e .h)) (.t (.e (.e .h)) (.t (.e (.e .h)) (.t (.e (.e .h)) .n)))))))) (rsC (res_cell (hS.own (mC (mC (mH)))) underlying122 rfl (by exact sz_sledgeref5_deed)) rsN) rfl ⟨_, rfl, (by first | rfl | simp only [aa, ac, al, an]), ⟨_, _, _, _, _, _, _, _, _, _, _, _, rfl, E0, D0, B0, h14, J1, h24⟩⟩)
 replace hF := bf c87 hF
 refine c_seq <| c_region <| oy hS y_bin <| oy hS y_assign <| n_thenN ?_
 refine c_if (ht := fun K1 => ?_) (hf := fun K1 => ?_)
 · replace hF := bt K1 hF
   refine c_seq <| c_region ?_
   refine oy hS (y_build (cl := (enc_deed ⟨false, 0, false, 0, 1⟩)) bt_sledgeref5_deed rfl (by kernel_rfl)) ?_
   refine o_storeW (vs := (enc_deed ⟨false, 0, false, 0, 1⟩)) hS (by exact rfl) (Upd.there _ (Upd.there _ (Upd.here _))) (by exact sz_sledgeref5_deed) (enc_one_deed _) ?_
   clear hS; intro w hS
   refine n_thenN ?_
   obtain rfl := osi hF
   refine wp_ret (r_ret (vs := [.agg (enc_deed ⟨false, 0, false, 0, 1⟩).toArray]) (hS.re (.b .hb (.t (.e (.e .h)) (.t (.e (.e .h)) (.t (.e (.e .h)) (.t (.e (.e .h)) (.t (.e (.e .h)) (.t (.e (.e .h)) .n)))))))) (rsC (res_cell (hS.own (mC (mC (mH)))) underlying122 rfl (by exact sz_sledgeref5_deed)) rsN) rfl ⟨_, rfl, (by first | rfl | simp only [aa, ac, al, an]), ⟨_, _, _, _, _, _, _, _, _, _, _, _, rfl, E0, D0, B0, h14, h19, h24⟩⟩)
 replace hF := bf K1 hF
 refine wp_skip <| c_seq <| c_region ?_
 refine oy hS (y_build (cl := (enc_deed ⟨false, 0, false, 0, 0⟩)) bt_sledgeref5_deed rfl (by kernel_rfl)) ?_
 refine o_storeW (vs := (enc_deed ⟨false, 0, false, 0, 0⟩)) hS (by exact rfl) (Upd.there _ (Upd.there _ (Upd.here _))) (by exact sz_sledgeref5_deed) (enc_one_deed _) ?_
 clear hS; intro w hS
 refine n_thenN ?_
 obtain rfl := osi hF
 refine wp_ret (r_ret (vs := [.agg (enc_deed ⟨false, 0, false, 0, 0⟩).toArray]) (hS.re (.b .hb (.t (.e (.e .h)) (.t (.e (.e .h)) (.t (.e (.e .h)) (.t (.e (.e .h)) (.t (.e (.e .h)) (.t (.e (.e .h)) .n)))))))) (rsC (res_cell (hS.own (mC (mC (mH)))) underlying122 rfl (by exact sz_sledgeref5_deed)) rsN) rfl ⟨_, rfl, (by first | rfl | simp only [aa, ac, al, an]), ⟨_, _, _, _, _, _, _, _, _, _, _, _, rfl, E0, D0, B0, h14, h19, h24⟩⟩)
theorem w_r5_do {g : Frag} {a0 : T_State} {b0_ : Nat} {LB0_ : Own} {a1 : T_Ins} {a2 : Int} {a3 : Int} {a4 : Int} {r : (T_State × T_deed)} (h0 : Bx_State b0_ a0 LB0_) (hF : r5_do a0 a1 a2 a3 a4 = some r) : LC Tryz.prog 74 #[.pointer (some ⟨b0_, 0, none⟩), .agg (enc_Ins a1).toArray, .int .u32 a2, .int .u32 a3, .int .i64 a4] g LB0_ (fun v L => ∃ (LB' : Own), v = .agg (enc_deed r.2).toArray ∧ L = (LB' ++ []) ∧ Bx_State b0_ r.1 LB') := w_r5_do_ h0 hF

def r3_Latency (a0 : Int) : Int :=
  bif decide (a0 = 14) then 2 else bif decide (a0 = 15) then 2 else bif decide (a0 = 26) then 2 else bif decide (a0 = 20) then 3 else bif decide (a0 = 24) then 3 else bif decide (a0 = 16) then 4 else bif decide (a0 = 17) then 4 else 1
theorem w_r3_Latency_ {g : Frag} {a0 : Int} {r : Int}  (hF : r3_Latency a0 = r) : LCs Tryz.prog 75 #[.int .i64 a0] g (.int .i64 r) := by
 unfold r3_Latency at hF
 refine lc_body (k := 14) (av := [.int .i64 a0]) func75 rfl rfl (h := fun W hS => ?_)
 refine c_seq <| c_region <| oy hS y_assign <| n_thenN ?_
 iterate 2 (refine c_seq ?_)
 refine c_region <| oy hS y_move <| n_thenN <| c_block ?_
 iterate 2 (refine c_seq ?_)
 refine c_region <| oy hS y_bin <| oy hS y_assign <| n_thenN ?_
 refine c_if (ht := fun c1 => ?_) (hf := fun c1 => ?_)
 · replace hF := bt c1 hF
   refine wp_skip ?_
   refine c_ifT c1 ?_
   refine c_seq <| c_region <| oy hS y_assign <| n_thenN ?_
   subst hF
   exact wp_ret (wr1 hS)
 replace hF := bf c1 hF
 refine c_seq <| c_region <| oy hS y_bin <| oy hS y_assign <| n_thenN ?_
 refine c_if (ht := fun c2 => ?_) (hf := fun c2 => ?_)
 · replace hF := bt c2 hF
   refine wp_skip ?_
   refine c_ifT c2 ?_
   refine c_seq <| c_region <| oy hS y_assign <| n_thenN ?_
   subst hF
   exact wp_ret (wr1 hS)
 replace hF := bf c2 hF
 refine c_region <| oy hS y_bin <| oy hS y_assign <| n_thenN ?_
 refine c_if (ht := fun c3 => ?_) (hf := fun c3 => ?_)
 · replace hF := bt c3 hF
   refine c_seq <| c_region <| oy hS y_assign <| n_thenN ?_
   subst hF
   exact wp_ret (wr1 hS)
 replace hF := bf c3 hF
 iterate 2 (refine c_seq ?_)
 refine c_region <| oy hS y_bin <| oy hS y_assign <| n_thenN ?_
 refine c_if (ht := fun c4 => ?_) (hf := fun c4 => ?_)
 · replace hF := bt c4 hF
   refine wp_skip ?_
   refine c_ifT c4 ?_
   refine c_seq <| c_region <| oy hS y_assign <| n_thenN ?_
   subst hF
   exact wp_ret (wr1 hS)
 replace hF := bf c4 hF
 refine c_region <| oy hS y_bin <| oy hS y_assign <| n_thenN ?_
 refine c_if (ht := fun c5 => ?_) (hf := fun c5 => ?_)
 · replace hF := bt c5 hF
   refine c_seq <| c_region <| oy hS y_assign <| n_thenN ?_
   subst hF
   exact wp_ret (wr1 hS)
 replace hF := bf c5 hF
 iterate 2 (refine c_seq ?_)
 refine c_region <| oy hS y_bin <| oy hS y_assign <| n_thenN ?_
 refine c_if (ht := fun c6 => ?_) (hf := fun c6 => ?_)
 · replace hF := bt c6 hF
   refine wp_skip ?_
   refine c_ifT c6 ?_
   refine c_seq <| c_region <| oy hS y_assign <| n_thenN ?_
   subst hF
   exact wp_ret (wr1 hS)
 replace hF := bf c6 hF
 refine c_region <| oy hS y_bin <| oy hS y_assign <| n_thenN ?_
 refine c_if (ht := fun c7 => ?_) (hf := fun c7 => ?_)
 · replace hF := bt c7 hF
   refine c_seq <| c_region <| oy hS y_assign <| n_thenN ?_
   subst hF
   exact wp_ret (wr1 hS)
 replace hF := bf c7 hF
 refine wp_skip <| c_seq <| c_region <| oy hS y_assign <| n_thenN ?_
 subst hF
 exact wp_ret (wr1 hS)
theorem w_r3_Latency {g : Frag} {a0 : Int}  : LCs Tryz.prog 75 #[.int .i64 a0] g (.int .i64 (r3_Latency a0)) := w_r3_Latency_  rfl

noncomputable def r3_Program_b1 (a0 : (List T_Ins)) : Int → Option (Step Int Bool) := fun x30 => bif decide (x30 < (a0.length : Int)) then bif decide (x30 ≤ 1024) then (at' a0 x30).bind fun x66 => (r3_Ins x66).bind fun r78 => bif !r78 then some (.done (false)) else (at' a0 x30).bind fun x80 => bif !(decide (x80.Sym = (ByteArray.mk #[]))) then some (.done (false)) else some (.next (IntKind.i64.wrap (x30 + 1))) else some (.done (decide ((a0.length : Int) ≤ 1024))) else some (.done (decide ((a0.length : Int) ≤ 1024)))
noncomputable def r3_Program (a0 : (List T_Ins)) : Option Bool :=
  loop (σ := Int) (r3_Program_b1 a0) 0
theorem w_r3_Program_ {g : Frag} {a0 : (List T_Ins)} {v0_ : Value} {r : Bool} (h0 : SlT g enc_Ins 6 a0 v0_) (hF : r3_Program a0 = some r) : LCs Tryz.prog 27 #[v0_] g (.bool r) := by
 unfold r3_Program at hF
 refine lc_body (k := 31) (av := [v0_]) func27 rfl rfl (h := fun W hS => ?_)
 refine c_seq <| c_region <| oy hS y_assign <| n_thenN ?_
 iterate 2 (refine c_seq ?_)
 refine c_region <| oy hS y_assign <| n_thenN <| c_block ?_
 refine c_loopP hF (fun (q : Int) a w' => (∃ s : Nat → Value, a = Ac (((Fm.dead 31 s).upd 0 v0_).upd 3 (.int .i64 q))) ∧ St W g [] [] w') ⟨mk_exF, (hS.re (.n))⟩ ?_
 clear hS hF
 intro n62 q a w hI hq
 revert hq hI; revert q; intro x30 hI hq
 obtain ⟨⟨s63, rfl⟩, hS⟩ := hq
 obtain ⟨z60, hF, B0⟩ := iter_step hI
 clear hI
 dsimp only [r3_Program_b1] at hF
 iterate 2 (refine c_seq ?_)
 refine c_region ?_
 iterate 2 (refine oy hS y_move ?_)
 refine oy hS (y_len h0 underlying53) <| oy hS y_bin ?_
 refine o_split (ht := fun c64 => ?_) (hf := fun c64 => ?_)
 · replace hF := bt c64 hF
   refine o_gu rfl rfl rfl <| oy hS y_move <| o_gu rfl rfl rfl <| oy hS y_bin <| oy hS y_pickT <| n_thenN ?_
   refine c_if (ht := fun c65 => ?_) (hf := fun c65 => ?_)
   · replace hF := bt c65 hF
     refine wp_skip <| c_seq <| c_block <| c_seq <| c_region ?_
     iterate 2 (refine oy hS y_move ?_)
     obtain ⟨x66, D0, hF⟩ := ob hF
     obtain ⟨b67, o68, c69, Y0, e71, Z0, E0, G0, I0, J0, K0⟩ := SlT.at D0 h0 enc_len_Ins
     refine oy hS (y_index E0 G0 I0 underlying53 el_api_Ins.size) ?_
     refine oy hS (y_loadN (vs := (enc_Ins x66)) (fun w hS => hS.block J0) underlying81 rfl (by exact sz_api_Ins) (fun j u hj => K0 j u hj)) ?_
     obtain ⟨r78, M0, hF⟩ := ob hF
     refine o_callS hS func52 rfl rfl (hc := (w_r3_Ins (a0 := x66) (hF := M0))) (h := ?_)
     clear hS; intro w hS
     refine oy hS y_not ?_
     refine o_split (ht := fun c79 => ?_) (hf := fun c79 => ?_)
     · replace hF := bt c79 hF
       iterate 6 (refine o_sk rfl rfl ?_)
       refine oy hS y_pickT <| n_thenN ?_
       refine c_if_true (h := ?_)
       refine c_seq <| c_region <| oy hS y_assign <| n_thenN ?_
       obtain rfl := osi hF
       obtain rfl : _ = r := B0
       exact wp_ret (wr1 hS)
     replace hF := bf c79 hF
     refine o_gu rfl rfl rfl <| oy hS y_move <| o_gu rfl rfl rfl <| oy hS y_move <| o_gu rfl rfl rfl ?_
     obtain ⟨x80, N0, hF⟩ := ob hF
     obtain ⟨b81, o82, c83, B1, e85, D1, R0, T0, U0, V0, X0⟩ := SlT.at N0 h0 enc_len_Ins
     refine oy hS (y_index R0 T0 U0 underlying53 el_api_Ins.size) <| o_gu rfl rfl rfl <| oy hS (y_field fa_api_Ins_5) <| o_gu rfl rfl rfl <| oy hS (y_load (fun w hS => hS.block V0) underlying9 rfl (X0 5 _ rfl)) <| o_gu rfl rfl rfl <| oy hS y_sneq <| oy hS y_pickF ?_
     refine n_thenN ?_
     refine c_if (ht := fun c92 => ?_) (hf := fun c92 => ?_)
     · replace hF := bt c92 hF
       refine c_seq <| c_region <| oy hS y_assign <| n_thenN ?_
       obtain rfl := osi hF
       obtain rfl : _ = r := B0
       exact wp_ret (wr1 hS)
     replace hF := bf c92 hF
     refine wp_skip <| c_region <| oy hS y_move <| oy hS y_bin <| oy hS y_assign <| n_thenN ?_
     obtain rfl := osi hF
     exact ⟨_, B0, mk_exF, (hS.re (.n))⟩
   replace hF := bf c65 hF
   refine wp_exit ?_
   refine c_seq <| c_region <| oy hS y_move <| oy hS (y_len h0 underlying53) <| oy hS y_bin <| oy hS y_assign <| n_thenN ?_
   obtain rfl := osi hF
   obtain rfl : _ = r := B0
   exact wp_ret (wr1 hS)
 replace hF := bf c64 hF
 iterate 2 (refine o_sk rfl rfl ?_)
 refine oy hS y_pickF <| n_thenN ?_
 refine c_if_false (h := ?_)
 refine wp_exit ?_
 refine c_seq <| c_region <| oy hS y_move <| oy hS (y_len h0 underlying53) <| oy hS y_bin <| oy hS y_assign <| n_thenN ?_
 obtain rfl := osi hF
 obtain rfl : _ = r := B0
 exact wp_ret (wr1 hS)
theorem w_r3_Program {g : Frag} {a0 : (List T_Ins)} {v0_ : Value} {r : Bool} (h0 : SlT g enc_Ins 6 a0 v0_) (hF : r3_Program a0 = some r) : LCs Tryz.prog 27 #[v0_] g (.bool r) := w_r3_Program_ h0 hF

noncomputable def r5_step_k2 (D0 : Bool) (x70 : (List Int)) (x75 : (List Int)) (x80 : Int) (x81 : (List Int)) (E0 : Int) (x87 : (List Int)) (x92 : Int) (x93 : (List T_Write)) (x98 : Int) (x99 : Int) (x86 : Int) : (List Int) → Option T_State := fun B0 => bif D0 then some (⟨B0, x70, x75, x80, x81, E0, x87, x92, x93, x98, x99⟩ : T_State) else some (⟨B0, x70, x75, x80, x81, IntKind.i64.wrap (x86 + 1), x87, x92, x93, x98, x99⟩ : T_State)
noncomputable def r5_step_k1 (x2 : T_Ins) : ((List Int) × (List Int) × (List Int) × Int × (List Int) × Int × (List Int) × Int × (List T_Write) × Int × Int × Bool × Int × Bool × Int × Int) → Option T_State := fun (x65, x70, x75, x80, x81, x86, x87, x92, x93, x98, x99, E0, G0, I0, J0, B0) => bif decide (B0 ≠ 0) then some (⟨x65, x70, x75, x80, x81, x86, x87, B0, x93, x98, x99⟩ : T_State) else cut (σ := (List Int)) (bif E0 then (set' x65 x2.D G0).bind fun D0 => some (.next D0) else some (.next x65)) (r5_step_k2 I0 x70 x75 x80 x81 J0 x87 x92 x93 x98 x99 x86)
noncomputable def r5_step (a0 : (List T_Ins)) (a1 : T_State) : Option T_State :=
  bif decide ((a0.length : Int) ≤ a1.PC) then some (⟨a1.Regs, a1.Mem, a1.In_, a1.Taken, a1.Out, a1.PC, a1.Stack, 5, a1.Fly, a1.Jump, a1.Delay⟩ : T_State) else (at' a0 a1.PC).bind fun x2 => cut (σ := ((List Int) × (List Int) × (List Int) × Int × (List Int) × Int × (List Int) × Int × (List T_Write) × Int × Int × Bool × Int × Bool × Int × Int)) ((at' a1.Regs x2.A).bind fun D0 => (at' a1.Regs x2.B).bind fun E0 => (r5_do a1 x2 D0 E0 (IntKind.i64.wrap (a1.PC + 1))).bind fun B0 => some (.next (B0.1.Regs, B0.1.Mem, B0.1.In_, B0.1.Taken, B0.1.Out, B0.1.PC, B0.1.Stack, B0.1.Stop, B0.1.Fly, B0.1.Jump, B0.1.Delay, B0.2.has, B0.2.result, B0.2.jumps, B0.2.to, B0.2.stop))) (r5_step_k1 x2)
theorem w_r5_step_ {g : Frag} {a0 : (List T_Ins)} {v0_ : Value} {a1 : T_State} {b1_ : Nat} {LB1_ : Own} {r : T_State} (h0 : SlT g enc_Ins 6 a0 v0_) (h1 : Bx_State b1_ a1 LB1_) (hF : r5_step a0 a1 = some r) : LC Tryz.prog 53 #[v0_, .pointer (some ⟨b1_, 0, none⟩)] g LB1_ (fun v L => ∃ (LB' : Own), v = .tuple #[] ∧ L = (LB' ++ []) ∧ Bx_State b1_ r LB') := by
 obtain ⟨T0, U0, V0, E0, G0, I0, I1, J1, B1, D1, E1, G1, D4, D0, X0, J0, K0, M0, N0⟩ := h1
 unfold r5_step at hF
 refine lc_body (k := 81) (av := [v0_, .pointer (some ⟨b1_, 0, none⟩)]) func53 rfl rfl (h := fun W hS => ?_)
 have hS := hS.own_eq D4
 iterate 2 (refine c_seq ?_)
 refine c_region <| oy hS y_move <| oy hS y_nilCheck <| oy hS (y_field fa_api_State_5) <| oy hS (y_load oH underlying3 rfl rfl) <| oy hS y_move <| oy hS (y_len h0 underlying53) <| oy hS y_bin ?_
 refine n_thenN ?_
 refine c_if (ht := fun c1 => ?_) (hf := fun c1 => ?_)
 · replace hF := bt c1 hF
   refine c_seq <| c_region <| oy hS y_move <| oy hS y_nilCheck <| oy hS (y_field fa_api_State_7) ?_
   refine o_storeA1 (o := 7) (cl' := (cl_State T0 U0 V0 a1.Taken E0 a1.PC G0 5 I0 a1.Jump a1.Delay)) hS (by kernel_rfl) (by exact Nat.le_of_ble_eq_true rfl) (Upd.here _) (by exact sz_int) rfl rfl ?_
   clear hS; intro w hS
   refine n_thenN ?_
   obtain rfl := osi hF
   refine wp_ret (r_ret (vs := []) (hS.re (.b .hb (.t .h (.t .h (.t .h (.t .h (.t .h (.t .h .n)))))))) rsN rfl ⟨_, rfl, (by first | rfl | simp only [aa, ac, al, an]), ⟨_, _, _, _, _, _, _, _, _, _, _, _, rfl, D0, X0, J0, K0, M0, N0⟩⟩)
 replace hF := bf c1 hF
 refine wp_skip <| c_seq <| c_region ?_
 iterate 2 (refine oy hS y_move ?_)
 refine oy hS y_nilCheck <| oy hS (y_field fa_api_State_5) <| oy hS (y_load oH underlying3 rfl rfl) ?_
 obtain ⟨x2, hx2, hF⟩ := ob hF
 obtain ⟨b3, o4, c5, cs6, e7, fz8, hv9, E4, G4, I4, J4⟩ := SlT.at hx2 h0 enc_len_Ins
 refine oy hS (y_index hv9 E4 G4 underlying53 el_api_Ins.size) ?_
 refine oy hS (y_loadN (vs := (enc_Ins x2)) (fun w hS => hS.block I4) underlying81 rfl (by exact sz_api_Ins) (fun j u hj => J4 j u hj)) ?_
 refine o_allocP (cl := (enc_Ins ⟨0, 0, 0, 0, 0, ByteArray.empty⟩)) zr_api_Ins rfl hS ?_
 clear hS; intro b14 w hS
 refine o_storeW (vs := (enc_Ins x2)) hS (by exact rfl) (Upd.here _) (by exact sz_api_Ins) (enc_one_Ins _) ?_
 clear hS; intro w hS
 refine n_thenN ?_
 obtain ⟨U4, hF, M2⟩ := cut_step hF
 refine c_cutP (fun a w' => ∃ (x65 : (List Int)) (x70 : (List Int)) (x75 : (List Int)) (x80 : Int) (x81 : (List Int)) (x86 : Int) (x87 : (List Int)) (x92 : Int) (x93 : (List T_Write)) (x98 : Int) (x99 : Int) (K1 : Bool) (M1 : Int) (Y0 : Bool) (R0 : Int) (Z0 : Int) (v66 : Value) (v71 : Value) (v76 : Value) (v82 : Value) (v88 : Value) (v94 : Value) (X1 : Own) (N1 : Own) (R1 : Own) (T1 : Own) (U1 : Own) (V1 : Own) (b64 : Nat), r5_step_k1 x2 (x65, x70, x75, x80, x81, x86, x87, x92, x93, x98, x99, K1, M1, Y0, R0, Z0) = some r ∧ OwT 87 enc_uint32 1 x65 v66 X1 ∧ OwT 87 enc_uint32 1 x70 v71 N1 ∧ OwT 87 enc_uint32 1 x75 v76 R1 ∧ OwT 87 enc_uint32 1 x81 v82 T1 ∧ OwT 3 enc_int 1 x87 v88 U1 ∧ OwT 89 enc_Write 3 x93 v94 V1 ∧ (∃ s : Nat → Value, a = Ac ((((Fm.dead 81 s).upd 1 (.pointer (some ⟨b1_, 0, none⟩))).upd 4 (.pointer (some ⟨b14, 0, none⟩))).upd 5 (.pointer (some ⟨b64, 0, none⟩)))) ∧ St W g LB1_ ((b1_, blk (cl_State v66 v71 v76 x80 v82 x86 v88 x92 v94 x98 x99) 62) :: ((b14, blk (enc_Ins x2) 81) :: ((b64, blk (enc_deed ⟨K1, M1, Y0, R0, Z0⟩) 122) :: (X1 ++ (N1 ++ (R1 ++ (T1 ++ (U1 ++ (V1 ++ []))))))))) w') ?_ ?_
 · skip
   obtain ⟨T2, X2, hF⟩ := ob hF
   obtain ⟨V4, X4, N4, Y2, Z2, B3, D3, E3⟩ := OwT.at X2 D0 enc_len_uint32
   obtain ⟨U2, G3, hF⟩ := ob hF
   obtain ⟨Y4, Z4, R4, I3, J3, K3, M3, N3⟩ := OwT.at G3 D0 enc_len_uint32
   obtain ⟨B0, N2, hF⟩ := ob hF
   refine c_heldL 23 26 (by kernel_rfl) rfl hS ?_
   clear hS; intro w hS
   refine hy0 0 rfl wn (by kernel_rfl) (nq (P := Tryz.prog) (fn := Tryz.f53)) (fun _ => hS.cb) y_move ?_
   refine hy 1 rfl wn (by kernel_rfl) (nq (P := Tryz.prog) (fn := Tryz.f53)) hS.cb (y_loadW (fun w hS => hS.own (mH)) underlying81 rfl (by exact sz_api_Ins)) ?_
   refine hy0 2 rfl wn (by kernel_rfl) (nq (P := Tryz.prog) (fn := Tryz.f53)) (fun _ => hS.cb) y_move ?_
   refine hy0 3 rfl wn (by kernel_rfl) (nq (P := Tryz.prog) (fn := Tryz.f53)) (fun _ => hS.cb) y_nilCheck ?_
   refine hy0 4 rfl wn (by kernel_rfl) (nq (P := Tryz.prog) (fn := Tryz.f53)) (fun _ => hS.cb) (y_field fa_api_State_0) ?_
   refine hy 5 rfl wn (by kernel_rfl) (nq (P := Tryz.prog) (fn := Tryz.f53)) hS.cb (y_load (fun w hS => hS.own (mC (mH))) underlying31 rfl rfl) ?_
   refine hy0 6 rfl wn (by kernel_rfl) (nq (P := Tryz.prog) (fn := Tryz.f53)) (fun _ => hS.cb) (y_field fa_api_Ins_2) ?_
   refine hy 7 rfl wn (by kernel_rfl) (nq (P := Tryz.prog) (fn := Tryz.f53)) hS.cb (y_load (fun w hS => hS.own (mH)) underlying3 rfl rfl) ?_
   refine hy0 8 rfl wn (by kernel_rfl) (nq (P := Tryz.prog) (fn := Tryz.f53)) (fun _ => hS.cb) (y_index Y2 Z2 B3 underlying31 el_uint32.size) ?_
   refine hy 9 rfl wn (by kernel_rfl) (nq (P := Tryz.prog) (fn := Tryz.f53)) hS.cb (y_load (fun w hS => hS.own (mC (mC (mA (mX D3))))) underlying87 rfl (E3 0 _ rfl)) ?_
   refine hy0 10 rfl wn (by kernel_rfl) (nq (P := Tryz.prog) (fn := Tryz.f53)) (fun _ => hS.cb) y_move ?_
   refine hy0 11 rfl wn (by kernel_rfl) (nq (P := Tryz.prog) (fn := Tryz.f53)) (fun _ => hS.cb) y_nilCheck ?_
   refine hy0 12 rfl wn (by kernel_rfl) (nq (P := Tryz.prog) (fn := Tryz.f53)) (fun _ => hS.cb) (y_field fa_api_State_0) ?_
   refine hy 13 rfl wn (by kernel_rfl) (nq (P := Tryz.prog) (fn := Tryz.f53)) hS.cb (y_load (fun w hS => hS.own (mC (mH))) underlying31 rfl rfl) ?_
   refine hy0 14 rfl wn (by kernel_rfl) (nq (P := Tryz.prog) (fn := Tryz.f53)) (fun _ => hS.cb) (y_field fa_api_Ins_3) ?_
   refine hy 15 rfl wn (by kernel_rfl) (nq (P := Tryz.prog) (fn := Tryz.f53)) hS.cb (y_load (fun w hS => hS.own (mH)) underlying3 rfl rfl) ?_
   refine hy0 16 rfl wn (by kernel_rfl) (nq (P := Tryz.prog) (fn := Tryz.f53)) (fun _ => hS.cb) (y_index I3 J3 K3 underlying31 el_uint32.size) ?_
   refine hy 17 rfl wn (by kernel_rfl) (nq (P := Tryz.prog) (fn := Tryz.f53)) hS.cb (y_load (fun w hS => hS.own (mC (mC (mA (mX M3))))) underlying87 rfl (N3 0 _ rfl)) ?_
   refine hy0 18 rfl wn (by kernel_rfl) (nq (P := Tryz.prog) (fn := Tryz.f53)) (fun _ => hS.cb) y_move ?_
   refine hy0 19 rfl wn (by kernel_rfl) (nq (P := Tryz.prog) (fn := Tryz.f53)) (fun _ => hS.cb) y_nilCheck ?_
   refine hy0 20 rfl wn (by kernel_rfl) (nq (P := Tryz.prog) (fn := Tryz.f53)) (fun _ => hS.cb) (y_field fa_api_State_5) ?_
   refine hy 21 rfl wn (by kernel_rfl) (nq (P := Tryz.prog) (fn := Tryz.f53)) hS.cb (y_load (fun w hS => hS.own (mC (mH))) underlying3 rfl rfl) ?_
   refine hy0 22 rfl wn (by kernel_rfl) (nq (P := Tryz.prog) (fn := Tryz.f53)) (fun _ => hS.cb) y_bin ?_
   refine hb2 23 24 (by kernel_rfl) (hb_op rfl wn (nl (P := Tryz.prog) (fn := Tryz.f53)) ?_) (hb_op rfl wn (nl (P := Tryz.prog) (fn := Tryz.f53)) ?_)
   · skip
     have hS := hS.re (.b (.e .hb) (.t (.e .h) (.t (.e .h) (.t (.e .h) (.t (.e .h) (.t (.e .h) (.t (.e .h) (.b .hb .n))))))))
     have hS2 := hS.spl (.cons _ (.app _ (.app _ (.app _ (.app _ (.app _ (.app _ (.nil _))))))))
     refine o_call hS2 func74 rfl rfl (hc := (w_r5_do (a0 := a1) (a1 := x2) (a2 := T2) (a3 := U2) (a4 := (IntKind.i64.wrap (a1.PC + 1))) (h0 := (⟨_, _, _, _, _, _, _, _, _, _, _, _, rfl, D0, X0, J0, K0, M0, N0⟩ : Bx_State b1_ a1 ((b1_, blk (cl_State T0 U0 V0 a1.Taken E0 a1.PC G0 a1.Stop I0 a1.Jump a1.Delay) 62) :: (I1 ++ (J1 ++ (B1 ++ (D1 ++ (E1 ++ (G1 ++ []))))))))) (hF := N2))) (h := ?_)
     clear hS; intro K4 R3 w hS Y1
     clear hS2
     obtain ⟨T3, rfl, rfl, Z1⟩ := Y1
     obtain ⟨vB_0_131, vB_1_135, vB_2_139, vB_4_143, vB_6_147, vB_8_151, LXB_0_132, LXB_1_136, LXB_2_140, LXB_4_144, LXB_6_148, LXB_8_152, rfl, hB_0_133, hB_1_137, hB_2_141, hB_4_145, hB_6_149, hB_8_153⟩ := Z1
     simp only [aa, ac, al] at hS
     refine hb_next (fun h => absurd h (by decide)) ?_
     refine hb1 24 (by kernel_rfl) (hb_op rfl wn (nl (P := Tryz.prog) (fn := Tryz.f53)) ?_)
     refine o_allocP (cl := (enc_deed ⟨false, 0, false, 0, 0⟩)) zr_sledgeref5_deed rfl hS ?_
     clear hS; intro E2 w hS
     refine hb_next (fun h => absurd h (by decide)) ?_
     refine hb1 25 (by kernel_rfl) (hb_op rfl wn (nl (P := Tryz.prog) (fn := Tryz.f53)) ?_)
     refine o_storeW (vs := (enc_deed B0.2)) hS (by exact rfl) (Upd.here _) (by exact sz_sledgeref5_deed) (enc_one_deed _) ?_
     clear hS; intro w hS
     refine hb_next (fun h => absurd h (by decide)) ?_
     refine hb_done (by kernel_rfl) ?_
     obtain rfl := osi hF
     change ∃ _, _
     exact ⟨B0.1.Regs, B0.1.Mem, B0.1.In_, B0.1.Taken, B0.1.Out, B0.1.PC, B0.1.Stack, B0.1.Stop, B0.1.Fly, B0.1.Jump, B0.1.Delay, B0.2.has, B0.2.result, B0.2.jumps, B0.2.to, B0.2.stop, vB_0_131, vB_1_135, vB_2_139, vB_4_143, vB_6_147, vB_8_151, LXB_0_132, LXB_1_136, LXB_2_140, LXB_4_144, LXB_6_148, LXB_8_152, E2, M2, hB_0_133, hB_1_137, hB_2_141, hB_4_145, hB_6_149, hB_8_153, mk_exF, (hS.re (.b (.e .hb) (.b (.e (.d (.d (.d (.d (.d (.d .hb))))))) (.b .hb (.t .h (.t .h (.t .h (.t .h (.t .h (.t .h .n))))))))))⟩
   refine o_allocP (cl := (enc_deed ⟨false, 0, false, 0, 0⟩)) zr_sledgeref5_deed rfl hS ?_
   clear hS; intro E2 w hS
   refine hb_next (fun _ => (hS.re (.b (.e .hb) (.b (.e .hb) (.t (.e .h) (.t (.e .h) (.t (.e .h) (.t (.e .h) (.t (.e .h) (.t (.e .h) .n))))))))).cb) ?_
   refine hb1 23 (by kernel_rfl) (hb_op rfl wn (nl (P := Tryz.prog) (fn := Tryz.f53)) ?_)
   have hS := hS.re (.b (.e (.e .hb)) (.t (.e (.e .h)) (.t (.e (.e .h)) (.t (.e (.e .h)) (.t (.e (.e .h)) (.t (.e (.e .h)) (.t (.e (.e .h)) (.b .hb (.b .hb .n)))))))))
   have hS2 := hS.spl (.cons _ (.app _ (.app _ (.app _ (.app _ (.app _ (.app _ (.nil _))))))))
   refine o_call hS2 func74 rfl rfl (hc := (w_r5_do (a0 := a1) (a1 := x2) (a2 := T2) (a3 := U2) (a4 := (IntKind.i64.wrap (a1.PC + 1))) (h0 := (⟨_, _, _, _, _, _, _, _, _, _, _, _, rfl, D0, X0, J0, K0, M0, N0⟩ : Bx_State b1_ a1 ((b1_, blk (cl_State T0 U0 V0 a1.Taken E0 a1.PC G0 a1.Stop I0 a1.Jump a1.Delay) 62) :: (I1 ++ (J1 ++ (B1 ++ (D1 ++ (E1 ++ (G1 ++ []))))))))) (hF := N2))) (h := ?_)
   clear hS; intro K4 R3 w hS Y1
   clear hS2
   obtain ⟨T3, rfl, rfl, Z1⟩ := Y1
   obtain ⟨vB_0_131, vB_1_135, vB_2_139, vB_4_143, vB_6_147, vB_8_151, LXB_0_132, LXB_1_136, LXB_2_140, LXB_4_144, LXB_6_148, LXB_8_152, rfl, hB_0_133, hB_1_137, hB_2_141, hB_4_145, hB_6_149, hB_8_153⟩ := Z1
   simp only [aa, ac, al] at hS
   refine hb_next (fun h => absurd h (by decide)) ?_
   refine hb1 25 (by kernel_rfl) (hb_op rfl wn (nl (P := Tryz.prog) (fn := Tryz.f53)) ?_)
   have hS := hS.re (.b (.e (.d (.d (.d (.d (.d (.d .hb))))))) (.b .hb (.t .h (.t .h (.t .h (.t .h (.t .h (.t .h (.b .hb .n)))))))))
   refine o_storeW (vs := (enc_deed B0.2)) hS (by exact rfl) (Upd.here _) (by exact sz_sledgeref5_deed) (enc_one_deed _) ?_
   clear hS; intro w hS
   refine hb_next (fun h => absurd h (by decide)) ?_
   refine hb_done (by kernel_rfl) ?_
   obtain rfl := osi hF
   change ∃ _, _
   exact ⟨B0.1.Regs, B0.1.Mem, B0.1.In_, B0.1.Taken, B0.1.Out, B0.1.PC, B0.1.Stack, B0.1.Stop, B0.1.Fly, B0.1.Jump, B0.1.Delay, B0.2.has, B0.2.result, B0.2.jumps, B0.2.to, B0.2.stop, vB_0_131, vB_1_135, vB_2_139, vB_4_143, vB_6_147, vB_8_151, LXB_0_132, LXB_1_136, LXB_2_140, LXB_4_144, LXB_6_148, LXB_8_152, E2, M2, hB_0_133, hB_1_137, hB_2_141, hB_4_145, hB_6_149, hB_8_153, mk_exF, (hS.re (.b (.e .hb) (.b (.e (.d (.d (.d (.d (.d (.d .hb))))))) (.b .hb (.t .h (.t .h (.t .h (.t .h (.t .h (.t .h .n))))))))))⟩
 rintro a w ⟨x65, x70, x75, x80, x81, x86, x87, x92, x93, x98, x99, K1, M1, Y0, R0, Z0, v66, v71, v76, v82, v88, v94, X1, N1, R1, T1, U1, V1, b64, hF, h67, h72, h77, h83, h89, h95, ⟨B5, rfl⟩, hS⟩
 dsimp only [r5_step_k1] at hF
 iterate 2 (refine c_seq ?_)
 refine c_region <| oy hS (y_field fa_sledgeref5_deed_4) <| oy hS (y_load (fun w hS => hS.own (mC (mC (mH)))) underlying3 rfl rfl) <| oy hS y_bin <| n_thenN ?_
 refine c_if (ht := fun G2 => ?_) (hf := fun G2 => ?_)
 · replace hF := bt G2 hF
   refine c_seq <| c_region <| oy hS y_move <| oy hS (y_field fa_sledgeref5_deed_4) <| oy hS (y_load (fun w hS => hS.own (mC (mC (mH)))) underlying3 rfl rfl) <| oy hS y_nilCheck <| oy hS (y_field fa_api_State_7) ?_
   refine o_storeA1 (o := 7) (cl' := (cl_State v66 v71 v76 x80 v82 x86 v88 Z0 v94 x98 x99)) hS (by kernel_rfl) (by exact Nat.le_of_ble_eq_true rfl) (Upd.here _) (by exact sz_int) rfl rfl ?_
   clear hS; intro w hS
   refine n_thenN ?_
   obtain rfl := osi hF
   refine wp_ret (r_ret (vs := []) (hS.re (.b .hb (.t (.e (.e .h)) (.t (.e (.e .h)) (.t (.e (.e .h)) (.t (.e (.e .h)) (.t (.e (.e .h)) (.t (.e (.e .h)) .n)))))))) rsN rfl ⟨_, rfl, (by first | rfl | simp only [aa, ac, al, an]), ⟨_, _, _, _, _, _, _, _, _, _, _, _, rfl, h67, h72, h77, h83, h89, h95⟩⟩)
 replace hF := bf G2 hF
 refine wp_skip ?_
 obtain ⟨D5, hF, R2⟩ := cut_step hF
 refine c_cutP (fun a w' => ∃ (I2 : (List Int)) (B2 : Own), r5_step_k2 Y0 x70 x75 x80 x81 R0 x87 x92 x93 x98 x99 x86 I2 = some r ∧ OwT 87 enc_uint32 1 I2 v66 B2 ∧ (∃ s : Nat → Value, a = Ac (((Fm.dead 81 s).upd 1 (.pointer (some ⟨b1_, 0, none⟩))).upd 5 (.pointer (some ⟨b64, 0, none⟩)))) ∧ St W g LB1_ ((b1_, blk (cl_State v66 v71 v76 x80 v82 x86 v88 x92 v94 x98 x99) 62) :: ((b64, blk (enc_deed ⟨K1, M1, Y0, R0, Z0⟩) 122) :: (B2 ++ (N1 ++ (R1 ++ (T1 ++ (U1 ++ (V1 ++ [])))))))) w') ?_ ?_
 · skip
   refine c_seq <| c_region <| oy hS (y_field fa_sledgeref5_deed_0) <| oy hS (y_load (fun w hS => hS.own (mC (mC (mH)))) underlying4 rfl rfl) <| n_thenN ?_
   refine c_if (ht := fun J2 => ?_) (hf := fun J2 => ?_)
   · replace hF := bt J2 hF
     refine c_heldL 9 10 (by kernel_rfl) rfl hS ?_
     clear hS; intro w hS
     refine hy0 0 rfl wn (by kernel_rfl) (nq (P := Tryz.prog) (fn := Tryz.f53)) (fun _ => hS.cb) y_move ?_
     refine hy0 1 rfl wn (by kernel_rfl) (nq (P := Tryz.prog) (fn := Tryz.f53)) (fun _ => hS.cb) y_nilCheck ?_
     refine hy0 2 rfl wn (by kernel_rfl) (nq (P := Tryz.prog) (fn := Tryz.f53)) (fun _ => hS.cb) (y_field fa_api_State_0) ?_
     refine hy 3 rfl wn (by kernel_rfl) (nq (P := Tryz.prog) (fn := Tryz.f53)) hS.cb (y_load (fun w hS => hS.own (mH)) underlying31 rfl rfl) ?_
     refine hy0 4 rfl wn (by kernel_rfl) (nq (P := Tryz.prog) (fn := Tryz.f53)) (fun _ => hS.cb) (y_field fa_api_Ins_1) ?_
     refine hy 5 rfl wn (by kernel_rfl) (nq (P := Tryz.prog) (fn := Tryz.f53)) hS.cb (y_load (fun w hS => hS.own (mC (mH))) underlying3 rfl rfl) ?_
     refine hy0 6 rfl wn (by kernel_rfl) (nq (P := Tryz.prog) (fn := Tryz.f53)) (fun _ => hS.cb) (y_field fa_sledgeref5_deed_1) ?_
     refine hy 7 rfl wn (by kernel_rfl) (nq (P := Tryz.prog) (fn := Tryz.f53)) hS.cb (y_load (fun w hS => hS.own (mC (mC (mH)))) underlying87 rfl rfl) ?_
     obtain ⟨U3, D2, hF⟩ := ob hF
     obtain ⟨E5, G5, T4, V3, X3, Y3, Z3⟩ := OwT.at_set D2 h67 enc_len_uint32
     refine hy0 8 rfl wn (by kernel_rfl) (nq (P := Tryz.prog) (fn := Tryz.f53)) (fun _ => hS.cb) (y_index V3 X3 Y3 underlying31 el_uint32.size) ?_
     refine hb1 9 (by kernel_rfl) (hb_op rfl wn (nl (P := Tryz.prog) (fn := Tryz.f53)) ?_)
     refine o_storeO (L' := fun X => ((b1_, blk (cl_State v66 v71 v76 x80 v82 x86 v88 x92 v94 x98 x99) 62) :: ((b14, blk (enc_Ins x2) 81) :: ((b64, blk (enc_deed ⟨K1, M1, Y0, R0, Z0⟩) 122) :: (X ++ (N1 ++ (R1 ++ (T1 ++ (U1 ++ (V1 ++ [])))))))))) D2 hS h67 Z3 (fun X => .thereb _ (.thereb _ (.thereb _ (.here _)))) enc_len_uint32 rfl (by exact sz_uint32) rfl rfl ?_
     clear hS; intro B4 w M4 hS
     refine hb_next (fun h => absurd h (by decide)) ?_
     refine hb_done (by kernel_rfl) ?_
     obtain rfl := osi hF
     change ∃ _, _
     exact ⟨U3, B4, R2, M4, mk_exF, (hS.re (.b .hb (.b (.e .hb) (.t (.e .h) (.t (.e .h) (.t (.e .h) (.t (.e .h) (.t (.e .h) (.t (.e .h) .n)))))))))⟩
   replace hF := bf J2 hF
   refine wp_skip ?_
   obtain rfl := osi hF
   change ∃ _, _
   exact ⟨x65, X1, R2, h67, mk_exF, (hS.re (.b .hb (.b (.e .hb) (.t (.e .h) (.t (.e .h) (.t (.e .h) (.t (.e .h) (.t (.e .h) (.t (.e .h) .n)))))))))⟩
 rintro a w ⟨I2, B2, hF, V2, ⟨I5, rfl⟩, hS⟩
 dsimp only [r5_step_k2] at hF
 refine c_seq <| c_region <| oy hS (y_field fa_sledgeref5_deed_2) <| oy hS (y_load (fun w hS => hS.own (mC (mH))) underlying4 rfl rfl) <| n_thenN ?_
 refine c_if (ht := fun K2 => ?_) (hf := fun K2 => ?_)
 · replace hF := bt K2 hF
   refine c_region <| oy hS y_move <| oy hS (y_field fa_sledgeref5_deed_3) <| oy hS (y_load (fun w hS => hS.own (mC (mH))) underlying3 rfl rfl) <| oy hS y_nilCheck <| oy hS (y_field fa_api_State_5) ?_
   refine o_storeA1 (o := 5) (cl' := (cl_State v66 v71 v76 x80 v82 R0 v88 x92 v94 x98 x99)) hS (by kernel_rfl) (by exact Nat.le_of_ble_eq_true rfl) (Upd.here _) (by exact sz_int) rfl rfl ?_
   clear hS; intro w hS
   refine n_anyN ?_
   obtain rfl := osi hF
   refine (r_end (vs := []) (hS.re (.b .hb (.t (.e .h) (.t (.e .h) (.t (.e .h) (.t (.e .h) (.t (.e .h) (.t (.e .h) .n)))))))) rsN rfl ⟨_, rfl, (by first | rfl | simp only [aa, ac, al, an]), ⟨_, _, _, _, _, _, _, _, _, _, _, _, rfl, V2, h72, h77, h83, h89, h95⟩⟩)
 replace hF := bf K2 hF
 refine c_region ?_
 iterate 2 (refine oy hS y_move ?_)
 refine oy hS y_nilCheck <| oy hS (y_field fa_api_State_5) <| oy hS (y_load oH underlying3 rfl rfl) <| oy hS y_bin <| oy hS y_nilCheck <| oy hS (y_field fa_api_State_5) ?_
 refine o_storeA1 (o := 5) (cl' := (cl_State v66 v71 v76 x80 v82 (IntKind.i64.wrap (x86 + 1)) v88 x92 v94 x98 x99)) hS (by kernel_rfl) (by exact Nat.le_of_ble_eq_true rfl) (Upd.here _) (by exact sz_int) rfl rfl ?_
 clear hS; intro w hS
 refine n_anyN ?_
 obtain rfl := osi hF
 refine (r_end (vs := []) (hS.re (.b .hb (.t (.e .h) (.t (.e .h) (.t (.e .h) (.t (.e .h) (.t (.e .h) (.t (.e .h) .n)))))))) rsN rfl ⟨_, rfl, (by first | rfl | simp only [aa, ac, al, an]), ⟨_, _, _, _, _, _, _, _, _, _, _, _, rfl, V2, h72, h77, h83, h89, h95⟩⟩)
theorem w_r5_step {g : Frag} {a0 : (List T_Ins)} {v0_ : Value} {a1 : T_State} {b1_ : Nat} {LB1_ : Own} {r : T_State} (h0 : SlT g enc_Ins 6 a0 v0_) (h1 : Bx_State b1_ a1 LB1_) (hF : r5_step a0 a1 = some r) : LC Tryz.prog 53 #[v0_, .pointer (some ⟨b1_, 0, none⟩)] g LB1_ (fun v L => ∃ (LB' : Own), v = .tuple #[] ∧ L = (LB' ++ []) ∧ Bx_State b1_ r LB') := w_r5_step_ h0 h1 hF
end Go.Proofs.YtfnmihhcopkkbaaGreat
