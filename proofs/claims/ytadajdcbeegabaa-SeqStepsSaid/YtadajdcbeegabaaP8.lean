/- Functions, lifted. Printed by lift.py. -/
import Derived.Test.YtadajdcbeegabaaProg
import Derived.Test.YtadajdcbeegabaaP7
import Derived.KernelRfl
namespace Go.Proofs.Ytadajdcbeegabaa
open Go Go.RowKit Fr
set_option linter.unusedVariables false
set_option linter.unusedSimpArgs false
set_option maxRecDepth 20000
noncomputable def r5_do_k1 (a2 : Int) (a1 : T_Ins) (a0 : T_State) (a3 : Int) (a4 : Int) : Bool → Option (T_State × T_deed) := fun x11 => bif x11 then bif decide (256 ≤ (IntKind.u32.wrap (a2 + (IntKind.u32.wrap a1.Imm)))) then some (a0, (⟨false, 0, false, 0, 2⟩ : T_deed)) else bif decide (a1.Op = 24) then (at' a0.Mem (IntKind.u32.wrap (a2 + (IntKind.u32.wrap a1.Imm)))).bind fun x19 => some (a0, (⟨true, x19, false, 0, 0⟩ : T_deed)) else (set' a0.Mem (IntKind.u32.wrap (a2 + (IntKind.u32.wrap a1.Imm))) a3).bind fun zs35 => some ((⟨a0.Regs, zs35, a0.In_, a0.Taken, a0.Out, a0.PC, a0.Stack, a0.Stop, a0.Fly, a0.Jump, a0.Delay⟩ : T_State), (⟨false, 0, false, 0, 0⟩ : T_deed)) else bif decide (a1.Op = 26) then bif decide (a0.Taken < (a0.In_.length : Int)) then (at' a0.In_ a0.Taken).bind fun x41 => some ((⟨a0.Regs, a0.Mem, a0.In_, IntKind.i64.wrap (a0.Taken + 1), a0.Out, a0.PC, a0.Stack, a0.Stop, a0.Fly, a0.Jump, a0.Delay⟩ : T_State), (⟨true, x41, false, 0, 0⟩ : T_deed)) else some (a0, (⟨true, 0, false, 0, 0⟩ : T_deed)) else bif decide (a1.Op = 27) then (app' a0.Out ([a2] : List Int)).bind fun zs58 => some ((⟨a0.Regs, a0.Mem, a0.In_, a0.Taken, zs58, a0.PC, a0.Stack, a0.Stop, a0.Fly, a0.Jump, a0.Delay⟩ : T_State), (⟨false, 0, false, 0, 0⟩ : T_deed)) else bif decide (a1.Op = 28) then some (a0, (⟨false, 0, true, a1.Imm, 0⟩ : T_deed)) else bif decide (a1.Op = 29) then some (a0, (⟨false, 0, decide (a2 = 0), a1.Imm, 0⟩ : T_deed)) else bif decide (a1.Op = 30) then some (a0, (⟨false, 0, decide (a2 ≠ 0), a1.Imm, 0⟩ : T_deed)) else bif decide (a1.Op = 31) then bif decide (16 ≤ (a0.Stack.length : Int)) then some (a0, (⟨false, 0, false, 0, 4⟩ : T_deed)) else (app' a0.Stack ([a4] : List Int)).bind fun zs71 => some ((⟨a0.Regs, a0.Mem, a0.In_, a0.Taken, a0.Out, a0.PC, zs71, a0.Stop, a0.Fly, a0.Jump, a0.Delay⟩ : T_State), (⟨false, 0, true, a1.Imm, 0⟩ : T_deed)) else bif decide (a1.Op = 32) then bif decide ((a0.Stack.length : Int) = 0) then some (a0, (⟨false, 0, false, 0, 4⟩ : T_deed)) else (at' a0.Stack (IntKind.i64.wrap ((a0.Stack.length : Int) - 1))).bind fun x74 => (upto' a0.Stack (IntKind.i64.wrap ((a0.Stack.length : Int) - 1))).bind fun zs83 => some ((⟨a0.Regs, a0.Mem, a0.In_, a0.Taken, a0.Out, a0.PC, zs83, a0.Stop, a0.Fly, a0.Jump, a0.Delay⟩ : T_State), (⟨false, 0, true, x74, 0⟩ : T_deed)) else bif decide (a1.Op = 33) then some (a0, (⟨false, 0, false, 0, 1⟩ : T_deed)) else some (a0, (⟨false, 0, false, 0, 0⟩ : T_deed))
noncomputable def r5_do (a0 : T_State) (a1 : T_Ins) (a2 : Int) (a3 : Int) (a4 : Int) : Option (T_State × T_deed) :=
  bif (r1_Has a1.Op) then (r1_Of a1.Op a2 a3).bind fun r4 => bif !r4.2 then some (a0, (⟨false, 0, false, 0, 3⟩ : T_deed)) else some (a0, (⟨true, r4.1, false, 0, 0⟩ : T_deed)) else bif (r1_Paired a1.Op) then (r1_Pair a1.Op a2 a3).bind fun r7 => some (a0, (⟨true, r7, false, 0, 0⟩ : T_deed)) else bif decide (a1.Op = 22) then some (a0, (⟨true, IntKind.u32.wrap (a2 + (IntKind.u32.wrap a1.Imm)), false, 0, 0⟩ : T_deed)) else bif decide (a1.Op = 23) then some (a0, (⟨true, IntKind.u32.wrap a1.Imm, false, 0, 0⟩ : T_deed)) else cut (σ := Bool) (bif decide (a1.Op = 24) then some (.next (decide (a1.Op = 24))) else some (.next (decide (a1.Op = 25)))) (r5_do_k1 a2 a1 a0 a3 a4)
set_option maxHeartbeats 2000000 in
theorem w_r5_do_ {g : Frag} {a0 : T_State} {b0_ : Nat} {LB0_ : Own} {a1 : T_Ins} {a2 : Int} {a3 : Int} {a4 : Int} {r : (T_State × T_deed)} (h0 : Bx_State b0_ a0 LB0_) (hF : r5_do a0 a1 a2 a3 a4 = some r) : LC Try.prog 73 #[.pointer (some ⟨b0_, 0, none⟩), .agg #[.int .i64 a1.Op, .int .i64 a1.D, .int .i64 a1.A, .int .i64 a1.B, .int .i64 a1.Imm, .string a1.Sym], .int .u32 a2, .int .u32 a3, .int .i64 a4] g LB0_ (fun v L => ∃ (LB' : Own), v = .agg #[.bool r.2.has, .int .u32 r.2.result, .bool r.2.jumps, .int .i64 r.2.to, .int .i64 r.2.stop] ∧ L = (LB' ++ []) ∧ Bx_State b0_ r.1 LB') := by
 obtain ⟨vP0_0_1, vP0_1_5, vP0_2_9, vP0_4_13, vP0_6_17, vP0_8_21, LXP0_0_2, LXP0_1_6, LXP0_2_10, LXP0_4_14, LXP0_6_18, LXP0_8_22, rfl, hP0_0_3, hP0_1_7, hP0_2_11, hP0_4_15, hP0_6_19, hP0_8_23⟩ := h0
 unfold r5_do at hF
 refine lc_body (k := 213) (av := [.pointer (some ⟨b0_, 0, none⟩), .agg #[.int .i64 a1.Op, .int .i64 a1.D, .int .i64 a1.A, .int .i64 a1.B, .int .i64 a1.Imm, .string a1.Sym], .int .u32 a2, .int .u32 a3, .int .i64 a4]) Try.func73 rfl rfl (h := fun W hS => ?_)
 refine c_seq ?_
 refine c_region ?_
 refine o_boxP (cl := [.int .i64 a1.Op, .int .i64 a1.D, .int .i64 a1.A, .int .i64 a1.B, .int .i64 a1.Imm, .string a1.Sym]) rfl hS ?_
 clear hS; intro b1 w hS
 refine o_allocP (cl := [.bool false, .int .u32 0, .bool false, .int .i64 0, .int .i64 0]) zr_sledgeref5_deed rfl hS ?_
 clear hS; intro b2 w hS
 refine n_thenN ?_
 refine c_seq ?_
 refine c_block ?_
 refine c_seq ?_
 refine c_region ?_
 refine oy hS (y_field fa_api_Ins_0) ?_
 refine oy hS (y_load (fun w hS => hS.own (mC (mH))) Try.underlying3 rfl rfl) ?_
 refine o_callS hS Try.func87 rfl rfl (hc := (w_r1_Has (a0 := a1.Op))) (h := ?_)
 clear hS; intro w hS
 refine oy hS y_assign ?_
 refine n_thenN ?_
 refine c_if (ht := fun c3 => ?_) (hf := fun c3 => ?_)
 · replace hF := bt c3 hF
   refine c_seq ?_
   refine c_region ?_
   refine oy hS (y_field fa_api_Ins_0) ?_
   refine oy hS (y_load (fun w hS => hS.own (mC (mH))) Try.underlying3 rfl rfl) ?_
   iterate 2 (refine oy hS y_move ?_)
   obtain ⟨r4, hr4, hF⟩ := ob hF
   refine o_callS hS Try.func88 rfl rfl (hc := (w_r1_Of (a0 := a1.Op) (a1 := a2) (a2 := a3) (hF := hr4))) (h := ?_)
   clear hS; intro w hS
   refine oy hS y_move ?_
   iterate 2 (refine oy hS (y_extract rfl) ?_)
   iterate 2 (refine oy hS y_assign ?_)
   refine n_thenN ?_
   iterate 2 (refine c_seq ?_)
   refine c_region ?_
   refine oy hS y_move ?_
   refine oy hS y_not ?_
   refine n_thenN ?_
   refine c_if (ht := fun c5 => ?_) (hf := fun c5 => ?_)
   · replace hF := bt c5 hF
     refine c_seq ?_
     refine c_region ?_
     refine oy hS (y_build (cl := [.bool false, .int .u32 0, .bool false, .int .i64 0, .int .i64 3]) bt_sledgeref5_deed rfl (fillS (vs := [.int .i64 3]) rfl rfl rfl rfl fillN)) ?_
     refine o_storeP (vs := [.bool false, .int .u32 0, .bool false, .int .i64 0, .int .i64 3]) hS (hm := Upd.here _) (hi := by exact sz_sledgeref5_deed) (h1 := (onC rfl (onC rfl (onC rfl (onC rfl (onC rfl onN)))))) ?_
     clear hS; intro w hS
     refine n_thenN ?_
     obtain rfl := Option.some.inj hF
     refine wp_ret (r_ret (vs := [.agg #[.bool false, .int .u32 0, .bool false, .int .i64 0, .int .i64 3]]) (L' := ((b0_, blk [vP0_0_1, vP0_1_5, vP0_2_9, .int .i64 a0.Taken, vP0_4_13, .int .i64 a0.PC, vP0_6_17, .int .i64 a0.Stop, vP0_8_21, .int .i64 a0.Jump, .int .i64 a0.Delay] 27) :: (LXP0_0_2 ++ (LXP0_1_6 ++ (LXP0_2_10 ++ (LXP0_4_14 ++ (LXP0_6_18 ++ (LXP0_8_22 ++ [])))))))) (hS.re (.takeb (.thereb _ (.thereb _ (.hereb _ _))) (.take (.thereb _ (.thereb _ (.here _ _))) (.take (.thereb _ (.thereb _ (.here _ _))) (.take (.thereb _ (.thereb _ (.here _ _))) (.take (.thereb _ (.thereb _ (.here _ _))) (.take (.thereb _ (.thereb _ (.here _ _))) (.take (.thereb _ (.thereb _ (.here _ _))) (.nil _))))))))) (show resAll _ _ _ [.cell 10 82] _ from ⟨(res_cell (hS.own (mH)) Try.underlying82 rfl (by exact sz_sledgeref5_deed)), trivial⟩) rfl ⟨_, rfl, (by first | rfl | simp only [List.append_assoc, List.cons_append, List.nil_append, List.append_nil]), ⟨_, _, _, _, _, _, _, _, _, _, _, _, rfl, hP0_0_3, hP0_1_7, hP0_2_11, hP0_4_15, hP0_6_19, hP0_8_23⟩⟩)
   replace hF := bf c5 hF
   refine wp_skip ?_
   refine c_seq ?_
   refine c_region ?_
   refine oy hS y_move ?_
   refine oy hS (y_build (cl := [.bool true, .int .u32 r4.1, .bool false, .int .i64 0, .int .i64 0]) bt_sledgeref5_deed rfl (fillS (vs := [.bool true]) rfl rfl rfl rfl (fillS (vs := [.int .u32 r4.1]) rfl rfl rfl rfl fillN))) ?_
   refine o_storeP (vs := [.bool true, .int .u32 r4.1, .bool false, .int .i64 0, .int .i64 0]) hS (hm := Upd.here _) (hi := by exact sz_sledgeref5_deed) (h1 := (onC rfl (onC rfl (onC rfl (onC rfl (onC rfl onN)))))) ?_
   clear hS; intro w hS
   refine n_thenN ?_
   obtain rfl := Option.some.inj hF
   refine wp_ret (r_ret (vs := [.agg #[.bool true, .int .u32 r4.1, .bool false, .int .i64 0, .int .i64 0]]) (L' := ((b0_, blk [vP0_0_1, vP0_1_5, vP0_2_9, .int .i64 a0.Taken, vP0_4_13, .int .i64 a0.PC, vP0_6_17, .int .i64 a0.Stop, vP0_8_21, .int .i64 a0.Jump, .int .i64 a0.Delay] 27) :: (LXP0_0_2 ++ (LXP0_1_6 ++ (LXP0_2_10 ++ (LXP0_4_14 ++ (LXP0_6_18 ++ (LXP0_8_22 ++ [])))))))) (hS.re (.takeb (.thereb _ (.thereb _ (.hereb _ _))) (.take (.thereb _ (.thereb _ (.here _ _))) (.take (.thereb _ (.thereb _ (.here _ _))) (.take (.thereb _ (.thereb _ (.here _ _))) (.take (.thereb _ (.thereb _ (.here _ _))) (.take (.thereb _ (.thereb _ (.here _ _))) (.take (.thereb _ (.thereb _ (.here _ _))) (.nil _))))))))) (show resAll _ _ _ [.cell 10 82] _ from ⟨(res_cell (hS.own (mH)) Try.underlying82 rfl (by exact sz_sledgeref5_deed)), trivial⟩) rfl ⟨_, rfl, (by first | rfl | simp only [List.append_assoc, List.cons_append, List.nil_append, List.append_nil]), ⟨_, _, _, _, _, _, _, _, _, _, _, _, rfl, hP0_0_3, hP0_1_7, hP0_2_11, hP0_4_15, hP0_6_19, hP0_8_23⟩⟩)
 replace hF := bf c3 hF
 refine c_seq ?_
 refine c_region ?_
 refine oy hS (y_field fa_api_Ins_0) ?_
 refine oy hS (y_load (fun w hS => hS.own (mC (mH))) Try.underlying3 rfl rfl) ?_
 refine o_callS hS Try.func89 rfl rfl (hc := (w_r1_Paired (a0 := a1.Op))) (h := ?_)
 clear hS; intro w hS
 refine oy hS y_assign ?_
 refine n_thenN ?_
 refine c_if (ht := fun c6 => ?_) (hf := fun c6 => ?_)
 · replace hF := bt c6 hF
   refine c_seq ?_
   refine c_region ?_
   refine oy hS (y_field fa_api_Ins_0) ?_
   refine oy hS (y_load (fun w hS => hS.own (mC (mH))) Try.underlying3 rfl rfl) ?_
   iterate 2 (refine oy hS y_move ?_)
   obtain ⟨r7, hr7, hF⟩ := ob hF
   refine o_callS hS Try.func90 rfl rfl (hc := (w_r1_Pair (a0 := a1.Op) (a1 := a2) (a2 := a3) (hF := hr7))) (h := ?_)
   clear hS; intro w hS
   refine oy hS (y_build (cl := [.bool true, .int .u32 r7, .bool false, .int .i64 0, .int .i64 0]) bt_sledgeref5_deed rfl (fillS (vs := [.bool true]) rfl rfl rfl rfl (fillS (vs := [.int .u32 r7]) rfl rfl rfl rfl fillN))) ?_
   refine o_storeP (vs := [.bool true, .int .u32 r7, .bool false, .int .i64 0, .int .i64 0]) hS (hm := Upd.here _) (hi := by exact sz_sledgeref5_deed) (h1 := (onC rfl (onC rfl (onC rfl (onC rfl (onC rfl onN)))))) ?_
   clear hS; intro w hS
   refine n_thenN ?_
   obtain rfl := Option.some.inj hF
   refine wp_ret (r_ret (vs := [.agg #[.bool true, .int .u32 r7, .bool false, .int .i64 0, .int .i64 0]]) (L' := ((b0_, blk [vP0_0_1, vP0_1_5, vP0_2_9, .int .i64 a0.Taken, vP0_4_13, .int .i64 a0.PC, vP0_6_17, .int .i64 a0.Stop, vP0_8_21, .int .i64 a0.Jump, .int .i64 a0.Delay] 27) :: (LXP0_0_2 ++ (LXP0_1_6 ++ (LXP0_2_10 ++ (LXP0_4_14 ++ (LXP0_6_18 ++ (LXP0_8_22 ++ [])))))))) (hS.re (.takeb (.thereb _ (.thereb _ (.hereb _ _))) (.take (.thereb _ (.thereb _ (.here _ _))) (.take (.thereb _ (.thereb _ (.here _ _))) (.take (.thereb _ (.thereb _ (.here _ _))) (.take (.thereb _ (.thereb _ (.here _ _))) (.take (.thereb _ (.thereb _ (.here _ _))) (.take (.thereb _ (.thereb _ (.here _ _))) (.nil _))))))))) (show resAll _ _ _ [.cell 10 82] _ from ⟨(res_cell (hS.own (mH)) Try.underlying82 rfl (by exact sz_sledgeref5_deed)), trivial⟩) rfl ⟨_, rfl, (by first | rfl | simp only [List.append_assoc, List.cons_append, List.nil_append, List.append_nil]), ⟨_, _, _, _, _, _, _, _, _, _, _, _, rfl, hP0_0_3, hP0_1_7, hP0_2_11, hP0_4_15, hP0_6_19, hP0_8_23⟩⟩)
 replace hF := bf c6 hF
 refine wp_skip ?_
 iterate 2 (refine c_seq ?_)
 refine c_region ?_
 refine oy hS (y_field fa_api_Ins_0) ?_
 refine oy hS (y_load (fun w hS => hS.own (mC (mH))) Try.underlying3 rfl rfl) ?_
 refine n_thenN ?_
 refine c_block ?_
 refine c_seq ?_
 refine c_region ?_
 refine oy hS y_bin ?_
 refine oy hS y_assign ?_
 refine n_thenN ?_
 refine c_if (ht := fun c8 => ?_) (hf := fun c8 => ?_)
 · replace hF := bt c8 hF
   refine c_seq ?_
   refine c_region ?_
   refine oy hS y_move ?_
   refine oy hS (y_field fa_api_Ins_4) ?_
   refine oy hS (y_load (fun w hS => hS.own (mC (mH))) Try.underlying3 rfl rfl) ?_
   refine oy hS (y_conv Try.underlying3 Try.underlying63) ?_
   refine oy hS y_bin ?_
   refine oy hS (y_build (cl := [.bool true, .int .u32 (IntKind.u32.wrap (a2 + (IntKind.u32.wrap a1.Imm))), .bool false, .int .i64 0, .int .i64 0]) bt_sledgeref5_deed rfl (fillS (vs := [.bool true]) rfl rfl rfl rfl (fillS (vs := [.int .u32 (IntKind.u32.wrap (a2 + (IntKind.u32.wrap a1.Imm)))]) rfl rfl rfl rfl fillN))) ?_
   refine o_storeP (vs := [.bool true, .int .u32 (IntKind.u32.wrap (a2 + (IntKind.u32.wrap a1.Imm))), .bool false, .int .i64 0, .int .i64 0]) hS (hm := Upd.here _) (hi := by exact sz_sledgeref5_deed) (h1 := (onC rfl (onC rfl (onC rfl (onC rfl (onC rfl onN)))))) ?_
   clear hS; intro w hS
   refine n_thenN ?_
   obtain rfl := Option.some.inj hF
   refine wp_ret (r_ret (vs := [.agg #[.bool true, .int .u32 (IntKind.u32.wrap (a2 + (IntKind.u32.wrap a1.Imm))), .bool false, .int .i64 0, .int .i64 0]]) (L' := ((b0_, blk [vP0_0_1, vP0_1_5, vP0_2_9, .int .i64 a0.Taken, vP0_4_13, .int .i64 a0.PC, vP0_6_17, .int .i64 a0.Stop, vP0_8_21, .int .i64 a0.Jump, .int .i64 a0.Delay] 27) :: (LXP0_0_2 ++ (LXP0_1_6 ++ (LXP0_2_10 ++ (LXP0_4_14 ++ (LXP0_6_18 ++ (LXP0_8_22 ++ [])))))))) (hS.re (.takeb (.thereb _ (.thereb _ (.hereb _ _))) (.take (.thereb _ (.thereb _ (.here _ _))) (.take (.thereb _ (.thereb _ (.here _ _))) (.take (.thereb _ (.thereb _ (.here _ _))) (.take (.thereb _ (.thereb _ (.here _ _))) (.take (.thereb _ (.thereb _ (.here _ _))) (.take (.thereb _ (.thereb _ (.here _ _))) (.nil _))))))))) (show resAll _ _ _ [.cell 10 82] _ from ⟨(res_cell (hS.own (mH)) Try.underlying82 rfl (by exact sz_sledgeref5_deed)), trivial⟩) rfl ⟨_, rfl, (by first | rfl | simp only [List.append_assoc, List.cons_append, List.nil_append, List.append_nil]), ⟨_, _, _, _, _, _, _, _, _, _, _, _, rfl, hP0_0_3, hP0_1_7, hP0_2_11, hP0_4_15, hP0_6_19, hP0_8_23⟩⟩)
 replace hF := bf c8 hF
 refine c_seq ?_
 refine c_region ?_
 refine oy hS y_bin ?_
 refine oy hS y_assign ?_
 refine n_thenN ?_
 refine c_if (ht := fun c9 => ?_) (hf := fun c9 => ?_)
 · replace hF := bt c9 hF
   refine c_seq ?_
   refine c_region ?_
   refine oy hS (y_field fa_api_Ins_4) ?_
   refine oy hS (y_load (fun w hS => hS.own (mC (mH))) Try.underlying3 rfl rfl) ?_
   refine oy hS (y_conv Try.underlying3 Try.underlying63) ?_
   refine oy hS (y_build (cl := [.bool true, .int .u32 (IntKind.u32.wrap a1.Imm), .bool false, .int .i64 0, .int .i64 0]) bt_sledgeref5_deed rfl (fillS (vs := [.bool true]) rfl rfl rfl rfl (fillS (vs := [.int .u32 (IntKind.u32.wrap a1.Imm)]) rfl rfl rfl rfl fillN))) ?_
   refine o_storeP (vs := [.bool true, .int .u32 (IntKind.u32.wrap a1.Imm), .bool false, .int .i64 0, .int .i64 0]) hS (hm := Upd.here _) (hi := by exact sz_sledgeref5_deed) (h1 := (onC rfl (onC rfl (onC rfl (onC rfl (onC rfl onN)))))) ?_
   clear hS; intro w hS
   refine n_thenN ?_
   obtain rfl := Option.some.inj hF
   refine wp_ret (r_ret (vs := [.agg #[.bool true, .int .u32 (IntKind.u32.wrap a1.Imm), .bool false, .int .i64 0, .int .i64 0]]) (L' := ((b0_, blk [vP0_0_1, vP0_1_5, vP0_2_9, .int .i64 a0.Taken, vP0_4_13, .int .i64 a0.PC, vP0_6_17, .int .i64 a0.Stop, vP0_8_21, .int .i64 a0.Jump, .int .i64 a0.Delay] 27) :: (LXP0_0_2 ++ (LXP0_1_6 ++ (LXP0_2_10 ++ (LXP0_4_14 ++ (LXP0_6_18 ++ (LXP0_8_22 ++ [])))))))) (hS.re (.takeb (.thereb _ (.thereb _ (.hereb _ _))) (.take (.thereb _ (.thereb _ (.here _ _))) (.take (.thereb _ (.thereb _ (.here _ _))) (.take (.thereb _ (.thereb _ (.here _ _))) (.take (.thereb _ (.thereb _ (.here _ _))) (.take (.thereb _ (.thereb _ (.here _ _))) (.take (.thereb _ (.thereb _ (.here _ _))) (.nil _))))))))) (show resAll _ _ _ [.cell 10 82] _ from ⟨(res_cell (hS.own (mH)) Try.underlying82 rfl (by exact sz_sledgeref5_deed)), trivial⟩) rfl ⟨_, rfl, (by first | rfl | simp only [List.append_assoc, List.cons_append, List.nil_append, List.append_nil]), ⟨_, _, _, _, _, _, _, _, _, _, _, _, rfl, hP0_0_3, hP0_1_7, hP0_2_11, hP0_4_15, hP0_6_19, hP0_8_23⟩⟩)
 replace hF := bf c9 hF
 obtain ⟨z12, hF, hK13⟩ := cut_step hF
 refine c_cutP (fun a w' => ∃ (x11 : Bool), r5_do_k1 a2 a1 a0 a3 a4 x11 = some r ∧ (∃ s : Nat → Value, a = Ac (.lit 213 [.pointer (some ⟨b0_, 0, none⟩), s 1, .int .u32 a2, .int .u32 a3, .int .i64 a4, s 5, .pointer (some ⟨b1, 0, none⟩), s 7, s 8, s 9, .pointer (some ⟨b2, 0, none⟩), s 11, s 12, s 13, s 14, s 15, s 16, s 17, s 18, s 19, s 20, s 21, s 22, s 23, s 24, s 25, s 26, s 27, s 28, s 29, s 30, s 31, s 32, s 33, s 34, s 35, s 36, s 37, s 38, s 39, s 40, s 41, s 42, s 43, .int .i64 a1.Op, s 45, s 46, s 47, s 48, s 49, s 50, s 51, s 52, s 53, s 54, s 55, s 56, s 57, s 58, .bool x11, s 60, s 61, s 62, s 63, s 64, s 65, s 66, s 67, s 68, s 69, s 70, s 71, s 72, s 73, s 74, s 75, s 76, s 77, s 78, s 79, s 80, s 81, s 82, s 83, s 84, s 85, s 86, s 87, s 88, s 89, s 90, s 91, s 92, s 93, s 94, s 95, s 96, s 97, s 98, s 99, s 100, s 101, s 102, s 103, s 104, s 105, s 106, s 107, s 108, s 109, s 110, s 111, s 112, s 113, s 114, s 115, s 116, s 117, s 118, s 119, s 120, s 121, s 122, s 123, s 124, s 125, s 126, s 127, s 128, s 129, s 130, s 131, s 132, s 133, s 134, s 135, s 136, s 137, s 138, s 139, s 140, s 141, s 142, s 143, s 144, s 145, s 146, s 147, s 148, s 149, s 150, s 151, s 152, s 153, s 154, s 155, s 156, s 157, s 158, s 159, s 160, s 161, s 162, s 163, s 164, s 165, s 166, s 167, s 168, s 169, s 170, s 171, s 172, s 173, s 174, s 175, s 176, s 177, s 178, s 179, s 180, s 181, s 182, s 183, s 184, s 185, s 186, s 187, s 188, s 189, s 190, s 191, s 192, s 193, s 194, s 195, s 196, s 197, s 198, s 199, s 200, s 201, s 202, s 203, s 204, s 205, s 206, s 207, s 208, s 209, s 210, s 211, s 212])) ∧ St W g (((b0_, blk [vP0_0_1, vP0_1_5, vP0_2_9, .int .i64 a0.Taken, vP0_4_13, .int .i64 a0.PC, vP0_6_17, .int .i64 a0.Stop, vP0_8_21, .int .i64 a0.Jump, .int .i64 a0.Delay] 27) :: (LXP0_0_2 ++ (LXP0_1_6 ++ (LXP0_2_10 ++ (LXP0_4_14 ++ (LXP0_6_18 ++ (LXP0_8_22 ++ [])))))))) ((b0_, blk [vP0_0_1, vP0_1_5, vP0_2_9, .int .i64 a0.Taken, vP0_4_13, .int .i64 a0.PC, vP0_6_17, .int .i64 a0.Stop, vP0_8_21, .int .i64 a0.Jump, .int .i64 a0.Delay] 27) :: ((b1, blk [.int .i64 a1.Op, .int .i64 a1.D, .int .i64 a1.A, .int .i64 a1.B, .int .i64 a1.Imm, .string a1.Sym] 43) :: ((b2, blk [.bool false, .int .u32 0, .bool false, .int .i64 0, .int .i64 0] 82) :: (LXP0_0_2 ++ (LXP0_1_6 ++ (LXP0_2_10 ++ (LXP0_4_14 ++ (LXP0_6_18 ++ (LXP0_8_22 ++ []))))))))) w') ?_ ?_
 · skip
   refine c_seq ?_
   refine c_region ?_
   refine oy hS y_bin ?_
   refine oy hS y_assign ?_
   refine n_thenN ?_
   refine c_if (ht := fun c14 => ?_) (hf := fun c14 => ?_)
   · replace hF := bt c14 hF
     refine wp_skip ?_
     obtain rfl := Option.some.inj hF
     change ∃ _, _
     exact ⟨decide (a1.Op = 24), hK13, mk_ex, (hS.re (.takeb (.thereb _ (.thereb _ (.hereb _ _))) (.takeb (.thereb _ (.hereb _ _)) (.takeb (.hereb _ _) (.take (.here _ _) (.take (.here _ _) (.take (.here _ _) (.take (.here _ _) (.take (.here _ _) (.take (.here _ _) (.nil _)))))))))))⟩
   replace hF := bf c14 hF
   refine c_region ?_
   refine oy hS y_bin ?_
   refine oy hS y_assign ?_
   refine n_thenN ?_
   obtain rfl := Option.some.inj hF
   change ∃ _, _
   exact ⟨decide (a1.Op = 25), hK13, mk_ex, (hS.re (.takeb (.thereb _ (.thereb _ (.hereb _ _))) (.takeb (.thereb _ (.hereb _ _)) (.takeb (.hereb _ _) (.take (.here _ _) (.take (.here _ _) (.take (.here _ _) (.take (.here _ _) (.take (.here _ _) (.take (.here _ _) (.nil _)))))))))))⟩
 rintro a w ⟨x11, hF, ⟨s15, rfl⟩, hS⟩
 dsimp only [r5_do_k1] at hF
 refine c_if (ht := fun c16 => ?_) (hf := fun c16 => ?_)
 · replace hF := bt c16 hF
   refine c_seq ?_
   refine c_region ?_
   refine oy hS y_move ?_
   refine oy hS (y_field fa_api_Ins_4) ?_
   refine oy hS (y_load (fun w hS => hS.own (mC (mH))) Try.underlying3 rfl rfl) ?_
   refine oy hS (y_conv Try.underlying3 Try.underlying63) ?_
   refine oy hS y_bin ?_
   refine oy hS y_assign ?_
   refine n_thenN ?_
   iterate 2 (refine c_seq ?_)
   refine c_region ?_
   refine oy hS y_move ?_
   refine oy hS y_bin ?_
   refine n_thenN ?_
   refine c_if (ht := fun c17 => ?_) (hf := fun c17 => ?_)
   · replace hF := bt c17 hF
     refine c_seq ?_
     refine c_region ?_
     refine oy hS (y_build (cl := [.bool false, .int .u32 0, .bool false, .int .i64 0, .int .i64 2]) bt_sledgeref5_deed rfl (fillS (vs := [.int .i64 2]) rfl rfl rfl rfl fillN)) ?_
     refine o_storeP (vs := [.bool false, .int .u32 0, .bool false, .int .i64 0, .int .i64 2]) hS (hm := Upd.there _ (Upd.there _ (Upd.here _))) (hi := by exact sz_sledgeref5_deed) (h1 := (onC rfl (onC rfl (onC rfl (onC rfl (onC rfl onN)))))) ?_
     clear hS; intro w hS
     refine n_thenN ?_
     obtain rfl := Option.some.inj hF
     refine wp_ret (r_ret (vs := [.agg #[.bool false, .int .u32 0, .bool false, .int .i64 0, .int .i64 2]]) (L' := ((b0_, blk [vP0_0_1, vP0_1_5, vP0_2_9, .int .i64 a0.Taken, vP0_4_13, .int .i64 a0.PC, vP0_6_17, .int .i64 a0.Stop, vP0_8_21, .int .i64 a0.Jump, .int .i64 a0.Delay] 27) :: (LXP0_0_2 ++ (LXP0_1_6 ++ (LXP0_2_10 ++ (LXP0_4_14 ++ (LXP0_6_18 ++ (LXP0_8_22 ++ [])))))))) (hS.re (.takeb (.hereb _ _) (.take (.thereb _ (.thereb _ (.here _ _))) (.take (.thereb _ (.thereb _ (.here _ _))) (.take (.thereb _ (.thereb _ (.here _ _))) (.take (.thereb _ (.thereb _ (.here _ _))) (.take (.thereb _ (.thereb _ (.here _ _))) (.take (.thereb _ (.thereb _ (.here _ _))) (.nil _))))))))) (show resAll _ _ _ [.cell 10 82] _ from ⟨(res_cell (hS.own (mC (mC (mH)))) Try.underlying82 rfl (by exact sz_sledgeref5_deed)), trivial⟩) rfl ⟨_, rfl, (by first | rfl | simp only [List.append_assoc, List.cons_append, List.nil_append, List.append_nil]), ⟨_, _, _, _, _, _, _, _, _, _, _, _, rfl, hP0_0_3, hP0_1_7, hP0_2_11, hP0_4_15, hP0_6_19, hP0_8_23⟩⟩)
   replace hF := bf c17 hF
   refine wp_skip ?_
   iterate 2 (refine c_seq ?_)
   refine c_region ?_
   refine oy hS (y_field fa_api_Ins_0) ?_
   refine oy hS (y_load (fun w hS => hS.own (mC (mH))) Try.underlying3 rfl rfl) ?_
   refine oy hS y_bin ?_
   refine n_thenN ?_
   refine c_if (ht := fun c18 => ?_) (hf := fun c18 => ?_)
   · replace hF := bt c18 hF
     refine c_seq ?_
     refine c_region ?_
     refine oy hS y_move ?_
     refine oy hS y_nilCheck ?_
     refine oy hS (y_field fa_api_State_1) ?_
     refine oy hS (y_load (fun w hS => hS.own (mH)) Try.underlying23 rfl rfl) ?_
     refine oy hS y_move ?_
     obtain ⟨x19, hx19, hF⟩ := ob hF
     obtain ⟨b20, c21, cl22, hv23, ha24, hb25, hl26, hc27⟩ := OwT.at hx19 hP0_1_7 enc_len_uint32
     refine oy hS (y_index hv23 ha24 hb25 Try.underlying23 el_uint32.size) ?_
     refine oy hS (y_load (fun w hS => hS.own (mC (mC (mC (mB (mA (mX hl26))))))) Try.underlying63 rfl (hc27 0 _ rfl)) ?_
     refine oy hS (y_build (cl := [.bool true, .int .u32 x19, .bool false, .int .i64 0, .int .i64 0]) bt_sledgeref5_deed rfl (fillS (vs := [.bool true]) rfl rfl rfl rfl (fillS (vs := [.int .u32 x19]) rfl rfl rfl rfl fillN))) ?_
     refine o_storeP (vs := [.bool true, .int .u32 x19, .bool false, .int .i64 0, .int .i64 0]) hS (hm := Upd.there _ (Upd.there _ (Upd.here _))) (hi := by exact sz_sledgeref5_deed) (h1 := (onC rfl (onC rfl (onC rfl (onC rfl (onC rfl onN)))))) ?_
     clear hS; intro w hS
     refine n_thenN ?_
     obtain rfl := Option.some.inj hF
     refine wp_ret (r_ret (vs := [.agg #[.bool true, .int .u32 x19, .bool false, .int .i64 0, .int .i64 0]]) (L' := ((b0_, blk [vP0_0_1, vP0_1_5, vP0_2_9, .int .i64 a0.Taken, vP0_4_13, .int .i64 a0.PC, vP0_6_17, .int .i64 a0.Stop, vP0_8_21, .int .i64 a0.Jump, .int .i64 a0.Delay] 27) :: (LXP0_0_2 ++ (LXP0_1_6 ++ (LXP0_2_10 ++ (LXP0_4_14 ++ (LXP0_6_18 ++ (LXP0_8_22 ++ [])))))))) (hS.re (.takeb (.hereb _ _) (.take (.thereb _ (.thereb _ (.here _ _))) (.take (.thereb _ (.thereb _ (.here _ _))) (.take (.thereb _ (.thereb _ (.here _ _))) (.take (.thereb _ (.thereb _ (.here _ _))) (.take (.thereb _ (.thereb _ (.here _ _))) (.take (.thereb _ (.thereb _ (.here _ _))) (.nil _))))))))) (show resAll _ _ _ [.cell 10 82] _ from ⟨(res_cell (hS.own (mC (mC (mH)))) Try.underlying82 rfl (by exact sz_sledgeref5_deed)), trivial⟩) rfl ⟨_, rfl, (by first | rfl | simp only [List.append_assoc, List.cons_append, List.nil_append, List.append_nil]), ⟨_, _, _, _, _, _, _, _, _, _, _, _, rfl, hP0_0_3, hP0_1_7, hP0_2_11, hP0_4_15, hP0_6_19, hP0_8_23⟩⟩)
   replace hF := bf c18 hF
   refine wp_skip ?_
   refine c_region ?_
   refine oy hS y_move ?_
   refine oy hS y_nilCheck ?_
   refine oy hS (y_field fa_api_State_1) ?_
   refine oy hS (y_load (fun w hS => hS.own (mH)) Try.underlying23 rfl rfl) ?_
   iterate 2 (refine oy hS y_move ?_)
   obtain ⟨zs35, hzs35, hF⟩ := ob hF
   obtain ⟨b28, c29, cl30, hv31, ha32, hb33, hl34⟩ := OwT.at_set hzs35 hP0_1_7 enc_len_uint32
   refine oy hS (y_index hv31 ha32 hb33 Try.underlying23 el_uint32.size) ?_
   refine o_storeO (L' := fun X => ((b0_, blk [vP0_0_1, vP0_1_5, vP0_2_9, .int .i64 a0.Taken, vP0_4_13, .int .i64 a0.PC, vP0_6_17, .int .i64 a0.Stop, vP0_8_21, .int .i64 a0.Jump, .int .i64 a0.Delay] 27) :: ((b1, blk [.int .i64 a1.Op, .int .i64 a1.D, .int .i64 a1.A, .int .i64 a1.B, .int .i64 a1.Imm, .string a1.Sym] 43) :: ((b2, blk [.bool false, .int .u32 0, .bool false, .int .i64 0, .int .i64 0] 82) :: (LXP0_0_2 ++ (X ++ (LXP0_2_10 ++ (LXP0_4_14 ++ (LXP0_6_18 ++ (LXP0_8_22 ++ [])))))))))) hzs35 hS hP0_1_7 hl34 (fun X => .thereb _ (.thereb _ (.thereb _ (.there _ (.here _))))) enc_len_uint32 rfl (by exact sz_uint32) rfl rfl ?_
   clear hS; intro LX36 w h37 hS
   refine n_anyN ?_
   refine c_seq ?_
   refine c_region ?_
   refine oy hS (y_build (cl := [.bool false, .int .u32 0, .bool false, .int .i64 0, .int .i64 0]) bt_sledgeref5_deed rfl fillN) ?_
   refine o_storeP (vs := [.bool false, .int .u32 0, .bool false, .int .i64 0, .int .i64 0]) hS (hm := Upd.there _ (Upd.there _ (Upd.here _))) (hi := by exact sz_sledgeref5_deed) (h1 := (onC rfl (onC rfl (onC rfl (onC rfl (onC rfl onN)))))) ?_
   clear hS; intro w hS
   refine n_thenN ?_
   obtain rfl := Option.some.inj hF
   refine wp_ret (r_ret (vs := [.agg #[.bool false, .int .u32 0, .bool false, .int .i64 0, .int .i64 0]]) (L' := ((b0_, blk [vP0_0_1, vP0_1_5, vP0_2_9, .int .i64 a0.Taken, vP0_4_13, .int .i64 a0.PC, vP0_6_17, .int .i64 a0.Stop, vP0_8_21, .int .i64 a0.Jump, .int .i64 a0.Delay] 27) :: (LXP0_0_2 ++ (LX36 ++ (LXP0_2_10 ++ (LXP0_4_14 ++ (LXP0_6_18 ++ (LXP0_8_22 ++ [])))))))) (hS.re (.takeb (.hereb _ _) (.take (.thereb _ (.thereb _ (.here _ _))) (.take (.thereb _ (.thereb _ (.here _ _))) (.take (.thereb _ (.thereb _ (.here _ _))) (.take (.thereb _ (.thereb _ (.here _ _))) (.take (.thereb _ (.thereb _ (.here _ _))) (.take (.thereb _ (.thereb _ (.here _ _))) (.nil _))))))))) (show resAll _ _ _ [.cell 10 82] _ from ⟨(res_cell (hS.own (mC (mC (mH)))) Try.underlying82 rfl (by exact sz_sledgeref5_deed)), trivial⟩) rfl ⟨_, rfl, (by first | rfl | simp only [List.append_assoc, List.cons_append, List.nil_append, List.append_nil]), ⟨_, _, _, _, _, _, _, _, _, _, _, _, rfl, hP0_0_3, h37, hP0_2_11, hP0_4_15, hP0_6_19, hP0_8_23⟩⟩)
 replace hF := bf c16 hF
 refine c_seq ?_
 refine c_region ?_
 refine oy hS y_bin ?_
 refine oy hS y_assign ?_
 refine n_thenN ?_
 refine c_if (ht := fun c39 => ?_) (hf := fun c39 => ?_)
 · replace hF := bt c39 hF
   refine c_seq ?_
   refine c_region ?_
   refine oy hS y_assign ?_
   refine n_thenN ?_
   iterate 2 (refine c_seq ?_)
   refine c_quiet (by kernel_rfl) (by kernel_rfl) hS ?_
   refine qy y_move ?_
   refine qy y_nilCheck ?_
   refine qy (y_field fa_api_State_3) ?_
   refine qy (y_load (fun w hS => hS.own (mH)) Try.underlying3 rfl rfl) ?_
   refine qy y_move ?_
   refine qy y_nilCheck ?_
   refine qy (y_field fa_api_State_2) ?_
   refine qy (y_load (fun w hS => hS.own (mH)) Try.underlying23 rfl rfl) ?_
   refine qy (y_lenO hP0_2_11 Try.underlying23) ?_
   refine qy y_bin ?_
   refine q_nilN (h := ?_)
   clear hS; intro w hS
   refine c_if (ht := fun c40 => ?_) (hf := fun c40 => ?_)
   · replace hF := bt c40 hF
     refine c_seq ?_
     refine c_quiet (by kernel_rfl) (by kernel_rfl) hS ?_
     refine qy y_move ?_
     refine qy y_nilCheck ?_
     refine qy (y_field fa_api_State_2) ?_
     refine qy (y_load (fun w hS => hS.own (mH)) Try.underlying23 rfl rfl) ?_
     refine qy y_move ?_
     refine qy y_nilCheck ?_
     refine qy (y_field fa_api_State_3) ?_
     refine qy (y_load (fun w hS => hS.own (mH)) Try.underlying3 rfl rfl) ?_
     obtain ⟨x41, hx41, hF⟩ := ob hF
     obtain ⟨b42, c43, cl44, hv45, ha46, hb47, hl48, hc49⟩ := OwT.at hx41 hP0_2_11 enc_len_uint32
     refine qy (y_index hv45 ha46 hb47 Try.underlying23 el_uint32.size) ?_
     refine qy (y_load (fun w hS => hS.own (mC (mC (mC (mB (mB (mA (mX hl48)))))))) Try.underlying63 rfl (hc49 0 _ rfl)) ?_
     refine qy y_assign ?_
     refine q_nilN (h := ?_)
     clear hS; intro w hS
     refine c_region ?_
     refine oy hS y_move ?_
     refine oy hS y_nilCheck ?_
     refine oy hS (y_field fa_api_State_3) ?_
     refine oy hS (y_load (fun w hS => hS.own (mH)) Try.underlying3 rfl rfl) ?_
     refine oy hS y_bin ?_
     refine oy hS y_nilCheck ?_
     refine oy hS (y_field fa_api_State_3) ?_
     refine o_store hS (hm := Upd.here _) (hi := by exact sz_int) (h1 := rfl) (hc := rfl) (ho := by exact Nat.le_of_ble_eq_true rfl) (h := ?_)
     clear hS; intro w hS
     refine n_thenN ?_
     refine c_seq ?_
     refine c_region ?_
     refine oy hS y_move ?_
     refine oy hS (y_build (cl := [.bool true, .int .u32 x41, .bool false, .int .i64 0, .int .i64 0]) bt_sledgeref5_deed rfl (fillS (vs := [.bool true]) rfl rfl rfl rfl (fillS (vs := [.int .u32 x41]) rfl rfl rfl rfl fillN))) ?_
     refine o_storeP (vs := [.bool true, .int .u32 x41, .bool false, .int .i64 0, .int .i64 0]) hS (hm := Upd.there _ (Upd.there _ (Upd.here _))) (hi := by exact sz_sledgeref5_deed) (h1 := (onC rfl (onC rfl (onC rfl (onC rfl (onC rfl onN)))))) ?_
     clear hS; intro w hS
     refine n_thenN ?_
     obtain rfl := Option.some.inj hF
     refine wp_ret (r_ret (vs := [.agg #[.bool true, .int .u32 x41, .bool false, .int .i64 0, .int .i64 0]]) (L' := ((b0_, blk [vP0_0_1, vP0_1_5, vP0_2_9, .int .i64 (IntKind.i64.wrap (a0.Taken + 1)), vP0_4_13, .int .i64 a0.PC, vP0_6_17, .int .i64 a0.Stop, vP0_8_21, .int .i64 a0.Jump, .int .i64 a0.Delay] 27) :: (LXP0_0_2 ++ (LXP0_1_6 ++ (LXP0_2_10 ++ (LXP0_4_14 ++ (LXP0_6_18 ++ (LXP0_8_22 ++ [])))))))) (hS.re (.takeb (.hereb _ _) (.take (.thereb _ (.thereb _ (.here _ _))) (.take (.thereb _ (.thereb _ (.here _ _))) (.take (.thereb _ (.thereb _ (.here _ _))) (.take (.thereb _ (.thereb _ (.here _ _))) (.take (.thereb _ (.thereb _ (.here _ _))) (.take (.thereb _ (.thereb _ (.here _ _))) (.nil _))))))))) (show resAll _ _ _ [.cell 10 82] _ from ⟨(res_cell (hS.own (mC (mC (mH)))) Try.underlying82 rfl (by exact sz_sledgeref5_deed)), trivial⟩) rfl ⟨_, rfl, (by first | rfl | simp only [List.append_assoc, List.cons_append, List.nil_append, List.append_nil]), ⟨_, _, _, _, _, _, _, _, _, _, _, _, rfl, hP0_0_3, hP0_1_7, hP0_2_11, hP0_4_15, hP0_6_19, hP0_8_23⟩⟩)
   replace hF := bf c40 hF
   refine wp_skip ?_
   refine c_seq ?_
   refine c_region ?_
   refine oy hS y_move ?_
   refine oy hS (y_build (cl := [.bool true, .int .u32 0, .bool false, .int .i64 0, .int .i64 0]) bt_sledgeref5_deed rfl (fillS (vs := [.bool true]) rfl rfl rfl rfl (fillS (vs := [.int .u32 0]) rfl rfl rfl rfl fillN))) ?_
   refine o_storeP (vs := [.bool true, .int .u32 0, .bool false, .int .i64 0, .int .i64 0]) hS (hm := Upd.there _ (Upd.there _ (Upd.here _))) (hi := by exact sz_sledgeref5_deed) (h1 := (onC rfl (onC rfl (onC rfl (onC rfl (onC rfl onN)))))) ?_
   clear hS; intro w hS
   refine n_thenN ?_
   obtain rfl := Option.some.inj hF
   refine wp_ret (r_ret (vs := [.agg #[.bool true, .int .u32 0, .bool false, .int .i64 0, .int .i64 0]]) (L' := ((b0_, blk [vP0_0_1, vP0_1_5, vP0_2_9, .int .i64 a0.Taken, vP0_4_13, .int .i64 a0.PC, vP0_6_17, .int .i64 a0.Stop, vP0_8_21, .int .i64 a0.Jump, .int .i64 a0.Delay] 27) :: (LXP0_0_2 ++ (LXP0_1_6 ++ (LXP0_2_10 ++ (LXP0_4_14 ++ (LXP0_6_18 ++ (LXP0_8_22 ++ [])))))))) (hS.re (.takeb (.hereb _ _) (.take (.thereb _ (.thereb _ (.here _ _))) (.take (.thereb _ (.thereb _ (.here _ _))) (.take (.thereb _ (.thereb _ (.here _ _))) (.take (.thereb _ (.thereb _ (.here _ _))) (.take (.thereb _ (.thereb _ (.here _ _))) (.take (.thereb _ (.thereb _ (.here _ _))) (.nil _))))))))) (show resAll _ _ _ [.cell 10 82] _ from ⟨(res_cell (hS.own (mC (mC (mH)))) Try.underlying82 rfl (by exact sz_sledgeref5_deed)), trivial⟩) rfl ⟨_, rfl, (by first | rfl | simp only [List.append_assoc, List.cons_append, List.nil_append, List.append_nil]), ⟨_, _, _, _, _, _, _, _, _, _, _, _, rfl, hP0_0_3, hP0_1_7, hP0_2_11, hP0_4_15, hP0_6_19, hP0_8_23⟩⟩)
 replace hF := bf c39 hF
 refine c_seq ?_
 refine c_region ?_
 refine oy hS y_bin ?_
 refine oy hS y_assign ?_
 refine n_thenN ?_
 refine c_if (ht := fun c50 => ?_) (hf := fun c50 => ?_)
 · replace hF := bt c50 hF
   refine c_region ?_
   iterate 2 (refine oy hS y_move ?_)
   refine oy hS y_nilCheck ?_
   refine oy hS (y_field fa_api_State_4) ?_
   refine oy hS (y_load (fun w hS => hS.own (mH)) Try.underlying23 rfl rfl) ?_
   refine oy hS y_move ?_
   refine o_buildT val_uint32 ([a2] : List Int) hS el_uint32 (fun _ => rfl) enc_len_uint32 (by decide) rfl (by decide) (hp := rfl) (h := ?_)
   clear hS; intro b51 w hS h52
   have hS : St W g (((b0_, blk [vP0_0_1, vP0_1_5, vP0_2_9, .int .i64 a0.Taken, vP0_4_13, .int .i64 a0.PC, vP0_6_17, .int .i64 a0.Stop, vP0_8_21, .int .i64 a0.Jump, .int .i64 a0.Delay] 27) :: (LXP0_0_2 ++ (LXP0_1_6 ++ (LXP0_2_10 ++ (LXP0_4_14 ++ (LXP0_6_18 ++ (LXP0_8_22 ++ [])))))))) ([(b51, blk (([a2] : List Int).flatMap enc_uint32) 63)] ++ ((b0_, blk [vP0_0_1, vP0_1_5, vP0_2_9, .int .i64 a0.Taken, vP0_4_13, .int .i64 a0.PC, vP0_6_17, .int .i64 a0.Stop, vP0_8_21, .int .i64 a0.Jump, .int .i64 a0.Delay] 27) :: ((b1, blk [.int .i64 a1.Op, .int .i64 a1.D, .int .i64 a1.A, .int .i64 a1.B, .int .i64 a1.Imm, .string a1.Sym] 43) :: ((b2, blk [.bool false, .int .u32 0, .bool false, .int .i64 0, .int .i64 0] 82) :: (LXP0_0_2 ++ (LXP0_1_6 ++ (LXP0_2_10 ++ (LXP0_4_14 ++ (LXP0_6_18 ++ (LXP0_8_22 ++ [])))))))))) w := hS
   obtain ⟨zs58, hzs58, hF⟩ := ob hF
   have hS : St W g (((b0_, blk [vP0_0_1, vP0_1_5, vP0_2_9, .int .i64 a0.Taken, vP0_4_13, .int .i64 a0.PC, vP0_6_17, .int .i64 a0.Stop, vP0_8_21, .int .i64 a0.Jump, .int .i64 a0.Delay] 27) :: (LXP0_0_2 ++ (LXP0_1_6 ++ (LXP0_2_10 ++ (LXP0_4_14 ++ (LXP0_6_18 ++ (LXP0_8_22 ++ [])))))))) ([(b51, blk (([a2] : List Int).flatMap enc_uint32) 63)] ++ (LXP0_4_14 ++ ((b0_, blk [vP0_0_1, vP0_1_5, vP0_2_9, .int .i64 a0.Taken, vP0_4_13, .int .i64 a0.PC, vP0_6_17, .int .i64 a0.Stop, vP0_8_21, .int .i64 a0.Jump, .int .i64 a0.Delay] 27) :: ((b1, blk [.int .i64 a1.Op, .int .i64 a1.D, .int .i64 a1.A, .int .i64 a1.B, .int .i64 a1.Imm, .string a1.Sym] 43) :: ((b2, blk [.bool false, .int .u32 0, .bool false, .int .i64 0, .int .i64 0] 82) :: (LXP0_0_2 ++ (LXP0_1_6 ++ (LXP0_2_10 ++ (LXP0_6_18 ++ (LXP0_8_22 ++ [])))))))))) w := hS.re (.take (.here _ _) (.take (.thereb _ (.thereb _ (.thereb _ (.there _ (.there _ (.there _ (.here _ _))))))) (.takeb (.hereb _ _) (.takeb (.hereb _ _) (.takeb (.hereb _ _) (.take (.here _ _) (.take (.here _ _) (.take (.here _ _) (.take (.here _ _) (.take (.here _ _) (.nil _)))))))))))
   refine o_appPn (ys := ([a2] : List Int)) (LX := LXP0_4_14) hzs58 hS el_uint32 hP0_4_15 rfl enc_len_uint32 (enc_ones_uint32 _) (by decide) ?_
   clear hS; intro v54 LX55 w h56 hS
   refine oy hS y_nilCheck ?_
   refine oy hS (y_field fa_api_State_4) ?_
   have hS : St W g (((b0_, blk [vP0_0_1, vP0_1_5, vP0_2_9, .int .i64 a0.Taken, vP0_4_13, .int .i64 a0.PC, vP0_6_17, .int .i64 a0.Stop, vP0_8_21, .int .i64 a0.Jump, .int .i64 a0.Delay] 27) :: (LXP0_0_2 ++ (LXP0_1_6 ++ (LXP0_2_10 ++ (LXP0_4_14 ++ (LXP0_6_18 ++ (LXP0_8_22 ++ [])))))))) ((b0_, blk [vP0_0_1, vP0_1_5, vP0_2_9, .int .i64 a0.Taken, vP0_4_13, .int .i64 a0.PC, vP0_6_17, .int .i64 a0.Stop, vP0_8_21, .int .i64 a0.Jump, .int .i64 a0.Delay] 27) :: (LX55 ++ ((b1, blk [.int .i64 a1.Op, .int .i64 a1.D, .int .i64 a1.A, .int .i64 a1.B, .int .i64 a1.Imm, .string a1.Sym] 43) :: ((b2, blk [.bool false, .int .u32 0, .bool false, .int .i64 0, .int .i64 0] 82) :: (LXP0_0_2 ++ (LXP0_1_6 ++ (LXP0_2_10 ++ (LXP0_6_18 ++ (LXP0_8_22 ++ []))))))))) w := hS.re (.takeb (.there _ (.hereb _ _)) (.take (.here _ _) (.takeb (.hereb _ _) (.takeb (.hereb _ _) (.take (.here _ _) (.take (.here _ _) (.take (.here _ _) (.take (.here _ _) (.take (.here _ _) (.nil _))))))))))
   refine o_store hS (hm := Upd.here _) (hi := by exact sz_S_uint32) (h1 := (h56).one) (hc := (h56).cell) (ho := by exact Nat.le_of_ble_eq_true rfl) (h := ?_)
   clear hS; intro w hS
   refine n_anyN ?_
   refine c_seq ?_
   refine c_region ?_
   refine oy hS (y_build (cl := [.bool false, .int .u32 0, .bool false, .int .i64 0, .int .i64 0]) bt_sledgeref5_deed rfl fillN) ?_
   have hS : St W g (((b0_, blk [vP0_0_1, vP0_1_5, vP0_2_9, .int .i64 a0.Taken, vP0_4_13, .int .i64 a0.PC, vP0_6_17, .int .i64 a0.Stop, vP0_8_21, .int .i64 a0.Jump, .int .i64 a0.Delay] 27) :: (LXP0_0_2 ++ (LXP0_1_6 ++ (LXP0_2_10 ++ (LXP0_4_14 ++ (LXP0_6_18 ++ (LXP0_8_22 ++ [])))))))) ((b2, blk [.bool false, .int .u32 0, .bool false, .int .i64 0, .int .i64 0] 82) :: ((b0_, blk [vP0_0_1, vP0_1_5, vP0_2_9, .int .i64 a0.Taken, v54, .int .i64 a0.PC, vP0_6_17, .int .i64 a0.Stop, vP0_8_21, .int .i64 a0.Jump, .int .i64 a0.Delay] 27) :: (LX55 ++ ((b1, blk [.int .i64 a1.Op, .int .i64 a1.D, .int .i64 a1.A, .int .i64 a1.B, .int .i64 a1.Imm, .string a1.Sym] 43) :: (LXP0_0_2 ++ (LXP0_1_6 ++ (LXP0_2_10 ++ (LXP0_6_18 ++ (LXP0_8_22 ++ []))))))))) w := hS.re (.takeb (.thereb _ (.there _ (.thereb _ (.hereb _ _)))) (.takeb (.hereb _ _) (.take (.here _ _) (.takeb (.hereb _ _) (.take (.here _ _) (.take (.here _ _) (.take (.here _ _) (.take (.here _ _) (.take (.here _ _) (.nil _))))))))))
   refine o_storeP (vs := [.bool false, .int .u32 0, .bool false, .int .i64 0, .int .i64 0]) hS (hm := Upd.here _) (hi := by exact sz_sledgeref5_deed) (h1 := (onC rfl (onC rfl (onC rfl (onC rfl (onC rfl onN)))))) ?_
   clear hS; intro w hS
   refine n_thenN ?_
   obtain rfl := Option.some.inj hF
   refine wp_ret (r_ret (vs := [.agg #[.bool false, .int .u32 0, .bool false, .int .i64 0, .int .i64 0]]) (L' := ((b0_, blk [vP0_0_1, vP0_1_5, vP0_2_9, .int .i64 a0.Taken, v54, .int .i64 a0.PC, vP0_6_17, .int .i64 a0.Stop, vP0_8_21, .int .i64 a0.Jump, .int .i64 a0.Delay] 27) :: (LXP0_0_2 ++ (LXP0_1_6 ++ (LXP0_2_10 ++ (LX55 ++ (LXP0_6_18 ++ (LXP0_8_22 ++ [])))))))) (hS.re (.takeb (.thereb _ (.hereb _ _)) (.take (.thereb _ (.there _ (.thereb _ (.here _ _)))) (.take (.thereb _ (.there _ (.thereb _ (.here _ _)))) (.take (.thereb _ (.there _ (.thereb _ (.here _ _)))) (.take (.thereb _ (.here _ _)) (.take (.thereb _ (.thereb _ (.here _ _))) (.take (.thereb _ (.thereb _ (.here _ _))) (.nil _))))))))) (show resAll _ _ _ [.cell 10 82] _ from ⟨(res_cell (hS.own (mH)) Try.underlying82 rfl (by exact sz_sledgeref5_deed)), trivial⟩) rfl ⟨_, rfl, (by first | rfl | simp only [List.append_assoc, List.cons_append, List.nil_append, List.append_nil]), ⟨_, _, _, _, _, _, _, _, _, _, _, _, rfl, hP0_0_3, hP0_1_7, hP0_2_11, h56, hP0_6_19, hP0_8_23⟩⟩)
 replace hF := bf c50 hF
 refine c_seq ?_
 refine c_region ?_
 refine oy hS y_bin ?_
 refine oy hS y_assign ?_
 refine n_thenN ?_
 refine c_if (ht := fun c59 => ?_) (hf := fun c59 => ?_)
 · replace hF := bt c59 hF
   refine c_seq ?_
   refine c_region ?_
   refine oy hS (y_field fa_api_Ins_4) ?_
   refine oy hS (y_load (fun w hS => hS.own (mC (mH))) Try.underlying3 rfl rfl) ?_
   refine oy hS (y_build (cl := [.bool false, .int .u32 0, .bool true, .int .i64 a1.Imm, .int .i64 0]) bt_sledgeref5_deed rfl (fillS (vs := [.bool true]) rfl rfl rfl rfl (fillS (vs := [.int .i64 a1.Imm]) rfl rfl rfl rfl fillN))) ?_
   refine o_storeP (vs := [.bool false, .int .u32 0, .bool true, .int .i64 a1.Imm, .int .i64 0]) hS (hm := Upd.there _ (Upd.there _ (Upd.here _))) (hi := by exact sz_sledgeref5_deed) (h1 := (onC rfl (onC rfl (onC rfl (onC rfl (onC rfl onN)))))) ?_
   clear hS; intro w hS
   refine n_thenN ?_
   obtain rfl := Option.some.inj hF
   refine wp_ret (r_ret (vs := [.agg #[.bool false, .int .u32 0, .bool true, .int .i64 a1.Imm, .int .i64 0]]) (L' := ((b0_, blk [vP0_0_1, vP0_1_5, vP0_2_9, .int .i64 a0.Taken, vP0_4_13, .int .i64 a0.PC, vP0_6_17, .int .i64 a0.Stop, vP0_8_21, .int .i64 a0.Jump, .int .i64 a0.Delay] 27) :: (LXP0_0_2 ++ (LXP0_1_6 ++ (LXP0_2_10 ++ (LXP0_4_14 ++ (LXP0_6_18 ++ (LXP0_8_22 ++ [])))))))) (hS.re (.takeb (.hereb _ _) (.take (.thereb _ (.thereb _ (.here _ _))) (.take (.thereb _ (.thereb _ (.here _ _))) (.take (.thereb _ (.thereb _ (.here _ _))) (.take (.thereb _ (.thereb _ (.here _ _))) (.take (.thereb _ (.thereb _ (.here _ _))) (.take (.thereb _ (.thereb _ (.here _ _))) (.nil _))))))))) (show resAll _ _ _ [.cell 10 82] _ from ⟨(res_cell (hS.own (mC (mC (mH)))) Try.underlying82 rfl (by exact sz_sledgeref5_deed)), trivial⟩) rfl ⟨_, rfl, (by first | rfl | simp only [List.append_assoc, List.cons_append, List.nil_append, List.append_nil]), ⟨_, _, _, _, _, _, _, _, _, _, _, _, rfl, hP0_0_3, hP0_1_7, hP0_2_11, hP0_4_15, hP0_6_19, hP0_8_23⟩⟩)
 replace hF := bf c59 hF
 refine c_seq ?_
 refine c_region ?_
 refine oy hS y_bin ?_
 refine oy hS y_assign ?_
 refine n_thenN ?_
 refine c_if (ht := fun c60 => ?_) (hf := fun c60 => ?_)
 · replace hF := bt c60 hF
   refine c_seq ?_
   refine c_region ?_
   refine oy hS y_move ?_
   refine oy hS y_bin ?_
   refine oy hS (y_field fa_api_Ins_4) ?_
   refine oy hS (y_load (fun w hS => hS.own (mC (mH))) Try.underlying3 rfl rfl) ?_
   refine oy hS (y_build (cl := [.bool false, .int .u32 0, .bool (decide (a2 = 0)), .int .i64 a1.Imm, .int .i64 0]) bt_sledgeref5_deed rfl (fillS (vs := [.bool (decide (a2 = 0))]) rfl rfl rfl rfl (fillS (vs := [.int .i64 a1.Imm]) rfl rfl rfl rfl fillN))) ?_
   refine o_storeP (vs := [.bool false, .int .u32 0, .bool (decide (a2 = 0)), .int .i64 a1.Imm, .int .i64 0]) hS (hm := Upd.there _ (Upd.there _ (Upd.here _))) (hi := by exact sz_sledgeref5_deed) (h1 := (onC rfl (onC rfl (onC rfl (onC rfl (onC rfl onN)))))) ?_
   clear hS; intro w hS
   refine n_thenN ?_
   obtain rfl := Option.some.inj hF
   refine wp_ret (r_ret (vs := [.agg #[.bool false, .int .u32 0, .bool (decide (a2 = 0)), .int .i64 a1.Imm, .int .i64 0]]) (L' := ((b0_, blk [vP0_0_1, vP0_1_5, vP0_2_9, .int .i64 a0.Taken, vP0_4_13, .int .i64 a0.PC, vP0_6_17, .int .i64 a0.Stop, vP0_8_21, .int .i64 a0.Jump, .int .i64 a0.Delay] 27) :: (LXP0_0_2 ++ (LXP0_1_6 ++ (LXP0_2_10 ++ (LXP0_4_14 ++ (LXP0_6_18 ++ (LXP0_8_22 ++ [])))))))) (hS.re (.takeb (.hereb _ _) (.take (.thereb _ (.thereb _ (.here _ _))) (.take (.thereb _ (.thereb _ (.here _ _))) (.take (.thereb _ (.thereb _ (.here _ _))) (.take (.thereb _ (.thereb _ (.here _ _))) (.take (.thereb _ (.thereb _ (.here _ _))) (.take (.thereb _ (.thereb _ (.here _ _))) (.nil _))))))))) (show resAll _ _ _ [.cell 10 82] _ from ⟨(res_cell (hS.own (mC (mC (mH)))) Try.underlying82 rfl (by exact sz_sledgeref5_deed)), trivial⟩) rfl ⟨_, rfl, (by first | rfl | simp only [List.append_assoc, List.cons_append, List.nil_append, List.append_nil]), ⟨_, _, _, _, _, _, _, _, _, _, _, _, rfl, hP0_0_3, hP0_1_7, hP0_2_11, hP0_4_15, hP0_6_19, hP0_8_23⟩⟩)
 replace hF := bf c60 hF
 refine c_seq ?_
 refine c_region ?_
 refine oy hS y_bin ?_
 refine oy hS y_assign ?_
 refine n_thenN ?_
 refine c_if (ht := fun c61 => ?_) (hf := fun c61 => ?_)
 · replace hF := bt c61 hF
   refine c_seq ?_
   refine c_region ?_
   refine oy hS y_move ?_
   refine oy hS y_bin ?_
   refine oy hS (y_field fa_api_Ins_4) ?_
   refine oy hS (y_load (fun w hS => hS.own (mC (mH))) Try.underlying3 rfl rfl) ?_
   refine oy hS (y_build (cl := [.bool false, .int .u32 0, .bool (decide (a2 ≠ 0)), .int .i64 a1.Imm, .int .i64 0]) bt_sledgeref5_deed rfl (fillS (vs := [.bool (decide (a2 ≠ 0))]) rfl rfl rfl rfl (fillS (vs := [.int .i64 a1.Imm]) rfl rfl rfl rfl fillN))) ?_
   refine o_storeP (vs := [.bool false, .int .u32 0, .bool (decide (a2 ≠ 0)), .int .i64 a1.Imm, .int .i64 0]) hS (hm := Upd.there _ (Upd.there _ (Upd.here _))) (hi := by exact sz_sledgeref5_deed) (h1 := (onC rfl (onC rfl (onC rfl (onC rfl (onC rfl onN)))))) ?_
   clear hS; intro w hS
   refine n_thenN ?_
   obtain rfl := Option.some.inj hF
   refine wp_ret (r_ret (vs := [.agg #[.bool false, .int .u32 0, .bool (decide (a2 ≠ 0)), .int .i64 a1.Imm, .int .i64 0]]) (L' := ((b0_, blk [vP0_0_1, vP0_1_5, vP0_2_9, .int .i64 a0.Taken, vP0_4_13, .int .i64 a0.PC, vP0_6_17, .int .i64 a0.Stop, vP0_8_21, .int .i64 a0.Jump, .int .i64 a0.Delay] 27) :: (LXP0_0_2 ++ (LXP0_1_6 ++ (LXP0_2_10 ++ (LXP0_4_14 ++ (LXP0_6_18 ++ (LXP0_8_22 ++ [])))))))) (hS.re (.takeb (.hereb _ _) (.take (.thereb _ (.thereb _ (.here _ _))) (.take (.thereb _ (.thereb _ (.here _ _))) (.take (.thereb _ (.thereb _ (.here _ _))) (.take (.thereb _ (.thereb _ (.here _ _))) (.take (.thereb _ (.thereb _ (.here _ _))) (.take (.thereb _ (.thereb _ (.here _ _))) (.nil _))))))))) (show resAll _ _ _ [.cell 10 82] _ from ⟨(res_cell (hS.own (mC (mC (mH)))) Try.underlying82 rfl (by exact sz_sledgeref5_deed)), trivial⟩) rfl ⟨_, rfl, (by first | rfl | simp only [List.append_assoc, List.cons_append, List.nil_append, List.append_nil]), ⟨_, _, _, _, _, _, _, _, _, _, _, _, rfl, hP0_0_3, hP0_1_7, hP0_2_11, hP0_4_15, hP0_6_19, hP0_8_23⟩⟩)
 replace hF := bf c61 hF
 refine c_seq ?_
 refine c_region ?_
 refine oy hS y_bin ?_
 refine oy hS y_assign ?_
 refine n_thenN ?_
 refine c_if (ht := fun c62 => ?_) (hf := fun c62 => ?_)
 · replace hF := bt c62 hF
   iterate 2 (refine c_seq ?_)
   refine c_region ?_
   refine oy hS y_move ?_
   refine oy hS y_nilCheck ?_
   refine oy hS (y_field fa_api_State_6) ?_
   refine oy hS (y_load (fun w hS => hS.own (mH)) Try.underlying24 rfl rfl) ?_
   refine oy hS (y_lenO hP0_6_19 Try.underlying24) ?_
   refine oy hS y_bin ?_
   refine n_thenN ?_
   refine c_if (ht := fun c63 => ?_) (hf := fun c63 => ?_)
   · replace hF := bt c63 hF
     refine c_seq ?_
     refine c_region ?_
     refine oy hS (y_build (cl := [.bool false, .int .u32 0, .bool false, .int .i64 0, .int .i64 4]) bt_sledgeref5_deed rfl (fillS (vs := [.int .i64 4]) rfl rfl rfl rfl fillN)) ?_
     refine o_storeP (vs := [.bool false, .int .u32 0, .bool false, .int .i64 0, .int .i64 4]) hS (hm := Upd.there _ (Upd.there _ (Upd.here _))) (hi := by exact sz_sledgeref5_deed) (h1 := (onC rfl (onC rfl (onC rfl (onC rfl (onC rfl onN)))))) ?_
     clear hS; intro w hS
     refine n_thenN ?_
     obtain rfl := Option.some.inj hF
     refine wp_ret (r_ret (vs := [.agg #[.bool false, .int .u32 0, .bool false, .int .i64 0, .int .i64 4]]) (L' := ((b0_, blk [vP0_0_1, vP0_1_5, vP0_2_9, .int .i64 a0.Taken, vP0_4_13, .int .i64 a0.PC, vP0_6_17, .int .i64 a0.Stop, vP0_8_21, .int .i64 a0.Jump, .int .i64 a0.Delay] 27) :: (LXP0_0_2 ++ (LXP0_1_6 ++ (LXP0_2_10 ++ (LXP0_4_14 ++ (LXP0_6_18 ++ (LXP0_8_22 ++ [])))))))) (hS.re (.takeb (.hereb _ _) (.take (.thereb _ (.thereb _ (.here _ _))) (.take (.thereb _ (.thereb _ (.here _ _))) (.take (.thereb _ (.thereb _ (.here _ _))) (.take (.thereb _ (.thereb _ (.here _ _))) (.take (.thereb _ (.thereb _ (.here _ _))) (.take (.thereb _ (.thereb _ (.here _ _))) (.nil _))))))))) (show resAll _ _ _ [.cell 10 82] _ from ⟨(res_cell (hS.own (mC (mC (mH)))) Try.underlying82 rfl (by exact sz_sledgeref5_deed)), trivial⟩) rfl ⟨_, rfl, (by first | rfl | simp only [List.append_assoc, List.cons_append, List.nil_append, List.append_nil]), ⟨_, _, _, _, _, _, _, _, _, _, _, _, rfl, hP0_0_3, hP0_1_7, hP0_2_11, hP0_4_15, hP0_6_19, hP0_8_23⟩⟩)
   replace hF := bf c63 hF
   refine wp_skip ?_
   refine c_seq ?_
   refine c_region ?_
   iterate 2 (refine oy hS y_move ?_)
   refine oy hS y_nilCheck ?_
   refine oy hS (y_field fa_api_State_6) ?_
   refine oy hS (y_load (fun w hS => hS.own (mH)) Try.underlying24 rfl rfl) ?_
   refine oy hS y_move ?_
   refine o_buildT val_int ([a4] : List Int) hS el_int (fun _ => rfl) enc_len_int (by decide) rfl (by decide) (hp := rfl) (h := ?_)
   clear hS; intro b64 w hS h65
   have hS : St W g (((b0_, blk [vP0_0_1, vP0_1_5, vP0_2_9, .int .i64 a0.Taken, vP0_4_13, .int .i64 a0.PC, vP0_6_17, .int .i64 a0.Stop, vP0_8_21, .int .i64 a0.Jump, .int .i64 a0.Delay] 27) :: (LXP0_0_2 ++ (LXP0_1_6 ++ (LXP0_2_10 ++ (LXP0_4_14 ++ (LXP0_6_18 ++ (LXP0_8_22 ++ [])))))))) ([(b64, blk (([a4] : List Int).flatMap enc_int) 3)] ++ ((b0_, blk [vP0_0_1, vP0_1_5, vP0_2_9, .int .i64 a0.Taken, vP0_4_13, .int .i64 a0.PC, vP0_6_17, .int .i64 a0.Stop, vP0_8_21, .int .i64 a0.Jump, .int .i64 a0.Delay] 27) :: ((b1, blk [.int .i64 a1.Op, .int .i64 a1.D, .int .i64 a1.A, .int .i64 a1.B, .int .i64 a1.Imm, .string a1.Sym] 43) :: ((b2, blk [.bool false, .int .u32 0, .bool false, .int .i64 0, .int .i64 0] 82) :: (LXP0_0_2 ++ (LXP0_1_6 ++ (LXP0_2_10 ++ (LXP0_4_14 ++ (LXP0_6_18 ++ (LXP0_8_22 ++ [])))))))))) w := hS
   obtain ⟨zs71, hzs71, hF⟩ := ob hF
   have hS : St W g (((b0_, blk [vP0_0_1, vP0_1_5, vP0_2_9, .int .i64 a0.Taken, vP0_4_13, .int .i64 a0.PC, vP0_6_17, .int .i64 a0.Stop, vP0_8_21, .int .i64 a0.Jump, .int .i64 a0.Delay] 27) :: (LXP0_0_2 ++ (LXP0_1_6 ++ (LXP0_2_10 ++ (LXP0_4_14 ++ (LXP0_6_18 ++ (LXP0_8_22 ++ [])))))))) ([(b64, blk (([a4] : List Int).flatMap enc_int) 3)] ++ (LXP0_6_18 ++ ((b0_, blk [vP0_0_1, vP0_1_5, vP0_2_9, .int .i64 a0.Taken, vP0_4_13, .int .i64 a0.PC, vP0_6_17, .int .i64 a0.Stop, vP0_8_21, .int .i64 a0.Jump, .int .i64 a0.Delay] 27) :: ((b1, blk [.int .i64 a1.Op, .int .i64 a1.D, .int .i64 a1.A, .int .i64 a1.B, .int .i64 a1.Imm, .string a1.Sym] 43) :: ((b2, blk [.bool false, .int .u32 0, .bool false, .int .i64 0, .int .i64 0] 82) :: (LXP0_0_2 ++ (LXP0_1_6 ++ (LXP0_2_10 ++ (LXP0_4_14 ++ (LXP0_8_22 ++ [])))))))))) w := hS.re (.take (.here _ _) (.take (.thereb _ (.thereb _ (.thereb _ (.there _ (.there _ (.there _ (.there _ (.here _ _)))))))) (.takeb (.hereb _ _) (.takeb (.hereb _ _) (.takeb (.hereb _ _) (.take (.here _ _) (.take (.here _ _) (.take (.here _ _) (.take (.here _ _) (.take (.here _ _) (.nil _)))))))))))
   refine o_appPn (ys := ([a4] : List Int)) (LX := LXP0_6_18) hzs71 hS el_int hP0_6_19 rfl enc_len_int (enc_ones_int _) (by decide) ?_
   clear hS; intro v67 LX68 w h69 hS
   refine oy hS y_nilCheck ?_
   refine oy hS (y_field fa_api_State_6) ?_
   have hS : St W g (((b0_, blk [vP0_0_1, vP0_1_5, vP0_2_9, .int .i64 a0.Taken, vP0_4_13, .int .i64 a0.PC, vP0_6_17, .int .i64 a0.Stop, vP0_8_21, .int .i64 a0.Jump, .int .i64 a0.Delay] 27) :: (LXP0_0_2 ++ (LXP0_1_6 ++ (LXP0_2_10 ++ (LXP0_4_14 ++ (LXP0_6_18 ++ (LXP0_8_22 ++ [])))))))) ((b0_, blk [vP0_0_1, vP0_1_5, vP0_2_9, .int .i64 a0.Taken, vP0_4_13, .int .i64 a0.PC, vP0_6_17, .int .i64 a0.Stop, vP0_8_21, .int .i64 a0.Jump, .int .i64 a0.Delay] 27) :: (LX68 ++ ((b1, blk [.int .i64 a1.Op, .int .i64 a1.D, .int .i64 a1.A, .int .i64 a1.B, .int .i64 a1.Imm, .string a1.Sym] 43) :: ((b2, blk [.bool false, .int .u32 0, .bool false, .int .i64 0, .int .i64 0] 82) :: (LXP0_0_2 ++ (LXP0_1_6 ++ (LXP0_2_10 ++ (LXP0_4_14 ++ (LXP0_8_22 ++ []))))))))) w := hS.re (.takeb (.there _ (.hereb _ _)) (.take (.here _ _) (.takeb (.hereb _ _) (.takeb (.hereb _ _) (.take (.here _ _) (.take (.here _ _) (.take (.here _ _) (.take (.here _ _) (.take (.here _ _) (.nil _))))))))))
   refine o_store hS (hm := Upd.here _) (hi := by exact sz_S_int) (h1 := (h69).one) (hc := (h69).cell) (ho := by exact Nat.le_of_ble_eq_true rfl) (h := ?_)
   clear hS; intro w hS
   refine n_thenN ?_
   refine c_seq ?_
   refine c_region ?_
   refine oy hS (y_field fa_api_Ins_4) ?_
   refine oy hS (y_load (fun w hS => hS.own (mC (mB (mH)))) Try.underlying3 rfl rfl) ?_
   refine oy hS (y_build (cl := [.bool false, .int .u32 0, .bool true, .int .i64 a1.Imm, .int .i64 0]) bt_sledgeref5_deed rfl (fillS (vs := [.bool true]) rfl rfl rfl rfl (fillS (vs := [.int .i64 a1.Imm]) rfl rfl rfl rfl fillN))) ?_
   have hS : St W g (((b0_, blk [vP0_0_1, vP0_1_5, vP0_2_9, .int .i64 a0.Taken, vP0_4_13, .int .i64 a0.PC, vP0_6_17, .int .i64 a0.Stop, vP0_8_21, .int .i64 a0.Jump, .int .i64 a0.Delay] 27) :: (LXP0_0_2 ++ (LXP0_1_6 ++ (LXP0_2_10 ++ (LXP0_4_14 ++ (LXP0_6_18 ++ (LXP0_8_22 ++ [])))))))) ((b2, blk [.bool false, .int .u32 0, .bool false, .int .i64 0, .int .i64 0] 82) :: ((b0_, blk [vP0_0_1, vP0_1_5, vP0_2_9, .int .i64 a0.Taken, vP0_4_13, .int .i64 a0.PC, v67, .int .i64 a0.Stop, vP0_8_21, .int .i64 a0.Jump, .int .i64 a0.Delay] 27) :: (LX68 ++ ((b1, blk [.int .i64 a1.Op, .int .i64 a1.D, .int .i64 a1.A, .int .i64 a1.B, .int .i64 a1.Imm, .string a1.Sym] 43) :: (LXP0_0_2 ++ (LXP0_1_6 ++ (LXP0_2_10 ++ (LXP0_4_14 ++ (LXP0_8_22 ++ []))))))))) w := hS.re (.takeb (.thereb _ (.there _ (.thereb _ (.hereb _ _)))) (.takeb (.hereb _ _) (.take (.here _ _) (.takeb (.hereb _ _) (.take (.here _ _) (.take (.here _ _) (.take (.here _ _) (.take (.here _ _) (.take (.here _ _) (.nil _))))))))))
   refine o_storeP (vs := [.bool false, .int .u32 0, .bool true, .int .i64 a1.Imm, .int .i64 0]) hS (hm := Upd.here _) (hi := by exact sz_sledgeref5_deed) (h1 := (onC rfl (onC rfl (onC rfl (onC rfl (onC rfl onN)))))) ?_
   clear hS; intro w hS
   refine n_thenN ?_
   obtain rfl := Option.some.inj hF
   refine wp_ret (r_ret (vs := [.agg #[.bool false, .int .u32 0, .bool true, .int .i64 a1.Imm, .int .i64 0]]) (L' := ((b0_, blk [vP0_0_1, vP0_1_5, vP0_2_9, .int .i64 a0.Taken, vP0_4_13, .int .i64 a0.PC, v67, .int .i64 a0.Stop, vP0_8_21, .int .i64 a0.Jump, .int .i64 a0.Delay] 27) :: (LXP0_0_2 ++ (LXP0_1_6 ++ (LXP0_2_10 ++ (LXP0_4_14 ++ (LX68 ++ (LXP0_8_22 ++ [])))))))) (hS.re (.takeb (.thereb _ (.hereb _ _)) (.take (.thereb _ (.there _ (.thereb _ (.here _ _)))) (.take (.thereb _ (.there _ (.thereb _ (.here _ _)))) (.take (.thereb _ (.there _ (.thereb _ (.here _ _)))) (.take (.thereb _ (.there _ (.thereb _ (.here _ _)))) (.take (.thereb _ (.here _ _)) (.take (.thereb _ (.thereb _ (.here _ _))) (.nil _))))))))) (show resAll _ _ _ [.cell 10 82] _ from ⟨(res_cell (hS.own (mH)) Try.underlying82 rfl (by exact sz_sledgeref5_deed)), trivial⟩) rfl ⟨_, rfl, (by first | rfl | simp only [List.append_assoc, List.cons_append, List.nil_append, List.append_nil]), ⟨_, _, _, _, _, _, _, _, _, _, _, _, rfl, hP0_0_3, hP0_1_7, hP0_2_11, hP0_4_15, h69, hP0_8_23⟩⟩)
 replace hF := bf c62 hF
 refine c_seq ?_
 refine c_region ?_
 refine oy hS y_bin ?_
 refine oy hS y_assign ?_
 refine n_thenN ?_
 refine c_if (ht := fun c72 => ?_) (hf := fun c72 => ?_)
 · replace hF := bt c72 hF
   iterate 2 (refine c_seq ?_)
   refine c_region ?_
   refine oy hS y_move ?_
   refine oy hS y_nilCheck ?_
   refine oy hS (y_field fa_api_State_6) ?_
   refine oy hS (y_load (fun w hS => hS.own (mH)) Try.underlying24 rfl rfl) ?_
   refine oy hS (y_lenO hP0_6_19 Try.underlying24) ?_
   refine oy hS y_bin ?_
   refine n_thenN ?_
   refine c_if (ht := fun c73 => ?_) (hf := fun c73 => ?_)
   · replace hF := bt c73 hF
     refine c_seq ?_
     refine c_region ?_
     refine oy hS (y_build (cl := [.bool false, .int .u32 0, .bool false, .int .i64 0, .int .i64 4]) bt_sledgeref5_deed rfl (fillS (vs := [.int .i64 4]) rfl rfl rfl rfl fillN)) ?_
     refine o_storeP (vs := [.bool false, .int .u32 0, .bool false, .int .i64 0, .int .i64 4]) hS (hm := Upd.there _ (Upd.there _ (Upd.here _))) (hi := by exact sz_sledgeref5_deed) (h1 := (onC rfl (onC rfl (onC rfl (onC rfl (onC rfl onN)))))) ?_
     clear hS; intro w hS
     refine n_thenN ?_
     obtain rfl := Option.some.inj hF
     refine wp_ret (r_ret (vs := [.agg #[.bool false, .int .u32 0, .bool false, .int .i64 0, .int .i64 4]]) (L' := ((b0_, blk [vP0_0_1, vP0_1_5, vP0_2_9, .int .i64 a0.Taken, vP0_4_13, .int .i64 a0.PC, vP0_6_17, .int .i64 a0.Stop, vP0_8_21, .int .i64 a0.Jump, .int .i64 a0.Delay] 27) :: (LXP0_0_2 ++ (LXP0_1_6 ++ (LXP0_2_10 ++ (LXP0_4_14 ++ (LXP0_6_18 ++ (LXP0_8_22 ++ [])))))))) (hS.re (.takeb (.hereb _ _) (.take (.thereb _ (.thereb _ (.here _ _))) (.take (.thereb _ (.thereb _ (.here _ _))) (.take (.thereb _ (.thereb _ (.here _ _))) (.take (.thereb _ (.thereb _ (.here _ _))) (.take (.thereb _ (.thereb _ (.here _ _))) (.take (.thereb _ (.thereb _ (.here _ _))) (.nil _))))))))) (show resAll _ _ _ [.cell 10 82] _ from ⟨(res_cell (hS.own (mC (mC (mH)))) Try.underlying82 rfl (by exact sz_sledgeref5_deed)), trivial⟩) rfl ⟨_, rfl, (by first | rfl | simp only [List.append_assoc, List.cons_append, List.nil_append, List.append_nil]), ⟨_, _, _, _, _, _, _, _, _, _, _, _, rfl, hP0_0_3, hP0_1_7, hP0_2_11, hP0_4_15, hP0_6_19, hP0_8_23⟩⟩)
   replace hF := bf c73 hF
   refine wp_skip ?_
   refine c_seq ?_
   refine c_quiet (by kernel_rfl) (by kernel_rfl) hS ?_
   refine qy y_move ?_
   refine qy y_nilCheck ?_
   refine qy (y_field fa_api_State_6) ?_
   refine qy (y_load (fun w hS => hS.own (mH)) Try.underlying24 rfl rfl) ?_
   refine qy y_move ?_
   refine qy y_nilCheck ?_
   refine qy (y_field fa_api_State_6) ?_
   refine qy (y_load (fun w hS => hS.own (mH)) Try.underlying24 rfl rfl) ?_
   refine qy (y_lenO hP0_6_19 Try.underlying24) ?_
   refine qy y_bin ?_
   obtain ⟨x74, hx74, hF⟩ := ob hF
   obtain ⟨b75, c76, cl77, hv78, ha79, hb80, hl81, hc82⟩ := OwT.at hx74 hP0_6_19 enc_len_int
   refine qy (y_index hv78 ha79 hb80 Try.underlying24 el_int.size) ?_
   refine qy (y_load (fun w hS => hS.own (mC (mC (mC (mB (mB (mB (mB (mA (mX hl81)))))))))) Try.underlying3 rfl (hc82 0 _ rfl)) ?_
   refine qy y_assign ?_
   refine q_nilN (h := ?_)
   clear hS; intro w hS
   refine c_seq ?_
   refine c_heldB (CB g ((b0_, blk [vP0_0_1, vP0_1_5, vP0_2_9, .int .i64 a0.Taken, vP0_4_13, .int .i64 a0.PC, vP0_6_17, .int .i64 a0.Stop, vP0_8_21, .int .i64 a0.Jump, .int .i64 a0.Delay] 27) :: ((b1, blk [.int .i64 a1.Op, .int .i64 a1.D, .int .i64 a1.A, .int .i64 a1.B, .int .i64 a1.Imm, .string a1.Sym] 43) :: ((b2, blk [.bool false, .int .u32 0, .bool false, .int .i64 0, .int .i64 0] 82) :: (LXP0_0_2 ++ (LXP0_1_6 ++ (LXP0_2_10 ++ (LXP0_4_14 ++ (LXP0_6_18 ++ (LXP0_8_22 ++ [])))))))))) 14 15 (by kernel_rfl) rfl hS ?_
   clear hS; intro w hS
   refine hy0 0 rfl wn (by kernel_rfl) (nq (P := Try.prog) (fn := Try.f73)) (fun _ => hS.cb) y_move ?_
   refine hy0 1 rfl wn (by kernel_rfl) (nq (P := Try.prog) (fn := Try.f73)) (fun _ => hS.cb) y_move ?_
   refine hy0 2 rfl wn (by kernel_rfl) (nq (P := Try.prog) (fn := Try.f73)) (fun _ => hS.cb) y_nilCheck ?_
   refine hy0 3 rfl wn (by kernel_rfl) (nq (P := Try.prog) (fn := Try.f73)) (fun _ => hS.cb) (y_field fa_api_State_6) ?_
   refine hy 4 rfl wn (by kernel_rfl) (nq (P := Try.prog) (fn := Try.f73)) hS.cb (y_load (fun w hS => hS.own (mH)) Try.underlying24 rfl rfl) ?_
   refine hy0 5 rfl wn (by kernel_rfl) (nq (P := Try.prog) (fn := Try.f73)) (fun _ => hS.cb) y_move ?_
   refine hy0 6 rfl wn (by kernel_rfl) (nq (P := Try.prog) (fn := Try.f73)) (fun _ => hS.cb) y_nilCheck ?_
   refine hy0 7 rfl wn (by kernel_rfl) (nq (P := Try.prog) (fn := Try.f73)) (fun _ => hS.cb) (y_field fa_api_State_6) ?_
   refine hy 8 rfl wn (by kernel_rfl) (nq (P := Try.prog) (fn := Try.f73)) hS.cb (y_load (fun w hS => hS.own (mH)) Try.underlying24 rfl rfl) ?_
   refine hy0 9 rfl wn (by kernel_rfl) (nq (P := Try.prog) (fn := Try.f73)) (fun _ => hS.cb) (y_lenO hP0_6_19 Try.underlying24) ?_
   refine hy0 10 rfl wn (by kernel_rfl) (nq (P := Try.prog) (fn := Try.f73)) (fun _ => hS.cb) y_bin ?_
   refine hb1 11 (by kernel_rfl) (hb_op rfl wn (nl (P := Try.prog) (fn := Try.f73)) ?_)
   obtain ⟨zs83, hzs83, hF⟩ := ob hF
   refine o_uptoP hzs83 hP0_6_19 enc_len_int Try.underlying24 el_int.size ?_
   intro v84 h85
   refine hb_next (fun _ => hS.cb) ?_
   refine hy0 12 rfl wn (by kernel_rfl) (nq (P := Try.prog) (fn := Try.f73)) (fun _ => hS.cb) y_nilCheck ?_
   refine hy0 13 rfl wn (by kernel_rfl) (nq (P := Try.prog) (fn := Try.f73)) (fun _ => hS.cb) (y_field fa_api_State_6) ?_
   refine hb1 14 (by kernel_rfl) (hb_op rfl wn (nl (P := Try.prog) (fn := Try.f73)) ?_)
   refine o_store hS (hm := Upd.here _) (hi := by exact sz_S_int) (h1 := (h85).one) (hc := (h85).cell) (ho := by exact Nat.le_of_ble_eq_true rfl) (h := ?_)
   clear hS; intro w hS
   refine hb_next (fun h => absurd h (by decide)) ?_
   refine hb_done (by kernel_rfl) ?_
   refine c_seq ?_
   refine c_region ?_
   refine oy hS y_move ?_
   refine oy hS (y_build (cl := [.bool false, .int .u32 0, .bool true, .int .i64 x74, .int .i64 0]) bt_sledgeref5_deed rfl (fillS (vs := [.bool true]) rfl rfl rfl rfl (fillS (vs := [.int .i64 x74]) rfl rfl rfl rfl fillN))) ?_
   refine o_storeP (vs := [.bool false, .int .u32 0, .bool true, .int .i64 x74, .int .i64 0]) hS (hm := Upd.there _ (Upd.there _ (Upd.here _))) (hi := by exact sz_sledgeref5_deed) (h1 := (onC rfl (onC rfl (onC rfl (onC rfl (onC rfl onN)))))) ?_
   clear hS; intro w hS
   refine n_thenN ?_
   obtain rfl := Option.some.inj hF
   refine wp_ret (r_ret (vs := [.agg #[.bool false, .int .u32 0, .bool true, .int .i64 x74, .int .i64 0]]) (L' := ((b0_, blk [vP0_0_1, vP0_1_5, vP0_2_9, .int .i64 a0.Taken, vP0_4_13, .int .i64 a0.PC, v84, .int .i64 a0.Stop, vP0_8_21, .int .i64 a0.Jump, .int .i64 a0.Delay] 27) :: (LXP0_0_2 ++ (LXP0_1_6 ++ (LXP0_2_10 ++ (LXP0_4_14 ++ (LXP0_6_18 ++ (LXP0_8_22 ++ [])))))))) (hS.re (.takeb (.hereb _ _) (.take (.thereb _ (.thereb _ (.here _ _))) (.take (.thereb _ (.thereb _ (.here _ _))) (.take (.thereb _ (.thereb _ (.here _ _))) (.take (.thereb _ (.thereb _ (.here _ _))) (.take (.thereb _ (.thereb _ (.here _ _))) (.take (.thereb _ (.thereb _ (.here _ _))) (.nil _))))))))) (show resAll _ _ _ [.cell 10 82] _ from ⟨(res_cell (hS.own (mC (mC (mH)))) Try.underlying82 rfl (by exact sz_sledgeref5_deed)), trivial⟩) rfl ⟨_, rfl, (by first | rfl | simp only [List.append_assoc, List.cons_append, List.nil_append, List.append_nil]), ⟨_, _, _, _, _, _, _, _, _, _, _, _, rfl, hP0_0_3, hP0_1_7, hP0_2_11, hP0_4_15, h85, hP0_8_23⟩⟩)
 replace hF := bf c72 hF
 refine c_seq ?_
 refine c_region ?_
 refine oy hS y_bin ?_
 refine oy hS y_assign ?_
 refine n_thenN ?_
 refine c_if (ht := fun c86 => ?_) (hf := fun c86 => ?_)
 · replace hF := bt c86 hF
   refine c_seq ?_
   refine c_region ?_
   refine oy hS (y_build (cl := [.bool false, .int .u32 0, .bool false, .int .i64 0, .int .i64 1]) bt_sledgeref5_deed rfl (fillS (vs := [.int .i64 1]) rfl rfl rfl rfl fillN)) ?_
   refine o_storeP (vs := [.bool false, .int .u32 0, .bool false, .int .i64 0, .int .i64 1]) hS (hm := Upd.there _ (Upd.there _ (Upd.here _))) (hi := by exact sz_sledgeref5_deed) (h1 := (onC rfl (onC rfl (onC rfl (onC rfl (onC rfl onN)))))) ?_
   clear hS; intro w hS
   refine n_thenN ?_
   obtain rfl := Option.some.inj hF
   refine wp_ret (r_ret (vs := [.agg #[.bool false, .int .u32 0, .bool false, .int .i64 0, .int .i64 1]]) (L' := ((b0_, blk [vP0_0_1, vP0_1_5, vP0_2_9, .int .i64 a0.Taken, vP0_4_13, .int .i64 a0.PC, vP0_6_17, .int .i64 a0.Stop, vP0_8_21, .int .i64 a0.Jump, .int .i64 a0.Delay] 27) :: (LXP0_0_2 ++ (LXP0_1_6 ++ (LXP0_2_10 ++ (LXP0_4_14 ++ (LXP0_6_18 ++ (LXP0_8_22 ++ [])))))))) (hS.re (.takeb (.hereb _ _) (.take (.thereb _ (.thereb _ (.here _ _))) (.take (.thereb _ (.thereb _ (.here _ _))) (.take (.thereb _ (.thereb _ (.here _ _))) (.take (.thereb _ (.thereb _ (.here _ _))) (.take (.thereb _ (.thereb _ (.here _ _))) (.take (.thereb _ (.thereb _ (.here _ _))) (.nil _))))))))) (show resAll _ _ _ [.cell 10 82] _ from ⟨(res_cell (hS.own (mC (mC (mH)))) Try.underlying82 rfl (by exact sz_sledgeref5_deed)), trivial⟩) rfl ⟨_, rfl, (by first | rfl | simp only [List.append_assoc, List.cons_append, List.nil_append, List.append_nil]), ⟨_, _, _, _, _, _, _, _, _, _, _, _, rfl, hP0_0_3, hP0_1_7, hP0_2_11, hP0_4_15, hP0_6_19, hP0_8_23⟩⟩)
 replace hF := bf c86 hF
 refine wp_skip ?_
 refine c_seq ?_
 refine c_region ?_
 refine oy hS (y_build (cl := [.bool false, .int .u32 0, .bool false, .int .i64 0, .int .i64 0]) bt_sledgeref5_deed rfl fillN) ?_
 refine o_storeP (vs := [.bool false, .int .u32 0, .bool false, .int .i64 0, .int .i64 0]) hS (hm := Upd.there _ (Upd.there _ (Upd.here _))) (hi := by exact sz_sledgeref5_deed) (h1 := (onC rfl (onC rfl (onC rfl (onC rfl (onC rfl onN)))))) ?_
 clear hS; intro w hS
 refine n_thenN ?_
 obtain rfl := Option.some.inj hF
 refine wp_ret (r_ret (vs := [.agg #[.bool false, .int .u32 0, .bool false, .int .i64 0, .int .i64 0]]) (L' := ((b0_, blk [vP0_0_1, vP0_1_5, vP0_2_9, .int .i64 a0.Taken, vP0_4_13, .int .i64 a0.PC, vP0_6_17, .int .i64 a0.Stop, vP0_8_21, .int .i64 a0.Jump, .int .i64 a0.Delay] 27) :: (LXP0_0_2 ++ (LXP0_1_6 ++ (LXP0_2_10 ++ (LXP0_4_14 ++ (LXP0_6_18 ++ (LXP0_8_22 ++ [])))))))) (hS.re (.takeb (.hereb _ _) (.take (.thereb _ (.thereb _ (.here _ _))) (.take (.thereb _ (.thereb _ (.here _ _))) (.take (.thereb _ (.thereb _ (.here _ _))) (.take (.thereb _ (.thereb _ (.here _ _))) (.take (.thereb _ (.thereb _ (.here _ _))) (.take (.thereb _ (.thereb _ (.here _ _))) (.nil _))))))))) (show resAll _ _ _ [.cell 10 82] _ from ⟨(res_cell (hS.own (mC (mC (mH)))) Try.underlying82 rfl (by exact sz_sledgeref5_deed)), trivial⟩) rfl ⟨_, rfl, (by first | rfl | simp only [List.append_assoc, List.cons_append, List.nil_append, List.append_nil]), ⟨_, _, _, _, _, _, _, _, _, _, _, _, rfl, hP0_0_3, hP0_1_7, hP0_2_11, hP0_4_15, hP0_6_19, hP0_8_23⟩⟩)
theorem w_r5_do {g : Frag} {a0 : T_State} {b0_ : Nat} {LB0_ : Own} {a1 : T_Ins} {a2 : Int} {a3 : Int} {a4 : Int} {r : (T_State × T_deed)} (h0 : Bx_State b0_ a0 LB0_) (hF : r5_do a0 a1 a2 a3 a4 = some r) : LC Try.prog 73 #[.pointer (some ⟨b0_, 0, none⟩), .agg #[.int .i64 a1.Op, .int .i64 a1.D, .int .i64 a1.A, .int .i64 a1.B, .int .i64 a1.Imm, .string a1.Sym], .int .u32 a2, .int .u32 a3, .int .i64 a4] g LB0_ (fun v L => ∃ (LB' : Own), v = .agg #[.bool r.2.has, .int .u32 r.2.result, .bool r.2.jumps, .int .i64 r.2.to, .int .i64 r.2.stop] ∧ L = (LB' ++ []) ∧ Bx_State b0_ r.1 LB') := w_r5_do_ h0 hF
end Go.Proofs.Ytadajdcbeegabaa
