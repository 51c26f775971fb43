/- Functions, lifted. Printed by lift.py. -/
import Derived.Test.YtadajdcbeegabaaProg
import Derived.Test.YtadajdcbeegabaaP3
import Derived.KernelRfl
namespace Go.Proofs.Ytadajdcbeegabaa
open Go Go.RowKit Fr
set_option linter.unusedVariables false
set_option linter.unusedSimpArgs false
set_option maxRecDepth 20000
noncomputable def seq_Act (a0 : T_State) (a1 : T_Ins) (a2 : Int) (a3 : Int) : Option (T_State × Int × Int) :=
  bif (pair_Has a1.Op) then (pair_Of a1.Op a2 a3).bind fun r3 => some (a0, r3.1, 0) else bif (word_Has a1.Op) then (word_Of a1.Op a2 a3).bind fun r5 => bif decide (r5.2 ≠ 0) then some (a0, 0, 3) else some (a0, r5.1, 0) else bif decide (a1.Op = 22) then some (a0, IntKind.u32.wrap (a2 + (IntKind.u32.wrap a1.Imm)), 0) else bif decide (a1.Op = 23) then some (a0, IntKind.u32.wrap a1.Imm, 0) else bif decide (a1.Op = 24) then (seq_memory a0 a1 a2 a3).bind fun r10 => some (r10.1, r10.2.1, r10.2.2) else bif decide (a1.Op = 25) then (seq_memory a0 a1 a2 a3).bind fun r41 => some (r41.1, r41.2.1, r41.2.2) else bif decide (a1.Op = 26) then bif decide (a0.Taken < (a0.In_.length : Int)) then (at' a0.In_ a0.Taken).bind fun x73 => some ((⟨a0.Regs, a0.Mem, a0.In_, IntKind.i64.wrap (a0.Taken + 1), a0.Out, a0.PC, a0.Stack, a0.Stop, a0.Fly, a0.Jump, a0.Delay⟩ : T_State), x73, 0) else bif decide (a1.Op = 27) then (app' a0.Out ([a2] : List Int)).bind fun zs90 => some ((⟨a0.Regs, a0.Mem, a0.In_, a0.Taken, zs90, a0.PC, a0.Stack, a0.Stop, a0.Fly, a0.Jump, a0.Delay⟩ : T_State), 0, 0) else bif decide (a1.Op = 33) then some (a0, 0, 1) else some (a0, 0, 0) else bif decide (a1.Op = 27) then (app' a0.Out ([a2] : List Int)).bind fun zs100 => some ((⟨a0.Regs, a0.Mem, a0.In_, a0.Taken, zs100, a0.PC, a0.Stack, a0.Stop, a0.Fly, a0.Jump, a0.Delay⟩ : T_State), 0, 0) else bif decide (a1.Op = 33) then some (a0, 0, 1) else some (a0, 0, 0)
set_option maxHeartbeats 2000000 in
theorem w_seq_Act_ {g : Frag} {a0 : T_State} {b0_ : Nat} {LB0_ : Own} {a1 : T_Ins} {a2 : Int} {a3 : Int} {r : (T_State × Int × Int)} (h0 : Bx_State b0_ a0 LB0_) (hF : seq_Act a0 a1 a2 a3 = some r) : LC Try.prog 60 #[.pointer (some ⟨b0_, 0, none⟩), .agg #[.int .i64 a1.Op, .int .i64 a1.D, .int .i64 a1.A, .int .i64 a1.B, .int .i64 a1.Imm, .string a1.Sym], .int .u32 a2, .int .u32 a3] g LB0_ (fun v L => ∃ (LB' : Own), v = .tuple #[.int .u32 r.2.1, .int .i64 r.2.2] ∧ L = (LB' ++ []) ∧ Bx_State b0_ r.1 LB') := by
 obtain ⟨vP0_0_1, vP0_1_5, vP0_2_9, vP0_4_13, vP0_6_17, vP0_8_21, LXP0_0_2, LXP0_1_6, LXP0_2_10, LXP0_4_14, LXP0_6_18, LXP0_8_22, rfl, hP0_0_3, hP0_1_7, hP0_2_11, hP0_4_15, hP0_6_19, hP0_8_23⟩ := h0
 unfold seq_Act at hF
 refine lc_body (k := 121) (av := [.pointer (some ⟨b0_, 0, none⟩), .agg #[.int .i64 a1.Op, .int .i64 a1.D, .int .i64 a1.A, .int .i64 a1.B, .int .i64 a1.Imm, .string a1.Sym], .int .u32 a2, .int .u32 a3]) Try.func60 rfl rfl (h := fun W hS => ?_)
 refine c_seq ?_
 refine c_region ?_
 refine o_boxP (cl := [.int .i64 a1.Op, .int .i64 a1.D, .int .i64 a1.A, .int .i64 a1.B, .int .i64 a1.Imm, .string a1.Sym]) rfl hS ?_
 clear hS; intro b1 w hS
 iterate 2 (refine oy hS y_assign ?_)
 refine n_thenN ?_
 refine c_seq ?_
 refine c_block ?_
 refine c_seq ?_
 refine c_region ?_
 refine oy hS (y_field fa_api_Ins_0) ?_
 refine oy hS (y_load (fun w hS => hS.own (mH)) Try.underlying3 rfl rfl) ?_
 refine o_callS hS Try.func81 rfl rfl (hc := (w_pair_Has (a0 := a1.Op))) (h := ?_)
 clear hS; intro w hS
 refine oy hS y_assign ?_
 refine n_thenN ?_
 refine c_if (ht := fun c2 => ?_) (hf := fun c2 => ?_)
 · replace hF := bt c2 hF
   refine c_region ?_
   refine oy hS (y_field fa_api_Ins_0) ?_
   refine oy hS (y_load (fun w hS => hS.own (mH)) Try.underlying3 rfl rfl) ?_
   iterate 2 (refine oy hS y_move ?_)
   obtain ⟨r3, hr3, hF⟩ := ob hF
   refine o_callS hS Try.func82 rfl rfl (hc := (w_pair_Of (a0 := a1.Op) (a1 := a2) (a2 := a3) (hF := hr3))) (h := ?_)
   clear hS; intro w hS
   refine oy hS y_move ?_
   iterate 2 (refine oy hS (y_extract rfl) ?_)
   refine oy hS y_assign ?_
   refine n_anyN ?_
   refine c_seq ?_
   refine c_region ?_
   refine oy hS y_move ?_
   iterate 2 (refine oy hS y_assign ?_)
   refine n_thenN ?_
   obtain rfl := Option.some.inj hF
   refine wp_ret (r_ret (vs := [.int .u32 r3.1, .int .i64 0]) (L' := ((b0_, blk [vP0_0_1, vP0_1_5, vP0_2_9, .int .i64 a0.Taken, vP0_4_13, .int .i64 a0.PC, vP0_6_17, .int .i64 a0.Stop, vP0_8_21, .int .i64 a0.Jump, .int .i64 a0.Delay] 27) :: (LXP0_0_2 ++ (LXP0_1_6 ++ (LXP0_2_10 ++ (LXP0_4_14 ++ (LXP0_6_18 ++ (LXP0_8_22 ++ [])))))))) (hS.re (.takeb (.thereb _ (.hereb _ _)) (.take (.thereb _ (.here _ _)) (.take (.thereb _ (.here _ _)) (.take (.thereb _ (.here _ _)) (.take (.thereb _ (.here _ _)) (.take (.thereb _ (.here _ _)) (.take (.thereb _ (.here _ _)) (.nil _))))))))) (show resAll _ _ _ [.tmp 8, .tmp 9] _ from ⟨res_tmp, res_tmp, trivial⟩) rfl ⟨_, rfl, (by first | rfl | simp only [List.append_assoc, List.cons_append, List.nil_append, List.append_nil]), ⟨_, _, _, _, _, _, _, _, _, _, _, _, rfl, hP0_0_3, hP0_1_7, hP0_2_11, hP0_4_15, hP0_6_19, hP0_8_23⟩⟩)
 replace hF := bf c2 hF
 refine c_seq ?_
 refine c_region ?_
 refine oy hS (y_field fa_api_Ins_0) ?_
 refine oy hS (y_load (fun w hS => hS.own (mH)) Try.underlying3 rfl rfl) ?_
 refine o_callS hS Try.func83 rfl rfl (hc := (w_word_Has (a0 := a1.Op))) (h := ?_)
 clear hS; intro w hS
 refine oy hS y_assign ?_
 refine n_thenN ?_
 refine c_if (ht := fun c4 => ?_) (hf := fun c4 => ?_)
 · replace hF := bt c4 hF
   refine c_seq ?_
   refine c_region ?_
   refine oy hS y_assign ?_
   refine n_thenN ?_
   refine c_seq ?_
   refine c_region ?_
   refine oy hS (y_field fa_api_Ins_0) ?_
   refine oy hS (y_load (fun w hS => hS.own (mH)) Try.underlying3 rfl rfl) ?_
   iterate 2 (refine oy hS y_move ?_)
   obtain ⟨r5, hr5, hF⟩ := ob hF
   refine o_callS hS Try.func84 rfl rfl (hc := (w_word_Of (a0 := a1.Op) (a1 := a2) (a2 := a3) (hF := hr5))) (h := ?_)
   clear hS; intro w hS
   refine oy hS y_move ?_
   iterate 2 (refine oy hS (y_extract rfl) ?_)
   iterate 2 (refine oy hS y_assign ?_)
   refine n_thenN ?_
   refine c_seq ?_
   refine c_region ?_
   refine oy hS y_move ?_
   refine oy hS y_bin ?_
   refine n_thenN ?_
   refine c_if (ht := fun c6 => ?_) (hf := fun c6 => ?_)
   · replace hF := bt c6 hF
     refine c_seq ?_
     refine c_region ?_
     iterate 2 (refine oy hS y_assign ?_)
     refine n_thenN ?_
     obtain rfl := Option.some.inj hF
     refine wp_ret (r_ret (vs := [.int .u32 0, .int .i64 3]) (L' := ((b0_, blk [vP0_0_1, vP0_1_5, vP0_2_9, .int .i64 a0.Taken, vP0_4_13, .int .i64 a0.PC, vP0_6_17, .int .i64 a0.Stop, vP0_8_21, .int .i64 a0.Jump, .int .i64 a0.Delay] 27) :: (LXP0_0_2 ++ (LXP0_1_6 ++ (LXP0_2_10 ++ (LXP0_4_14 ++ (LXP0_6_18 ++ (LXP0_8_22 ++ [])))))))) (hS.re (.takeb (.thereb _ (.hereb _ _)) (.take (.thereb _ (.here _ _)) (.take (.thereb _ (.here _ _)) (.take (.thereb _ (.here _ _)) (.take (.thereb _ (.here _ _)) (.take (.thereb _ (.here _ _)) (.take (.thereb _ (.here _ _)) (.nil _))))))))) (show resAll _ _ _ [.tmp 8, .tmp 9] _ from ⟨res_tmp, res_tmp, trivial⟩) rfl ⟨_, rfl, (by first | rfl | simp only [List.append_assoc, List.cons_append, List.nil_append, List.append_nil]), ⟨_, _, _, _, _, _, _, _, _, _, _, _, rfl, hP0_0_3, hP0_1_7, hP0_2_11, hP0_4_15, hP0_6_19, hP0_8_23⟩⟩)
   replace hF := bf c6 hF
   refine wp_skip ?_
   refine c_seq ?_
   refine c_region ?_
   refine oy hS y_move ?_
   iterate 2 (refine oy hS y_assign ?_)
   refine n_thenN ?_
   obtain rfl := Option.some.inj hF
   refine wp_ret (r_ret (vs := [.int .u32 r5.1, .int .i64 0]) (L' := ((b0_, blk [vP0_0_1, vP0_1_5, vP0_2_9, .int .i64 a0.Taken, vP0_4_13, .int .i64 a0.PC, vP0_6_17, .int .i64 a0.Stop, vP0_8_21, .int .i64 a0.Jump, .int .i64 a0.Delay] 27) :: (LXP0_0_2 ++ (LXP0_1_6 ++ (LXP0_2_10 ++ (LXP0_4_14 ++ (LXP0_6_18 ++ (LXP0_8_22 ++ [])))))))) (hS.re (.takeb (.thereb _ (.hereb _ _)) (.take (.thereb _ (.here _ _)) (.take (.thereb _ (.here _ _)) (.take (.thereb _ (.here _ _)) (.take (.thereb _ (.here _ _)) (.take (.thereb _ (.here _ _)) (.take (.thereb _ (.here _ _)) (.nil _))))))))) (show resAll _ _ _ [.tmp 8, .tmp 9] _ from ⟨res_tmp, res_tmp, trivial⟩) rfl ⟨_, rfl, (by first | rfl | simp only [List.append_assoc, List.cons_append, List.nil_append, List.append_nil]), ⟨_, _, _, _, _, _, _, _, _, _, _, _, rfl, hP0_0_3, hP0_1_7, hP0_2_11, hP0_4_15, hP0_6_19, hP0_8_23⟩⟩)
 replace hF := bf c4 hF
 refine c_seq ?_
 refine c_region ?_
 refine oy hS (y_field fa_api_Ins_0) ?_
 refine oy hS (y_load (fun w hS => hS.own (mH)) Try.underlying3 rfl rfl) ?_
 refine oy hS y_bin ?_
 refine oy hS y_assign ?_
 refine n_thenN ?_
 refine c_if (ht := fun c7 => ?_) (hf := fun c7 => ?_)
 · replace hF := bt c7 hF
   refine c_region ?_
   refine oy hS y_move ?_
   refine oy hS (y_field fa_api_Ins_4) ?_
   refine oy hS (y_load (fun w hS => hS.own (mH)) Try.underlying3 rfl rfl) ?_
   refine oy hS (y_conv Try.underlying3 Try.underlying63) ?_
   refine oy hS y_bin ?_
   refine oy hS y_assign ?_
   refine n_anyN ?_
   refine c_seq ?_
   refine c_region ?_
   refine oy hS y_move ?_
   iterate 2 (refine oy hS y_assign ?_)
   refine n_thenN ?_
   obtain rfl := Option.some.inj hF
   refine wp_ret (r_ret (vs := [.int .u32 (IntKind.u32.wrap (a2 + (IntKind.u32.wrap a1.Imm))), .int .i64 0]) (L' := ((b0_, blk [vP0_0_1, vP0_1_5, vP0_2_9, .int .i64 a0.Taken, vP0_4_13, .int .i64 a0.PC, vP0_6_17, .int .i64 a0.Stop, vP0_8_21, .int .i64 a0.Jump, .int .i64 a0.Delay] 27) :: (LXP0_0_2 ++ (LXP0_1_6 ++ (LXP0_2_10 ++ (LXP0_4_14 ++ (LXP0_6_18 ++ (LXP0_8_22 ++ [])))))))) (hS.re (.takeb (.thereb _ (.hereb _ _)) (.take (.thereb _ (.here _ _)) (.take (.thereb _ (.here _ _)) (.take (.thereb _ (.here _ _)) (.take (.thereb _ (.here _ _)) (.take (.thereb _ (.here _ _)) (.take (.thereb _ (.here _ _)) (.nil _))))))))) (show resAll _ _ _ [.tmp 8, .tmp 9] _ from ⟨res_tmp, res_tmp, trivial⟩) rfl ⟨_, rfl, (by first | rfl | simp only [List.append_assoc, List.cons_append, List.nil_append, List.append_nil]), ⟨_, _, _, _, _, _, _, _, _, _, _, _, rfl, hP0_0_3, hP0_1_7, hP0_2_11, hP0_4_15, hP0_6_19, hP0_8_23⟩⟩)
 replace hF := bf c7 hF
 refine c_seq ?_
 refine c_region ?_
 refine oy hS (y_field fa_api_Ins_0) ?_
 refine oy hS (y_load (fun w hS => hS.own (mH)) Try.underlying3 rfl rfl) ?_
 refine oy hS y_bin ?_
 refine oy hS y_assign ?_
 refine n_thenN ?_
 refine c_if (ht := fun c8 => ?_) (hf := fun c8 => ?_)
 · replace hF := bt c8 hF
   refine c_region ?_
   refine oy hS (y_field fa_api_Ins_4) ?_
   refine oy hS (y_load (fun w hS => hS.own (mH)) Try.underlying3 rfl rfl) ?_
   refine oy hS (y_conv Try.underlying3 Try.underlying63) ?_
   refine oy hS y_assign ?_
   refine n_anyN ?_
   refine c_seq ?_
   refine c_region ?_
   refine oy hS y_move ?_
   iterate 2 (refine oy hS y_assign ?_)
   refine n_thenN ?_
   obtain rfl := Option.some.inj hF
   refine wp_ret (r_ret (vs := [.int .u32 (IntKind.u32.wrap a1.Imm), .int .i64 0]) (L' := ((b0_, blk [vP0_0_1, vP0_1_5, vP0_2_9, .int .i64 a0.Taken, vP0_4_13, .int .i64 a0.PC, vP0_6_17, .int .i64 a0.Stop, vP0_8_21, .int .i64 a0.Jump, .int .i64 a0.Delay] 27) :: (LXP0_0_2 ++ (LXP0_1_6 ++ (LXP0_2_10 ++ (LXP0_4_14 ++ (LXP0_6_18 ++ (LXP0_8_22 ++ [])))))))) (hS.re (.takeb (.thereb _ (.hereb _ _)) (.take (.thereb _ (.here _ _)) (.take (.thereb _ (.here _ _)) (.take (.thereb _ (.here _ _)) (.take (.thereb _ (.here _ _)) (.take (.thereb _ (.here _ _)) (.take (.thereb _ (.here _ _)) (.nil _))))))))) (show resAll _ _ _ [.tmp 8, .tmp 9] _ from ⟨res_tmp, res_tmp, trivial⟩) rfl ⟨_, rfl, (by first | rfl | simp only [List.append_assoc, List.cons_append, List.nil_append, List.append_nil]), ⟨_, _, _, _, _, _, _, _, _, _, _, _, rfl, hP0_0_3, hP0_1_7, hP0_2_11, hP0_4_15, hP0_6_19, hP0_8_23⟩⟩)
 replace hF := bf c8 hF
 refine c_seq ?_
 refine c_region ?_
 refine oy hS (y_field fa_api_Ins_0) ?_
 refine oy hS (y_load (fun w hS => hS.own (mH)) Try.underlying3 rfl rfl) ?_
 refine oy hS y_bin ?_
 refine o_split (ht := fun c9 => ?_) (hf := fun c9 => ?_)
 · replace hF := bt c9 hF
   iterate 3 (refine o_sk rfl rfl ?_)
   refine oy hS y_pickT ?_
   refine oy hS y_assign ?_
   refine n_thenN ?_
   refine c_if_true (h := ?_)
   refine c_seq ?_
   refine c_region ?_
   refine oy hS y_move ?_
   refine oy hS (y_loadW (fun w hS => hS.own (mH)) Try.underlying43 rfl (by exact sz_api_Ins)) ?_
   iterate 2 (refine oy hS y_move ?_)
   have hS : St W g (((b0_, blk [vP0_0_1, vP0_1_5, vP0_2_9, .int .i64 a0.Taken, vP0_4_13, .int .i64 a0.PC, vP0_6_17, .int .i64 a0.Stop, vP0_8_21, .int .i64 a0.Jump, .int .i64 a0.Delay] 27) :: (LXP0_0_2 ++ (LXP0_1_6 ++ (LXP0_2_10 ++ (LXP0_4_14 ++ (LXP0_6_18 ++ (LXP0_8_22 ++ [])))))))) ((b0_, blk [vP0_0_1, vP0_1_5, vP0_2_9, .int .i64 a0.Taken, vP0_4_13, .int .i64 a0.PC, vP0_6_17, .int .i64 a0.Stop, vP0_8_21, .int .i64 a0.Jump, .int .i64 a0.Delay] 27) :: (LXP0_0_2 ++ (LXP0_1_6 ++ (LXP0_2_10 ++ (LXP0_4_14 ++ (LXP0_6_18 ++ (LXP0_8_22 ++ ((b1, blk [.int .i64 a1.Op, .int .i64 a1.D, .int .i64 a1.A, .int .i64 a1.B, .int .i64 a1.Imm, .string a1.Sym] 43) :: [])))))))) w := hS.re (.takeb (.thereb _ (.hereb _ _)) (.take (.thereb _ (.here _ _)) (.take (.thereb _ (.here _ _)) (.take (.thereb _ (.here _ _)) (.take (.thereb _ (.here _ _)) (.take (.thereb _ (.here _ _)) (.take (.thereb _ (.here _ _)) (.takeb (.hereb _ _) (.nil _)))))))))
   have hS2 : St W g (((b0_, blk [vP0_0_1, vP0_1_5, vP0_2_9, .int .i64 a0.Taken, vP0_4_13, .int .i64 a0.PC, vP0_6_17, .int .i64 a0.Stop, vP0_8_21, .int .i64 a0.Jump, .int .i64 a0.Delay] 27) :: (LXP0_0_2 ++ (LXP0_1_6 ++ (LXP0_2_10 ++ (LXP0_4_14 ++ (LXP0_6_18 ++ (LXP0_8_22 ++ [])))))))) (((b0_, blk [vP0_0_1, vP0_1_5, vP0_2_9, .int .i64 a0.Taken, vP0_4_13, .int .i64 a0.PC, vP0_6_17, .int .i64 a0.Stop, vP0_8_21, .int .i64 a0.Jump, .int .i64 a0.Delay] 27) :: (LXP0_0_2 ++ (LXP0_1_6 ++ (LXP0_2_10 ++ (LXP0_4_14 ++ (LXP0_6_18 ++ (LXP0_8_22 ++ []))))))) ++ ((b1, blk [.int .i64 a1.Op, .int .i64 a1.D, .int .i64 a1.A, .int .i64 a1.B, .int .i64 a1.Imm, .string a1.Sym] 43) :: [])) w := by simpa only [List.append_assoc, List.cons_append, List.nil_append, List.append_nil] using hS
   obtain ⟨r10, hr10, hF⟩ := ob hF
   refine o_call (L1 := ((b0_, blk [vP0_0_1, vP0_1_5, vP0_2_9, .int .i64 a0.Taken, vP0_4_13, .int .i64 a0.PC, vP0_6_17, .int .i64 a0.Stop, vP0_8_21, .int .i64 a0.Jump, .int .i64 a0.Delay] 27) :: (LXP0_0_2 ++ (LXP0_1_6 ++ (LXP0_2_10 ++ (LXP0_4_14 ++ (LXP0_6_18 ++ (LXP0_8_22 ++ [])))))))) (L2 := ((b1, blk [.int .i64 a1.Op, .int .i64 a1.D, .int .i64 a1.A, .int .i64 a1.B, .int .i64 a1.Imm, .string a1.Sym] 43) :: [])) hS2 Try.func85 rfl rfl (hc := (w_seq_memory (a0 := a0) (a1 := a1) (a2 := a2) (a3 := a3) (h0 := (⟨_, _, _, _, _, _, _, _, _, _, _, _, rfl, hP0_0_3, hP0_1_7, hP0_2_11, hP0_4_15, hP0_6_19, hP0_8_23⟩ : Bx_State b0_ a0 ((b0_, blk [vP0_0_1, vP0_1_5, vP0_2_9, .int .i64 a0.Taken, vP0_4_13, .int .i64 a0.PC, vP0_6_17, .int .i64 a0.Stop, vP0_8_21, .int .i64 a0.Jump, .int .i64 a0.Delay] 27) :: (LXP0_0_2 ++ (LXP0_1_6 ++ (LXP0_2_10 ++ (LXP0_4_14 ++ (LXP0_6_18 ++ (LXP0_8_22 ++ []))))))))) (hF := hr10))) (h := ?_)
   clear hS; intro v11 LY12 w hS hr13
   clear hS2
   obtain ⟨LB14, rfl, rfl, hb15⟩ := hr13
   obtain ⟨vB_0_16, vB_1_20, vB_2_24, vB_4_28, vB_6_32, vB_8_36, LXB_0_17, LXB_1_21, LXB_2_25, LXB_4_29, LXB_6_33, LXB_8_37, rfl, hB_0_18, hB_1_22, hB_2_26, hB_4_30, hB_6_34, hB_8_38⟩ := hb15
   simp only [List.append_assoc, List.cons_append, List.nil_append] at hS
   iterate 2 (refine oy hS (y_extract rfl) ?_)
   iterate 2 (refine oy hS y_assign ?_)
   refine n_thenN ?_
   obtain rfl := Option.some.inj hF
   refine wp_ret (r_ret (vs := [.int .u32 r10.2.1, .int .i64 r10.2.2]) (L' := ((b0_, blk [vB_0_16, vB_1_20, vB_2_24, .int .i64 r10.1.Taken, vB_4_28, .int .i64 r10.1.PC, vB_6_32, .int .i64 r10.1.Stop, vB_8_36, .int .i64 r10.1.Jump, .int .i64 r10.1.Delay] 27) :: (LXB_0_17 ++ (LXB_1_21 ++ (LXB_2_25 ++ (LXB_4_29 ++ (LXB_6_33 ++ (LXB_8_37 ++ [])))))))) (hS.re (.takeb (.hereb _ _) (.take (.here _ _) (.take (.here _ _) (.take (.here _ _) (.take (.here _ _) (.take (.here _ _) (.take (.here _ _) (.nil _))))))))) (show resAll _ _ _ [.tmp 8, .tmp 9] _ from ⟨res_tmp, res_tmp, trivial⟩) rfl ⟨_, rfl, (by first | rfl | simp only [List.append_assoc, List.cons_append, List.nil_append, List.append_nil]), ⟨_, _, _, _, _, _, _, _, _, _, _, _, rfl, hB_0_18, hB_1_22, hB_2_26, hB_4_30, hB_6_34, hB_8_38⟩⟩)
 replace hF := bf c9 hF
 refine o_gu rfl rfl rfl ?_
 refine oy hS (y_field fa_api_Ins_0) ?_
 refine o_gu rfl rfl rfl ?_
 refine oy hS (y_load (fun w hS => hS.own (mH)) Try.underlying3 rfl rfl) ?_
 refine o_gu rfl rfl rfl ?_
 refine oy hS y_bin ?_
 refine oy hS y_pickF ?_
 refine oy hS y_assign ?_
 refine n_thenN ?_
 refine c_if (ht := fun c40 => ?_) (hf := fun c40 => ?_)
 · replace hF := bt c40 hF
   refine c_seq ?_
   refine c_region ?_
   refine oy hS y_move ?_
   refine oy hS (y_loadW (fun w hS => hS.own (mH)) Try.underlying43 rfl (by exact sz_api_Ins)) ?_
   iterate 2 (refine oy hS y_move ?_)
   have hS : St W g (((b0_, blk [vP0_0_1, vP0_1_5, vP0_2_9, .int .i64 a0.Taken, vP0_4_13, .int .i64 a0.PC, vP0_6_17, .int .i64 a0.Stop, vP0_8_21, .int .i64 a0.Jump, .int .i64 a0.Delay] 27) :: (LXP0_0_2 ++ (LXP0_1_6 ++ (LXP0_2_10 ++ (LXP0_4_14 ++ (LXP0_6_18 ++ (LXP0_8_22 ++ [])))))))) ((b0_, blk [vP0_0_1, vP0_1_5, vP0_2_9, .int .i64 a0.Taken, vP0_4_13, .int .i64 a0.PC, vP0_6_17, .int .i64 a0.Stop, vP0_8_21, .int .i64 a0.Jump, .int .i64 a0.Delay] 27) :: (LXP0_0_2 ++ (LXP0_1_6 ++ (LXP0_2_10 ++ (LXP0_4_14 ++ (LXP0_6_18 ++ (LXP0_8_22 ++ ((b1, blk [.int .i64 a1.Op, .int .i64 a1.D, .int .i64 a1.A, .int .i64 a1.B, .int .i64 a1.Imm, .string a1.Sym] 43) :: [])))))))) w := hS.re (.takeb (.thereb _ (.hereb _ _)) (.take (.thereb _ (.here _ _)) (.take (.thereb _ (.here _ _)) (.take (.thereb _ (.here _ _)) (.take (.thereb _ (.here _ _)) (.take (.thereb _ (.here _ _)) (.take (.thereb _ (.here _ _)) (.takeb (.hereb _ _) (.nil _)))))))))
   have hS2 : St W g (((b0_, blk [vP0_0_1, vP0_1_5, vP0_2_9, .int .i64 a0.Taken, vP0_4_13, .int .i64 a0.PC, vP0_6_17, .int .i64 a0.Stop, vP0_8_21, .int .i64 a0.Jump, .int .i64 a0.Delay] 27) :: (LXP0_0_2 ++ (LXP0_1_6 ++ (LXP0_2_10 ++ (LXP0_4_14 ++ (LXP0_6_18 ++ (LXP0_8_22 ++ [])))))))) (((b0_, blk [vP0_0_1, vP0_1_5, vP0_2_9, .int .i64 a0.Taken, vP0_4_13, .int .i64 a0.PC, vP0_6_17, .int .i64 a0.Stop, vP0_8_21, .int .i64 a0.Jump, .int .i64 a0.Delay] 27) :: (LXP0_0_2 ++ (LXP0_1_6 ++ (LXP0_2_10 ++ (LXP0_4_14 ++ (LXP0_6_18 ++ (LXP0_8_22 ++ []))))))) ++ ((b1, blk [.int .i64 a1.Op, .int .i64 a1.D, .int .i64 a1.A, .int .i64 a1.B, .int .i64 a1.Imm, .string a1.Sym] 43) :: [])) w := by simpa only [List.append_assoc, List.cons_append, List.nil_append, List.append_nil] using hS
   obtain ⟨r41, hr41, hF⟩ := ob hF
   refine o_call (L1 := ((b0_, blk [vP0_0_1, vP0_1_5, vP0_2_9, .int .i64 a0.Taken, vP0_4_13, .int .i64 a0.PC, vP0_6_17, .int .i64 a0.Stop, vP0_8_21, .int .i64 a0.Jump, .int .i64 a0.Delay] 27) :: (LXP0_0_2 ++ (LXP0_1_6 ++ (LXP0_2_10 ++ (LXP0_4_14 ++ (LXP0_6_18 ++ (LXP0_8_22 ++ [])))))))) (L2 := ((b1, blk [.int .i64 a1.Op, .int .i64 a1.D, .int .i64 a1.A, .int .i64 a1.B, .int .i64 a1.Imm, .string a1.Sym] 43) :: [])) hS2 Try.func85 rfl rfl (hc := (w_seq_memory (a0 := a0) (a1 := a1) (a2 := a2) (a3 := a3) (h0 := (⟨_, _, _, _, _, _, _, _, _, _, _, _, rfl, hP0_0_3, hP0_1_7, hP0_2_11, hP0_4_15, hP0_6_19, hP0_8_23⟩ : Bx_State b0_ a0 ((b0_, blk [vP0_0_1, vP0_1_5, vP0_2_9, .int .i64 a0.Taken, vP0_4_13, .int .i64 a0.PC, vP0_6_17, .int .i64 a0.Stop, vP0_8_21, .int .i64 a0.Jump, .int .i64 a0.Delay] 27) :: (LXP0_0_2 ++ (LXP0_1_6 ++ (LXP0_2_10 ++ (LXP0_4_14 ++ (LXP0_6_18 ++ (LXP0_8_22 ++ []))))))))) (hF := hr41))) (h := ?_)
   clear hS; intro v42 LY43 w hS hr44
   clear hS2
   obtain ⟨LB45, rfl, rfl, hb46⟩ := hr44
   obtain ⟨vB_0_47, vB_1_51, vB_2_55, vB_4_59, vB_6_63, vB_8_67, LXB_0_48, LXB_1_52, LXB_2_56, LXB_4_60, LXB_6_64, LXB_8_68, rfl, hB_0_49, hB_1_53, hB_2_57, hB_4_61, hB_6_65, hB_8_69⟩ := hb46
   simp only [List.append_assoc, List.cons_append, List.nil_append] at hS
   iterate 2 (refine oy hS (y_extract rfl) ?_)
   iterate 2 (refine oy hS y_assign ?_)
   refine n_thenN ?_
   obtain rfl := Option.some.inj hF
   refine wp_ret (r_ret (vs := [.int .u32 r41.2.1, .int .i64 r41.2.2]) (L' := ((b0_, blk [vB_0_47, vB_1_51, vB_2_55, .int .i64 r41.1.Taken, vB_4_59, .int .i64 r41.1.PC, vB_6_63, .int .i64 r41.1.Stop, vB_8_67, .int .i64 r41.1.Jump, .int .i64 r41.1.Delay] 27) :: (LXB_0_48 ++ (LXB_1_52 ++ (LXB_2_56 ++ (LXB_4_60 ++ (LXB_6_64 ++ (LXB_8_68 ++ [])))))))) (hS.re (.takeb (.hereb _ _) (.take (.here _ _) (.take (.here _ _) (.take (.here _ _) (.take (.here _ _) (.take (.here _ _) (.take (.here _ _) (.nil _))))))))) (show resAll _ _ _ [.tmp 8, .tmp 9] _ from ⟨res_tmp, res_tmp, trivial⟩) rfl ⟨_, rfl, (by first | rfl | simp only [List.append_assoc, List.cons_append, List.nil_append, List.append_nil]), ⟨_, _, _, _, _, _, _, _, _, _, _, _, rfl, hB_0_49, hB_1_53, hB_2_57, hB_4_61, hB_6_65, hB_8_69⟩⟩)
 replace hF := bf c40 hF
 refine c_seq ?_
 refine c_quiet (by kernel_rfl) (by kernel_rfl) hS ?_
 refine qy (y_field fa_api_Ins_0) ?_
 refine qy (y_load (fun w hS => hS.own (mH)) Try.underlying3 rfl rfl) ?_
 refine qy y_bin ?_
 refine q_split (ht := fun c71 => ?_) (hf := fun c71 => ?_)
 · replace hF := bt c71 hF
   refine q_gu rfl rfl rfl ?_
   refine qy y_move ?_
   refine q_gu rfl rfl rfl ?_
   refine qy y_nilCheck ?_
   refine q_gu rfl rfl rfl ?_
   refine qy (y_field fa_api_State_3) ?_
   refine q_gu rfl rfl rfl ?_
   refine qy (y_load (fun w hS => hS.own (mC (mH))) Try.underlying3 rfl rfl) ?_
   refine q_gu rfl rfl rfl ?_
   refine qy y_move ?_
   refine q_gu rfl rfl rfl ?_
   refine qy y_nilCheck ?_
   refine q_gu rfl rfl rfl ?_
   refine qy (y_field fa_api_State_2) ?_
   refine q_gu rfl rfl rfl ?_
   refine qy (y_load (fun w hS => hS.own (mC (mH))) Try.underlying23 rfl rfl) ?_
   refine q_gu rfl rfl rfl ?_
   refine qy (y_lenO hP0_2_11 Try.underlying23) ?_
   refine q_gu rfl rfl rfl ?_
   refine qy y_bin ?_
   refine qy y_pickT ?_
   refine qy y_assign ?_
   refine q_nilN (h := ?_)
   clear hS; intro w hS
   refine c_if (ht := fun c72 => ?_) (hf := fun c72 => ?_)
   · replace hF := bt c72 hF
     refine c_seq ?_
     refine c_quiet (by kernel_rfl) (by kernel_rfl) hS ?_
     refine qy y_move ?_
     refine qy y_nilCheck ?_
     refine qy (y_field fa_api_State_2) ?_
     refine qy (y_load (fun w hS => hS.own (mC (mH))) Try.underlying23 rfl rfl) ?_
     refine qy y_move ?_
     refine qy y_nilCheck ?_
     refine qy (y_field fa_api_State_3) ?_
     refine qy (y_load (fun w hS => hS.own (mC (mH))) Try.underlying3 rfl rfl) ?_
     obtain ⟨x73, hx73, hF⟩ := ob hF
     obtain ⟨b74, c75, cl76, hv77, ha78, hb79, hl80, hc81⟩ := OwT.at hx73 hP0_2_11 enc_len_uint32
     refine qy (y_index hv77 ha78 hb79 Try.underlying23 el_uint32.size) ?_
     refine qy (y_load (fun w hS => hS.own (mC (mC (mB (mB (mA (mX hl80))))))) Try.underlying63 rfl (hc81 0 _ rfl)) ?_
     refine qy y_assign ?_
     refine q_nilN (h := ?_)
     clear hS; intro w hS
     refine c_region ?_
     refine oy hS y_move ?_
     refine oy hS y_nilCheck ?_
     refine oy hS (y_field fa_api_State_3) ?_
     refine oy hS (y_load (fun w hS => hS.own (mC (mH))) Try.underlying3 rfl rfl) ?_
     refine oy hS y_bin ?_
     refine oy hS y_nilCheck ?_
     refine oy hS (y_field fa_api_State_3) ?_
     refine o_store hS (hm := Upd.there _ (Upd.here _)) (hi := by exact sz_int) (h1 := rfl) (hc := rfl) (ho := by exact Nat.le_of_ble_eq_true rfl) (h := ?_)
     clear hS; intro w hS
     refine n_anyN ?_
     refine c_seq ?_
     refine c_region ?_
     refine oy hS y_move ?_
     iterate 2 (refine oy hS y_assign ?_)
     refine n_thenN ?_
     obtain rfl := Option.some.inj hF
     refine wp_ret (r_ret (vs := [.int .u32 x73, .int .i64 0]) (L' := ((b0_, blk [vP0_0_1, vP0_1_5, vP0_2_9, .int .i64 (IntKind.i64.wrap (a0.Taken + 1)), vP0_4_13, .int .i64 a0.PC, vP0_6_17, .int .i64 a0.Stop, vP0_8_21, .int .i64 a0.Jump, .int .i64 a0.Delay] 27) :: (LXP0_0_2 ++ (LXP0_1_6 ++ (LXP0_2_10 ++ (LXP0_4_14 ++ (LXP0_6_18 ++ (LXP0_8_22 ++ [])))))))) (hS.re (.takeb (.thereb _ (.hereb _ _)) (.take (.thereb _ (.here _ _)) (.take (.thereb _ (.here _ _)) (.take (.thereb _ (.here _ _)) (.take (.thereb _ (.here _ _)) (.take (.thereb _ (.here _ _)) (.take (.thereb _ (.here _ _)) (.nil _))))))))) (show resAll _ _ _ [.tmp 8, .tmp 9] _ from ⟨res_tmp, res_tmp, trivial⟩) rfl ⟨_, rfl, (by first | rfl | simp only [List.append_assoc, List.cons_append, List.nil_append, List.append_nil]), ⟨_, _, _, _, _, _, _, _, _, _, _, _, rfl, hP0_0_3, hP0_1_7, hP0_2_11, hP0_4_15, hP0_6_19, hP0_8_23⟩⟩)
   replace hF := bf c72 hF
   refine c_seq ?_
   refine c_region ?_
   refine oy hS (y_field fa_api_Ins_0) ?_
   refine oy hS (y_load (fun w hS => hS.own (mH)) Try.underlying3 rfl rfl) ?_
   refine oy hS y_bin ?_
   refine oy hS y_assign ?_
   refine n_thenN ?_
   refine c_if (ht := fun c82 => ?_) (hf := fun c82 => ?_)
   · replace hF := bt c82 hF
     refine c_region ?_
     iterate 2 (refine oy hS y_move ?_)
     refine oy hS y_nilCheck ?_
     refine oy hS (y_field fa_api_State_4) ?_
     refine oy hS (y_load (fun w hS => hS.own (mC (mH))) Try.underlying23 rfl rfl) ?_
     refine oy hS y_move ?_
     refine o_buildT val_uint32 ([a2] : List Int) hS el_uint32 (fun _ => rfl) enc_len_uint32 (by decide) rfl (by decide) (hp := rfl) (h := ?_)
     clear hS; intro b83 w hS h84
     have hS : St W g (((b0_, blk [vP0_0_1, vP0_1_5, vP0_2_9, .int .i64 a0.Taken, vP0_4_13, .int .i64 a0.PC, vP0_6_17, .int .i64 a0.Stop, vP0_8_21, .int .i64 a0.Jump, .int .i64 a0.Delay] 27) :: (LXP0_0_2 ++ (LXP0_1_6 ++ (LXP0_2_10 ++ (LXP0_4_14 ++ (LXP0_6_18 ++ (LXP0_8_22 ++ [])))))))) ([(b83, blk (([a2] : List Int).flatMap enc_uint32) 63)] ++ ((b1, blk [.int .i64 a1.Op, .int .i64 a1.D, .int .i64 a1.A, .int .i64 a1.B, .int .i64 a1.Imm, .string a1.Sym] 43) :: ((b0_, blk [vP0_0_1, vP0_1_5, vP0_2_9, .int .i64 a0.Taken, vP0_4_13, .int .i64 a0.PC, vP0_6_17, .int .i64 a0.Stop, vP0_8_21, .int .i64 a0.Jump, .int .i64 a0.Delay] 27) :: (LXP0_0_2 ++ (LXP0_1_6 ++ (LXP0_2_10 ++ (LXP0_4_14 ++ (LXP0_6_18 ++ (LXP0_8_22 ++ []))))))))) w := hS
     obtain ⟨zs90, hzs90, hF⟩ := ob hF
     have hS : St W g (((b0_, blk [vP0_0_1, vP0_1_5, vP0_2_9, .int .i64 a0.Taken, vP0_4_13, .int .i64 a0.PC, vP0_6_17, .int .i64 a0.Stop, vP0_8_21, .int .i64 a0.Jump, .int .i64 a0.Delay] 27) :: (LXP0_0_2 ++ (LXP0_1_6 ++ (LXP0_2_10 ++ (LXP0_4_14 ++ (LXP0_6_18 ++ (LXP0_8_22 ++ [])))))))) ([(b83, blk (([a2] : List Int).flatMap enc_uint32) 63)] ++ (LXP0_4_14 ++ ((b1, blk [.int .i64 a1.Op, .int .i64 a1.D, .int .i64 a1.A, .int .i64 a1.B, .int .i64 a1.Imm, .string a1.Sym] 43) :: ((b0_, blk [vP0_0_1, vP0_1_5, vP0_2_9, .int .i64 a0.Taken, vP0_4_13, .int .i64 a0.PC, vP0_6_17, .int .i64 a0.Stop, vP0_8_21, .int .i64 a0.Jump, .int .i64 a0.Delay] 27) :: (LXP0_0_2 ++ (LXP0_1_6 ++ (LXP0_2_10 ++ (LXP0_6_18 ++ (LXP0_8_22 ++ []))))))))) w := hS.re (.take (.here _ _) (.take (.thereb _ (.thereb _ (.there _ (.there _ (.there _ (.here _ _)))))) (.takeb (.hereb _ _) (.takeb (.hereb _ _) (.take (.here _ _) (.take (.here _ _) (.take (.here _ _) (.take (.here _ _) (.take (.here _ _) (.nil _))))))))))
     refine o_appPn (ys := ([a2] : List Int)) (LX := LXP0_4_14) hzs90 hS el_uint32 hP0_4_15 rfl enc_len_uint32 (enc_ones_uint32 _) (by decide) ?_
     clear hS; intro v86 LX87 w h88 hS
     refine oy hS y_nilCheck ?_
     refine oy hS (y_field fa_api_State_4) ?_
     have hS : St W g (((b0_, blk [vP0_0_1, vP0_1_5, vP0_2_9, .int .i64 a0.Taken, vP0_4_13, .int .i64 a0.PC, vP0_6_17, .int .i64 a0.Stop, vP0_8_21, .int .i64 a0.Jump, .int .i64 a0.Delay] 27) :: (LXP0_0_2 ++ (LXP0_1_6 ++ (LXP0_2_10 ++ (LXP0_4_14 ++ (LXP0_6_18 ++ (LXP0_8_22 ++ [])))))))) ((b0_, blk [vP0_0_1, vP0_1_5, vP0_2_9, .int .i64 a0.Taken, vP0_4_13, .int .i64 a0.PC, vP0_6_17, .int .i64 a0.Stop, vP0_8_21, .int .i64 a0.Jump, .int .i64 a0.Delay] 27) :: (LX87 ++ ((b1, blk [.int .i64 a1.Op, .int .i64 a1.D, .int .i64 a1.A, .int .i64 a1.B, .int .i64 a1.Imm, .string a1.Sym] 43) :: (LXP0_0_2 ++ (LXP0_1_6 ++ (LXP0_2_10 ++ (LXP0_6_18 ++ (LXP0_8_22 ++ [])))))))) w := hS.re (.takeb (.there _ (.thereb _ (.hereb _ _))) (.take (.here _ _) (.takeb (.hereb _ _) (.take (.here _ _) (.take (.here _ _) (.take (.here _ _) (.take (.here _ _) (.take (.here _ _) (.nil _)))))))))
     refine o_store hS (hm := Upd.here _) (hi := by exact sz_S_uint32) (h1 := (h88).one) (hc := (h88).cell) (ho := by exact Nat.le_of_ble_eq_true rfl) (h := ?_)
     clear hS; intro w hS
     refine n_anyN ?_
     refine c_seq ?_
     refine c_region ?_
     refine oy hS y_move ?_
     iterate 2 (refine oy hS y_assign ?_)
     refine n_thenN ?_
     obtain rfl := Option.some.inj hF
     refine wp_ret (r_ret (vs := [.int .u32 0, .int .i64 0]) (L' := ((b0_, blk [vP0_0_1, vP0_1_5, vP0_2_9, .int .i64 a0.Taken, v86, .int .i64 a0.PC, vP0_6_17, .int .i64 a0.Stop, vP0_8_21, .int .i64 a0.Jump, .int .i64 a0.Delay] 27) :: (LXP0_0_2 ++ (LXP0_1_6 ++ (LXP0_2_10 ++ (LX87 ++ (LXP0_6_18 ++ (LXP0_8_22 ++ [])))))))) (hS.re (.takeb (.hereb _ _) (.take (.there _ (.thereb _ (.here _ _))) (.take (.there _ (.thereb _ (.here _ _))) (.take (.there _ (.thereb _ (.here _ _))) (.take (.here _ _) (.take (.thereb _ (.here _ _)) (.take (.thereb _ (.here _ _)) (.nil _))))))))) (show resAll _ _ _ [.tmp 8, .tmp 9] _ from ⟨res_tmp, res_tmp, trivial⟩) rfl ⟨_, rfl, (by first | rfl | simp only [List.append_assoc, List.cons_append, List.nil_append, List.append_nil]), ⟨_, _, _, _, _, _, _, _, _, _, _, _, rfl, hP0_0_3, hP0_1_7, hP0_2_11, h88, hP0_6_19, hP0_8_23⟩⟩)
   replace hF := bf c82 hF
   refine c_seq ?_
   refine c_region ?_
   refine oy hS (y_field fa_api_Ins_0) ?_
   refine oy hS (y_load (fun w hS => hS.own (mH)) Try.underlying3 rfl rfl) ?_
   refine oy hS y_bin ?_
   refine oy hS y_assign ?_
   refine n_thenN ?_
   refine c_if (ht := fun c91 => ?_) (hf := fun c91 => ?_)
   · replace hF := bt c91 hF
     refine c_seq ?_
     refine c_region ?_
     iterate 2 (refine oy hS y_assign ?_)
     refine n_thenN ?_
     obtain rfl := Option.some.inj hF
     refine wp_ret (r_ret (vs := [.int .u32 0, .int .i64 1]) (L' := ((b0_, blk [vP0_0_1, vP0_1_5, vP0_2_9, .int .i64 a0.Taken, vP0_4_13, .int .i64 a0.PC, vP0_6_17, .int .i64 a0.Stop, vP0_8_21, .int .i64 a0.Jump, .int .i64 a0.Delay] 27) :: (LXP0_0_2 ++ (LXP0_1_6 ++ (LXP0_2_10 ++ (LXP0_4_14 ++ (LXP0_6_18 ++ (LXP0_8_22 ++ [])))))))) (hS.re (.takeb (.thereb _ (.hereb _ _)) (.take (.thereb _ (.here _ _)) (.take (.thereb _ (.here _ _)) (.take (.thereb _ (.here _ _)) (.take (.thereb _ (.here _ _)) (.take (.thereb _ (.here _ _)) (.take (.thereb _ (.here _ _)) (.nil _))))))))) (show resAll _ _ _ [.tmp 8, .tmp 9] _ from ⟨res_tmp, res_tmp, trivial⟩) rfl ⟨_, rfl, (by first | rfl | simp only [List.append_assoc, List.cons_append, List.nil_append, List.append_nil]), ⟨_, _, _, _, _, _, _, _, _, _, _, _, rfl, hP0_0_3, hP0_1_7, hP0_2_11, hP0_4_15, hP0_6_19, hP0_8_23⟩⟩)
   replace hF := bf c91 hF
   refine wp_skip ?_
   refine c_seq ?_
   refine c_region ?_
   refine oy hS y_move ?_
   iterate 2 (refine oy hS y_assign ?_)
   refine n_thenN ?_
   obtain rfl := Option.some.inj hF
   refine wp_ret (r_ret (vs := [.int .u32 0, .int .i64 0]) (L' := ((b0_, blk [vP0_0_1, vP0_1_5, vP0_2_9, .int .i64 a0.Taken, vP0_4_13, .int .i64 a0.PC, vP0_6_17, .int .i64 a0.Stop, vP0_8_21, .int .i64 a0.Jump, .int .i64 a0.Delay] 27) :: (LXP0_0_2 ++ (LXP0_1_6 ++ (LXP0_2_10 ++ (LXP0_4_14 ++ (LXP0_6_18 ++ (LXP0_8_22 ++ [])))))))) (hS.re (.takeb (.thereb _ (.hereb _ _)) (.take (.thereb _ (.here _ _)) (.take (.thereb _ (.here _ _)) (.take (.thereb _ (.here _ _)) (.take (.thereb _ (.here _ _)) (.take (.thereb _ (.here _ _)) (.take (.thereb _ (.here _ _)) (.nil _))))))))) (show resAll _ _ _ [.tmp 8, .tmp 9] _ from ⟨res_tmp, res_tmp, trivial⟩) rfl ⟨_, rfl, (by first | rfl | simp only [List.append_assoc, List.cons_append, List.nil_append, List.append_nil]), ⟨_, _, _, _, _, _, _, _, _, _, _, _, rfl, hP0_0_3, hP0_1_7, hP0_2_11, hP0_4_15, hP0_6_19, hP0_8_23⟩⟩)
 replace hF := bf c71 hF
 iterate 10 (refine q_sk rfl rfl ?_)
 refine qy y_pickF ?_
 refine qy y_assign ?_
 refine q_nilN (h := ?_)
 clear hS; intro w hS
 refine c_if_false (h := ?_)
 refine c_seq ?_
 refine c_region ?_
 refine oy hS (y_field fa_api_Ins_0) ?_
 refine oy hS (y_load (fun w hS => hS.own (mH)) Try.underlying3 rfl rfl) ?_
 refine oy hS y_bin ?_
 refine oy hS y_assign ?_
 refine n_thenN ?_
 refine c_if (ht := fun c92 => ?_) (hf := fun c92 => ?_)
 · replace hF := bt c92 hF
   refine c_region ?_
   iterate 2 (refine oy hS y_move ?_)
   refine oy hS y_nilCheck ?_
   refine oy hS (y_field fa_api_State_4) ?_
   refine oy hS (y_load (fun w hS => hS.own (mC (mH))) Try.underlying23 rfl rfl) ?_
   refine oy hS y_move ?_
   refine o_buildT val_uint32 ([a2] : List Int) hS el_uint32 (fun _ => rfl) enc_len_uint32 (by decide) rfl (by decide) (hp := rfl) (h := ?_)
   clear hS; intro b93 w hS h94
   have hS : St W g (((b0_, blk [vP0_0_1, vP0_1_5, vP0_2_9, .int .i64 a0.Taken, vP0_4_13, .int .i64 a0.PC, vP0_6_17, .int .i64 a0.Stop, vP0_8_21, .int .i64 a0.Jump, .int .i64 a0.Delay] 27) :: (LXP0_0_2 ++ (LXP0_1_6 ++ (LXP0_2_10 ++ (LXP0_4_14 ++ (LXP0_6_18 ++ (LXP0_8_22 ++ [])))))))) ([(b93, blk (([a2] : List Int).flatMap enc_uint32) 63)] ++ ((b1, blk [.int .i64 a1.Op, .int .i64 a1.D, .int .i64 a1.A, .int .i64 a1.B, .int .i64 a1.Imm, .string a1.Sym] 43) :: ((b0_, blk [vP0_0_1, vP0_1_5, vP0_2_9, .int .i64 a0.Taken, vP0_4_13, .int .i64 a0.PC, vP0_6_17, .int .i64 a0.Stop, vP0_8_21, .int .i64 a0.Jump, .int .i64 a0.Delay] 27) :: (LXP0_0_2 ++ (LXP0_1_6 ++ (LXP0_2_10 ++ (LXP0_4_14 ++ (LXP0_6_18 ++ (LXP0_8_22 ++ []))))))))) w := hS
   obtain ⟨zs100, hzs100, hF⟩ := ob hF
   have hS : St W g (((b0_, blk [vP0_0_1, vP0_1_5, vP0_2_9, .int .i64 a0.Taken, vP0_4_13, .int .i64 a0.PC, vP0_6_17, .int .i64 a0.Stop, vP0_8_21, .int .i64 a0.Jump, .int .i64 a0.Delay] 27) :: (LXP0_0_2 ++ (LXP0_1_6 ++ (LXP0_2_10 ++ (LXP0_4_14 ++ (LXP0_6_18 ++ (LXP0_8_22 ++ [])))))))) ([(b93, blk (([a2] : List Int).flatMap enc_uint32) 63)] ++ (LXP0_4_14 ++ ((b1, blk [.int .i64 a1.Op, .int .i64 a1.D, .int .i64 a1.A, .int .i64 a1.B, .int .i64 a1.Imm, .string a1.Sym] 43) :: ((b0_, blk [vP0_0_1, vP0_1_5, vP0_2_9, .int .i64 a0.Taken, vP0_4_13, .int .i64 a0.PC, vP0_6_17, .int .i64 a0.Stop, vP0_8_21, .int .i64 a0.Jump, .int .i64 a0.Delay] 27) :: (LXP0_0_2 ++ (LXP0_1_6 ++ (LXP0_2_10 ++ (LXP0_6_18 ++ (LXP0_8_22 ++ []))))))))) w := hS.re (.take (.here _ _) (.take (.thereb _ (.thereb _ (.there _ (.there _ (.there _ (.here _ _)))))) (.takeb (.hereb _ _) (.takeb (.hereb _ _) (.take (.here _ _) (.take (.here _ _) (.take (.here _ _) (.take (.here _ _) (.take (.here _ _) (.nil _))))))))))
   refine o_appPn (ys := ([a2] : List Int)) (LX := LXP0_4_14) hzs100 hS el_uint32 hP0_4_15 rfl enc_len_uint32 (enc_ones_uint32 _) (by decide) ?_
   clear hS; intro v96 LX97 w h98 hS
   refine oy hS y_nilCheck ?_
   refine oy hS (y_field fa_api_State_4) ?_
   have hS : St W g (((b0_, blk [vP0_0_1, vP0_1_5, vP0_2_9, .int .i64 a0.Taken, vP0_4_13, .int .i64 a0.PC, vP0_6_17, .int .i64 a0.Stop, vP0_8_21, .int .i64 a0.Jump, .int .i64 a0.Delay] 27) :: (LXP0_0_2 ++ (LXP0_1_6 ++ (LXP0_2_10 ++ (LXP0_4_14 ++ (LXP0_6_18 ++ (LXP0_8_22 ++ [])))))))) ((b0_, blk [vP0_0_1, vP0_1_5, vP0_2_9, .int .i64 a0.Taken, vP0_4_13, .int .i64 a0.PC, vP0_6_17, .int .i64 a0.Stop, vP0_8_21, .int .i64 a0.Jump, .int .i64 a0.Delay] 27) :: (LX97 ++ ((b1, blk [.int .i64 a1.Op, .int .i64 a1.D, .int .i64 a1.A, .int .i64 a1.B, .int .i64 a1.Imm, .string a1.Sym] 43) :: (LXP0_0_2 ++ (LXP0_1_6 ++ (LXP0_2_10 ++ (LXP0_6_18 ++ (LXP0_8_22 ++ [])))))))) w := hS.re (.takeb (.there _ (.thereb _ (.hereb _ _))) (.take (.here _ _) (.takeb (.hereb _ _) (.take (.here _ _) (.take (.here _ _) (.take (.here _ _) (.take (.here _ _) (.take (.here _ _) (.nil _)))))))))
   refine o_store hS (hm := Upd.here _) (hi := by exact sz_S_uint32) (h1 := (h98).one) (hc := (h98).cell) (ho := by exact Nat.le_of_ble_eq_true rfl) (h := ?_)
   clear hS; intro w hS
   refine n_anyN ?_
   refine c_seq ?_
   refine c_region ?_
   refine oy hS y_move ?_
   iterate 2 (refine oy hS y_assign ?_)
   refine n_thenN ?_
   obtain rfl := Option.some.inj hF
   refine wp_ret (r_ret (vs := [.int .u32 0, .int .i64 0]) (L' := ((b0_, blk [vP0_0_1, vP0_1_5, vP0_2_9, .int .i64 a0.Taken, v96, .int .i64 a0.PC, vP0_6_17, .int .i64 a0.Stop, vP0_8_21, .int .i64 a0.Jump, .int .i64 a0.Delay] 27) :: (LXP0_0_2 ++ (LXP0_1_6 ++ (LXP0_2_10 ++ (LX97 ++ (LXP0_6_18 ++ (LXP0_8_22 ++ [])))))))) (hS.re (.takeb (.hereb _ _) (.take (.there _ (.thereb _ (.here _ _))) (.take (.there _ (.thereb _ (.here _ _))) (.take (.there _ (.thereb _ (.here _ _))) (.take (.here _ _) (.take (.thereb _ (.here _ _)) (.take (.thereb _ (.here _ _)) (.nil _))))))))) (show resAll _ _ _ [.tmp 8, .tmp 9] _ from ⟨res_tmp, res_tmp, trivial⟩) rfl ⟨_, rfl, (by first | rfl | simp only [List.append_assoc, List.cons_append, List.nil_append, List.append_nil]), ⟨_, _, _, _, _, _, _, _, _, _, _, _, rfl, hP0_0_3, hP0_1_7, hP0_2_11, h98, hP0_6_19, hP0_8_23⟩⟩)
 replace hF := bf c92 hF
 refine c_seq ?_
 refine c_region ?_
 refine oy hS (y_field fa_api_Ins_0) ?_
 refine oy hS (y_load (fun w hS => hS.own (mH)) Try.underlying3 rfl rfl) ?_
 refine oy hS y_bin ?_
 refine oy hS y_assign ?_
 refine n_thenN ?_
 refine c_if (ht := fun c101 => ?_) (hf := fun c101 => ?_)
 · replace hF := bt c101 hF
   refine c_seq ?_
   refine c_region ?_
   iterate 2 (refine oy hS y_assign ?_)
   refine n_thenN ?_
   obtain rfl := Option.some.inj hF
   refine wp_ret (r_ret (vs := [.int .u32 0, .int .i64 1]) (L' := ((b0_, blk [vP0_0_1, vP0_1_5, vP0_2_9, .int .i64 a0.Taken, vP0_4_13, .int .i64 a0.PC, vP0_6_17, .int .i64 a0.Stop, vP0_8_21, .int .i64 a0.Jump, .int .i64 a0.Delay] 27) :: (LXP0_0_2 ++ (LXP0_1_6 ++ (LXP0_2_10 ++ (LXP0_4_14 ++ (LXP0_6_18 ++ (LXP0_8_22 ++ [])))))))) (hS.re (.takeb (.thereb _ (.hereb _ _)) (.take (.thereb _ (.here _ _)) (.take (.thereb _ (.here _ _)) (.take (.thereb _ (.here _ _)) (.take (.thereb _ (.here _ _)) (.take (.thereb _ (.here _ _)) (.take (.thereb _ (.here _ _)) (.nil _))))))))) (show resAll _ _ _ [.tmp 8, .tmp 9] _ from ⟨res_tmp, res_tmp, trivial⟩) rfl ⟨_, rfl, (by first | rfl | simp only [List.append_assoc, List.cons_append, List.nil_append, List.append_nil]), ⟨_, _, _, _, _, _, _, _, _, _, _, _, rfl, hP0_0_3, hP0_1_7, hP0_2_11, hP0_4_15, hP0_6_19, hP0_8_23⟩⟩)
 replace hF := bf c101 hF
 refine wp_skip ?_
 refine c_seq ?_
 refine c_region ?_
 refine oy hS y_move ?_
 iterate 2 (refine oy hS y_assign ?_)
 refine n_thenN ?_
 obtain rfl := Option.some.inj hF
 refine wp_ret (r_ret (vs := [.int .u32 0, .int .i64 0]) (L' := ((b0_, blk [vP0_0_1, vP0_1_5, vP0_2_9, .int .i64 a0.Taken, vP0_4_13, .int .i64 a0.PC, vP0_6_17, .int .i64 a0.Stop, vP0_8_21, .int .i64 a0.Jump, .int .i64 a0.Delay] 27) :: (LXP0_0_2 ++ (LXP0_1_6 ++ (LXP0_2_10 ++ (LXP0_4_14 ++ (LXP0_6_18 ++ (LXP0_8_22 ++ [])))))))) (hS.re (.takeb (.thereb _ (.hereb _ _)) (.take (.thereb _ (.here _ _)) (.take (.thereb _ (.here _ _)) (.take (.thereb _ (.here _ _)) (.take (.thereb _ (.here _ _)) (.take (.thereb _ (.here _ _)) (.take (.thereb _ (.here _ _)) (.nil _))))))))) (show resAll _ _ _ [.tmp 8, .tmp 9] _ from ⟨res_tmp, res_tmp, trivial⟩) rfl ⟨_, rfl, (by first | rfl | simp only [List.append_assoc, List.cons_append, List.nil_append, List.append_nil]), ⟨_, _, _, _, _, _, _, _, _, _, _, _, rfl, hP0_0_3, hP0_1_7, hP0_2_11, hP0_4_15, hP0_6_19, hP0_8_23⟩⟩)
theorem w_seq_Act {g : Frag} {a0 : T_State} {b0_ : Nat} {LB0_ : Own} {a1 : T_Ins} {a2 : Int} {a3 : Int} {r : (T_State × Int × Int)} (h0 : Bx_State b0_ a0 LB0_) (hF : seq_Act a0 a1 a2 a3 = some r) : LC Try.prog 60 #[.pointer (some ⟨b0_, 0, none⟩), .agg #[.int .i64 a1.Op, .int .i64 a1.D, .int .i64 a1.A, .int .i64 a1.B, .int .i64 a1.Imm, .string a1.Sym], .int .u32 a2, .int .u32 a3] g LB0_ (fun v L => ∃ (LB' : Own), v = .tuple #[.int .u32 r.2.1, .int .i64 r.2.2] ∧ L = (LB' ++ []) ∧ Bx_State b0_ r.1 LB') := w_seq_Act_ h0 hF

noncomputable def seq_Turn_k1 (a0 : T_State) (a1 : T_Ins) (a3 : Int) : Bool → Option (T_State × Int × Bool × Int) := fun x7 => bif x7 then some (a0, a1.Imm, true, 0) else bif decide (a1.Op = 31) then bif decide (16 ≤ (a0.Stack.length : Int)) then some (a0, 0, false, 4) else (app' a0.Stack ([a3] : List Int)).bind fun zs26 => some ((⟨a0.Regs, a0.Mem, a0.In_, a0.Taken, a0.Out, a0.PC, zs26, a0.Stop, a0.Fly, a0.Jump, a0.Delay⟩ : T_State), a1.Imm, true, 0) else bif decide (a1.Op = 32) then bif decide ((IntKind.i64.wrap ((a0.Stack.length : Int) - 1)) < 0) then some (a0, 0, false, 4) else (at' a0.Stack (IntKind.i64.wrap ((a0.Stack.length : Int) - 1))).bind fun x29 => (upto' a0.Stack (IntKind.i64.wrap ((a0.Stack.length : Int) - 1))).bind fun zs38 => some ((⟨a0.Regs, a0.Mem, a0.In_, a0.Taken, a0.Out, a0.PC, zs38, a0.Stop, a0.Fly, a0.Jump, a0.Delay⟩ : T_State), x29, true, 0) else some (a0, 0, false, 0)
noncomputable def seq_Turn (a0 : T_State) (a1 : T_Ins) (a2 : Int) (a3 : Int) : Option (T_State × Int × Bool × Int) :=
  cut (σ := Bool) (bif decide (a1.Op = 28) then some (.next (decide (a1.Op = 28))) else bif decide (a1.Op = 29) then bif decide (a2 = 0) then some (.next (decide (a2 = 0))) else bif decide (a1.Op = 30) then some (.next (decide (a2 ≠ 0))) else some (.next false) else bif decide (a1.Op = 30) then some (.next (decide (a2 ≠ 0))) else some (.next false)) (seq_Turn_k1 a0 a1 a3)
set_option maxHeartbeats 2000000 in
theorem w_seq_Turn_ {g : Frag} {a0 : T_State} {b0_ : Nat} {LB0_ : Own} {a1 : T_Ins} {a2 : Int} {a3 : Int} {r : (T_State × Int × Bool × Int)} (h0 : Bx_State b0_ a0 LB0_) (hF : seq_Turn a0 a1 a2 a3 = some r) : LC Try.prog 61 #[.pointer (some ⟨b0_, 0, none⟩), .agg #[.int .i64 a1.Op, .int .i64 a1.D, .int .i64 a1.A, .int .i64 a1.B, .int .i64 a1.Imm, .string a1.Sym], .int .u32 a2, .int .i64 a3] g LB0_ (fun v L => ∃ (LB' : Own), v = .tuple #[.int .i64 r.2.1, .bool r.2.2.1, .int .i64 r.2.2.2] ∧ L = (LB' ++ []) ∧ Bx_State b0_ r.1 LB') := by
 obtain ⟨vP0_0_1, vP0_1_5, vP0_2_9, vP0_4_13, vP0_6_17, vP0_8_21, LXP0_0_2, LXP0_1_6, LXP0_2_10, LXP0_4_14, LXP0_6_18, LXP0_8_22, rfl, hP0_0_3, hP0_1_7, hP0_2_11, hP0_4_15, hP0_6_19, hP0_8_23⟩ := h0
 unfold seq_Turn at hF
 refine lc_body (k := 83) (av := [.pointer (some ⟨b0_, 0, none⟩), .agg #[.int .i64 a1.Op, .int .i64 a1.D, .int .i64 a1.A, .int .i64 a1.B, .int .i64 a1.Imm, .string a1.Sym], .int .u32 a2, .int .i64 a3]) Try.func61 rfl rfl (h := fun W hS => ?_)
 refine c_seq ?_
 refine c_region ?_
 refine o_boxP (cl := [.int .i64 a1.Op, .int .i64 a1.D, .int .i64 a1.A, .int .i64 a1.B, .int .i64 a1.Imm, .string a1.Sym]) rfl hS ?_
 clear hS; intro b1 w hS
 iterate 3 (refine oy hS y_assign ?_)
 refine n_thenN ?_
 refine c_seq ?_
 refine c_block ?_
 obtain ⟨z8, hF, hK9⟩ := cut_step hF
 refine c_cutP (fun a w' => ∃ (x7 : Bool), seq_Turn_k1 a0 a1 a3 x7 = some r ∧ (∃ s : Nat → Value, a = Ac (.lit 83 [.pointer (some ⟨b0_, 0, none⟩), s 1, s 2, .int .i64 a3, s 4, .pointer (some ⟨b1, 0, none⟩), s 6, s 7, s 8, s 9, s 10, s 11, .bool x7, s 13, s 14, s 15, s 16, s 17, s 18, s 19, s 20, s 21, s 22, s 23, s 24, s 25, s 26, s 27, s 28, s 29, s 30, s 31, s 32, s 33, s 34, s 35, s 36, s 37, s 38, s 39, s 40, s 41, s 42, s 43, s 44, s 45, s 46, s 47, s 48, s 49, s 50, s 51, s 52, s 53, s 54, s 55, s 56, s 57, s 58, s 59, s 60, s 61, s 62, s 63, s 64, s 65, s 66, s 67, s 68, s 69, s 70, s 71, s 72, s 73, s 74, s 75, s 76, s 77, s 78, s 79, s 80, s 81, s 82])) ∧ St W g (((b0_, blk [vP0_0_1, vP0_1_5, vP0_2_9, .int .i64 a0.Taken, vP0_4_13, .int .i64 a0.PC, vP0_6_17, .int .i64 a0.Stop, vP0_8_21, .int .i64 a0.Jump, .int .i64 a0.Delay] 27) :: (LXP0_0_2 ++ (LXP0_1_6 ++ (LXP0_2_10 ++ (LXP0_4_14 ++ (LXP0_6_18 ++ (LXP0_8_22 ++ [])))))))) ((b0_, blk [vP0_0_1, vP0_1_5, vP0_2_9, .int .i64 a0.Taken, vP0_4_13, .int .i64 a0.PC, vP0_6_17, .int .i64 a0.Stop, vP0_8_21, .int .i64 a0.Jump, .int .i64 a0.Delay] 27) :: ((b1, blk [.int .i64 a1.Op, .int .i64 a1.D, .int .i64 a1.A, .int .i64 a1.B, .int .i64 a1.Imm, .string a1.Sym] 43) :: (LXP0_0_2 ++ (LXP0_1_6 ++ (LXP0_2_10 ++ (LXP0_4_14 ++ (LXP0_6_18 ++ (LXP0_8_22 ++ [])))))))) w') ?_ ?_
 · skip
   refine c_seq ?_
   refine c_region ?_
   refine oy hS (y_field fa_api_Ins_0) ?_
   refine oy hS (y_load (fun w hS => hS.own (mH)) Try.underlying3 rfl rfl) ?_
   refine oy hS y_bin ?_
   refine oy hS y_assign ?_
   refine n_thenN ?_
   refine c_if (ht := fun c10 => ?_) (hf := fun c10 => ?_)
   · replace hF := bt c10 hF
     refine wp_skip ?_
     obtain rfl := Option.some.inj hF
     change ∃ _, _
     exact ⟨decide (a1.Op = 28), hK9, mk_ex, (hS.re (.takeb (.thereb _ (.hereb _ _)) (.takeb (.hereb _ _) (.take (.here _ _) (.take (.here _ _) (.take (.here _ _) (.take (.here _ _) (.take (.here _ _) (.take (.here _ _) (.nil _))))))))))⟩
   replace hF := bf c10 hF
   refine c_seq ?_
   refine c_region ?_
   refine oy hS (y_field fa_api_Ins_0) ?_
   refine oy hS (y_load (fun w hS => hS.own (mH)) Try.underlying3 rfl rfl) ?_
   refine oy hS y_bin ?_
   refine o_split (ht := fun c11 => ?_) (hf := fun c11 => ?_)
   · replace hF := bt c11 hF
     refine o_gu rfl rfl rfl ?_
     refine oy hS y_move ?_
     refine o_gu rfl rfl rfl ?_
     refine oy hS y_bin ?_
     refine oy hS y_pickT ?_
     refine oy hS y_assign ?_
     refine n_thenN ?_
     refine c_if (ht := fun c12 => ?_) (hf := fun c12 => ?_)
     · replace hF := bt c12 hF
       refine wp_skip ?_
       obtain rfl := Option.some.inj hF
       change ∃ _, _
       exact ⟨decide (a2 = 0), hK9, mk_ex, (hS.re (.takeb (.thereb _ (.hereb _ _)) (.takeb (.hereb _ _) (.take (.here _ _) (.take (.here _ _) (.take (.here _ _) (.take (.here _ _) (.take (.here _ _) (.take (.here _ _) (.nil _))))))))))⟩
     replace hF := bf c12 hF
     refine c_region ?_
     refine oy hS (y_field fa_api_Ins_0) ?_
     refine oy hS (y_load (fun w hS => hS.own (mH)) Try.underlying3 rfl rfl) ?_
     refine oy hS y_bin ?_
     refine o_split (ht := fun c13 => ?_) (hf := fun c13 => ?_)
     · replace hF := bt c13 hF
       refine o_gu rfl rfl rfl ?_
       refine oy hS y_move ?_
       refine o_gu rfl rfl rfl ?_
       refine oy hS y_bin ?_
       refine oy hS y_pickT ?_
       refine oy hS y_assign ?_
       refine n_thenN ?_
       obtain rfl := Option.some.inj hF
       change ∃ _, _
       exact ⟨decide (a2 ≠ 0), hK9, mk_ex, (hS.re (.takeb (.thereb _ (.hereb _ _)) (.takeb (.hereb _ _) (.take (.here _ _) (.take (.here _ _) (.take (.here _ _) (.take (.here _ _) (.take (.here _ _) (.take (.here _ _) (.nil _))))))))))⟩
     replace hF := bf c13 hF
     iterate 2 (refine o_sk rfl rfl ?_)
     refine oy hS y_pickF ?_
     refine oy hS y_assign ?_
     refine n_thenN ?_
     obtain rfl := Option.some.inj hF
     change ∃ _, _
     exact ⟨false, hK9, mk_ex, (hS.re (.takeb (.thereb _ (.hereb _ _)) (.takeb (.hereb _ _) (.take (.here _ _) (.take (.here _ _) (.take (.here _ _) (.take (.here _ _) (.take (.here _ _) (.take (.here _ _) (.nil _))))))))))⟩
   replace hF := bf c11 hF
   iterate 2 (refine o_sk rfl rfl ?_)
   refine oy hS y_pickF ?_
   refine oy hS y_assign ?_
   refine n_thenN ?_
   refine c_if_false (h := ?_)
   refine c_region ?_
   refine oy hS (y_field fa_api_Ins_0) ?_
   refine oy hS (y_load (fun w hS => hS.own (mH)) Try.underlying3 rfl rfl) ?_
   refine oy hS y_bin ?_
   refine o_split (ht := fun c14 => ?_) (hf := fun c14 => ?_)
   · replace hF := bt c14 hF
     refine o_gu rfl rfl rfl ?_
     refine oy hS y_move ?_
     refine o_gu rfl rfl rfl ?_
     refine oy hS y_bin ?_
     refine oy hS y_pickT ?_
     refine oy hS y_assign ?_
     refine n_thenN ?_
     obtain rfl := Option.some.inj hF
     change ∃ _, _
     exact ⟨decide (a2 ≠ 0), hK9, mk_ex, (hS.re (.takeb (.thereb _ (.hereb _ _)) (.takeb (.hereb _ _) (.take (.here _ _) (.take (.here _ _) (.take (.here _ _) (.take (.here _ _) (.take (.here _ _) (.take (.here _ _) (.nil _))))))))))⟩
   replace hF := bf c14 hF
   iterate 2 (refine o_sk rfl rfl ?_)
   refine oy hS y_pickF ?_
   refine oy hS y_assign ?_
   refine n_thenN ?_
   obtain rfl := Option.some.inj hF
   change ∃ _, _
   exact ⟨false, hK9, mk_ex, (hS.re (.takeb (.thereb _ (.hereb _ _)) (.takeb (.hereb _ _) (.take (.here _ _) (.take (.here _ _) (.take (.here _ _) (.take (.here _ _) (.take (.here _ _) (.take (.here _ _) (.nil _))))))))))⟩
 rintro a w ⟨x7, hF, ⟨s15, rfl⟩, hS⟩
 dsimp only [seq_Turn_k1] at hF
 refine c_if (ht := fun c16 => ?_) (hf := fun c16 => ?_)
 · replace hF := bt c16 hF
   refine c_seq ?_
   refine c_region ?_
   refine oy hS (y_field fa_api_Ins_4) ?_
   refine oy hS (y_load (fun w hS => hS.own (mC (mH))) Try.underlying3 rfl rfl) ?_
   iterate 3 (refine oy hS y_assign ?_)
   refine n_thenN ?_
   obtain rfl := Option.some.inj hF
   refine wp_ret (r_ret (vs := [.int .i64 a1.Imm, .bool true, .int .i64 0]) (L' := ((b0_, blk [vP0_0_1, vP0_1_5, vP0_2_9, .int .i64 a0.Taken, vP0_4_13, .int .i64 a0.PC, vP0_6_17, .int .i64 a0.Stop, vP0_8_21, .int .i64 a0.Jump, .int .i64 a0.Delay] 27) :: (LXP0_0_2 ++ (LXP0_1_6 ++ (LXP0_2_10 ++ (LXP0_4_14 ++ (LXP0_6_18 ++ (LXP0_8_22 ++ [])))))))) (hS.re (.takeb (.hereb _ _) (.take (.thereb _ (.here _ _)) (.take (.thereb _ (.here _ _)) (.take (.thereb _ (.here _ _)) (.take (.thereb _ (.here _ _)) (.take (.thereb _ (.here _ _)) (.take (.thereb _ (.here _ _)) (.nil _))))))))) (show resAll _ _ _ [.tmp 8, .tmp 9, .tmp 10] _ from ⟨res_tmp, res_tmp, res_tmp, trivial⟩) rfl ⟨_, rfl, (by first | rfl | simp only [List.append_assoc, List.cons_append, List.nil_append, List.append_nil]), ⟨_, _, _, _, _, _, _, _, _, _, _, _, rfl, hP0_0_3, hP0_1_7, hP0_2_11, hP0_4_15, hP0_6_19, hP0_8_23⟩⟩)
 replace hF := bf c16 hF
 refine c_seq ?_
 refine c_region ?_
 refine oy hS (y_field fa_api_Ins_0) ?_
 refine oy hS (y_load (fun w hS => hS.own (mC (mH))) Try.underlying3 rfl rfl) ?_
 refine oy hS y_bin ?_
 refine oy hS y_assign ?_
 refine n_thenN ?_
 refine c_if (ht := fun c17 => ?_) (hf := fun c17 => ?_)
 · replace hF := bt c17 hF
   iterate 2 (refine c_seq ?_)
   refine c_region ?_
   refine oy hS y_move ?_
   refine oy hS y_nilCheck ?_
   refine oy hS (y_field fa_api_State_6) ?_
   refine oy hS (y_load (fun w hS => hS.own (mH)) Try.underlying24 rfl rfl) ?_
   refine oy hS (y_lenO hP0_6_19 Try.underlying24) ?_
   refine oy hS y_bin ?_
   refine n_thenN ?_
   refine c_if (ht := fun c18 => ?_) (hf := fun c18 => ?_)
   · replace hF := bt c18 hF
     refine c_seq ?_
     refine c_region ?_
     iterate 3 (refine oy hS y_assign ?_)
     refine n_thenN ?_
     obtain rfl := Option.some.inj hF
     refine wp_ret (r_ret (vs := [.int .i64 0, .bool false, .int .i64 4]) (L' := ((b0_, blk [vP0_0_1, vP0_1_5, vP0_2_9, .int .i64 a0.Taken, vP0_4_13, .int .i64 a0.PC, vP0_6_17, .int .i64 a0.Stop, vP0_8_21, .int .i64 a0.Jump, .int .i64 a0.Delay] 27) :: (LXP0_0_2 ++ (LXP0_1_6 ++ (LXP0_2_10 ++ (LXP0_4_14 ++ (LXP0_6_18 ++ (LXP0_8_22 ++ [])))))))) (hS.re (.takeb (.hereb _ _) (.take (.thereb _ (.here _ _)) (.take (.thereb _ (.here _ _)) (.take (.thereb _ (.here _ _)) (.take (.thereb _ (.here _ _)) (.take (.thereb _ (.here _ _)) (.take (.thereb _ (.here _ _)) (.nil _))))))))) (show resAll _ _ _ [.tmp 8, .tmp 9, .tmp 10] _ from ⟨res_tmp, res_tmp, res_tmp, trivial⟩) rfl ⟨_, rfl, (by first | rfl | simp only [List.append_assoc, List.cons_append, List.nil_append, List.append_nil]), ⟨_, _, _, _, _, _, _, _, _, _, _, _, rfl, hP0_0_3, hP0_1_7, hP0_2_11, hP0_4_15, hP0_6_19, hP0_8_23⟩⟩)
   replace hF := bf c18 hF
   refine wp_skip ?_
   refine c_seq ?_
   refine c_region ?_
   iterate 2 (refine oy hS y_move ?_)
   refine oy hS y_nilCheck ?_
   refine oy hS (y_field fa_api_State_6) ?_
   refine oy hS (y_load (fun w hS => hS.own (mH)) Try.underlying24 rfl rfl) ?_
   refine oy hS y_move ?_
   refine o_buildT val_int ([a3] : List Int) hS el_int (fun _ => rfl) enc_len_int (by decide) rfl (by decide) (hp := rfl) (h := ?_)
   clear hS; intro b19 w hS h20
   have hS : St W g (((b0_, blk [vP0_0_1, vP0_1_5, vP0_2_9, .int .i64 a0.Taken, vP0_4_13, .int .i64 a0.PC, vP0_6_17, .int .i64 a0.Stop, vP0_8_21, .int .i64 a0.Jump, .int .i64 a0.Delay] 27) :: (LXP0_0_2 ++ (LXP0_1_6 ++ (LXP0_2_10 ++ (LXP0_4_14 ++ (LXP0_6_18 ++ (LXP0_8_22 ++ [])))))))) ([(b19, blk (([a3] : List Int).flatMap enc_int) 3)] ++ ((b0_, blk [vP0_0_1, vP0_1_5, vP0_2_9, .int .i64 a0.Taken, vP0_4_13, .int .i64 a0.PC, vP0_6_17, .int .i64 a0.Stop, vP0_8_21, .int .i64 a0.Jump, .int .i64 a0.Delay] 27) :: ((b1, blk [.int .i64 a1.Op, .int .i64 a1.D, .int .i64 a1.A, .int .i64 a1.B, .int .i64 a1.Imm, .string a1.Sym] 43) :: (LXP0_0_2 ++ (LXP0_1_6 ++ (LXP0_2_10 ++ (LXP0_4_14 ++ (LXP0_6_18 ++ (LXP0_8_22 ++ []))))))))) w := hS
   obtain ⟨zs26, hzs26, hF⟩ := ob hF
   have hS : St W g (((b0_, blk [vP0_0_1, vP0_1_5, vP0_2_9, .int .i64 a0.Taken, vP0_4_13, .int .i64 a0.PC, vP0_6_17, .int .i64 a0.Stop, vP0_8_21, .int .i64 a0.Jump, .int .i64 a0.Delay] 27) :: (LXP0_0_2 ++ (LXP0_1_6 ++ (LXP0_2_10 ++ (LXP0_4_14 ++ (LXP0_6_18 ++ (LXP0_8_22 ++ [])))))))) ([(b19, blk (([a3] : List Int).flatMap enc_int) 3)] ++ (LXP0_6_18 ++ ((b0_, blk [vP0_0_1, vP0_1_5, vP0_2_9, .int .i64 a0.Taken, vP0_4_13, .int .i64 a0.PC, vP0_6_17, .int .i64 a0.Stop, vP0_8_21, .int .i64 a0.Jump, .int .i64 a0.Delay] 27) :: ((b1, blk [.int .i64 a1.Op, .int .i64 a1.D, .int .i64 a1.A, .int .i64 a1.B, .int .i64 a1.Imm, .string a1.Sym] 43) :: (LXP0_0_2 ++ (LXP0_1_6 ++ (LXP0_2_10 ++ (LXP0_4_14 ++ (LXP0_8_22 ++ []))))))))) w := hS.re (.take (.here _ _) (.take (.thereb _ (.thereb _ (.there _ (.there _ (.there _ (.there _ (.here _ _))))))) (.takeb (.hereb _ _) (.takeb (.hereb _ _) (.take (.here _ _) (.take (.here _ _) (.take (.here _ _) (.take (.here _ _) (.take (.here _ _) (.nil _))))))))))
   refine o_appPn (ys := ([a3] : List Int)) (LX := LXP0_6_18) hzs26 hS el_int hP0_6_19 rfl enc_len_int (enc_ones_int _) (by decide) ?_
   clear hS; intro v22 LX23 w h24 hS
   refine oy hS y_nilCheck ?_
   refine oy hS (y_field fa_api_State_6) ?_
   have hS : St W g (((b0_, blk [vP0_0_1, vP0_1_5, vP0_2_9, .int .i64 a0.Taken, vP0_4_13, .int .i64 a0.PC, vP0_6_17, .int .i64 a0.Stop, vP0_8_21, .int .i64 a0.Jump, .int .i64 a0.Delay] 27) :: (LXP0_0_2 ++ (LXP0_1_6 ++ (LXP0_2_10 ++ (LXP0_4_14 ++ (LXP0_6_18 ++ (LXP0_8_22 ++ [])))))))) ((b0_, blk [vP0_0_1, vP0_1_5, vP0_2_9, .int .i64 a0.Taken, vP0_4_13, .int .i64 a0.PC, vP0_6_17, .int .i64 a0.Stop, vP0_8_21, .int .i64 a0.Jump, .int .i64 a0.Delay] 27) :: (LX23 ++ ((b1, blk [.int .i64 a1.Op, .int .i64 a1.D, .int .i64 a1.A, .int .i64 a1.B, .int .i64 a1.Imm, .string a1.Sym] 43) :: (LXP0_0_2 ++ (LXP0_1_6 ++ (LXP0_2_10 ++ (LXP0_4_14 ++ (LXP0_8_22 ++ [])))))))) w := hS.re (.takeb (.there _ (.hereb _ _)) (.take (.here _ _) (.takeb (.hereb _ _) (.take (.here _ _) (.take (.here _ _) (.take (.here _ _) (.take (.here _ _) (.take (.here _ _) (.nil _)))))))))
   refine o_store hS (hm := Upd.here _) (hi := by exact sz_S_int) (h1 := (h24).one) (hc := (h24).cell) (ho := by exact Nat.le_of_ble_eq_true rfl) (h := ?_)
   clear hS; intro w hS
   refine n_thenN ?_
   refine c_seq ?_
   refine c_region ?_
   refine oy hS (y_field fa_api_Ins_4) ?_
   refine oy hS (y_load (fun w hS => hS.own (mC (mB (mH)))) Try.underlying3 rfl rfl) ?_
   iterate 3 (refine oy hS y_assign ?_)
   refine n_thenN ?_
   obtain rfl := Option.some.inj hF
   refine wp_ret (r_ret (vs := [.int .i64 a1.Imm, .bool true, .int .i64 0]) (L' := ((b0_, blk [vP0_0_1, vP0_1_5, vP0_2_9, .int .i64 a0.Taken, vP0_4_13, .int .i64 a0.PC, v22, .int .i64 a0.Stop, vP0_8_21, .int .i64 a0.Jump, .int .i64 a0.Delay] 27) :: (LXP0_0_2 ++ (LXP0_1_6 ++ (LXP0_2_10 ++ (LXP0_4_14 ++ (LX23 ++ (LXP0_8_22 ++ [])))))))) (hS.re (.takeb (.hereb _ _) (.take (.there _ (.thereb _ (.here _ _))) (.take (.there _ (.thereb _ (.here _ _))) (.take (.there _ (.thereb _ (.here _ _))) (.take (.there _ (.thereb _ (.here _ _))) (.take (.here _ _) (.take (.thereb _ (.here _ _)) (.nil _))))))))) (show resAll _ _ _ [.tmp 8, .tmp 9, .tmp 10] _ from ⟨res_tmp, res_tmp, res_tmp, trivial⟩) rfl ⟨_, rfl, (by first | rfl | simp only [List.append_assoc, List.cons_append, List.nil_append, List.append_nil]), ⟨_, _, _, _, _, _, _, _, _, _, _, _, rfl, hP0_0_3, hP0_1_7, hP0_2_11, hP0_4_15, h24, hP0_8_23⟩⟩)
 replace hF := bf c17 hF
 refine c_seq ?_
 refine c_region ?_
 refine oy hS (y_field fa_api_Ins_0) ?_
 refine oy hS (y_load (fun w hS => hS.own (mC (mH))) Try.underlying3 rfl rfl) ?_
 refine oy hS y_bin ?_
 refine oy hS y_assign ?_
 refine n_thenN ?_
 refine c_if (ht := fun c27 => ?_) (hf := fun c27 => ?_)
 · replace hF := bt c27 hF
   refine c_seq ?_
   refine c_region ?_
   refine oy hS y_move ?_
   refine oy hS y_nilCheck ?_
   refine oy hS (y_field fa_api_State_6) ?_
   refine oy hS (y_load (fun w hS => hS.own (mH)) Try.underlying24 rfl rfl) ?_
   refine oy hS (y_lenO hP0_6_19 Try.underlying24) ?_
   refine oy hS y_bin ?_
   refine oy hS y_assign ?_
   refine n_thenN ?_
   iterate 2 (refine c_seq ?_)
   refine c_region ?_
   refine oy hS y_move ?_
   refine oy hS y_bin ?_
   refine n_thenN ?_
   refine c_if (ht := fun c28 => ?_) (hf := fun c28 => ?_)
   · replace hF := bt c28 hF
     refine c_seq ?_
     refine c_region ?_
     iterate 3 (refine oy hS y_assign ?_)
     refine n_thenN ?_
     obtain rfl := Option.some.inj hF
     refine wp_ret (r_ret (vs := [.int .i64 0, .bool false, .int .i64 4]) (L' := ((b0_, blk [vP0_0_1, vP0_1_5, vP0_2_9, .int .i64 a0.Taken, vP0_4_13, .int .i64 a0.PC, vP0_6_17, .int .i64 a0.Stop, vP0_8_21, .int .i64 a0.Jump, .int .i64 a0.Delay] 27) :: (LXP0_0_2 ++ (LXP0_1_6 ++ (LXP0_2_10 ++ (LXP0_4_14 ++ (LXP0_6_18 ++ (LXP0_8_22 ++ [])))))))) (hS.re (.takeb (.hereb _ _) (.take (.thereb _ (.here _ _)) (.take (.thereb _ (.here _ _)) (.take (.thereb _ (.here _ _)) (.take (.thereb _ (.here _ _)) (.take (.thereb _ (.here _ _)) (.take (.thereb _ (.here _ _)) (.nil _))))))))) (show resAll _ _ _ [.tmp 8, .tmp 9, .tmp 10] _ from ⟨res_tmp, res_tmp, res_tmp, trivial⟩) rfl ⟨_, rfl, (by first | rfl | simp only [List.append_assoc, List.cons_append, List.nil_append, List.append_nil]), ⟨_, _, _, _, _, _, _, _, _, _, _, _, rfl, hP0_0_3, hP0_1_7, hP0_2_11, hP0_4_15, hP0_6_19, hP0_8_23⟩⟩)
   replace hF := bf c28 hF
   refine wp_skip ?_
   refine c_seq ?_
   refine c_region ?_
   refine oy hS y_move ?_
   refine oy hS y_nilCheck ?_
   refine oy hS (y_field fa_api_State_6) ?_
   refine oy hS (y_load (fun w hS => hS.own (mH)) Try.underlying24 rfl rfl) ?_
   refine oy hS y_move ?_
   obtain ⟨x29, hx29, hF⟩ := ob hF
   obtain ⟨b30, c31, cl32, hv33, ha34, hb35, hl36, hc37⟩ := OwT.at hx29 hP0_6_19 enc_len_int
   refine oy hS (y_index hv33 ha34 hb35 Try.underlying24 el_int.size) ?_
   refine oy hS (y_load (fun w hS => hS.own (mC (mC (mB (mB (mB (mB (mA (mX hl36))))))))) Try.underlying3 rfl (hc37 0 _ rfl)) ?_
   refine oy hS y_assign ?_
   refine n_thenN ?_
   refine c_seq ?_
   refine c_region ?_
   iterate 2 (refine oy hS y_move ?_)
   refine oy hS y_nilCheck ?_
   refine oy hS (y_field fa_api_State_6) ?_
   refine oy hS (y_load (fun w hS => hS.own (mH)) Try.underlying24 rfl rfl) ?_
   refine oy hS y_move ?_
   obtain ⟨zs38, hzs38, hF⟩ := ob hF
   refine o_uptoP hzs38 hP0_6_19 enc_len_int Try.underlying24 el_int.size ?_
   intro v39 h40
   refine oy hS y_nilCheck ?_
   refine oy hS (y_field fa_api_State_6) ?_
   refine o_store hS (hm := Upd.here _) (hi := by exact sz_S_int) (h1 := (h40).one) (hc := (h40).cell) (ho := by exact Nat.le_of_ble_eq_true rfl) (h := ?_)
   clear hS; intro w hS
   refine n_thenN ?_
   refine c_seq ?_
   refine c_region ?_
   refine oy hS y_move ?_
   iterate 3 (refine oy hS y_assign ?_)
   refine n_thenN ?_
   obtain rfl := Option.some.inj hF
   refine wp_ret (r_ret (vs := [.int .i64 x29, .bool true, .int .i64 0]) (L' := ((b0_, blk [vP0_0_1, vP0_1_5, vP0_2_9, .int .i64 a0.Taken, vP0_4_13, .int .i64 a0.PC, v39, .int .i64 a0.Stop, vP0_8_21, .int .i64 a0.Jump, .int .i64 a0.Delay] 27) :: (LXP0_0_2 ++ (LXP0_1_6 ++ (LXP0_2_10 ++ (LXP0_4_14 ++ (LXP0_6_18 ++ (LXP0_8_22 ++ [])))))))) (hS.re (.takeb (.hereb _ _) (.take (.thereb _ (.here _ _)) (.take (.thereb _ (.here _ _)) (.take (.thereb _ (.here _ _)) (.take (.thereb _ (.here _ _)) (.take (.thereb _ (.here _ _)) (.take (.thereb _ (.here _ _)) (.nil _))))))))) (show resAll _ _ _ [.tmp 8, .tmp 9, .tmp 10] _ from ⟨res_tmp, res_tmp, res_tmp, trivial⟩) rfl ⟨_, rfl, (by first | rfl | simp only [List.append_assoc, List.cons_append, List.nil_append, List.append_nil]), ⟨_, _, _, _, _, _, _, _, _, _, _, _, rfl, hP0_0_3, hP0_1_7, hP0_2_11, hP0_4_15, h40, hP0_8_23⟩⟩)
 replace hF := bf c27 hF
 refine wp_skip ?_
 refine c_seq ?_
 refine c_region ?_
 iterate 3 (refine oy hS y_assign ?_)
 refine n_thenN ?_
 obtain rfl := Option.some.inj hF
 refine wp_ret (r_ret (vs := [.int .i64 0, .bool false, .int .i64 0]) (L' := ((b0_, blk [vP0_0_1, vP0_1_5, vP0_2_9, .int .i64 a0.Taken, vP0_4_13, .int .i64 a0.PC, vP0_6_17, .int .i64 a0.Stop, vP0_8_21, .int .i64 a0.Jump, .int .i64 a0.Delay] 27) :: (LXP0_0_2 ++ (LXP0_1_6 ++ (LXP0_2_10 ++ (LXP0_4_14 ++ (LXP0_6_18 ++ (LXP0_8_22 ++ [])))))))) (hS.re (.takeb (.hereb _ _) (.take (.thereb _ (.here _ _)) (.take (.thereb _ (.here _ _)) (.take (.thereb _ (.here _ _)) (.take (.thereb _ (.here _ _)) (.take (.thereb _ (.here _ _)) (.take (.thereb _ (.here _ _)) (.nil _))))))))) (show resAll _ _ _ [.tmp 8, .tmp 9, .tmp 10] _ from ⟨res_tmp, res_tmp, res_tmp, trivial⟩) rfl ⟨_, rfl, (by first | rfl | simp only [List.append_assoc, List.cons_append, List.nil_append, List.append_nil]), ⟨_, _, _, _, _, _, _, _, _, _, _, _, rfl, hP0_0_3, hP0_1_7, hP0_2_11, hP0_4_15, hP0_6_19, hP0_8_23⟩⟩)
theorem w_seq_Turn {g : Frag} {a0 : T_State} {b0_ : Nat} {LB0_ : Own} {a1 : T_Ins} {a2 : Int} {a3 : Int} {r : (T_State × Int × Bool × Int)} (h0 : Bx_State b0_ a0 LB0_) (hF : seq_Turn a0 a1 a2 a3 = some r) : LC Try.prog 61 #[.pointer (some ⟨b0_, 0, none⟩), .agg #[.int .i64 a1.Op, .int .i64 a1.D, .int .i64 a1.A, .int .i64 a1.B, .int .i64 a1.Imm, .string a1.Sym], .int .u32 a2, .int .i64 a3] g LB0_ (fun v L => ∃ (LB' : Own), v = .tuple #[.int .i64 r.2.1, .bool r.2.2.1, .int .i64 r.2.2.2] ∧ L = (LB' ++ []) ∧ Bx_State b0_ r.1 LB') := w_seq_Turn_ h0 hF

noncomputable def seq_step_k1 (x2 : T_Ins) (r33 : (T_State × Int × Int)) : (Int × Int × (List Int) × (List Int) × (List Int) × Int × (List Int) × Int × (List Int) × Int × (List T_Write) × Int × Int) → Option T_State := fun (x95, x96, x97, x102, x107, x112, x113, x118, x119, x124, x125, x130, x131) => bif decide (x95 ≠ 0) then some (⟨x97, x102, x107, x112, x113, x118, x119, x95, x125, x130, x131⟩ : T_State) else bif (isa_HasD (isa_Shape x2.Op)) then (set' x97 x2.D r33.2.1).bind fun zs176 => some (⟨zs176, x102, x107, x112, x113, x96, x119, x124, x125, x130, x131⟩ : T_State) else some (⟨x97, x102, x107, x112, x113, x96, x119, x124, x125, x130, x131⟩ : T_State)
noncomputable def seq_step (a0 : (List T_Ins)) (a1 : T_State) : Option T_State :=
  bif decide ((a0.length : Int) ≤ a1.PC) then some (⟨a1.Regs, a1.Mem, a1.In_, a1.Taken, a1.Out, a1.PC, a1.Stack, 5, a1.Fly, a1.Jump, a1.Delay⟩ : T_State) else (at' a0 a1.PC).bind fun x2 => (at' a1.Regs x2.A).bind fun x15 => (at' a1.Regs x2.B).bind fun x24 => (seq_Act a1 x2 x15 x24).bind fun r33 => cut (σ := (Int × Int × (List Int) × (List Int) × (List Int) × Int × (List Int) × Int × (List Int) × Int × (List T_Write) × Int × Int)) (bif decide (r33.2.2 = 0) then (seq_Turn r33.1 x2 x15 (IntKind.i64.wrap (r33.1.PC + 1))).bind fun r135 => bif r135.2.2.1 then some (.next (r135.2.2.2, r135.2.1, r135.1.Regs, r135.1.Mem, r135.1.In_, r135.1.Taken, r135.1.Out, r135.1.PC, r135.1.Stack, r135.1.Stop, r135.1.Fly, r135.1.Jump, r135.1.Delay)) else some (.next (r135.2.2.2, IntKind.i64.wrap (r33.1.PC + 1), r135.1.Regs, r135.1.Mem, r135.1.In_, r135.1.Taken, r135.1.Out, r135.1.PC, r135.1.Stack, r135.1.Stop, r135.1.Fly, r135.1.Jump, r135.1.Delay)) else some (.next (r33.2.2, IntKind.i64.wrap (r33.1.PC + 1), r33.1.Regs, r33.1.Mem, r33.1.In_, r33.1.Taken, r33.1.Out, r33.1.PC, r33.1.Stack, r33.1.Stop, r33.1.Fly, r33.1.Jump, r33.1.Delay))) (seq_step_k1 x2 r33)
set_option maxHeartbeats 2000000 in
theorem w_seq_step_ {g : Frag} {a0 : (List T_Ins)} {v0_ : Value} {a1 : T_State} {b1_ : Nat} {LB1_ : Own} {r : T_State} (h0 : SlT g enc_Ins 6 a0 v0_) (h1 : Bx_State b1_ a1 LB1_) (hF : seq_step a0 a1 = some r) : LC Try.prog 40 #[v0_, .pointer (some ⟨b1_, 0, none⟩)] g LB1_ (fun v L => ∃ (LB' : Own), v = .tuple #[] ∧ L = (LB' ++ []) ∧ Bx_State b1_ r LB') := by
 obtain ⟨vP1_0_1, vP1_1_5, vP1_2_9, vP1_4_13, vP1_6_17, vP1_8_21, LXP1_0_2, LXP1_1_6, LXP1_2_10, LXP1_4_14, LXP1_6_18, LXP1_8_22, rfl, hP1_0_3, hP1_1_7, hP1_2_11, hP1_4_15, hP1_6_19, hP1_8_23⟩ := h1
 unfold seq_step at hF
 refine lc_body (k := 93) (av := [v0_, .pointer (some ⟨b1_, 0, none⟩)]) Try.func40 rfl rfl (h := fun W hS => ?_)
 iterate 2 (refine c_seq ?_)
 refine c_region ?_
 refine oy hS y_move ?_
 refine oy hS y_nilCheck ?_
 refine oy hS (y_field fa_api_State_5) ?_
 refine oy hS (y_load (fun w hS => hS.own (mH)) Try.underlying3 rfl rfl) ?_
 refine oy hS y_move ?_
 refine oy hS (y_len h0 Try.underlying22) ?_
 refine oy hS y_bin ?_
 refine n_thenN ?_
 refine c_if (ht := fun c1 => ?_) (hf := fun c1 => ?_)
 · replace hF := bt c1 hF
   refine c_seq ?_
   refine c_region ?_
   refine oy hS y_move ?_
   refine oy hS y_nilCheck ?_
   refine oy hS (y_field fa_api_State_7) ?_
   refine o_store hS (hm := Upd.here _) (hi := by exact sz_int) (h1 := rfl) (hc := rfl) (ho := by exact Nat.le_of_ble_eq_true rfl) (h := ?_)
   clear hS; intro w hS
   refine n_thenN ?_
   obtain rfl := Option.some.inj hF
   refine wp_ret (r_ret (vs := []) (L' := ((b1_, blk [vP1_0_1, vP1_1_5, vP1_2_9, .int .i64 a1.Taken, vP1_4_13, .int .i64 a1.PC, vP1_6_17, .int .i64 5, vP1_8_21, .int .i64 a1.Jump, .int .i64 a1.Delay] 27) :: (LXP1_0_2 ++ (LXP1_1_6 ++ (LXP1_2_10 ++ (LXP1_4_14 ++ (LXP1_6_18 ++ (LXP1_8_22 ++ [])))))))) (hS.re (.takeb (.hereb _ _) (.take (.here _ _) (.take (.here _ _) (.take (.here _ _) (.take (.here _ _) (.take (.here _ _) (.take (.here _ _) (.nil _))))))))) (show resAll _ _ _ [] _ from trivial) rfl ⟨_, rfl, (by first | rfl | simp only [List.append_assoc, List.cons_append, List.nil_append, List.append_nil]), ⟨_, _, _, _, _, _, _, _, _, _, _, _, rfl, hP1_0_3, hP1_1_7, hP1_2_11, hP1_4_15, hP1_6_19, hP1_8_23⟩⟩)
 replace hF := bf c1 hF
 refine wp_skip ?_
 refine c_seq ?_
 refine c_region ?_
 iterate 2 (refine oy hS y_move ?_)
 refine oy hS y_nilCheck ?_
 refine oy hS (y_field fa_api_State_5) ?_
 refine oy hS (y_load (fun w hS => hS.own (mH)) Try.underlying3 rfl rfl) ?_
 obtain ⟨x2, hx2, hF⟩ := ob hF
 obtain ⟨b3, o4, c5, cs6, e7, fz8, hv9, ha10, hb11, hd12, hc13⟩ := SlT.at hx2 h0 enc_len_Ins
 refine oy hS (y_index hv9 ha10 hb11 Try.underlying22 el_api_Ins.size) ?_
 refine oy hS (y_loadN (vs := [.int .i64 x2.Op, .int .i64 x2.D, .int .i64 x2.A, .int .i64 x2.B, .int .i64 x2.Imm, .string x2.Sym]) (fun w hS => hS.block hd12) Try.underlying43 rfl (by exact sz_api_Ins) (fun j u hj => hc13 j u hj)) ?_
 refine o_allocP (cl := [.int .i64 0, .int .i64 0, .int .i64 0, .int .i64 0, .int .i64 0, .string ByteArray.empty]) zr_api_Ins rfl hS ?_
 clear hS; intro b14 w hS
 refine o_storeP (vs := [.int .i64 x2.Op, .int .i64 x2.D, .int .i64 x2.A, .int .i64 x2.B, .int .i64 x2.Imm, .string x2.Sym]) hS (hm := Upd.here _) (hi := by exact sz_api_Ins) (h1 := (onC rfl (onC rfl (onC rfl (onC rfl (onC rfl (onC rfl onN))))))) ?_
 clear hS; intro w hS
 refine n_thenN ?_
 refine c_seq ?_
 refine c_quiet (by kernel_rfl) (by kernel_rfl) hS ?_
 refine qy y_move ?_
 refine qy y_nilCheck ?_
 refine qy (y_field fa_api_State_0) ?_
 refine qy (y_load (fun w hS => hS.own (mC (mH))) Try.underlying23 rfl rfl) ?_
 refine qy (y_field fa_api_Ins_2) ?_
 refine qy (y_load (fun w hS => hS.own (mH)) Try.underlying3 rfl rfl) ?_
 obtain ⟨x15, hx15, hF⟩ := ob hF
 obtain ⟨b16, c17, cl18, hv19, ha20, hb21, hl22, hc23⟩ := OwT.at hx15 hP1_0_3 enc_len_uint32
 refine qy (y_index hv19 ha20 hb21 Try.underlying23 el_uint32.size) ?_
 refine qy (y_load (fun w hS => hS.own (mC (mC (mA (mX hl22))))) Try.underlying63 rfl (hc23 0 _ rfl)) ?_
 refine qy y_move ?_
 refine qy y_nilCheck ?_
 refine qy (y_field fa_api_State_0) ?_
 refine qy (y_load (fun w hS => hS.own (mC (mH))) Try.underlying23 rfl rfl) ?_
 refine qy (y_field fa_api_Ins_3) ?_
 refine qy (y_load (fun w hS => hS.own (mH)) Try.underlying3 rfl rfl) ?_
 obtain ⟨x24, hx24, hF⟩ := ob hF
 obtain ⟨b25, c26, cl27, hv28, ha29, hb30, hl31, hc32⟩ := OwT.at hx24 hP1_0_3 enc_len_uint32
 refine qy (y_index hv28 ha29 hb30 Try.underlying23 el_uint32.size) ?_
 refine qy (y_load (fun w hS => hS.own (mC (mC (mA (mX hl31))))) Try.underlying63 rfl (hc32 0 _ rfl)) ?_
 iterate 2 (refine qy y_assign ?_)
 refine q_nilN (h := ?_)
 clear hS; intro w hS
 refine c_seq ?_
 refine c_region ?_
 refine oy hS y_move ?_
 refine oy hS (y_loadW (fun w hS => hS.own (mH)) Try.underlying43 rfl (by exact sz_api_Ins)) ?_
 iterate 2 (refine oy hS y_move ?_)
 have hS : St W g (((b1_, blk [vP1_0_1, vP1_1_5, vP1_2_9, .int .i64 a1.Taken, vP1_4_13, .int .i64 a1.PC, vP1_6_17, .int .i64 a1.Stop, vP1_8_21, .int .i64 a1.Jump, .int .i64 a1.Delay] 27) :: (LXP1_0_2 ++ (LXP1_1_6 ++ (LXP1_2_10 ++ (LXP1_4_14 ++ (LXP1_6_18 ++ (LXP1_8_22 ++ [])))))))) ((b1_, blk [vP1_0_1, vP1_1_5, vP1_2_9, .int .i64 a1.Taken, vP1_4_13, .int .i64 a1.PC, vP1_6_17, .int .i64 a1.Stop, vP1_8_21, .int .i64 a1.Jump, .int .i64 a1.Delay] 27) :: (LXP1_0_2 ++ (LXP1_1_6 ++ (LXP1_2_10 ++ (LXP1_4_14 ++ (LXP1_6_18 ++ (LXP1_8_22 ++ ((b14, blk [.int .i64 x2.Op, .int .i64 x2.D, .int .i64 x2.A, .int .i64 x2.B, .int .i64 x2.Imm, .string x2.Sym] 43) :: [])))))))) w := hS.re (.takeb (.thereb _ (.hereb _ _)) (.take (.thereb _ (.here _ _)) (.take (.thereb _ (.here _ _)) (.take (.thereb _ (.here _ _)) (.take (.thereb _ (.here _ _)) (.take (.thereb _ (.here _ _)) (.take (.thereb _ (.here _ _)) (.takeb (.hereb _ _) (.nil _)))))))))
 have hS2 : St W g (((b1_, blk [vP1_0_1, vP1_1_5, vP1_2_9, .int .i64 a1.Taken, vP1_4_13, .int .i64 a1.PC, vP1_6_17, .int .i64 a1.Stop, vP1_8_21, .int .i64 a1.Jump, .int .i64 a1.Delay] 27) :: (LXP1_0_2 ++ (LXP1_1_6 ++ (LXP1_2_10 ++ (LXP1_4_14 ++ (LXP1_6_18 ++ (LXP1_8_22 ++ [])))))))) (((b1_, blk [vP1_0_1, vP1_1_5, vP1_2_9, .int .i64 a1.Taken, vP1_4_13, .int .i64 a1.PC, vP1_6_17, .int .i64 a1.Stop, vP1_8_21, .int .i64 a1.Jump, .int .i64 a1.Delay] 27) :: (LXP1_0_2 ++ (LXP1_1_6 ++ (LXP1_2_10 ++ (LXP1_4_14 ++ (LXP1_6_18 ++ (LXP1_8_22 ++ []))))))) ++ ((b14, blk [.int .i64 x2.Op, .int .i64 x2.D, .int .i64 x2.A, .int .i64 x2.B, .int .i64 x2.Imm, .string x2.Sym] 43) :: [])) w := by simpa only [List.append_assoc, List.cons_append, List.nil_append, List.append_nil] using hS
 obtain ⟨r33, hr33, hF⟩ := ob hF
 refine o_call (L1 := ((b1_, blk [vP1_0_1, vP1_1_5, vP1_2_9, .int .i64 a1.Taken, vP1_4_13, .int .i64 a1.PC, vP1_6_17, .int .i64 a1.Stop, vP1_8_21, .int .i64 a1.Jump, .int .i64 a1.Delay] 27) :: (LXP1_0_2 ++ (LXP1_1_6 ++ (LXP1_2_10 ++ (LXP1_4_14 ++ (LXP1_6_18 ++ (LXP1_8_22 ++ [])))))))) (L2 := ((b14, blk [.int .i64 x2.Op, .int .i64 x2.D, .int .i64 x2.A, .int .i64 x2.B, .int .i64 x2.Imm, .string x2.Sym] 43) :: [])) hS2 Try.func60 rfl rfl (hc := (w_seq_Act (a0 := a1) (a1 := x2) (a2 := x15) (a3 := x24) (h0 := (⟨_, _, _, _, _, _, _, _, _, _, _, _, rfl, hP1_0_3, hP1_1_7, hP1_2_11, hP1_4_15, hP1_6_19, hP1_8_23⟩ : Bx_State b1_ a1 ((b1_, blk [vP1_0_1, vP1_1_5, vP1_2_9, .int .i64 a1.Taken, vP1_4_13, .int .i64 a1.PC, vP1_6_17, .int .i64 a1.Stop, vP1_8_21, .int .i64 a1.Jump, .int .i64 a1.Delay] 27) :: (LXP1_0_2 ++ (LXP1_1_6 ++ (LXP1_2_10 ++ (LXP1_4_14 ++ (LXP1_6_18 ++ (LXP1_8_22 ++ []))))))))) (hF := hr33))) (h := ?_)
 clear hS; intro v34 LY35 w hS hr36
 clear hS2
 obtain ⟨LB37, rfl, rfl, hb38⟩ := hr36
 obtain ⟨vB_0_39, vB_1_43, vB_2_47, vB_4_51, vB_6_55, vB_8_59, LXB_0_40, LXB_1_44, LXB_2_48, LXB_4_52, LXB_6_56, LXB_8_60, rfl, hB_0_41, hB_1_45, hB_2_49, hB_4_53, hB_6_57, hB_8_61⟩ := hb38
 simp only [List.append_assoc, List.cons_append, List.nil_append] at hS
 refine oy hS y_move ?_
 iterate 2 (refine oy hS (y_extract rfl) ?_)
 iterate 2 (refine oy hS y_assign ?_)
 refine n_thenN ?_
 refine c_seq ?_
 refine c_region ?_
 refine oy hS y_move ?_
 refine oy hS y_nilCheck ?_
 refine oy hS (y_field fa_api_State_5) ?_
 refine oy hS (y_load (fun w hS => hS.own (mH)) Try.underlying3 rfl rfl) ?_
 refine oy hS y_bin ?_
 refine oy hS y_assign ?_
 refine n_thenN ?_
 obtain ⟨z132, hF, hK133⟩ := cut_step hF
 refine c_cutP (fun a w' => ∃ (x95 : Int) (x96 : Int) (x97 : (List Int)) (x102 : (List Int)) (x107 : (List Int)) (x112 : Int) (x113 : (List Int)) (x118 : Int) (x119 : (List Int)) (x124 : Int) (x125 : (List T_Write)) (x130 : Int) (x131 : Int) (v98 : Value) (v103 : Value) (v108 : Value) (v114 : Value) (v120 : Value) (v126 : Value) (LX100 : Own) (LX105 : Own) (LX110 : Own) (LX116 : Own) (LX122 : Own) (LX128 : Own), seq_step_k1 x2 r33 (x95, x96, x97, x102, x107, x112, x113, x118, x119, x124, x125, x130, x131) = some r ∧ OwT 63 enc_uint32 1 x97 v98 LX100 ∧ OwT 63 enc_uint32 1 x102 v103 LX105 ∧ OwT 63 enc_uint32 1 x107 v108 LX110 ∧ OwT 63 enc_uint32 1 x113 v114 LX116 ∧ OwT 3 enc_int 1 x119 v120 LX122 ∧ OwT 71 enc_Write 3 x125 v126 LX128 ∧ (∃ s : Nat → Value, a = Ac (.lit 93 [s 0, .pointer (some ⟨b1_, 0, none⟩), s 2, s 3, .pointer (some ⟨b14, 0, none⟩), s 5, s 6, .int .u32 r33.2.1, .int .i64 x95, .int .i64 x96, s 10, s 11, s 12, s 13, s 14, s 15, s 16, s 17, s 18, s 19, s 20, s 21, s 22, s 23, s 24, s 25, s 26, s 27, s 28, s 29, s 30, s 31, s 32, s 33, s 34, s 35, s 36, s 37, s 38, s 39, s 40, s 41, s 42, s 43, s 44, s 45, s 46, s 47, s 48, s 49, s 50, s 51, s 52, s 53, s 54, s 55, s 56, s 57, s 58, s 59, s 60, s 61, s 62, s 63, s 64, s 65, s 66, s 67, s 68, s 69, s 70, s 71, s 72, s 73, s 74, s 75, s 76, s 77, s 78, s 79, s 80, s 81, s 82, s 83, s 84, s 85, s 86, s 87, s 88, s 89, s 90, s 91, s 92])) ∧ St W g (((b1_, blk [vP1_0_1, vP1_1_5, vP1_2_9, .int .i64 a1.Taken, vP1_4_13, .int .i64 a1.PC, vP1_6_17, .int .i64 a1.Stop, vP1_8_21, .int .i64 a1.Jump, .int .i64 a1.Delay] 27) :: (LXP1_0_2 ++ (LXP1_1_6 ++ (LXP1_2_10 ++ (LXP1_4_14 ++ (LXP1_6_18 ++ (LXP1_8_22 ++ [])))))))) ((b1_, blk [v98, v103, v108, .int .i64 x112, v114, .int .i64 x118, v120, .int .i64 x124, v126, .int .i64 x130, .int .i64 x131] 27) :: ((b14, blk [.int .i64 x2.Op, .int .i64 x2.D, .int .i64 x2.A, .int .i64 x2.B, .int .i64 x2.Imm, .string x2.Sym] 43) :: (LX100 ++ (LX105 ++ (LX110 ++ (LX116 ++ (LX122 ++ (LX128 ++ [])))))))) w') ?_ ?_
 · skip
   refine c_seq ?_
   refine c_region ?_
   refine oy hS y_move ?_
   refine oy hS y_bin ?_
   refine n_thenN ?_
   refine c_if (ht := fun c134 => ?_) (hf := fun c134 => ?_)
   · replace hF := bt c134 hF
     refine c_seq ?_
     refine c_region ?_
     refine oy hS y_assign ?_
     refine n_thenN ?_
     refine c_seq ?_
     refine c_region ?_
     refine oy hS y_assign ?_
     refine n_thenN ?_
     refine c_seq ?_
     refine c_region ?_
     refine oy hS y_move ?_
     refine oy hS (y_loadW (fun w hS => hS.own (mC (mB (mB (mB (mB (mB (mB (mH))))))))) Try.underlying43 rfl (by exact sz_api_Ins)) ?_
     iterate 2 (refine oy hS y_move ?_)
     have hS2 : St W g (((b1_, blk [vP1_0_1, vP1_1_5, vP1_2_9, .int .i64 a1.Taken, vP1_4_13, .int .i64 a1.PC, vP1_6_17, .int .i64 a1.Stop, vP1_8_21, .int .i64 a1.Jump, .int .i64 a1.Delay] 27) :: (LXP1_0_2 ++ (LXP1_1_6 ++ (LXP1_2_10 ++ (LXP1_4_14 ++ (LXP1_6_18 ++ (LXP1_8_22 ++ [])))))))) (((b1_, blk [vB_0_39, vB_1_43, vB_2_47, .int .i64 r33.1.Taken, vB_4_51, .int .i64 r33.1.PC, vB_6_55, .int .i64 r33.1.Stop, vB_8_59, .int .i64 r33.1.Jump, .int .i64 r33.1.Delay] 27) :: (LXB_0_40 ++ (LXB_1_44 ++ (LXB_2_48 ++ (LXB_4_52 ++ (LXB_6_56 ++ (LXB_8_60 ++ []))))))) ++ ((b14, blk [.int .i64 x2.Op, .int .i64 x2.D, .int .i64 x2.A, .int .i64 x2.B, .int .i64 x2.Imm, .string x2.Sym] 43) :: [])) w := by simpa only [List.append_assoc, List.cons_append, List.nil_append, List.append_nil] using hS
     obtain ⟨r135, hr135, hF⟩ := ob hF
     refine o_call (L1 := ((b1_, blk [vB_0_39, vB_1_43, vB_2_47, .int .i64 r33.1.Taken, vB_4_51, .int .i64 r33.1.PC, vB_6_55, .int .i64 r33.1.Stop, vB_8_59, .int .i64 r33.1.Jump, .int .i64 r33.1.Delay] 27) :: (LXB_0_40 ++ (LXB_1_44 ++ (LXB_2_48 ++ (LXB_4_52 ++ (LXB_6_56 ++ (LXB_8_60 ++ [])))))))) (L2 := ((b14, blk [.int .i64 x2.Op, .int .i64 x2.D, .int .i64 x2.A, .int .i64 x2.B, .int .i64 x2.Imm, .string x2.Sym] 43) :: [])) hS2 Try.func61 rfl rfl (hc := (w_seq_Turn (a0 := r33.1) (a1 := x2) (a2 := x15) (a3 := (IntKind.i64.wrap (r33.1.PC + 1))) (h0 := (⟨_, _, _, _, _, _, _, _, _, _, _, _, rfl, hB_0_41, hB_1_45, hB_2_49, hB_4_53, hB_6_57, hB_8_61⟩ : Bx_State b1_ r33.1 ((b1_, blk [vB_0_39, vB_1_43, vB_2_47, .int .i64 r33.1.Taken, vB_4_51, .int .i64 r33.1.PC, vB_6_55, .int .i64 r33.1.Stop, vB_8_59, .int .i64 r33.1.Jump, .int .i64 r33.1.Delay] 27) :: (LXB_0_40 ++ (LXB_1_44 ++ (LXB_2_48 ++ (LXB_4_52 ++ (LXB_6_56 ++ (LXB_8_60 ++ []))))))))) (hF := hr135))) (h := ?_)
     clear hS; intro v136 LY137 w hS hr138
     clear hS2
     obtain ⟨LB139, rfl, rfl, hb140⟩ := hr138
     obtain ⟨vB_0_141, vB_1_145, vB_2_149, vB_4_153, vB_6_157, vB_8_161, LXB_0_142, LXB_1_146, LXB_2_150, LXB_4_154, LXB_6_158, LXB_8_162, rfl, hB_0_143, hB_1_147, hB_2_151, hB_4_155, hB_6_159, hB_8_163⟩ := hb140
     simp only [List.append_assoc, List.cons_append, List.nil_append] at hS
     refine oy hS y_move ?_
     iterate 3 (refine oy hS (y_extract rfl) ?_)
     iterate 3 (refine oy hS y_assign ?_)
     refine n_thenN ?_
     refine c_seq ?_
     refine c_region ?_
     refine oy hS y_move ?_
     refine n_thenN ?_
     refine c_if (ht := fun c165 => ?_) (hf := fun c165 => ?_)
     · replace hF := bt c165 hF
       refine c_region ?_
       refine oy hS y_move ?_
       refine oy hS y_assign ?_
       refine n_thenN ?_
       obtain rfl := Option.some.inj hF
       change ∃ _, _
       exact ⟨r135.2.2.2, r135.2.1, r135.1.Regs, r135.1.Mem, r135.1.In_, r135.1.Taken, r135.1.Out, r135.1.PC, r135.1.Stack, r135.1.Stop, r135.1.Fly, r135.1.Jump, r135.1.Delay, vB_0_141, vB_1_145, vB_2_149, vB_4_153, vB_6_157, vB_8_161, LXB_0_142, LXB_1_146, LXB_2_150, LXB_4_154, LXB_6_158, LXB_8_162, hK133, hB_0_143, hB_1_147, hB_2_151, hB_4_155, hB_6_159, hB_8_163, mk_ex, (hS.re (.takeb (.hereb _ _) (.takeb (.there _ (.there _ (.there _ (.there _ (.there _ (.there _ (.hereb _ _))))))) (.take (.here _ _) (.take (.here _ _) (.take (.here _ _) (.take (.here _ _) (.take (.here _ _) (.take (.here _ _) (.nil _))))))))))⟩
     replace hF := bf c165 hF
     refine wp_skip ?_
     obtain rfl := Option.some.inj hF
     change ∃ _, _
     exact ⟨r135.2.2.2, IntKind.i64.wrap (r33.1.PC + 1), r135.1.Regs, r135.1.Mem, r135.1.In_, r135.1.Taken, r135.1.Out, r135.1.PC, r135.1.Stack, r135.1.Stop, r135.1.Fly, r135.1.Jump, r135.1.Delay, vB_0_141, vB_1_145, vB_2_149, vB_4_153, vB_6_157, vB_8_161, LXB_0_142, LXB_1_146, LXB_2_150, LXB_4_154, LXB_6_158, LXB_8_162, hK133, hB_0_143, hB_1_147, hB_2_151, hB_4_155, hB_6_159, hB_8_163, mk_ex, (hS.re (.takeb (.hereb _ _) (.takeb (.there _ (.there _ (.there _ (.there _ (.there _ (.there _ (.hereb _ _))))))) (.take (.here _ _) (.take (.here _ _) (.take (.here _ _) (.take (.here _ _) (.take (.here _ _) (.take (.here _ _) (.nil _))))))))))⟩
   replace hF := bf c134 hF
   refine wp_skip ?_
   obtain rfl := Option.some.inj hF
   change ∃ _, _
   exact ⟨r33.2.2, IntKind.i64.wrap (r33.1.PC + 1), r33.1.Regs, r33.1.Mem, r33.1.In_, r33.1.Taken, r33.1.Out, r33.1.PC, r33.1.Stack, r33.1.Stop, r33.1.Fly, r33.1.Jump, r33.1.Delay, vB_0_39, vB_1_43, vB_2_47, vB_4_51, vB_6_55, vB_8_59, LXB_0_40, LXB_1_44, LXB_2_48, LXB_4_52, LXB_6_56, LXB_8_60, hK133, hB_0_41, hB_1_45, hB_2_49, hB_4_53, hB_6_57, hB_8_61, mk_ex, (hS.re (.takeb (.hereb _ _) (.takeb (.there _ (.there _ (.there _ (.there _ (.there _ (.there _ (.hereb _ _))))))) (.take (.here _ _) (.take (.here _ _) (.take (.here _ _) (.take (.here _ _) (.take (.here _ _) (.take (.here _ _) (.nil _))))))))))⟩
 rintro a w ⟨x95, x96, x97, x102, x107, x112, x113, x118, x119, x124, x125, x130, x131, v98, v103, v108, v114, v120, v126, LX100, LX105, LX110, LX116, LX122, LX128, hF, h99, h104, h109, h115, h121, h127, ⟨s166, rfl⟩, hS⟩
 dsimp only [seq_step_k1] at hF
 iterate 2 (refine c_seq ?_)
 refine c_region ?_
 refine oy hS y_move ?_
 refine oy hS y_bin ?_
 refine n_thenN ?_
 refine c_if (ht := fun c167 => ?_) (hf := fun c167 => ?_)
 · replace hF := bt c167 hF
   refine c_seq ?_
   refine c_region ?_
   iterate 2 (refine oy hS y_move ?_)
   refine oy hS y_nilCheck ?_
   refine oy hS (y_field fa_api_State_7) ?_
   refine o_store hS (hm := Upd.here _) (hi := by exact sz_int) (h1 := rfl) (hc := rfl) (ho := by exact Nat.le_of_ble_eq_true rfl) (h := ?_)
   clear hS; intro w hS
   refine n_thenN ?_
   obtain rfl := Option.some.inj hF
   refine wp_ret (r_ret (vs := []) (L' := ((b1_, blk [v98, v103, v108, .int .i64 x112, v114, .int .i64 x118, v120, .int .i64 x95, v126, .int .i64 x130, .int .i64 x131] 27) :: (LX100 ++ (LX105 ++ (LX110 ++ (LX116 ++ (LX122 ++ (LX128 ++ [])))))))) (hS.re (.takeb (.hereb _ _) (.take (.thereb _ (.here _ _)) (.take (.thereb _ (.here _ _)) (.take (.thereb _ (.here _ _)) (.take (.thereb _ (.here _ _)) (.take (.thereb _ (.here _ _)) (.take (.thereb _ (.here _ _)) (.nil _))))))))) (show resAll _ _ _ [] _ from trivial) rfl ⟨_, rfl, (by first | rfl | simp only [List.append_assoc, List.cons_append, List.nil_append, List.append_nil]), ⟨_, _, _, _, _, _, _, _, _, _, _, _, rfl, h99, h104, h109, h115, h121, h127⟩⟩)
 replace hF := bf c167 hF
 refine wp_skip ?_
 iterate 2 (refine c_seq ?_)
 refine c_region ?_
 refine oy hS (y_field fa_api_Ins_0) ?_
 refine oy hS (y_load (fun w hS => hS.own (mC (mH))) Try.underlying3 rfl rfl) ?_
 refine o_callS hS Try.func63 rfl rfl (hc := (w_isa_Shape (a0 := x2.Op))) (h := ?_)
 clear hS; intro w hS
 refine o_callS hS Try.func62 rfl rfl (hc := (w_isa_HasD (a0 := (isa_Shape x2.Op)))) (h := ?_)
 clear hS; intro w hS
 refine n_thenN ?_
 refine c_if (ht := fun c168 => ?_) (hf := fun c168 => ?_)
 · replace hF := bt c168 hF
   refine c_heldB (CB g ((b1_, blk [v98, v103, v108, .int .i64 x112, v114, .int .i64 x118, v120, .int .i64 x124, v126, .int .i64 x130, .int .i64 x131] 27) :: ((b14, blk [.int .i64 x2.Op, .int .i64 x2.D, .int .i64 x2.A, .int .i64 x2.B, .int .i64 x2.Imm, .string x2.Sym] 43) :: (LX100 ++ (LX105 ++ (LX110 ++ (LX116 ++ (LX122 ++ (LX128 ++ []))))))))) 8 9 (by kernel_rfl) rfl hS ?_
   clear hS; intro w hS
   refine hy0 0 rfl wn (by kernel_rfl) (nq (P := Try.prog) (fn := Try.f40)) (fun _ => hS.cb) y_move ?_
   refine hy0 1 rfl wn (by kernel_rfl) (nq (P := Try.prog) (fn := Try.f40)) (fun _ => hS.cb) y_nilCheck ?_
   refine hy0 2 rfl wn (by kernel_rfl) (nq (P := Try.prog) (fn := Try.f40)) (fun _ => hS.cb) (y_field fa_api_State_0) ?_
   refine hy 3 rfl wn (by kernel_rfl) (nq (P := Try.prog) (fn := Try.f40)) hS.cb (y_load (fun w hS => hS.own (mH)) Try.underlying23 rfl rfl) ?_
   refine hy0 4 rfl wn (by kernel_rfl) (nq (P := Try.prog) (fn := Try.f40)) (fun _ => hS.cb) (y_field fa_api_Ins_1) ?_
   refine hy 5 rfl wn (by kernel_rfl) (nq (P := Try.prog) (fn := Try.f40)) hS.cb (y_load (fun w hS => hS.own (mC (mH))) Try.underlying3 rfl rfl) ?_
   refine hy0 6 rfl wn (by kernel_rfl) (nq (P := Try.prog) (fn := Try.f40)) (fun _ => hS.cb) y_move ?_
   obtain ⟨zs176, hzs176, hF⟩ := ob hF
   obtain ⟨b169, c170, cl171, hv172, ha173, hb174, hl175⟩ := OwT.at_set hzs176 h99 enc_len_uint32
   refine hy0 7 rfl wn (by kernel_rfl) (nq (P := Try.prog) (fn := Try.f40)) (fun _ => hS.cb) (y_index hv172 ha173 hb174 Try.underlying23 el_uint32.size) ?_
   refine hb1 8 (by kernel_rfl) (hb_op rfl wn (nl (P := Try.prog) (fn := Try.f40)) ?_)
   refine o_storeO (L' := fun X => ((b1_, blk [v98, v103, v108, .int .i64 x112, v114, .int .i64 x118, v120, .int .i64 x124, v126, .int .i64 x130, .int .i64 x131] 27) :: ((b14, blk [.int .i64 x2.Op, .int .i64 x2.D, .int .i64 x2.A, .int .i64 x2.B, .int .i64 x2.Imm, .string x2.Sym] 43) :: (X ++ (LX105 ++ (LX110 ++ (LX116 ++ (LX122 ++ (LX128 ++ []))))))))) hzs176 hS h99 hl175 (fun X => .thereb _ (.thereb _ (.here _))) enc_len_uint32 rfl (by exact sz_uint32) rfl rfl ?_
   clear hS; intro LX177 w h178 hS
   refine hb_next (fun h => absurd h (by decide)) ?_
   refine hb_done (by kernel_rfl) ?_
   refine c_region ?_
   iterate 2 (refine oy hS y_move ?_)
   refine oy hS y_nilCheck ?_
   refine oy hS (y_field fa_api_State_5) ?_
   refine o_store hS (hm := Upd.here _) (hi := by exact sz_int) (h1 := rfl) (hc := rfl) (ho := by exact Nat.le_of_ble_eq_true rfl) (h := ?_)
   clear hS; intro w hS
   refine n_anyN ?_
   obtain rfl := Option.some.inj hF
   refine (r_end (vs := []) (L' := ((b1_, blk [v98, v103, v108, .int .i64 x112, v114, .int .i64 x96, v120, .int .i64 x124, v126, .int .i64 x130, .int .i64 x131] 27) :: (LX177 ++ (LX105 ++ (LX110 ++ (LX116 ++ (LX122 ++ (LX128 ++ [])))))))) (hS.re (.takeb (.hereb _ _) (.take (.thereb _ (.here _ _)) (.take (.thereb _ (.here _ _)) (.take (.thereb _ (.here _ _)) (.take (.thereb _ (.here _ _)) (.take (.thereb _ (.here _ _)) (.take (.thereb _ (.here _ _)) (.nil _))))))))) (show resAll _ _ _ [] _ from trivial) rfl ⟨_, rfl, (by first | rfl | simp only [List.append_assoc, List.cons_append, List.nil_append, List.append_nil]), ⟨_, _, _, _, _, _, _, _, _, _, _, _, rfl, h178, h104, h109, h115, h121, h127⟩⟩)
 replace hF := bf c168 hF
 refine wp_skip ?_
 refine c_region ?_
 iterate 2 (refine oy hS y_move ?_)
 refine oy hS y_nilCheck ?_
 refine oy hS (y_field fa_api_State_5) ?_
 refine o_store hS (hm := Upd.here _) (hi := by exact sz_int) (h1 := rfl) (hc := rfl) (ho := by exact Nat.le_of_ble_eq_true rfl) (h := ?_)
 clear hS; intro w hS
 refine n_anyN ?_
 obtain rfl := Option.some.inj hF
 refine (r_end (vs := []) (L' := ((b1_, blk [v98, v103, v108, .int .i64 x112, v114, .int .i64 x96, v120, .int .i64 x124, v126, .int .i64 x130, .int .i64 x131] 27) :: (LX100 ++ (LX105 ++ (LX110 ++ (LX116 ++ (LX122 ++ (LX128 ++ [])))))))) (hS.re (.takeb (.hereb _ _) (.take (.thereb _ (.here _ _)) (.take (.thereb _ (.here _ _)) (.take (.thereb _ (.here _ _)) (.take (.thereb _ (.here _ _)) (.take (.thereb _ (.here _ _)) (.take (.thereb _ (.here _ _)) (.nil _))))))))) (show resAll _ _ _ [] _ from trivial) rfl ⟨_, rfl, (by first | rfl | simp only [List.append_assoc, List.cons_append, List.nil_append, List.append_nil]), ⟨_, _, _, _, _, _, _, _, _, _, _, _, rfl, h99, h104, h109, h115, h121, h127⟩⟩)
theorem w_seq_step {g : Frag} {a0 : (List T_Ins)} {v0_ : Value} {a1 : T_State} {b1_ : Nat} {LB1_ : Own} {r : T_State} (h0 : SlT g enc_Ins 6 a0 v0_) (h1 : Bx_State b1_ a1 LB1_) (hF : seq_step a0 a1 = some r) : LC Try.prog 40 #[v0_, .pointer (some ⟨b1_, 0, none⟩)] g LB1_ (fun v L => ∃ (LB' : Own), v = .tuple #[] ∧ L = (LB' ++ []) ∧ Bx_State b1_ r LB') := w_seq_step_ h0 h1 hF
end Go.Proofs.Ytadajdcbeegabaa
