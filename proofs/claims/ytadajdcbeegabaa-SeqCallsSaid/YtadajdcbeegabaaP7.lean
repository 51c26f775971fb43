/- Functions, lifted. Printed by lift.py. -/
import Derived.Test.YtadajdcbeegabaaProg
import Derived.Test.YtadajdcbeegabaaP6
import Derived.KernelRfl
namespace Go.Proofs.Ytadajdcbeegabaa
open Go Go.RowKit Fr
set_option linter.unusedVariables false
set_option linter.unusedSimpArgs false
set_option maxRecDepth 20000
noncomputable def r0_CopyState (a0 : T_State) : Option T_State :=
  (r0_CopyWords a0.Regs).bind fun r4 => (r0_CopyWords a0.Mem).bind fun r12 => (r0_CopyWords a0.In_).bind fun r20 => (r0_CopyWords a0.Out).bind fun r28 => (r0_CopyNumbers a0.Stack).bind fun r36 => (r0_CopyFlies a0.Fly).bind fun r44 => some (⟨r4, r12, r20, a0.Taken, r28, a0.PC, r36, a0.Stop, r44, a0.Jump, a0.Delay⟩ : T_State)
set_option maxHeartbeats 2000000 in
theorem w_r0_CopyState_ {g : Frag} {a0 : T_State} {v0_ : Value} {r : T_State} (h0 : Rd_State g a0 v0_) (hF : r0_CopyState a0 = some r) : LC Try.prog 23 #[v0_] g [] (fun v L => ∃ (u0 : Value) (M0 : Own), u0 = v ∧ L = (M0 ++ []) ∧ Ow_State r u0 M0) := by
 obtain ⟨v0_0_, v0_1_, v0_2_, v0_4_, v0_6_, v0_8_, rfl, h0_0_, h0_1_, h0_2_, h0_4_, h0_6_, h0_8_⟩ := h0
 unfold r0_CopyState at hF
 refine lc_body (k := 30) (av := [.agg #[v0_0_, v0_1_, v0_2_, .int .i64 a0.Taken, v0_4_, .int .i64 a0.PC, v0_6_, .int .i64 a0.Stop, v0_8_, .int .i64 a0.Jump, .int .i64 a0.Delay]]) Try.func23 rfl rfl (h := fun W hS => ?_)
 refine c_seq ?_
 refine c_region ?_
 refine o_boxP (cl := [v0_0_, v0_1_, v0_2_, .int .i64 a0.Taken, v0_4_, .int .i64 a0.PC, v0_6_, .int .i64 a0.Stop, v0_8_, .int .i64 a0.Jump, .int .i64 a0.Delay]) rfl hS ?_
 clear hS; intro b1 w hS
 refine o_allocP (cl := [(.slice none 0 0), (.slice none 0 0), (.slice none 0 0), .int .i64 0, (.slice none 0 0), .int .i64 0, (.slice none 0 0), .int .i64 0, (.slice none 0 0), .int .i64 0, .int .i64 0]) zr_api_State rfl hS ?_
 clear hS; intro b2 w hS
 refine n_thenN ?_
 refine c_seq ?_
 refine c_region ?_
 refine oy hS (y_loadW (fun w hS => hS.own (mC (mH))) Try.underlying27 rfl (by exact sz_api_State)) ?_
 refine o_allocP (cl := [(.slice none 0 0), (.slice none 0 0), (.slice none 0 0), .int .i64 0, (.slice none 0 0), .int .i64 0, (.slice none 0 0), .int .i64 0, (.slice none 0 0), .int .i64 0, .int .i64 0]) zr_api_State rfl hS ?_
 clear hS; intro b3 w hS
 refine o_storeP (vs := [v0_0_, v0_1_, v0_2_, .int .i64 a0.Taken, v0_4_, .int .i64 a0.PC, v0_6_, .int .i64 a0.Stop, v0_8_, .int .i64 a0.Jump, .int .i64 a0.Delay]) hS (hm := Upd.here _) (hi := by exact sz_api_State) (h1 := (onC (h0_0_).one (onC (h0_1_).one (onC (h0_2_).one (onC rfl (onC (h0_4_).one (onC rfl (onC (h0_6_).one (onC rfl (onC (h0_8_).one (onC rfl (onC rfl onN)))))))))))) ?_
 clear hS; intro w hS
 refine n_thenN ?_
 refine c_seq ?_
 refine c_region ?_
 refine oy hS (y_field fa_api_State_0) ?_
 refine oy hS (y_load (fun w hS => hS.own (mC (mC (mH)))) Try.underlying23 rfl rfl) ?_
 obtain ⟨r4, hr4, hF⟩ := ob hF
 refine o_call (L1 := []) (L2 := ((b3, blk [v0_0_, v0_1_, v0_2_, .int .i64 a0.Taken, v0_4_, .int .i64 a0.PC, v0_6_, .int .i64 a0.Stop, v0_8_, .int .i64 a0.Jump, .int .i64 a0.Delay] 27) :: ((b2, blk [(.slice none 0 0), (.slice none 0 0), (.slice none 0 0), .int .i64 0, (.slice none 0 0), .int .i64 0, (.slice none 0 0), .int .i64 0, (.slice none 0 0), .int .i64 0, .int .i64 0] 27) :: ((b1, blk [v0_0_, v0_1_, v0_2_, .int .i64 a0.Taken, v0_4_, .int .i64 a0.PC, v0_6_, .int .i64 a0.Stop, v0_8_, .int .i64 a0.Jump, .int .i64 a0.Delay] 27) :: [])))) hS Try.func45 rfl rfl (hc := (w_r0_CopyWords (a0 := a0.Regs) (h0 := h0_0_.plus) (hF := hr4))) (h := ?_)
 clear hS; intro v5 LY6 w hS hr7
 obtain ⟨v_0_8, LX_0_9, rfl, rfl, h_0_10⟩ := hr7
 simp only [List.append_assoc, List.cons_append, List.nil_append] at hS
 refine oy hS (y_field fa_api_State_0) ?_
 have hS : St W g [] ((b3, blk [v0_0_, v0_1_, v0_2_, .int .i64 a0.Taken, v0_4_, .int .i64 a0.PC, v0_6_, .int .i64 a0.Stop, v0_8_, .int .i64 a0.Jump, .int .i64 a0.Delay] 27) :: (LX_0_9 ++ ((b2, blk [(.slice none 0 0), (.slice none 0 0), (.slice none 0 0), .int .i64 0, (.slice none 0 0), .int .i64 0, (.slice none 0 0), .int .i64 0, (.slice none 0 0), .int .i64 0, .int .i64 0] 27) :: ((b1, blk [v0_0_, v0_1_, v0_2_, .int .i64 a0.Taken, v0_4_, .int .i64 a0.PC, v0_6_, .int .i64 a0.Stop, v0_8_, .int .i64 a0.Jump, .int .i64 a0.Delay] 27) :: [])))) w := hS.re (.takeb (.there _ (.hereb _ _)) (.take (.here _ _) (.takeb (.hereb _ _) (.takeb (.hereb _ _) (.nil _)))))
 refine o_store hS (hm := Upd.here _) (hi := by exact sz_S_uint32) (h1 := (h_0_10).one) (hc := (h_0_10).cell) (ho := by exact Nat.le_of_ble_eq_true rfl) (h := ?_)
 clear hS; intro w hS
 refine n_thenN ?_
 refine c_seq ?_
 refine c_region ?_
 refine oy hS (y_field fa_api_State_1) ?_
 refine oy hS (y_load (fun w hS => hS.own (mC (mB (mC (mH))))) Try.underlying23 rfl rfl) ?_
 obtain ⟨r12, hr12, hF⟩ := ob hF
 refine o_call (L1 := []) (L2 := ((b3, blk [v_0_8, v0_1_, v0_2_, .int .i64 a0.Taken, v0_4_, .int .i64 a0.PC, v0_6_, .int .i64 a0.Stop, v0_8_, .int .i64 a0.Jump, .int .i64 a0.Delay] 27) :: (LX_0_9 ++ ((b2, blk [(.slice none 0 0), (.slice none 0 0), (.slice none 0 0), .int .i64 0, (.slice none 0 0), .int .i64 0, (.slice none 0 0), .int .i64 0, (.slice none 0 0), .int .i64 0, .int .i64 0] 27) :: ((b1, blk [v0_0_, v0_1_, v0_2_, .int .i64 a0.Taken, v0_4_, .int .i64 a0.PC, v0_6_, .int .i64 a0.Stop, v0_8_, .int .i64 a0.Jump, .int .i64 a0.Delay] 27) :: []))))) hS Try.func45 rfl rfl (hc := (w_r0_CopyWords (a0 := a0.Mem) (h0 := h0_1_.plus) (hF := hr12))) (h := ?_)
 clear hS; intro v13 LY14 w hS hr15
 obtain ⟨v_0_16, LX_0_17, rfl, rfl, h_0_18⟩ := hr15
 simp only [List.append_assoc, List.cons_append, List.nil_append] at hS
 refine oy hS (y_field fa_api_State_1) ?_
 have hS : St W g [] ((b3, blk [v_0_8, v0_1_, v0_2_, .int .i64 a0.Taken, v0_4_, .int .i64 a0.PC, v0_6_, .int .i64 a0.Stop, v0_8_, .int .i64 a0.Jump, .int .i64 a0.Delay] 27) :: (LX_0_17 ++ (LX_0_9 ++ ((b2, blk [(.slice none 0 0), (.slice none 0 0), (.slice none 0 0), .int .i64 0, (.slice none 0 0), .int .i64 0, (.slice none 0 0), .int .i64 0, (.slice none 0 0), .int .i64 0, .int .i64 0] 27) :: ((b1, blk [v0_0_, v0_1_, v0_2_, .int .i64 a0.Taken, v0_4_, .int .i64 a0.PC, v0_6_, .int .i64 a0.Stop, v0_8_, .int .i64 a0.Jump, .int .i64 a0.Delay] 27) :: []))))) w := hS.re (.takeb (.there _ (.hereb _ _)) (.take (.here _ _) (.take (.here _ _) (.takeb (.hereb _ _) (.takeb (.hereb _ _) (.nil _))))))
 refine o_store hS (hm := Upd.here _) (hi := by exact sz_S_uint32) (h1 := (h_0_18).one) (hc := (h_0_18).cell) (ho := by exact Nat.le_of_ble_eq_true rfl) (h := ?_)
 clear hS; intro w hS
 refine n_thenN ?_
 refine c_seq ?_
 refine c_region ?_
 refine oy hS (y_field fa_api_State_2) ?_
 refine oy hS (y_load (fun w hS => hS.own (mC (mB (mB (mC (mH)))))) Try.underlying23 rfl rfl) ?_
 obtain ⟨r20, hr20, hF⟩ := ob hF
 refine o_call (L1 := []) (L2 := ((b3, blk [v_0_8, v_0_16, v0_2_, .int .i64 a0.Taken, v0_4_, .int .i64 a0.PC, v0_6_, .int .i64 a0.Stop, v0_8_, .int .i64 a0.Jump, .int .i64 a0.Delay] 27) :: (LX_0_17 ++ (LX_0_9 ++ ((b2, blk [(.slice none 0 0), (.slice none 0 0), (.slice none 0 0), .int .i64 0, (.slice none 0 0), .int .i64 0, (.slice none 0 0), .int .i64 0, (.slice none 0 0), .int .i64 0, .int .i64 0] 27) :: ((b1, blk [v0_0_, v0_1_, v0_2_, .int .i64 a0.Taken, v0_4_, .int .i64 a0.PC, v0_6_, .int .i64 a0.Stop, v0_8_, .int .i64 a0.Jump, .int .i64 a0.Delay] 27) :: [])))))) hS Try.func45 rfl rfl (hc := (w_r0_CopyWords (a0 := a0.In_) (h0 := h0_2_.plus) (hF := hr20))) (h := ?_)
 clear hS; intro v21 LY22 w hS hr23
 obtain ⟨v_0_24, LX_0_25, rfl, rfl, h_0_26⟩ := hr23
 simp only [List.append_assoc, List.cons_append, List.nil_append] at hS
 refine oy hS (y_field fa_api_State_2) ?_
 have hS : St W g [] ((b3, blk [v_0_8, v_0_16, v0_2_, .int .i64 a0.Taken, v0_4_, .int .i64 a0.PC, v0_6_, .int .i64 a0.Stop, v0_8_, .int .i64 a0.Jump, .int .i64 a0.Delay] 27) :: (LX_0_25 ++ (LX_0_17 ++ (LX_0_9 ++ ((b2, blk [(.slice none 0 0), (.slice none 0 0), (.slice none 0 0), .int .i64 0, (.slice none 0 0), .int .i64 0, (.slice none 0 0), .int .i64 0, (.slice none 0 0), .int .i64 0, .int .i64 0] 27) :: ((b1, blk [v0_0_, v0_1_, v0_2_, .int .i64 a0.Taken, v0_4_, .int .i64 a0.PC, v0_6_, .int .i64 a0.Stop, v0_8_, .int .i64 a0.Jump, .int .i64 a0.Delay] 27) :: [])))))) w := hS.re (.takeb (.there _ (.hereb _ _)) (.take (.here _ _) (.take (.here _ _) (.take (.here _ _) (.takeb (.hereb _ _) (.takeb (.hereb _ _) (.nil _)))))))
 refine o_store hS (hm := Upd.here _) (hi := by exact sz_S_uint32) (h1 := (h_0_26).one) (hc := (h_0_26).cell) (ho := by exact Nat.le_of_ble_eq_true rfl) (h := ?_)
 clear hS; intro w hS
 refine n_thenN ?_
 refine c_seq ?_
 refine c_region ?_
 refine oy hS (y_field fa_api_State_4) ?_
 refine oy hS (y_load (fun w hS => hS.own (mC (mB (mB (mB (mC (mH))))))) Try.underlying23 rfl rfl) ?_
 obtain ⟨r28, hr28, hF⟩ := ob hF
 refine o_call (L1 := []) (L2 := ((b3, blk [v_0_8, v_0_16, v_0_24, .int .i64 a0.Taken, v0_4_, .int .i64 a0.PC, v0_6_, .int .i64 a0.Stop, v0_8_, .int .i64 a0.Jump, .int .i64 a0.Delay] 27) :: (LX_0_25 ++ (LX_0_17 ++ (LX_0_9 ++ ((b2, blk [(.slice none 0 0), (.slice none 0 0), (.slice none 0 0), .int .i64 0, (.slice none 0 0), .int .i64 0, (.slice none 0 0), .int .i64 0, (.slice none 0 0), .int .i64 0, .int .i64 0] 27) :: ((b1, blk [v0_0_, v0_1_, v0_2_, .int .i64 a0.Taken, v0_4_, .int .i64 a0.PC, v0_6_, .int .i64 a0.Stop, v0_8_, .int .i64 a0.Jump, .int .i64 a0.Delay] 27) :: []))))))) hS Try.func45 rfl rfl (hc := (w_r0_CopyWords (a0 := a0.Out) (h0 := h0_4_.plus) (hF := hr28))) (h := ?_)
 clear hS; intro v29 LY30 w hS hr31
 obtain ⟨v_0_32, LX_0_33, rfl, rfl, h_0_34⟩ := hr31
 simp only [List.append_assoc, List.cons_append, List.nil_append] at hS
 refine oy hS (y_field fa_api_State_4) ?_
 have hS : St W g [] ((b3, blk [v_0_8, v_0_16, v_0_24, .int .i64 a0.Taken, v0_4_, .int .i64 a0.PC, v0_6_, .int .i64 a0.Stop, v0_8_, .int .i64 a0.Jump, .int .i64 a0.Delay] 27) :: (LX_0_33 ++ (LX_0_25 ++ (LX_0_17 ++ (LX_0_9 ++ ((b2, blk [(.slice none 0 0), (.slice none 0 0), (.slice none 0 0), .int .i64 0, (.slice none 0 0), .int .i64 0, (.slice none 0 0), .int .i64 0, (.slice none 0 0), .int .i64 0, .int .i64 0] 27) :: ((b1, blk [v0_0_, v0_1_, v0_2_, .int .i64 a0.Taken, v0_4_, .int .i64 a0.PC, v0_6_, .int .i64 a0.Stop, v0_8_, .int .i64 a0.Jump, .int .i64 a0.Delay] 27) :: []))))))) w := hS.re (.takeb (.there _ (.hereb _ _)) (.take (.here _ _) (.take (.here _ _) (.take (.here _ _) (.take (.here _ _) (.takeb (.hereb _ _) (.takeb (.hereb _ _) (.nil _))))))))
 refine o_store hS (hm := Upd.here _) (hi := by exact sz_S_uint32) (h1 := (h_0_34).one) (hc := (h_0_34).cell) (ho := by exact Nat.le_of_ble_eq_true rfl) (h := ?_)
 clear hS; intro w hS
 refine n_thenN ?_
 refine c_seq ?_
 refine c_region ?_
 refine oy hS (y_field fa_api_State_6) ?_
 refine oy hS (y_load (fun w hS => hS.own (mC (mB (mB (mB (mB (mC (mH)))))))) Try.underlying24 rfl rfl) ?_
 obtain ⟨r36, hr36, hF⟩ := ob hF
 refine o_call (L1 := []) (L2 := ((b3, blk [v_0_8, v_0_16, v_0_24, .int .i64 a0.Taken, v_0_32, .int .i64 a0.PC, v0_6_, .int .i64 a0.Stop, v0_8_, .int .i64 a0.Jump, .int .i64 a0.Delay] 27) :: (LX_0_33 ++ (LX_0_25 ++ (LX_0_17 ++ (LX_0_9 ++ ((b2, blk [(.slice none 0 0), (.slice none 0 0), (.slice none 0 0), .int .i64 0, (.slice none 0 0), .int .i64 0, (.slice none 0 0), .int .i64 0, (.slice none 0 0), .int .i64 0, .int .i64 0] 27) :: ((b1, blk [v0_0_, v0_1_, v0_2_, .int .i64 a0.Taken, v0_4_, .int .i64 a0.PC, v0_6_, .int .i64 a0.Stop, v0_8_, .int .i64 a0.Jump, .int .i64 a0.Delay] 27) :: [])))))))) hS Try.func46 rfl rfl (hc := (w_r0_CopyNumbers (a0 := a0.Stack) (h0 := h0_6_.plus) (hF := hr36))) (h := ?_)
 clear hS; intro v37 LY38 w hS hr39
 obtain ⟨v_0_40, LX_0_41, rfl, rfl, h_0_42⟩ := hr39
 simp only [List.append_assoc, List.cons_append, List.nil_append] at hS
 refine oy hS (y_field fa_api_State_6) ?_
 have hS : St W g [] ((b3, blk [v_0_8, v_0_16, v_0_24, .int .i64 a0.Taken, v_0_32, .int .i64 a0.PC, v0_6_, .int .i64 a0.Stop, v0_8_, .int .i64 a0.Jump, .int .i64 a0.Delay] 27) :: (LX_0_41 ++ (LX_0_33 ++ (LX_0_25 ++ (LX_0_17 ++ (LX_0_9 ++ ((b2, blk [(.slice none 0 0), (.slice none 0 0), (.slice none 0 0), .int .i64 0, (.slice none 0 0), .int .i64 0, (.slice none 0 0), .int .i64 0, (.slice none 0 0), .int .i64 0, .int .i64 0] 27) :: ((b1, blk [v0_0_, v0_1_, v0_2_, .int .i64 a0.Taken, v0_4_, .int .i64 a0.PC, v0_6_, .int .i64 a0.Stop, v0_8_, .int .i64 a0.Jump, .int .i64 a0.Delay] 27) :: [])))))))) w := hS.re (.takeb (.there _ (.hereb _ _)) (.take (.here _ _) (.take (.here _ _) (.take (.here _ _) (.take (.here _ _) (.take (.here _ _) (.takeb (.hereb _ _) (.takeb (.hereb _ _) (.nil _)))))))))
 refine o_store hS (hm := Upd.here _) (hi := by exact sz_S_int) (h1 := (h_0_42).one) (hc := (h_0_42).cell) (ho := by exact Nat.le_of_ble_eq_true rfl) (h := ?_)
 clear hS; intro w hS
 refine n_thenN ?_
 refine c_seq ?_
 refine c_region ?_
 refine oy hS (y_field fa_api_State_8) ?_
 refine oy hS (y_load (fun w hS => hS.own (mC (mB (mB (mB (mB (mB (mC (mH))))))))) Try.underlying25 rfl rfl) ?_
 obtain ⟨r44, hr44, hF⟩ := ob hF
 refine o_call (L1 := []) (L2 := ((b3, blk [v_0_8, v_0_16, v_0_24, .int .i64 a0.Taken, v_0_32, .int .i64 a0.PC, v_0_40, .int .i64 a0.Stop, v0_8_, .int .i64 a0.Jump, .int .i64 a0.Delay] 27) :: (LX_0_41 ++ (LX_0_33 ++ (LX_0_25 ++ (LX_0_17 ++ (LX_0_9 ++ ((b2, blk [(.slice none 0 0), (.slice none 0 0), (.slice none 0 0), .int .i64 0, (.slice none 0 0), .int .i64 0, (.slice none 0 0), .int .i64 0, (.slice none 0 0), .int .i64 0, .int .i64 0] 27) :: ((b1, blk [v0_0_, v0_1_, v0_2_, .int .i64 a0.Taken, v0_4_, .int .i64 a0.PC, v0_6_, .int .i64 a0.Stop, v0_8_, .int .i64 a0.Jump, .int .i64 a0.Delay] 27) :: []))))))))) hS Try.func47 rfl rfl (hc := (w_r0_CopyFlies (a0 := a0.Fly) (h0 := h0_8_.plus) (hF := hr44))) (h := ?_)
 clear hS; intro v45 LY46 w hS hr47
 obtain ⟨v_0_48, LX_0_49, rfl, rfl, h_0_50⟩ := hr47
 simp only [List.append_assoc, List.cons_append, List.nil_append] at hS
 refine oy hS (y_field fa_api_State_8) ?_
 have hS : St W g [] ((b3, blk [v_0_8, v_0_16, v_0_24, .int .i64 a0.Taken, v_0_32, .int .i64 a0.PC, v_0_40, .int .i64 a0.Stop, v0_8_, .int .i64 a0.Jump, .int .i64 a0.Delay] 27) :: (LX_0_49 ++ (LX_0_41 ++ (LX_0_33 ++ (LX_0_25 ++ (LX_0_17 ++ (LX_0_9 ++ ((b2, blk [(.slice none 0 0), (.slice none 0 0), (.slice none 0 0), .int .i64 0, (.slice none 0 0), .int .i64 0, (.slice none 0 0), .int .i64 0, (.slice none 0 0), .int .i64 0, .int .i64 0] 27) :: ((b1, blk [v0_0_, v0_1_, v0_2_, .int .i64 a0.Taken, v0_4_, .int .i64 a0.PC, v0_6_, .int .i64 a0.Stop, v0_8_, .int .i64 a0.Jump, .int .i64 a0.Delay] 27) :: []))))))))) w := hS.re (.takeb (.there _ (.hereb _ _)) (.take (.here _ _) (.take (.here _ _) (.take (.here _ _) (.take (.here _ _) (.take (.here _ _) (.take (.here _ _) (.takeb (.hereb _ _) (.takeb (.hereb _ _) (.nil _))))))))))
 refine o_store hS (hm := Upd.here _) (hi := by exact sz_S_api_Write) (h1 := (h_0_50).one) (hc := (h_0_50).cell) (ho := by exact Nat.le_of_ble_eq_true rfl) (h := ?_)
 clear hS; intro w hS
 refine n_thenN ?_
 refine c_seq ?_
 refine c_region ?_
 refine oy hS (y_loadW (fun w hS => hS.own (mH)) Try.underlying27 rfl (by exact sz_api_State)) ?_
 have hS : St W g [] ((b2, blk [(.slice none 0 0), (.slice none 0 0), (.slice none 0 0), .int .i64 0, (.slice none 0 0), .int .i64 0, (.slice none 0 0), .int .i64 0, (.slice none 0 0), .int .i64 0, .int .i64 0] 27) :: ((b3, blk [v_0_8, v_0_16, v_0_24, .int .i64 a0.Taken, v_0_32, .int .i64 a0.PC, v_0_40, .int .i64 a0.Stop, v_0_48, .int .i64 a0.Jump, .int .i64 a0.Delay] 27) :: (LX_0_49 ++ (LX_0_41 ++ (LX_0_33 ++ (LX_0_25 ++ (LX_0_17 ++ (LX_0_9 ++ ((b1, blk [v0_0_, v0_1_, v0_2_, .int .i64 a0.Taken, v0_4_, .int .i64 a0.PC, v0_6_, .int .i64 a0.Stop, v0_8_, .int .i64 a0.Jump, .int .i64 a0.Delay] 27) :: []))))))))) w := hS.re (.takeb (.thereb _ (.there _ (.there _ (.there _ (.there _ (.there _ (.there _ (.hereb _ _)))))))) (.takeb (.hereb _ _) (.take (.here _ _) (.take (.here _ _) (.take (.here _ _) (.take (.here _ _) (.take (.here _ _) (.take (.here _ _) (.takeb (.hereb _ _) (.nil _))))))))))
 refine o_storeP (vs := [v_0_8, v_0_16, v_0_24, .int .i64 a0.Taken, v_0_32, .int .i64 a0.PC, v_0_40, .int .i64 a0.Stop, v_0_48, .int .i64 a0.Jump, .int .i64 a0.Delay]) hS (hm := Upd.here _) (hi := by exact sz_api_State) (h1 := (onC (h_0_10).one (onC (h_0_18).one (onC (h_0_26).one (onC rfl (onC (h_0_34).one (onC rfl (onC (h_0_42).one (onC rfl (onC (h_0_50).one (onC rfl (onC rfl onN)))))))))))) ?_
 clear hS; intro w hS
 refine n_thenN ?_
 obtain rfl := Option.some.inj hF
 refine wp_ret (r_ret (vs := [.agg #[v_0_8, v_0_16, v_0_24, .int .i64 a0.Taken, v_0_32, .int .i64 a0.PC, v_0_40, .int .i64 a0.Stop, v_0_48, .int .i64 a0.Jump, .int .i64 a0.Delay]]) (L' := (LX_0_9 ++ (LX_0_17 ++ (LX_0_25 ++ (LX_0_33 ++ (LX_0_41 ++ (LX_0_49 ++ []))))))) (hS.re (.take (.thereb _ (.thereb _ (.there _ (.there _ (.there _ (.there _ (.there _ (.here _ _)))))))) (.take (.thereb _ (.thereb _ (.there _ (.there _ (.there _ (.there _ (.here _ _))))))) (.take (.thereb _ (.thereb _ (.there _ (.there _ (.there _ (.here _ _)))))) (.take (.thereb _ (.thereb _ (.there _ (.there _ (.here _ _))))) (.take (.thereb _ (.thereb _ (.there _ (.here _ _)))) (.take (.thereb _ (.thereb _ (.here _ _))) (.nil _)))))))) (show resAll _ _ _ [.cell 2 27] _ from ⟨(res_cell (hS.own (mH)) Try.underlying27 rfl (by exact sz_api_State)), trivial⟩) rfl ⟨_, _, rfl, (by first | rfl | simp only [List.append_assoc, List.cons_append, List.nil_append, List.append_nil]), ⟨_, _, _, _, _, _, _, _, _, _, _, _, rfl, rfl, h_0_10, h_0_18, h_0_26, h_0_34, h_0_42, h_0_50⟩⟩)
theorem w_r0_CopyState {g : Frag} {a0 : T_State} {v0_ : Value} {r : T_State} (h0 : Rd_State g a0 v0_) (hF : r0_CopyState a0 = some r) : LC Try.prog 23 #[v0_] g [] (fun v L => ∃ (u0 : Value) (M0 : Own), u0 = v ∧ L = (M0 ++ []) ∧ Ow_State r u0 M0) := w_r0_CopyState_ h0 hF

def r1_Has (a0 : Int) : Bool :=
  (r0_Between a0 1 17)
set_option maxHeartbeats 2000000 in
theorem w_r1_Has_ {g : Frag} {a0 : Int} {r : Bool}  (hF : r1_Has a0 = r) : LCs Try.prog 87 #[.int .i64 a0] g (.bool r) := by
 unfold r1_Has at hF
 refine lc_body (k := 5) (av := [.int .i64 a0]) Try.func87 rfl rfl (h := fun W hS => ?_)
 refine c_seq ?_
 refine c_region ?_
 refine oy hS y_assign ?_
 refine n_thenN ?_
 refine c_seq ?_
 refine c_region ?_
 refine oy hS y_move ?_
 refine o_callS hS Try.func86 rfl rfl (hc := (w_r0_Between (a0 := a0) (a1 := 1) (a2 := 17))) (h := ?_)
 clear hS; intro w hS
 refine oy hS y_assign ?_
 refine n_thenN ?_
 subst hF
 exact wp_ret (wr1 hS)
theorem w_r1_Has {g : Frag} {a0 : Int}  : LCs Try.prog 87 #[.int .i64 a0] g (.bool (r1_Has a0)) := w_r1_Has_  rfl

def r1_flag (a0 : Bool) : Int :=
  bif a0 then 1 else 0
set_option maxHeartbeats 2000000 in
theorem w_r1_flag_ {g : Frag} {a0 : Bool} {r : Int}  (hF : r1_flag a0 = r) : LCs Try.prog 101 #[.bool a0] g (.int .u32 r) := by
 unfold r1_flag at hF
 refine lc_body (k := 4) (av := [.bool a0]) Try.func101 rfl rfl (h := fun W hS => ?_)
 refine c_seq ?_
 refine c_region ?_
 refine oy hS y_assign ?_
 refine n_thenN ?_
 iterate 2 (refine c_seq ?_)
 refine c_region ?_
 refine oy hS y_move ?_
 refine n_thenN ?_
 refine c_if (ht := fun c1 => ?_) (hf := fun c1 => ?_)
 · replace hF := bt c1 hF
   refine c_seq ?_
   refine c_region ?_
   refine oy hS y_assign ?_
   refine n_thenN ?_
   subst hF
   exact wp_ret (wr1 hS)
 replace hF := bf c1 hF
 refine wp_skip ?_
 refine c_seq ?_
 refine c_region ?_
 refine oy hS y_assign ?_
 refine n_thenN ?_
 subst hF
 exact wp_ret (wr1 hS)
theorem w_r1_flag {g : Frag} {a0 : Bool}  : LCs Try.prog 101 #[.bool a0] g (.int .u32 (r1_flag a0)) := w_r1_flag_  rfl

noncomputable def r1_Of (a0 : Int) (a1 : Int) (a2 : Int) : Option (Int × Bool) :=
  bif decide (a0 = 1) then some (IntKind.u32.wrap (a1 + a2), true) else bif decide (a0 = 2) then some (IntKind.u32.wrap (a1 - a2), true) else bif decide (a0 = 3) then some (bits .and .u32 a1 a2, true) else bif decide (a0 = 4) then some (bits .or .u32 a1 a2, true) else bif decide (a0 = 5) then some (bits .xor .u32 a1 a2, true) else bif decide (a0 = 6) then (shl' .u32 a1 (bits .and .u32 a2 31)).bind fun x7 => some (x7, true) else bif decide (a0 = 7) then (shr' .u32 a1 (bits .and .u32 a2 31)).bind fun x9 => some (x9, true) else bif decide (a0 = 8) then (shr' .i32 (IntKind.i32.wrap a1) (bits .and .u32 a2 31)).bind fun x11 => some (IntKind.u32.wrap x11, true) else bif decide (a0 = 9) then some ((r1_flag (decide ((IntKind.i64.wrap (IntKind.i32.wrap a1)) < (IntKind.i64.wrap (IntKind.i32.wrap a2))))), true) else bif decide (a0 = 10) then some ((r1_flag (decide (a1 < a2))), true) else bif decide (a0 = 11) then some ((r1_flag (decide (a1 = a2))), true) else bif decide (a0 = 12) then some (IntKind.u32.wrap (imin (IntKind.i64.wrap (IntKind.i32.wrap a1)) (IntKind.i64.wrap (IntKind.i32.wrap a2))), true) else bif decide (a0 = 13) then some (IntKind.u32.wrap (imax (IntKind.i64.wrap (IntKind.i32.wrap a1)) (IntKind.i64.wrap (IntKind.i32.wrap a2))), true) else bif decide (a0 = 14) then some (IntKind.u32.wrap (IntKind.i64.wrap ((IntKind.i64.wrap (IntKind.i32.wrap a1)) * (IntKind.i64.wrap (IntKind.i32.wrap a2)))), true) else bif decide (a0 = 15) then (shr' .i64 (IntKind.i64.wrap ((IntKind.i64.wrap (IntKind.i32.wrap a1)) * (IntKind.i64.wrap (IntKind.i32.wrap a2)))) 32).bind fun x19 => some (IntKind.u32.wrap x19, true) else bif decide ((IntKind.i64.wrap (IntKind.i32.wrap a2)) = 0) then some (0, false) else bif decide (a0 = 16) then (quo' .i64 (IntKind.i64.wrap (IntKind.i32.wrap a1)) (IntKind.i64.wrap (IntKind.i32.wrap a2))).bind fun x22 => some (IntKind.u32.wrap x22, true) else (rem' (IntKind.i64.wrap (IntKind.i32.wrap a1)) (IntKind.i64.wrap (IntKind.i32.wrap a2))).bind fun x23 => some (IntKind.u32.wrap x23, true)
set_option maxHeartbeats 2000000 in
theorem w_r1_Of_ {g : Frag} {a0 : Int} {a1 : Int} {a2 : Int} {r : (Int × Bool)}  (hF : r1_Of a0 a1 a2 = some r) : LCs Try.prog 88 #[.int .i64 a0, .int .u32 a1, .int .u32 a2] g (.tuple #[.int .u32 r.1, .bool r.2]) := by
 unfold r1_Of at hF
 refine lc_body (k := 117) (av := [.int .i64 a0, .int .u32 a1, .int .u32 a2]) Try.func88 rfl rfl (h := fun W hS => ?_)
 refine c_seq ?_
 refine c_region ?_
 iterate 2 (refine oy hS y_assign ?_)
 refine n_thenN ?_
 refine c_seq ?_
 refine c_region ?_
 refine oy hS y_move ?_
 refine oy hS (y_conv Try.underlying63 Try.underlying21) ?_
 refine oy hS (y_conv Try.underlying21 Try.underlying2) ?_
 refine oy hS y_move ?_
 refine oy hS (y_conv Try.underlying63 Try.underlying21) ?_
 refine oy hS (y_conv Try.underlying21 Try.underlying2) ?_
 iterate 2 (refine oy hS y_assign ?_)
 refine n_thenN ?_
 iterate 2 (refine c_seq ?_)
 refine c_region ?_
 refine oy hS y_move ?_
 refine n_thenN ?_
 refine c_block ?_
 refine c_seq ?_
 refine c_region ?_
 refine oy hS y_bin ?_
 refine oy hS y_assign ?_
 refine n_thenN ?_
 refine c_if (ht := fun c1 => ?_) (hf := fun c1 => ?_)
 · replace hF := bt c1 hF
   refine c_seq ?_
   refine c_region ?_
   iterate 2 (refine oy hS y_move ?_)
   refine oy hS y_bin ?_
   iterate 2 (refine oy hS y_assign ?_)
   refine n_thenN ?_
   obtain rfl := Option.some.inj hF
   exact wp_ret (wr2 hS)
 replace hF := bf c1 hF
 refine c_seq ?_
 refine c_region ?_
 refine oy hS y_bin ?_
 refine oy hS y_assign ?_
 refine n_thenN ?_
 refine c_if (ht := fun c2 => ?_) (hf := fun c2 => ?_)
 · replace hF := bt c2 hF
   refine c_seq ?_
   refine c_region ?_
   iterate 2 (refine oy hS y_move ?_)
   refine oy hS y_bin ?_
   iterate 2 (refine oy hS y_assign ?_)
   refine n_thenN ?_
   obtain rfl := Option.some.inj hF
   exact wp_ret (wr2 hS)
 replace hF := bf c2 hF
 refine c_seq ?_
 refine c_region ?_
 refine oy hS y_bin ?_
 refine oy hS y_assign ?_
 refine n_thenN ?_
 refine c_if (ht := fun c3 => ?_) (hf := fun c3 => ?_)
 · replace hF := bt c3 hF
   refine c_seq ?_
   refine c_region ?_
   iterate 2 (refine oy hS y_move ?_)
   refine oy hS y_bin ?_
   iterate 2 (refine oy hS y_assign ?_)
   refine n_thenN ?_
   obtain rfl := Option.some.inj hF
   exact wp_ret (wr2 hS)
 replace hF := bf c3 hF
 refine c_seq ?_
 refine c_region ?_
 refine oy hS y_bin ?_
 refine oy hS y_assign ?_
 refine n_thenN ?_
 refine c_if (ht := fun c4 => ?_) (hf := fun c4 => ?_)
 · replace hF := bt c4 hF
   refine c_seq ?_
   refine c_region ?_
   iterate 2 (refine oy hS y_move ?_)
   refine oy hS y_bin ?_
   iterate 2 (refine oy hS y_assign ?_)
   refine n_thenN ?_
   obtain rfl := Option.some.inj hF
   exact wp_ret (wr2 hS)
 replace hF := bf c4 hF
 refine c_seq ?_
 refine c_region ?_
 refine oy hS y_bin ?_
 refine oy hS y_assign ?_
 refine n_thenN ?_
 refine c_if (ht := fun c5 => ?_) (hf := fun c5 => ?_)
 · replace hF := bt c5 hF
   refine c_seq ?_
   refine c_region ?_
   iterate 2 (refine oy hS y_move ?_)
   refine oy hS y_bin ?_
   iterate 2 (refine oy hS y_assign ?_)
   refine n_thenN ?_
   obtain rfl := Option.some.inj hF
   exact wp_ret (wr2 hS)
 replace hF := bf c5 hF
 refine c_seq ?_
 refine c_region ?_
 refine oy hS y_bin ?_
 refine oy hS y_assign ?_
 refine n_thenN ?_
 refine c_if (ht := fun c6 => ?_) (hf := fun c6 => ?_)
 · replace hF := bt c6 hF
   refine c_seq ?_
   refine c_region ?_
   iterate 2 (refine oy hS y_move ?_)
   refine oy hS y_bin ?_
   obtain ⟨x7, hx7, hF⟩ := ob hF
   refine oy hS (y_shl hx7) ?_
   iterate 2 (refine oy hS y_assign ?_)
   refine n_thenN ?_
   obtain rfl := Option.some.inj hF
   exact wp_ret (wr2 hS)
 replace hF := bf c6 hF
 refine c_seq ?_
 refine c_region ?_
 refine oy hS y_bin ?_
 refine oy hS y_assign ?_
 refine n_thenN ?_
 refine c_if (ht := fun c8 => ?_) (hf := fun c8 => ?_)
 · replace hF := bt c8 hF
   refine c_seq ?_
   refine c_region ?_
   iterate 2 (refine oy hS y_move ?_)
   refine oy hS y_bin ?_
   obtain ⟨x9, hx9, hF⟩ := ob hF
   refine oy hS (y_shr hx9) ?_
   iterate 2 (refine oy hS y_assign ?_)
   refine n_thenN ?_
   obtain rfl := Option.some.inj hF
   exact wp_ret (wr2 hS)
 replace hF := bf c8 hF
 refine c_seq ?_
 refine c_region ?_
 refine oy hS y_bin ?_
 refine oy hS y_assign ?_
 refine n_thenN ?_
 refine c_if (ht := fun c10 => ?_) (hf := fun c10 => ?_)
 · replace hF := bt c10 hF
   refine c_seq ?_
   refine c_region ?_
   refine oy hS y_move ?_
   refine oy hS (y_conv Try.underlying63 Try.underlying21) ?_
   refine oy hS y_move ?_
   refine oy hS y_bin ?_
   obtain ⟨x11, hx11, hF⟩ := ob hF
   refine oy hS (y_shr hx11) ?_
   refine oy hS (y_conv Try.underlying21 Try.underlying63) ?_
   iterate 2 (refine oy hS y_assign ?_)
   refine n_thenN ?_
   obtain rfl := Option.some.inj hF
   exact wp_ret (wr2 hS)
 replace hF := bf c10 hF
 refine c_seq ?_
 refine c_region ?_
 refine oy hS y_bin ?_
 refine oy hS y_assign ?_
 refine n_thenN ?_
 refine c_if (ht := fun c12 => ?_) (hf := fun c12 => ?_)
 · replace hF := bt c12 hF
   refine c_seq ?_
   refine c_region ?_
   iterate 2 (refine oy hS y_move ?_)
   refine oy hS y_bin ?_
   refine o_callS hS Try.func101 rfl rfl (hc := (w_r1_flag (a0 := (decide ((IntKind.i64.wrap (IntKind.i32.wrap a1)) < (IntKind.i64.wrap (IntKind.i32.wrap a2))))))) (h := ?_)
   clear hS; intro w hS
   iterate 2 (refine oy hS y_assign ?_)
   refine n_thenN ?_
   obtain rfl := Option.some.inj hF
   exact wp_ret (wr2 hS)
 replace hF := bf c12 hF
 refine c_seq ?_
 refine c_region ?_
 refine oy hS y_bin ?_
 refine oy hS y_assign ?_
 refine n_thenN ?_
 refine c_if (ht := fun c13 => ?_) (hf := fun c13 => ?_)
 · replace hF := bt c13 hF
   refine c_seq ?_
   refine c_region ?_
   iterate 2 (refine oy hS y_move ?_)
   refine oy hS y_bin ?_
   refine o_callS hS Try.func101 rfl rfl (hc := (w_r1_flag (a0 := (decide (a1 < a2))))) (h := ?_)
   clear hS; intro w hS
   iterate 2 (refine oy hS y_assign ?_)
   refine n_thenN ?_
   obtain rfl := Option.some.inj hF
   exact wp_ret (wr2 hS)
 replace hF := bf c13 hF
 refine c_seq ?_
 refine c_region ?_
 refine oy hS y_bin ?_
 refine oy hS y_assign ?_
 refine n_thenN ?_
 refine c_if (ht := fun c14 => ?_) (hf := fun c14 => ?_)
 · replace hF := bt c14 hF
   refine c_seq ?_
   refine c_region ?_
   iterate 2 (refine oy hS y_move ?_)
   refine oy hS y_bin ?_
   refine o_callS hS Try.func101 rfl rfl (hc := (w_r1_flag (a0 := (decide (a1 = a2))))) (h := ?_)
   clear hS; intro w hS
   iterate 2 (refine oy hS y_assign ?_)
   refine n_thenN ?_
   obtain rfl := Option.some.inj hF
   exact wp_ret (wr2 hS)
 replace hF := bf c14 hF
 refine c_seq ?_
 refine c_region ?_
 refine oy hS y_bin ?_
 refine oy hS y_assign ?_
 refine n_thenN ?_
 refine c_if (ht := fun c15 => ?_) (hf := fun c15 => ?_)
 · replace hF := bt c15 hF
   refine c_seq ?_
   refine c_region ?_
   iterate 2 (refine oy hS y_move ?_)
   refine oy hS y_min ?_
   refine oy hS (y_conv Try.underlying2 Try.underlying63) ?_
   iterate 2 (refine oy hS y_assign ?_)
   refine n_thenN ?_
   obtain rfl := Option.some.inj hF
   exact wp_ret (wr2 hS)
 replace hF := bf c15 hF
 refine c_seq ?_
 refine c_region ?_
 refine oy hS y_bin ?_
 refine oy hS y_assign ?_
 refine n_thenN ?_
 refine c_if (ht := fun c16 => ?_) (hf := fun c16 => ?_)
 · replace hF := bt c16 hF
   refine c_seq ?_
   refine c_region ?_
   iterate 2 (refine oy hS y_move ?_)
   refine oy hS y_max ?_
   refine oy hS (y_conv Try.underlying2 Try.underlying63) ?_
   iterate 2 (refine oy hS y_assign ?_)
   refine n_thenN ?_
   obtain rfl := Option.some.inj hF
   exact wp_ret (wr2 hS)
 replace hF := bf c16 hF
 refine c_seq ?_
 refine c_region ?_
 refine oy hS y_bin ?_
 refine oy hS y_assign ?_
 refine n_thenN ?_
 refine c_if (ht := fun c17 => ?_) (hf := fun c17 => ?_)
 · replace hF := bt c17 hF
   refine c_seq ?_
   refine c_region ?_
   iterate 2 (refine oy hS y_move ?_)
   refine oy hS y_bin ?_
   refine oy hS (y_conv Try.underlying2 Try.underlying63) ?_
   iterate 2 (refine oy hS y_assign ?_)
   refine n_thenN ?_
   obtain rfl := Option.some.inj hF
   exact wp_ret (wr2 hS)
 replace hF := bf c17 hF
 refine c_seq ?_
 refine c_region ?_
 refine oy hS y_bin ?_
 refine oy hS y_assign ?_
 refine n_thenN ?_
 refine c_if (ht := fun c18 => ?_) (hf := fun c18 => ?_)
 · replace hF := bt c18 hF
   refine c_seq ?_
   refine c_region ?_
   iterate 2 (refine oy hS y_move ?_)
   refine oy hS y_bin ?_
   obtain ⟨x19, hx19, hF⟩ := ob hF
   refine oy hS (y_shr hx19) ?_
   refine oy hS (y_conv Try.underlying2 Try.underlying63) ?_
   iterate 2 (refine oy hS y_assign ?_)
   refine n_thenN ?_
   obtain rfl := Option.some.inj hF
   exact wp_ret (wr2 hS)
 replace hF := bf c18 hF
 refine wp_skip ?_
 iterate 2 (refine c_seq ?_)
 refine c_region ?_
 refine oy hS y_move ?_
 refine oy hS y_bin ?_
 refine n_thenN ?_
 refine c_if (ht := fun c20 => ?_) (hf := fun c20 => ?_)
 · replace hF := bt c20 hF
   refine c_seq ?_
   refine c_region ?_
   iterate 2 (refine oy hS y_assign ?_)
   refine n_thenN ?_
   obtain rfl := Option.some.inj hF
   exact wp_ret (wr2 hS)
 replace hF := bf c20 hF
 refine wp_skip ?_
 iterate 2 (refine c_seq ?_)
 refine c_region ?_
 refine oy hS y_move ?_
 refine oy hS y_bin ?_
 refine n_thenN ?_
 refine c_if (ht := fun c21 => ?_) (hf := fun c21 => ?_)
 · replace hF := bt c21 hF
   refine c_seq ?_
   refine c_region ?_
   iterate 2 (refine oy hS y_move ?_)
   obtain ⟨x22, hx22, hF⟩ := ob hF
   refine oy hS (y_quo hx22) ?_
   refine oy hS (y_conv Try.underlying2 Try.underlying63) ?_
   iterate 2 (refine oy hS y_assign ?_)
   refine n_thenN ?_
   obtain rfl := Option.some.inj hF
   exact wp_ret (wr2 hS)
 replace hF := bf c21 hF
 refine wp_skip ?_
 refine c_seq ?_
 refine c_region ?_
 iterate 2 (refine oy hS y_move ?_)
 obtain ⟨x23, hx23, hF⟩ := ob hF
 refine oy hS (y_rem hx23) ?_
 refine oy hS (y_conv Try.underlying2 Try.underlying63) ?_
 iterate 2 (refine oy hS y_assign ?_)
 refine n_thenN ?_
 obtain rfl := Option.some.inj hF
 exact wp_ret (wr2 hS)
theorem w_r1_Of {g : Frag} {a0 : Int} {a1 : Int} {a2 : Int} {r : (Int × Bool)}  (hF : r1_Of a0 a1 a2 = some r) : LCs Try.prog 88 #[.int .i64 a0, .int .u32 a1, .int .u32 a2] g (.tuple #[.int .u32 r.1, .bool r.2]) := w_r1_Of_  hF

def r1_Paired (a0 : Int) : Bool :=
  (r0_Between a0 18 21)
set_option maxHeartbeats 2000000 in
theorem w_r1_Paired_ {g : Frag} {a0 : Int} {r : Bool}  (hF : r1_Paired a0 = r) : LCs Try.prog 89 #[.int .i64 a0] g (.bool r) := by
 unfold r1_Paired at hF
 refine lc_body (k := 5) (av := [.int .i64 a0]) Try.func89 rfl rfl (h := fun W hS => ?_)
 refine c_seq ?_
 refine c_region ?_
 refine oy hS y_assign ?_
 refine n_thenN ?_
 refine c_seq ?_
 refine c_region ?_
 refine oy hS y_move ?_
 refine o_callS hS Try.func86 rfl rfl (hc := (w_r0_Between (a0 := a0) (a1 := 18) (a2 := 21))) (h := ?_)
 clear hS; intro w hS
 refine oy hS y_assign ?_
 refine n_thenN ?_
 subst hF
 exact wp_ret (wr1 hS)
theorem w_r1_Paired {g : Frag} {a0 : Int}  : LCs Try.prog 89 #[.int .i64 a0] g (.bool (r1_Paired a0)) := w_r1_Paired_  rfl

noncomputable def r1_Parts (a0 : Int) : Option (Int × Int) :=
  (shr' .u32 a0 16).bind fun x1 => some (IntKind.i64.wrap (IntKind.i16.wrap (bits .and .u32 a0 65535)), IntKind.i64.wrap (IntKind.i16.wrap x1))
set_option maxHeartbeats 2000000 in
theorem w_r1_Parts_ {g : Frag} {a0 : Int} {r : (Int × Int)}  (hF : r1_Parts a0 = some r) : LCs Try.prog 102 #[.int .u32 a0] g (.tuple #[.int .i64 r.1, .int .i64 r.2]) := by
 unfold r1_Parts at hF
 refine lc_body (k := 12) (av := [.int .u32 a0]) Try.func102 rfl rfl (h := fun W hS => ?_)
 refine c_seq ?_
 refine c_region ?_
 iterate 2 (refine oy hS y_assign ?_)
 refine n_thenN ?_
 refine c_seq ?_
 refine c_region ?_
 refine oy hS y_move ?_
 refine oy hS y_bin ?_
 refine oy hS (y_conv Try.underlying63 Try.underlying105) ?_
 refine oy hS (y_conv Try.underlying105 Try.underlying3) ?_
 refine oy hS y_move ?_
 obtain ⟨x1, hx1, hF⟩ := ob hF
 refine oy hS (y_shr hx1) ?_
 refine oy hS (y_conv Try.underlying63 Try.underlying105) ?_
 refine oy hS (y_conv Try.underlying105 Try.underlying3) ?_
 iterate 2 (refine oy hS y_assign ?_)
 refine n_thenN ?_
 obtain rfl := Option.some.inj hF
 exact wp_ret (wr2 hS)
theorem w_r1_Parts {g : Frag} {a0 : Int} {r : (Int × Int)}  (hF : r1_Parts a0 = some r) : LCs Try.prog 102 #[.int .u32 a0] g (.tuple #[.int .i64 r.1, .int .i64 r.2]) := w_r1_Parts_  hF

noncomputable def r1_Make (a0 : Int) (a1 : Int) : Option Int :=
  (shl' .u32 (bits .and .u32 (IntKind.u32.wrap a1) 65535) 16).bind fun x1 => some (bits .or .u32 (bits .and .u32 (IntKind.u32.wrap a0) 65535) x1)
set_option maxHeartbeats 2000000 in
theorem w_r1_Make_ {g : Frag} {a0 : Int} {a1 : Int} {r : Int}  (hF : r1_Make a0 a1 = some r) : LCs Try.prog 103 #[.int .i64 a0, .int .i64 a1] g (.int .u32 r) := by
 unfold r1_Make at hF
 refine lc_body (k := 13) (av := [.int .i64 a0, .int .i64 a1]) Try.func103 rfl rfl (h := fun W hS => ?_)
 refine c_seq ?_
 refine c_region ?_
 refine oy hS y_assign ?_
 refine n_thenN ?_
 refine c_seq ?_
 refine c_region ?_
 refine oy hS y_move ?_
 refine oy hS (y_conv Try.underlying3 Try.underlying63) ?_
 refine oy hS y_bin ?_
 refine oy hS y_move ?_
 refine oy hS (y_conv Try.underlying3 Try.underlying63) ?_
 refine oy hS y_bin ?_
 obtain ⟨x1, hx1, hF⟩ := ob hF
 refine oy hS (y_shl hx1) ?_
 refine oy hS y_bin ?_
 refine oy hS y_assign ?_
 refine n_thenN ?_
 obtain rfl := Option.some.inj hF
 exact wp_ret (wr1 hS)
theorem w_r1_Make {g : Frag} {a0 : Int} {a1 : Int} {r : Int}  (hF : r1_Make a0 a1 = some r) : LCs Try.prog 103 #[.int .i64 a0, .int .i64 a1] g (.int .u32 r) := w_r1_Make_  hF

noncomputable def r1_Pair (a0 : Int) (a1 : Int) (a2 : Int) : Option Int :=
  (r1_Parts a1).bind fun r1 => (r1_Parts a2).bind fun r2 => bif decide (a0 = 18) then (r1_Make (IntKind.i64.wrap (r1.1 + r2.1)) (IntKind.i64.wrap (r1.2 + r2.2))).bind fun r4 => some (r4) else bif decide (a0 = 19) then (r1_Make (IntKind.i64.wrap (r1.1 - r2.1)) (IntKind.i64.wrap (r1.2 - r2.2))).bind fun r6 => some (r6) else bif decide (a0 = 20) then (r1_Make (IntKind.i64.wrap ((IntKind.i64.wrap (r1.1 * r2.1)) - (IntKind.i64.wrap (r1.2 * r2.2)))) (IntKind.i64.wrap ((IntKind.i64.wrap (r1.1 * r2.2)) + (IntKind.i64.wrap (r1.2 * r2.1))))).bind fun r8 => some (r8) else (r1_Make r1.1 (IntKind.i64.wrap (0 - r1.2))).bind fun r9 => some (r9)
set_option maxHeartbeats 2000000 in
theorem w_r1_Pair_ {g : Frag} {a0 : Int} {a1 : Int} {a2 : Int} {r : Int}  (hF : r1_Pair a0 a1 a2 = some r) : LCs Try.prog 90 #[.int .i64 a0, .int .u32 a1, .int .u32 a2] g (.int .u32 r) := by
 unfold r1_Pair at hF
 refine lc_body (k := 61) (av := [.int .i64 a0, .int .u32 a1, .int .u32 a2]) Try.func90 rfl rfl (h := fun W hS => ?_)
 refine c_seq ?_
 refine c_region ?_
 refine oy hS y_assign ?_
 refine n_thenN ?_
 refine c_seq ?_
 refine c_region ?_
 refine oy hS y_move ?_
 obtain ⟨r1, hr1, hF⟩ := ob hF
 refine o_callS hS Try.func102 rfl rfl (hc := (w_r1_Parts (a0 := a1) (hF := hr1))) (h := ?_)
 clear hS; intro w hS
 refine oy hS y_move ?_
 iterate 2 (refine oy hS (y_extract rfl) ?_)
 iterate 2 (refine oy hS y_assign ?_)
 refine n_thenN ?_
 refine c_seq ?_
 refine c_region ?_
 refine oy hS y_move ?_
 obtain ⟨r2, hr2, hF⟩ := ob hF
 refine o_callS hS Try.func102 rfl rfl (hc := (w_r1_Parts (a0 := a2) (hF := hr2))) (h := ?_)
 clear hS; intro w hS
 refine oy hS y_move ?_
 iterate 2 (refine oy hS (y_extract rfl) ?_)
 iterate 2 (refine oy hS y_assign ?_)
 refine n_thenN ?_
 iterate 2 (refine c_seq ?_)
 refine c_region ?_
 refine oy hS y_move ?_
 refine n_thenN ?_
 refine c_block ?_
 refine c_seq ?_
 refine c_region ?_
 refine oy hS y_bin ?_
 refine oy hS y_assign ?_
 refine n_thenN ?_
 refine c_if (ht := fun c3 => ?_) (hf := fun c3 => ?_)
 · replace hF := bt c3 hF
   refine c_seq ?_
   refine c_region ?_
   iterate 2 (refine oy hS y_move ?_)
   refine oy hS y_bin ?_
   iterate 2 (refine oy hS y_move ?_)
   refine oy hS y_bin ?_
   obtain ⟨r4, hr4, hF⟩ := ob hF
   refine o_callS hS Try.func103 rfl rfl (hc := (w_r1_Make (a0 := (IntKind.i64.wrap (r1.1 + r2.1))) (a1 := (IntKind.i64.wrap (r1.2 + r2.2))) (hF := hr4))) (h := ?_)
   clear hS; intro w hS
   refine oy hS y_assign ?_
   refine n_thenN ?_
   obtain rfl := Option.some.inj hF
   exact wp_ret (wr1 hS)
 replace hF := bf c3 hF
 refine c_seq ?_
 refine c_region ?_
 refine oy hS y_bin ?_
 refine oy hS y_assign ?_
 refine n_thenN ?_
 refine c_if (ht := fun c5 => ?_) (hf := fun c5 => ?_)
 · replace hF := bt c5 hF
   refine c_seq ?_
   refine c_region ?_
   iterate 2 (refine oy hS y_move ?_)
   refine oy hS y_bin ?_
   iterate 2 (refine oy hS y_move ?_)
   refine oy hS y_bin ?_
   obtain ⟨r6, hr6, hF⟩ := ob hF
   refine o_callS hS Try.func103 rfl rfl (hc := (w_r1_Make (a0 := (IntKind.i64.wrap (r1.1 - r2.1))) (a1 := (IntKind.i64.wrap (r1.2 - r2.2))) (hF := hr6))) (h := ?_)
   clear hS; intro w hS
   refine oy hS y_assign ?_
   refine n_thenN ?_
   obtain rfl := Option.some.inj hF
   exact wp_ret (wr1 hS)
 replace hF := bf c5 hF
 refine c_seq ?_
 refine c_region ?_
 refine oy hS y_bin ?_
 refine oy hS y_assign ?_
 refine n_thenN ?_
 refine c_if (ht := fun c7 => ?_) (hf := fun c7 => ?_)
 · replace hF := bt c7 hF
   refine c_seq ?_
   refine c_region ?_
   iterate 2 (refine oy hS y_move ?_)
   refine oy hS y_bin ?_
   iterate 2 (refine oy hS y_move ?_)
   iterate 2 (refine oy hS y_bin ?_)
   iterate 2 (refine oy hS y_move ?_)
   refine oy hS y_bin ?_
   iterate 2 (refine oy hS y_move ?_)
   iterate 2 (refine oy hS y_bin ?_)
   obtain ⟨r8, hr8, hF⟩ := ob hF
   refine o_callS hS Try.func103 rfl rfl (hc := (w_r1_Make (a0 := (IntKind.i64.wrap ((IntKind.i64.wrap (r1.1 * r2.1)) - (IntKind.i64.wrap (r1.2 * r2.2))))) (a1 := (IntKind.i64.wrap ((IntKind.i64.wrap (r1.1 * r2.2)) + (IntKind.i64.wrap (r1.2 * r2.1))))) (hF := hr8))) (h := ?_)
   clear hS; intro w hS
   refine oy hS y_assign ?_
   refine n_thenN ?_
   obtain rfl := Option.some.inj hF
   exact wp_ret (wr1 hS)
 replace hF := bf c7 hF
 refine wp_skip ?_
 refine c_seq ?_
 refine c_region ?_
 iterate 2 (refine oy hS y_move ?_)
 refine oy hS y_neg ?_
 obtain ⟨r9, hr9, hF⟩ := ob hF
 refine o_callS hS Try.func103 rfl rfl (hc := (w_r1_Make (a0 := r1.1) (a1 := (IntKind.i64.wrap (0 - r1.2))) (hF := hr9))) (h := ?_)
 clear hS; intro w hS
 refine oy hS y_assign ?_
 refine n_thenN ?_
 obtain rfl := Option.some.inj hF
 exact wp_ret (wr1 hS)
theorem w_r1_Pair {g : Frag} {a0 : Int} {a1 : Int} {a2 : Int} {r : Int}  (hF : r1_Pair a0 a1 a2 = some r) : LCs Try.prog 90 #[.int .i64 a0, .int .u32 a1, .int .u32 a2] g (.int .u32 r) := w_r1_Pair_  hF
end Go.Proofs.Ytadajdcbeegabaa
