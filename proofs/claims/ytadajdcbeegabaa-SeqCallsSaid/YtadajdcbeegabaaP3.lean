/- Functions, lifted. Printed by lift.py. -/
import Derived.Test.YtadajdcbeegabaaProg
import Derived.Test.YtadajdcbeegabaaP2
import Derived.KernelRfl
namespace Go.Proofs.Ytadajdcbeegabaa
open Go Go.RowKit Fr
set_option linter.unusedVariables false
set_option linter.unusedSimpArgs false
set_option maxRecDepth 20000
noncomputable def seq_Own (a0 : T_State) : Option T_State :=
  (slices_Clone_uint32 a0.Regs).bind fun r3 => (slices_Clone_uint32 a0.Mem).bind fun r11 => (slices_Clone_uint32 a0.In_).bind fun r19 => (slices_Clone_uint32 a0.Out).bind fun r27 => (slices_Clone_int a0.Stack).bind fun r35 => (slices_Clone_Write a0.Fly).bind fun r43 => some (⟨r3, r11, r19, a0.Taken, r27, a0.PC, r35, a0.Stop, r43, a0.Jump, a0.Delay⟩ : T_State)
set_option maxHeartbeats 2000000 in
theorem w_seq_Own_ {g : Frag} {a0 : T_State} {v0_ : Value} {r : T_State} (h0 : Rd_State g a0 v0_) (hF : seq_Own a0 = some r) : LC Try.prog 39 #[v0_] g [] (fun v L => ∃ (u0 : Value) (M0 : Own), u0 = v ∧ L = (M0 ++ []) ∧ Ow_State r u0 M0) := by
 obtain ⟨v0_0_, v0_1_, v0_2_, v0_4_, v0_6_, v0_8_, rfl, h0_0_, h0_1_, h0_2_, h0_4_, h0_6_, h0_8_⟩ := h0
 unfold seq_Own at hF
 refine lc_body (k := 28) (av := [.agg #[v0_0_, v0_1_, v0_2_, .int .i64 a0.Taken, v0_4_, .int .i64 a0.PC, v0_6_, .int .i64 a0.Stop, v0_8_, .int .i64 a0.Jump, .int .i64 a0.Delay]]) Try.func39 rfl rfl (h := fun W hS => ?_)
 refine c_seq ?_
 refine c_region ?_
 refine o_boxP (cl := [v0_0_, v0_1_, v0_2_, .int .i64 a0.Taken, v0_4_, .int .i64 a0.PC, v0_6_, .int .i64 a0.Stop, v0_8_, .int .i64 a0.Jump, .int .i64 a0.Delay]) rfl hS ?_
 clear hS; intro b1 w hS
 refine o_allocP (cl := [(.slice none 0 0), (.slice none 0 0), (.slice none 0 0), .int .i64 0, (.slice none 0 0), .int .i64 0, (.slice none 0 0), .int .i64 0, (.slice none 0 0), .int .i64 0, .int .i64 0]) zr_api_State rfl hS ?_
 clear hS; intro b2 w hS
 refine n_thenN ?_
 refine c_seq ?_
 refine c_heldB (CB g ((b2, blk [(.slice none 0 0), (.slice none 0 0), (.slice none 0 0), .int .i64 0, (.slice none 0 0), .int .i64 0, (.slice none 0 0), .int .i64 0, (.slice none 0 0), .int .i64 0, .int .i64 0] 27) :: ((b1, blk [v0_0_, v0_1_, v0_2_, .int .i64 a0.Taken, v0_4_, .int .i64 a0.PC, v0_6_, .int .i64 a0.Stop, v0_8_, .int .i64 a0.Jump, .int .i64 a0.Delay] 27) :: []))) 13 20 (by kernel_rfl) rfl hS ?_
 clear hS; intro w hS
 refine hy0 0 rfl wn (by kernel_rfl) (nq (P := Try.prog) (fn := Try.f39)) (fun _ => hS.cb) (y_field fa_api_State_0) ?_
 refine hy 1 rfl wn (by kernel_rfl) (nq (P := Try.prog) (fn := Try.f39)) hS.cb (y_load (fun w hS => hS.own (mC (mH))) Try.underlying23 rfl rfl) ?_
 refine hy0 3 rfl wn (by kernel_rfl) (nq (P := Try.prog) (fn := Try.f39)) (fun _ => hS.cb) (y_field fa_api_State_1) ?_
 refine hy 4 rfl wn (by kernel_rfl) (nq (P := Try.prog) (fn := Try.f39)) hS.cb (y_load (fun w hS => hS.own (mC (mH))) Try.underlying23 rfl rfl) ?_
 refine hy0 6 rfl wn (by kernel_rfl) (nq (P := Try.prog) (fn := Try.f39)) (fun _ => hS.cb) (y_field fa_api_State_2) ?_
 refine hy 7 rfl wn (by kernel_rfl) (nq (P := Try.prog) (fn := Try.f39)) hS.cb (y_load (fun w hS => hS.own (mC (mH))) Try.underlying23 rfl rfl) ?_
 refine hy0 9 rfl wn (by kernel_rfl) (nq (P := Try.prog) (fn := Try.f39)) (fun _ => hS.cb) (y_field fa_api_State_4) ?_
 refine hy 10 rfl wn (by kernel_rfl) (nq (P := Try.prog) (fn := Try.f39)) hS.cb (y_load (fun w hS => hS.own (mC (mH))) Try.underlying23 rfl rfl) ?_
 refine hb1 2 (by kernel_rfl) (hb_op rfl wn (nl (P := Try.prog) (fn := Try.f39)) ?_)
 obtain ⟨r3, hr3, hF⟩ := ob hF
 refine o_call (L1 := []) (L2 := ((b2, blk [(.slice none 0 0), (.slice none 0 0), (.slice none 0 0), .int .i64 0, (.slice none 0 0), .int .i64 0, (.slice none 0 0), .int .i64 0, (.slice none 0 0), .int .i64 0, .int .i64 0] 27) :: ((b1, blk [v0_0_, v0_1_, v0_2_, .int .i64 a0.Taken, v0_4_, .int .i64 a0.PC, v0_6_, .int .i64 a0.Stop, v0_8_, .int .i64 a0.Jump, .int .i64 a0.Delay] 27) :: []))) hS Try.func49 rfl rfl (hc := (w_slices_Clone_uint32 (a0 := a0.Regs) (h0 := h0_0_.plus) (hF := hr3))) (h := ?_)
 clear hS; intro v4 LY5 w hS hr6
 obtain ⟨v_0_7, LX_0_8, rfl, rfl, h_0_9⟩ := hr6
 simp only [List.append_assoc, List.cons_append, List.nil_append] at hS
 refine hb_next (fun _ => (hS.re (.takeb (.there _ (.hereb _ _)) (.takeb (.there _ (.hereb _ _)) (.nil _)))).cb) ?_
 refine hy0 12 rfl wn (by kernel_rfl) (nq (P := Try.prog) (fn := Try.f39)) (fun _ => (hS.re (.takeb (.there _ (.hereb _ _)) (.takeb (.there _ (.hereb _ _)) (.nil _)))).cb) (y_field fa_api_State_0) ?_
 refine hb1 5 (by kernel_rfl) (hb_op rfl wn (nl (P := Try.prog) (fn := Try.f39)) ?_)
 obtain ⟨r11, hr11, hF⟩ := ob hF
 refine o_call (L1 := []) (L2 := (LX_0_8 ++ ((b2, blk [(.slice none 0 0), (.slice none 0 0), (.slice none 0 0), .int .i64 0, (.slice none 0 0), .int .i64 0, (.slice none 0 0), .int .i64 0, (.slice none 0 0), .int .i64 0, .int .i64 0] 27) :: ((b1, blk [v0_0_, v0_1_, v0_2_, .int .i64 a0.Taken, v0_4_, .int .i64 a0.PC, v0_6_, .int .i64 a0.Stop, v0_8_, .int .i64 a0.Jump, .int .i64 a0.Delay] 27) :: [])))) hS Try.func49 rfl rfl (hc := (w_slices_Clone_uint32 (a0 := a0.Mem) (h0 := h0_1_.plus) (hF := hr11))) (h := ?_)
 clear hS; intro v12 LY13 w hS hr14
 obtain ⟨v_0_15, LX_0_16, rfl, rfl, h_0_17⟩ := hr14
 simp only [List.append_assoc, List.cons_append, List.nil_append] at hS
 refine hb_next (fun _ => (hS.re (.takeb (.there _ (.there _ (.hereb _ _))) (.takeb (.there _ (.there _ (.hereb _ _))) (.nil _)))).cb) ?_
 refine hb1 8 (by kernel_rfl) (hb_op rfl wn (nl (P := Try.prog) (fn := Try.f39)) ?_)
 obtain ⟨r19, hr19, hF⟩ := ob hF
 refine o_call (L1 := []) (L2 := (LX_0_16 ++ (LX_0_8 ++ ((b2, blk [(.slice none 0 0), (.slice none 0 0), (.slice none 0 0), .int .i64 0, (.slice none 0 0), .int .i64 0, (.slice none 0 0), .int .i64 0, (.slice none 0 0), .int .i64 0, .int .i64 0] 27) :: ((b1, blk [v0_0_, v0_1_, v0_2_, .int .i64 a0.Taken, v0_4_, .int .i64 a0.PC, v0_6_, .int .i64 a0.Stop, v0_8_, .int .i64 a0.Jump, .int .i64 a0.Delay] 27) :: []))))) hS Try.func49 rfl rfl (hc := (w_slices_Clone_uint32 (a0 := a0.In_) (h0 := h0_2_.plus) (hF := hr19))) (h := ?_)
 clear hS; intro v20 LY21 w hS hr22
 obtain ⟨v_0_23, LX_0_24, rfl, rfl, h_0_25⟩ := hr22
 simp only [List.append_assoc, List.cons_append, List.nil_append] at hS
 refine hb_next (fun _ => (hS.re (.takeb (.there _ (.there _ (.there _ (.hereb _ _)))) (.takeb (.there _ (.there _ (.there _ (.hereb _ _)))) (.nil _)))).cb) ?_
 refine hb1 11 (by kernel_rfl) (hb_op rfl wn (nl (P := Try.prog) (fn := Try.f39)) ?_)
 obtain ⟨r27, hr27, hF⟩ := ob hF
 refine o_call (L1 := []) (L2 := (LX_0_24 ++ (LX_0_16 ++ (LX_0_8 ++ ((b2, blk [(.slice none 0 0), (.slice none 0 0), (.slice none 0 0), .int .i64 0, (.slice none 0 0), .int .i64 0, (.slice none 0 0), .int .i64 0, (.slice none 0 0), .int .i64 0, .int .i64 0] 27) :: ((b1, blk [v0_0_, v0_1_, v0_2_, .int .i64 a0.Taken, v0_4_, .int .i64 a0.PC, v0_6_, .int .i64 a0.Stop, v0_8_, .int .i64 a0.Jump, .int .i64 a0.Delay] 27) :: [])))))) hS Try.func49 rfl rfl (hc := (w_slices_Clone_uint32 (a0 := a0.Out) (h0 := h0_4_.plus) (hF := hr27))) (h := ?_)
 clear hS; intro v28 LY29 w hS hr30
 obtain ⟨v_0_31, LX_0_32, rfl, rfl, h_0_33⟩ := hr30
 simp only [List.append_assoc, List.cons_append, List.nil_append] at hS
 refine hb_next (fun _ => (hS.re (.takeb (.there _ (.there _ (.there _ (.there _ (.hereb _ _))))) (.takeb (.there _ (.there _ (.there _ (.there _ (.hereb _ _))))) (.nil _)))).cb) ?_
 refine hb1 13 (by kernel_rfl) (hb_op rfl wn (nl (P := Try.prog) (fn := Try.f39)) ?_)
 have hS : St W g [] ((b1, blk [v0_0_, v0_1_, v0_2_, .int .i64 a0.Taken, v0_4_, .int .i64 a0.PC, v0_6_, .int .i64 a0.Stop, v0_8_, .int .i64 a0.Jump, .int .i64 a0.Delay] 27) :: (LX_0_32 ++ (LX_0_24 ++ (LX_0_16 ++ (LX_0_8 ++ ((b2, blk [(.slice none 0 0), (.slice none 0 0), (.slice none 0 0), .int .i64 0, (.slice none 0 0), .int .i64 0, (.slice none 0 0), .int .i64 0, (.slice none 0 0), .int .i64 0, .int .i64 0] 27) :: [])))))) w := hS.re (.takeb (.there _ (.there _ (.there _ (.there _ (.thereb _ (.hereb _ _)))))) (.take (.here _ _) (.take (.here _ _) (.take (.here _ _) (.take (.here _ _) (.takeb (.hereb _ _) (.nil _)))))))
 refine o_store hS (hm := Upd.here _) (hi := by exact sz_S_uint32) (h1 := (h_0_9).one) (hc := (h_0_9).cell) (ho := by exact Nat.le_of_ble_eq_true rfl) (h := ?_)
 clear hS; intro w hS
 refine hb_next (fun h => absurd h (by decide)) ?_
 refine hy0 14 rfl wn (by kernel_rfl) (nq (P := Try.prog) (fn := Try.f39)) (fun h => absurd h (by decide)) (y_field fa_api_State_1) ?_
 refine hb1 15 (by kernel_rfl) (hb_op rfl wn (nl (P := Try.prog) (fn := Try.f39)) ?_)
 refine o_store hS (hm := Upd.here _) (hi := by exact sz_S_uint32) (h1 := (h_0_17).one) (hc := (h_0_17).cell) (ho := by exact Nat.le_of_ble_eq_true rfl) (h := ?_)
 clear hS; intro w hS
 refine hb_next (fun h => absurd h (by decide)) ?_
 refine hy0 16 rfl wn (by kernel_rfl) (nq (P := Try.prog) (fn := Try.f39)) (fun h => absurd h (by decide)) (y_field fa_api_State_2) ?_
 refine hb1 17 (by kernel_rfl) (hb_op rfl wn (nl (P := Try.prog) (fn := Try.f39)) ?_)
 refine o_store hS (hm := Upd.here _) (hi := by exact sz_S_uint32) (h1 := (h_0_25).one) (hc := (h_0_25).cell) (ho := by exact Nat.le_of_ble_eq_true rfl) (h := ?_)
 clear hS; intro w hS
 refine hb_next (fun h => absurd h (by decide)) ?_
 refine hy0 18 rfl wn (by kernel_rfl) (nq (P := Try.prog) (fn := Try.f39)) (fun h => absurd h (by decide)) (y_field fa_api_State_4) ?_
 refine hb1 19 (by kernel_rfl) (hb_op rfl wn (nl (P := Try.prog) (fn := Try.f39)) ?_)
 refine o_store hS (hm := Upd.here _) (hi := by exact sz_S_uint32) (h1 := (h_0_33).one) (hc := (h_0_33).cell) (ho := by exact Nat.le_of_ble_eq_true rfl) (h := ?_)
 clear hS; intro w hS
 refine hb_next (fun h => absurd h (by decide)) ?_
 refine hb_done (by kernel_rfl) ?_
 refine c_seq ?_
 refine c_heldB (CB g ((b1, blk [v_0_7, v_0_15, v_0_23, .int .i64 a0.Taken, v_0_31, .int .i64 a0.PC, v0_6_, .int .i64 a0.Stop, v0_8_, .int .i64 a0.Jump, .int .i64 a0.Delay] 27) :: (LX_0_32 ++ (LX_0_24 ++ (LX_0_16 ++ (LX_0_8 ++ ((b2, blk [(.slice none 0 0), (.slice none 0 0), (.slice none 0 0), .int .i64 0, (.slice none 0 0), .int .i64 0, (.slice none 0 0), .int .i64 0, (.slice none 0 0), .int .i64 0, .int .i64 0] 27) :: []))))))) 7 10 (by kernel_rfl) rfl hS ?_
 clear hS; intro w hS
 refine hy0 0 rfl wn (by kernel_rfl) (nq (P := Try.prog) (fn := Try.f39)) (fun _ => hS.cb) (y_field fa_api_State_6) ?_
 refine hy 1 rfl wn (by kernel_rfl) (nq (P := Try.prog) (fn := Try.f39)) hS.cb (y_load (fun w hS => hS.own (mH)) Try.underlying24 rfl rfl) ?_
 refine hy0 3 rfl wn (by kernel_rfl) (nq (P := Try.prog) (fn := Try.f39)) (fun _ => hS.cb) (y_field fa_api_State_8) ?_
 refine hy 4 rfl wn (by kernel_rfl) (nq (P := Try.prog) (fn := Try.f39)) hS.cb (y_load (fun w hS => hS.own (mH)) Try.underlying25 rfl rfl) ?_
 refine hb1 2 (by kernel_rfl) (hb_op rfl wn (nl (P := Try.prog) (fn := Try.f39)) ?_)
 obtain ⟨r35, hr35, hF⟩ := ob hF
 refine o_call (L1 := []) (L2 := ((b1, blk [v_0_7, v_0_15, v_0_23, .int .i64 a0.Taken, v_0_31, .int .i64 a0.PC, v0_6_, .int .i64 a0.Stop, v0_8_, .int .i64 a0.Jump, .int .i64 a0.Delay] 27) :: (LX_0_32 ++ (LX_0_24 ++ (LX_0_16 ++ (LX_0_8 ++ ((b2, blk [(.slice none 0 0), (.slice none 0 0), (.slice none 0 0), .int .i64 0, (.slice none 0 0), .int .i64 0, (.slice none 0 0), .int .i64 0, (.slice none 0 0), .int .i64 0, .int .i64 0] 27) :: []))))))) hS Try.func58 rfl rfl (hc := (w_slices_Clone_int (a0 := a0.Stack) (h0 := h0_6_.plus) (hF := hr35))) (h := ?_)
 clear hS; intro v36 LY37 w hS hr38
 obtain ⟨v_0_39, LX_0_40, rfl, rfl, h_0_41⟩ := hr38
 simp only [List.append_assoc, List.cons_append, List.nil_append] at hS
 refine hb_next (fun _ => (hS.re (.takeb (.there _ (.hereb _ _)) (.take (.there _ (.here _ _)) (.take (.there _ (.here _ _)) (.take (.there _ (.here _ _)) (.take (.there _ (.here _ _)) (.takeb (.there _ (.hereb _ _)) (.nil _)))))))).cb) ?_
 refine hy0 6 rfl wn (by kernel_rfl) (nq (P := Try.prog) (fn := Try.f39)) (fun _ => (hS.re (.takeb (.there _ (.hereb _ _)) (.take (.there _ (.here _ _)) (.take (.there _ (.here _ _)) (.take (.there _ (.here _ _)) (.take (.there _ (.here _ _)) (.takeb (.there _ (.hereb _ _)) (.nil _)))))))).cb) (y_field fa_api_State_6) ?_
 refine hb1 5 (by kernel_rfl) (hb_op rfl wn (nl (P := Try.prog) (fn := Try.f39)) ?_)
 obtain ⟨r43, hr43, hF⟩ := ob hF
 refine o_call (L1 := []) (L2 := (LX_0_40 ++ ((b1, blk [v_0_7, v_0_15, v_0_23, .int .i64 a0.Taken, v_0_31, .int .i64 a0.PC, v0_6_, .int .i64 a0.Stop, v0_8_, .int .i64 a0.Jump, .int .i64 a0.Delay] 27) :: (LX_0_32 ++ (LX_0_24 ++ (LX_0_16 ++ (LX_0_8 ++ ((b2, blk [(.slice none 0 0), (.slice none 0 0), (.slice none 0 0), .int .i64 0, (.slice none 0 0), .int .i64 0, (.slice none 0 0), .int .i64 0, (.slice none 0 0), .int .i64 0, .int .i64 0] 27) :: [])))))))) hS Try.func59 rfl rfl (hc := (w_slices_Clone_Write (a0 := a0.Fly) (h0 := h0_8_.plus) (hF := hr43))) (h := ?_)
 clear hS; intro v44 LY45 w hS hr46
 obtain ⟨v_0_47, LX_0_48, rfl, rfl, h_0_49⟩ := hr46
 simp only [List.append_assoc, List.cons_append, List.nil_append] at hS
 refine hb_next (fun _ => (hS.re (.takeb (.there _ (.there _ (.hereb _ _))) (.take (.there _ (.there _ (.here _ _))) (.take (.there _ (.there _ (.here _ _))) (.take (.there _ (.there _ (.here _ _))) (.take (.there _ (.there _ (.here _ _))) (.takeb (.there _ (.there _ (.hereb _ _))) (.nil _)))))))).cb) ?_
 refine hb1 7 (by kernel_rfl) (hb_op rfl wn (nl (P := Try.prog) (fn := Try.f39)) ?_)
 have hS : St W g [] ((b1, blk [v_0_7, v_0_15, v_0_23, .int .i64 a0.Taken, v_0_31, .int .i64 a0.PC, v0_6_, .int .i64 a0.Stop, v0_8_, .int .i64 a0.Jump, .int .i64 a0.Delay] 27) :: (LX_0_48 ++ (LX_0_40 ++ (LX_0_32 ++ (LX_0_24 ++ (LX_0_16 ++ (LX_0_8 ++ ((b2, blk [(.slice none 0 0), (.slice none 0 0), (.slice none 0 0), .int .i64 0, (.slice none 0 0), .int .i64 0, (.slice none 0 0), .int .i64 0, (.slice none 0 0), .int .i64 0, .int .i64 0] 27) :: [])))))))) w := hS.re (.takeb (.there _ (.there _ (.hereb _ _))) (.take (.here _ _) (.take (.here _ _) (.take (.here _ _) (.take (.here _ _) (.take (.here _ _) (.take (.here _ _) (.takeb (.hereb _ _) (.nil _)))))))))
 refine o_store hS (hm := Upd.here _) (hi := by exact sz_S_int) (h1 := (h_0_41).one) (hc := (h_0_41).cell) (ho := by exact Nat.le_of_ble_eq_true rfl) (h := ?_)
 clear hS; intro w hS
 refine hb_next (fun h => absurd h (by decide)) ?_
 refine hy0 8 rfl wn (by kernel_rfl) (nq (P := Try.prog) (fn := Try.f39)) (fun h => absurd h (by decide)) (y_field fa_api_State_8) ?_
 refine hb1 9 (by kernel_rfl) (hb_op rfl wn (nl (P := Try.prog) (fn := Try.f39)) ?_)
 refine o_store hS (hm := Upd.here _) (hi := by exact sz_S_api_Write) (h1 := (h_0_49).one) (hc := (h_0_49).cell) (ho := by exact Nat.le_of_ble_eq_true rfl) (h := ?_)
 clear hS; intro w hS
 refine hb_next (fun h => absurd h (by decide)) ?_
 refine hb_done (by kernel_rfl) ?_
 refine c_seq ?_
 refine c_region ?_
 refine oy hS (y_loadW (fun w hS => hS.own (mH)) Try.underlying27 rfl (by exact sz_api_State)) ?_
 have hS : St W g [] ((b2, blk [(.slice none 0 0), (.slice none 0 0), (.slice none 0 0), .int .i64 0, (.slice none 0 0), .int .i64 0, (.slice none 0 0), .int .i64 0, (.slice none 0 0), .int .i64 0, .int .i64 0] 27) :: ((b1, blk [v_0_7, v_0_15, v_0_23, .int .i64 a0.Taken, v_0_31, .int .i64 a0.PC, v_0_39, .int .i64 a0.Stop, v_0_47, .int .i64 a0.Jump, .int .i64 a0.Delay] 27) :: (LX_0_48 ++ (LX_0_40 ++ (LX_0_32 ++ (LX_0_24 ++ (LX_0_16 ++ (LX_0_8 ++ [])))))))) w := hS.re (.takeb (.thereb _ (.there _ (.there _ (.there _ (.there _ (.there _ (.there _ (.hereb _ _)))))))) (.takeb (.hereb _ _) (.take (.here _ _) (.take (.here _ _) (.take (.here _ _) (.take (.here _ _) (.take (.here _ _) (.take (.here _ _) (.nil _)))))))))
 refine o_storeP (vs := [v_0_7, v_0_15, v_0_23, .int .i64 a0.Taken, v_0_31, .int .i64 a0.PC, v_0_39, .int .i64 a0.Stop, v_0_47, .int .i64 a0.Jump, .int .i64 a0.Delay]) hS (hm := Upd.here _) (hi := by exact sz_api_State) (h1 := (onC (h_0_9).one (onC (h_0_17).one (onC (h_0_25).one (onC rfl (onC (h_0_33).one (onC rfl (onC (h_0_41).one (onC rfl (onC (h_0_49).one (onC rfl (onC rfl onN)))))))))))) ?_
 clear hS; intro w hS
 refine n_thenN ?_
 obtain rfl := Option.some.inj hF
 refine wp_ret (r_ret (vs := [.agg #[v_0_7, v_0_15, v_0_23, .int .i64 a0.Taken, v_0_31, .int .i64 a0.PC, v_0_39, .int .i64 a0.Stop, v_0_47, .int .i64 a0.Jump, .int .i64 a0.Delay]]) (L' := (LX_0_8 ++ (LX_0_16 ++ (LX_0_24 ++ (LX_0_32 ++ (LX_0_40 ++ (LX_0_48 ++ []))))))) (hS.re (.take (.thereb _ (.thereb _ (.there _ (.there _ (.there _ (.there _ (.there _ (.here _ _)))))))) (.take (.thereb _ (.thereb _ (.there _ (.there _ (.there _ (.there _ (.here _ _))))))) (.take (.thereb _ (.thereb _ (.there _ (.there _ (.there _ (.here _ _)))))) (.take (.thereb _ (.thereb _ (.there _ (.there _ (.here _ _))))) (.take (.thereb _ (.thereb _ (.there _ (.here _ _)))) (.take (.thereb _ (.thereb _ (.here _ _))) (.nil _)))))))) (show resAll _ _ _ [.cell 2 27] _ from ⟨(res_cell (hS.own (mH)) Try.underlying27 rfl (by exact sz_api_State)), trivial⟩) rfl ⟨_, _, rfl, (by first | rfl | simp only [List.append_assoc, List.cons_append, List.nil_append, List.append_nil]), ⟨_, _, _, _, _, _, _, _, _, _, _, _, rfl, rfl, h_0_9, h_0_17, h_0_25, h_0_33, h_0_41, h_0_49⟩⟩)
theorem w_seq_Own {g : Frag} {a0 : T_State} {v0_ : Value} {r : T_State} (h0 : Rd_State g a0 v0_) (hF : seq_Own a0 = some r) : LC Try.prog 39 #[v0_] g [] (fun v L => ∃ (u0 : Value) (M0 : Own), u0 = v ∧ L = (M0 ++ []) ∧ Ow_State r u0 M0) := w_seq_Own_ h0 hF

def pair_Has (a0 : Int) : Bool :=
  bif decide (18 ≤ a0) then decide (a0 ≤ 21) else false
set_option maxHeartbeats 2000000 in
theorem w_pair_Has_ {g : Frag} {a0 : Int} {r : Bool}  (hF : pair_Has a0 = r) : LCs Try.prog 81 #[.int .i64 a0] g (.bool r) := by
 unfold pair_Has at hF
 refine lc_body (k := 9) (av := [.int .i64 a0]) Try.func81 rfl rfl (h := fun W hS => ?_)
 refine c_seq ?_
 refine c_region ?_
 refine oy hS y_assign ?_
 refine n_thenN ?_
 refine c_seq ?_
 refine c_region ?_
 refine oy hS y_move ?_
 refine oy hS y_bin ?_
 refine o_split (ht := fun c1 => ?_) (hf := fun c1 => ?_)
 · replace hF := bt c1 hF
   refine o_gu rfl rfl rfl ?_
   refine oy hS y_move ?_
   refine o_gu rfl rfl rfl ?_
   refine oy hS y_bin ?_
   refine oy hS y_pickT ?_
   refine oy hS y_assign ?_
   refine n_thenN ?_
   subst hF
   exact wp_ret (wr1 hS)
 replace hF := bf c1 hF
 iterate 2 (refine o_sk rfl rfl ?_)
 refine oy hS y_pickF ?_
 refine oy hS y_assign ?_
 refine n_thenN ?_
 subst hF
 exact wp_ret (wr1 hS)
theorem w_pair_Has {g : Frag} {a0 : Int}  : LCs Try.prog 81 #[.int .i64 a0] g (.bool (pair_Has a0)) := w_pair_Has_  rfl

noncomputable def pair_Parts (a0 : Int) : Option (Int × Int) :=
  (shr' .u32 a0 16).bind fun x1 => some (IntKind.i64.wrap (IntKind.i16.wrap a0), IntKind.i64.wrap (IntKind.i16.wrap x1))
set_option maxHeartbeats 2000000 in
theorem w_pair_Parts_ {g : Frag} {a0 : Int} {r : (Int × Int)}  (hF : pair_Parts a0 = some r) : LCs Try.prog 105 #[.int .u32 a0] g (.tuple #[.int .i64 r.1, .int .i64 r.2]) := by
 unfold pair_Parts at hF
 refine lc_body (k := 11) (av := [.int .u32 a0]) Try.func105 rfl rfl (h := fun W hS => ?_)
 refine c_seq ?_
 refine c_region ?_
 iterate 2 (refine oy hS y_assign ?_)
 refine n_thenN ?_
 refine c_seq ?_
 refine c_region ?_
 refine oy hS y_move ?_
 refine oy hS (y_conv Try.underlying63 Try.underlying105) ?_
 refine oy hS (y_conv Try.underlying105 Try.underlying3) ?_
 refine oy hS y_move ?_
 obtain ⟨x1, hx1, hF⟩ := ob hF
 refine oy hS (y_shr hx1) ?_
 refine oy hS (y_conv Try.underlying63 Try.underlying105) ?_
 refine oy hS (y_conv Try.underlying105 Try.underlying3) ?_
 iterate 2 (refine oy hS y_assign ?_)
 refine n_thenN ?_
 obtain rfl := Option.some.inj hF
 exact wp_ret (wr2 hS)
theorem w_pair_Parts {g : Frag} {a0 : Int} {r : (Int × Int)}  (hF : pair_Parts a0 = some r) : LCs Try.prog 105 #[.int .u32 a0] g (.tuple #[.int .i64 r.1, .int .i64 r.2]) := w_pair_Parts_  hF

noncomputable def pair_number (a0 : Int) : Option (Nat × Nat) :=
  (pair_Parts a0).bind fun r1 => some (FloatKind.f64.nearest r1.1, FloatKind.f64.nearest r1.2)
set_option maxHeartbeats 2000000 in
theorem w_pair_number_ {g : Frag} {a0 : Int} {r : (Nat × Nat)}  (hF : pair_number a0 = some r) : LCs Try.prog 95 #[.int .u32 a0] g (.complex .f64 r.1 r.2) := by
 unfold pair_number at hF
 refine lc_body (k := 15) (av := [.int .u32 a0]) Try.func95 rfl rfl (h := fun W hS => ?_)
 refine c_seq ?_
 refine c_region ?_
 refine oy hS y_assign ?_
 refine n_thenN ?_
 refine c_seq ?_
 refine c_region ?_
 refine oy hS y_move ?_
 obtain ⟨r1, hr1, hF⟩ := ob hF
 refine o_callS hS Try.func105 rfl rfl (hc := (w_pair_Parts (a0 := a0) (hF := hr1))) (h := ?_)
 clear hS; intro w hS
 refine oy hS y_move ?_
 iterate 2 (refine oy hS (y_extract rfl) ?_)
 iterate 2 (refine oy hS y_assign ?_)
 refine n_thenN ?_
 refine c_seq ?_
 refine c_region ?_
 refine oy hS y_move ?_
 refine oy hS (y_i2f Try.underlying3 Try.underlying104) ?_
 refine oy hS y_move ?_
 refine oy hS (y_i2f Try.underlying3 Try.underlying104) ?_
 refine oy hS y_complex ?_
 refine oy hS y_assign ?_
 refine n_thenN ?_
 obtain rfl := Option.some.inj hF
 exact wp_ret (wr1 hS)
theorem w_pair_number {g : Frag} {a0 : Int} {r : (Nat × Nat)}  (hF : pair_number a0 = some r) : LCs Try.prog 95 #[.int .u32 a0] g (.complex .f64 r.1 r.2) := w_pair_number_  hF

noncomputable def pair_Make (a0 : Int) (a1 : Int) : Option Int :=
  (shl' .u32 (IntKind.u32.wrap (IntKind.u16.wrap a1)) 16).bind fun x1 => some (bits .or .u32 (IntKind.u32.wrap (IntKind.u16.wrap a0)) x1)
set_option maxHeartbeats 2000000 in
theorem w_pair_Make_ {g : Frag} {a0 : Int} {a1 : Int} {r : Int}  (hF : pair_Make a0 a1 = some r) : LCs Try.prog 106 #[.int .i64 a0, .int .i64 a1] g (.int .u32 r) := by
 unfold pair_Make at hF
 refine lc_body (k := 13) (av := [.int .i64 a0, .int .i64 a1]) Try.func106 rfl rfl (h := fun W hS => ?_)
 refine c_seq ?_
 refine c_region ?_
 refine oy hS y_assign ?_
 refine n_thenN ?_
 refine c_seq ?_
 refine c_region ?_
 refine oy hS y_move ?_
 refine oy hS (y_conv Try.underlying3 Try.underlying106) ?_
 refine oy hS (y_conv Try.underlying106 Try.underlying63) ?_
 refine oy hS y_move ?_
 refine oy hS (y_conv Try.underlying3 Try.underlying106) ?_
 refine oy hS (y_conv Try.underlying106 Try.underlying63) ?_
 obtain ⟨x1, hx1, hF⟩ := ob hF
 refine oy hS (y_shl hx1) ?_
 refine oy hS y_bin ?_
 refine oy hS y_assign ?_
 refine n_thenN ?_
 obtain rfl := Option.some.inj hF
 exact wp_ret (wr1 hS)
theorem w_pair_Make {g : Frag} {a0 : Int} {a1 : Int} {r : Int}  (hF : pair_Make a0 a1 = some r) : LCs Try.prog 106 #[.int .i64 a0, .int .i64 a1] g (.int .u32 r) := w_pair_Make_  hF

noncomputable def pair_packed (a0 : (Nat × Nat)) : Option Int :=
  (floatToIntVal .f64 a0.1 .i64).bind fun x1 => (floatToIntVal .f64 a0.2 .i64).bind fun x2 => (pair_Make x1 x2).bind fun r3 => some (r3)
set_option maxHeartbeats 2000000 in
theorem w_pair_packed_ {g : Frag} {a0 : (Nat × Nat)} {r : Int}  (hF : pair_packed a0 = some r) : LCs Try.prog 96 #[.complex .f64 a0.1 a0.2] g (.int .u32 r) := by
 unfold pair_packed at hF
 refine lc_body (k := 10) (av := [.complex .f64 a0.1 a0.2]) Try.func96 rfl rfl (h := fun W hS => ?_)
 refine c_seq ?_
 refine c_region ?_
 refine oy hS y_assign ?_
 refine n_thenN ?_
 refine c_seq ?_
 refine c_region ?_
 refine oy hS y_move ?_
 refine oy hS y_real ?_
 obtain ⟨x1, hx1, hF⟩ := ob hF
 refine oy hS (y_f2i hx1 (by rw [Try.underlying104]; rfl) Try.underlying3) ?_
 refine oy hS y_move ?_
 refine oy hS y_imag ?_
 obtain ⟨x2, hx2, hF⟩ := ob hF
 refine oy hS (y_f2i hx2 (by rw [Try.underlying104]; rfl) Try.underlying3) ?_
 obtain ⟨r3, hr3, hF⟩ := ob hF
 refine o_callS hS Try.func106 rfl rfl (hc := (w_pair_Make (a0 := x1) (a1 := x2) (hF := hr3))) (h := ?_)
 clear hS; intro w hS
 refine oy hS y_assign ?_
 refine n_thenN ?_
 obtain rfl := Option.some.inj hF
 exact wp_ret (wr1 hS)
theorem w_pair_packed {g : Frag} {a0 : (Nat × Nat)} {r : Int}  (hF : pair_packed a0 = some r) : LCs Try.prog 96 #[.complex .f64 a0.1 a0.2] g (.int .u32 r) := w_pair_packed_  hF

def pair_turned (a0 : (Nat × Nat)) : (Nat × Nat) :=
  (a0.1, Op.negFloat .f64 a0.2)
set_option maxHeartbeats 2000000 in
theorem w_pair_turned_ {g : Frag} {a0 : (Nat × Nat)} {r : (Nat × Nat)}  (hF : pair_turned a0 = r) : LCs Try.prog 97 #[.complex .f64 a0.1 a0.2] g (.complex .f64 r.1 r.2) := by
 unfold pair_turned at hF
 refine lc_body (k := 9) (av := [.complex .f64 a0.1 a0.2]) Try.func97 rfl rfl (h := fun W hS => ?_)
 refine c_seq ?_
 refine c_region ?_
 refine oy hS y_assign ?_
 refine n_thenN ?_
 refine c_seq ?_
 refine c_region ?_
 refine oy hS y_move ?_
 refine oy hS y_real ?_
 refine oy hS y_move ?_
 refine oy hS y_imag ?_
 refine oy hS y_fneg ?_
 refine oy hS y_complex ?_
 refine oy hS y_assign ?_
 refine n_thenN ?_
 subst hF
 exact wp_ret (wr1 hS)
theorem w_pair_turned {g : Frag} {a0 : (Nat × Nat)}  : LCs Try.prog 97 #[.complex .f64 a0.1 a0.2] g (.complex .f64 (pair_turned a0).1 (pair_turned a0).2) := w_pair_turned_  rfl

noncomputable def pair_Of (a0 : Int) (a1 : Int) (a2 : Int) : Option (Int × Int) :=
  (pair_number a1).bind fun r1 => (pair_number a2).bind fun r2 => bif decide (a0 = 18) then (cSumBits .add .f64 r1.1 r1.2 r2.1 r2.2).bind fun x4 => (pair_packed x4).bind fun r5 => some (r5, 0) else bif decide (a0 = 19) then (cSumBits .sub .f64 r1.1 r1.2 r2.1 r2.2).bind fun x7 => (pair_packed x7).bind fun r8 => some (r8, 0) else bif decide (a0 = 20) then (cMulBits r1.1 r1.2 r2.1 r2.2).bind fun x10 => (pair_packed x10).bind fun r11 => some (r11, 0) else bif decide (a0 = 21) then (pair_packed ((pair_turned r1).1, (pair_turned r1).2)).bind fun r13 => some (r13, 0) else some (0, 1)
set_option maxHeartbeats 2000000 in
theorem w_pair_Of_ {g : Frag} {a0 : Int} {a1 : Int} {a2 : Int} {r : (Int × Int)}  (hF : pair_Of a0 a1 a2 = some r) : LCs Try.prog 82 #[.int .i64 a0, .int .u32 a1, .int .u32 a2] g (.tuple #[.int .u32 r.1, .int .i64 r.2]) := by
 unfold pair_Of at hF
 refine lc_body (k := 38) (av := [.int .i64 a0, .int .u32 a1, .int .u32 a2]) Try.func82 rfl rfl (h := fun W hS => ?_)
 refine c_seq ?_
 refine c_region ?_
 iterate 2 (refine oy hS y_assign ?_)
 refine n_thenN ?_
 refine c_seq ?_
 refine c_region ?_
 refine oy hS y_move ?_
 obtain ⟨r1, hr1, hF⟩ := ob hF
 refine o_callS hS Try.func95 rfl rfl (hc := (w_pair_number (a0 := a1) (hF := hr1))) (h := ?_)
 clear hS; intro w hS
 refine oy hS y_move ?_
 obtain ⟨r2, hr2, hF⟩ := ob hF
 refine o_callS hS Try.func95 rfl rfl (hc := (w_pair_number (a0 := a2) (hF := hr2))) (h := ?_)
 clear hS; intro w hS
 iterate 2 (refine oy hS y_assign ?_)
 refine n_thenN ?_
 iterate 2 (refine c_seq ?_)
 refine c_region ?_
 refine oy hS y_move ?_
 refine n_thenN ?_
 refine c_block ?_
 refine c_seq ?_
 refine c_region ?_
 refine oy hS y_bin ?_
 refine oy hS y_assign ?_
 refine n_thenN ?_
 refine c_if (ht := fun c3 => ?_) (hf := fun c3 => ?_)
 · replace hF := bt c3 hF
   refine c_seq ?_
   refine c_region ?_
   iterate 2 (refine oy hS y_move ?_)
   obtain ⟨x4, hx4, hF⟩ := ob hF
   refine oy hS (y_cadd hx4) ?_
   obtain ⟨r5, hr5, hF⟩ := ob hF
   refine o_callS hS Try.func96 rfl rfl (hc := (w_pair_packed (a0 := x4) (hF := hr5))) (h := ?_)
   clear hS; intro w hS
   iterate 2 (refine oy hS y_assign ?_)
   refine n_thenN ?_
   obtain rfl := Option.some.inj hF
   exact wp_ret (wr2 hS)
 replace hF := bf c3 hF
 refine c_seq ?_
 refine c_region ?_
 refine oy hS y_bin ?_
 refine oy hS y_assign ?_
 refine n_thenN ?_
 refine c_if (ht := fun c6 => ?_) (hf := fun c6 => ?_)
 · replace hF := bt c6 hF
   refine c_seq ?_
   refine c_region ?_
   iterate 2 (refine oy hS y_move ?_)
   obtain ⟨x7, hx7, hF⟩ := ob hF
   refine oy hS (y_csub hx7) ?_
   obtain ⟨r8, hr8, hF⟩ := ob hF
   refine o_callS hS Try.func96 rfl rfl (hc := (w_pair_packed (a0 := x7) (hF := hr8))) (h := ?_)
   clear hS; intro w hS
   iterate 2 (refine oy hS y_assign ?_)
   refine n_thenN ?_
   obtain rfl := Option.some.inj hF
   exact wp_ret (wr2 hS)
 replace hF := bf c6 hF
 refine c_seq ?_
 refine c_region ?_
 refine oy hS y_bin ?_
 refine oy hS y_assign ?_
 refine n_thenN ?_
 refine c_if (ht := fun c9 => ?_) (hf := fun c9 => ?_)
 · replace hF := bt c9 hF
   refine c_seq ?_
   refine c_region ?_
   iterate 2 (refine oy hS y_move ?_)
   obtain ⟨x10, hx10, hF⟩ := ob hF
   refine oy hS (y_cmul hx10) ?_
   obtain ⟨r11, hr11, hF⟩ := ob hF
   refine o_callS hS Try.func96 rfl rfl (hc := (w_pair_packed (a0 := x10) (hF := hr11))) (h := ?_)
   clear hS; intro w hS
   iterate 2 (refine oy hS y_assign ?_)
   refine n_thenN ?_
   obtain rfl := Option.some.inj hF
   exact wp_ret (wr2 hS)
 replace hF := bf c9 hF
 refine c_seq ?_
 refine c_region ?_
 refine oy hS y_bin ?_
 refine oy hS y_assign ?_
 refine n_thenN ?_
 refine c_if (ht := fun c12 => ?_) (hf := fun c12 => ?_)
 · replace hF := bt c12 hF
   refine c_seq ?_
   refine c_region ?_
   refine oy hS y_move ?_
   refine o_callS hS Try.func97 rfl rfl (hc := (w_pair_turned (a0 := r1))) (h := ?_)
   clear hS; intro w hS
   obtain ⟨r13, hr13, hF⟩ := ob hF
   refine o_callS hS Try.func96 rfl rfl (hc := (w_pair_packed (a0 := ((pair_turned r1).1, (pair_turned r1).2)) (hF := hr13))) (h := ?_)
   clear hS; intro w hS
   iterate 2 (refine oy hS y_assign ?_)
   refine n_thenN ?_
   obtain rfl := Option.some.inj hF
   exact wp_ret (wr2 hS)
 replace hF := bf c12 hF
 refine wp_skip ?_
 refine c_seq ?_
 refine c_region ?_
 iterate 2 (refine oy hS y_assign ?_)
 refine n_thenN ?_
 obtain rfl := Option.some.inj hF
 exact wp_ret (wr2 hS)
theorem w_pair_Of {g : Frag} {a0 : Int} {a1 : Int} {a2 : Int} {r : (Int × Int)}  (hF : pair_Of a0 a1 a2 = some r) : LCs Try.prog 82 #[.int .i64 a0, .int .u32 a1, .int .u32 a2] g (.tuple #[.int .u32 r.1, .int .i64 r.2]) := w_pair_Of_  hF

def word_Has (a0 : Int) : Bool :=
  bif decide (1 ≤ a0) then decide (a0 ≤ 17) else false
set_option maxHeartbeats 2000000 in
theorem w_word_Has_ {g : Frag} {a0 : Int} {r : Bool}  (hF : word_Has a0 = r) : LCs Try.prog 83 #[.int .i64 a0] g (.bool r) := by
 unfold word_Has at hF
 refine lc_body (k := 9) (av := [.int .i64 a0]) Try.func83 rfl rfl (h := fun W hS => ?_)
 refine c_seq ?_
 refine c_region ?_
 refine oy hS y_assign ?_
 refine n_thenN ?_
 refine c_seq ?_
 refine c_region ?_
 refine oy hS y_move ?_
 refine oy hS y_bin ?_
 refine o_split (ht := fun c1 => ?_) (hf := fun c1 => ?_)
 · replace hF := bt c1 hF
   refine o_gu rfl rfl rfl ?_
   refine oy hS y_move ?_
   refine o_gu rfl rfl rfl ?_
   refine oy hS y_bin ?_
   refine oy hS y_pickT ?_
   refine oy hS y_assign ?_
   refine n_thenN ?_
   subst hF
   exact wp_ret (wr1 hS)
 replace hF := bf c1 hF
 iterate 2 (refine o_sk rfl rfl ?_)
 refine oy hS y_pickF ?_
 refine oy hS y_assign ?_
 refine n_thenN ?_
 subst hF
 exact wp_ret (wr1 hS)
theorem w_word_Has {g : Frag} {a0 : Int}  : LCs Try.prog 83 #[.int .i64 a0] g (.bool (word_Has a0)) := w_word_Has_  rfl

noncomputable def word_logic (a0 : Int) (a1 : Int) (a2 : Int) : Option Int :=
  bif decide (a0 = 1) then some (IntKind.u32.wrap (a1 + a2)) else bif decide (a0 = 2) then some (IntKind.u32.wrap (a1 - a2)) else bif decide (a0 = 3) then some (bits .and .u32 a1 a2) else bif decide (a0 = 4) then some (bits .or .u32 a1 a2) else bif decide (a0 = 5) then some (bits .xor .u32 a1 a2) else bif decide (a0 = 6) then (rem' a2 32).bind fun x7 => (shl' .u32 a1 x7).bind fun x8 => some (x8) else bif decide (a0 = 7) then (rem' a2 32).bind fun x10 => (shr' .u32 a1 x10).bind fun x11 => some (x11) else (rem' a2 32).bind fun x12 => (shr' .i32 (IntKind.i32.wrap a1) x12).bind fun x13 => some (IntKind.u32.wrap x13)
set_option maxHeartbeats 2000000 in
theorem w_word_logic_ {g : Frag} {a0 : Int} {a1 : Int} {a2 : Int} {r : Int}  (hF : word_logic a0 a1 a2 = some r) : LCs Try.prog 98 #[.int .i64 a0, .int .u32 a1, .int .u32 a2] g (.int .u32 r) := by
 unfold word_logic at hF
 refine lc_body (k := 51) (av := [.int .i64 a0, .int .u32 a1, .int .u32 a2]) Try.func98 rfl rfl (h := fun W hS => ?_)
 refine c_seq ?_
 refine c_region ?_
 refine oy hS y_assign ?_
 refine n_thenN ?_
 iterate 2 (refine c_seq ?_)
 refine c_region ?_
 refine oy hS y_move ?_
 refine n_thenN ?_
 refine c_block ?_
 refine c_seq ?_
 refine c_region ?_
 refine oy hS y_bin ?_
 refine oy hS y_assign ?_
 refine n_thenN ?_
 refine c_if (ht := fun c1 => ?_) (hf := fun c1 => ?_)
 · replace hF := bt c1 hF
   refine c_seq ?_
   refine c_region ?_
   iterate 2 (refine oy hS y_move ?_)
   refine oy hS y_bin ?_
   refine oy hS y_assign ?_
   refine n_thenN ?_
   obtain rfl := Option.some.inj hF
   exact wp_ret (wr1 hS)
 replace hF := bf c1 hF
 refine c_seq ?_
 refine c_region ?_
 refine oy hS y_bin ?_
 refine oy hS y_assign ?_
 refine n_thenN ?_
 refine c_if (ht := fun c2 => ?_) (hf := fun c2 => ?_)
 · replace hF := bt c2 hF
   refine c_seq ?_
   refine c_region ?_
   iterate 2 (refine oy hS y_move ?_)
   refine oy hS y_bin ?_
   refine oy hS y_assign ?_
   refine n_thenN ?_
   obtain rfl := Option.some.inj hF
   exact wp_ret (wr1 hS)
 replace hF := bf c2 hF
 refine c_seq ?_
 refine c_region ?_
 refine oy hS y_bin ?_
 refine oy hS y_assign ?_
 refine n_thenN ?_
 refine c_if (ht := fun c3 => ?_) (hf := fun c3 => ?_)
 · replace hF := bt c3 hF
   refine c_seq ?_
   refine c_region ?_
   iterate 2 (refine oy hS y_move ?_)
   refine oy hS y_bin ?_
   refine oy hS y_assign ?_
   refine n_thenN ?_
   obtain rfl := Option.some.inj hF
   exact wp_ret (wr1 hS)
 replace hF := bf c3 hF
 refine c_seq ?_
 refine c_region ?_
 refine oy hS y_bin ?_
 refine oy hS y_assign ?_
 refine n_thenN ?_
 refine c_if (ht := fun c4 => ?_) (hf := fun c4 => ?_)
 · replace hF := bt c4 hF
   refine c_seq ?_
   refine c_region ?_
   iterate 2 (refine oy hS y_move ?_)
   refine oy hS y_bin ?_
   refine oy hS y_assign ?_
   refine n_thenN ?_
   obtain rfl := Option.some.inj hF
   exact wp_ret (wr1 hS)
 replace hF := bf c4 hF
 refine c_seq ?_
 refine c_region ?_
 refine oy hS y_bin ?_
 refine oy hS y_assign ?_
 refine n_thenN ?_
 refine c_if (ht := fun c5 => ?_) (hf := fun c5 => ?_)
 · replace hF := bt c5 hF
   refine c_seq ?_
   refine c_region ?_
   iterate 2 (refine oy hS y_move ?_)
   refine oy hS y_bin ?_
   refine oy hS y_assign ?_
   refine n_thenN ?_
   obtain rfl := Option.some.inj hF
   exact wp_ret (wr1 hS)
 replace hF := bf c5 hF
 refine c_seq ?_
 refine c_region ?_
 refine oy hS y_bin ?_
 refine oy hS y_assign ?_
 refine n_thenN ?_
 refine c_if (ht := fun c6 => ?_) (hf := fun c6 => ?_)
 · replace hF := bt c6 hF
   refine c_seq ?_
   refine c_region ?_
   iterate 2 (refine oy hS y_move ?_)
   obtain ⟨x7, hx7, hF⟩ := ob hF
   refine oy hS (y_rem hx7) ?_
   obtain ⟨x8, hx8, hF⟩ := ob hF
   refine oy hS (y_shl hx8) ?_
   refine oy hS y_assign ?_
   refine n_thenN ?_
   obtain rfl := Option.some.inj hF
   exact wp_ret (wr1 hS)
 replace hF := bf c6 hF
 refine c_seq ?_
 refine c_region ?_
 refine oy hS y_bin ?_
 refine oy hS y_assign ?_
 refine n_thenN ?_
 refine c_if (ht := fun c9 => ?_) (hf := fun c9 => ?_)
 · replace hF := bt c9 hF
   refine c_seq ?_
   refine c_region ?_
   iterate 2 (refine oy hS y_move ?_)
   obtain ⟨x10, hx10, hF⟩ := ob hF
   refine oy hS (y_rem hx10) ?_
   obtain ⟨x11, hx11, hF⟩ := ob hF
   refine oy hS (y_shr hx11) ?_
   refine oy hS y_assign ?_
   refine n_thenN ?_
   obtain rfl := Option.some.inj hF
   exact wp_ret (wr1 hS)
 replace hF := bf c9 hF
 refine wp_skip ?_
 refine c_seq ?_
 refine c_region ?_
 refine oy hS y_move ?_
 refine oy hS (y_conv Try.underlying63 Try.underlying21) ?_
 refine oy hS y_move ?_
 obtain ⟨x12, hx12, hF⟩ := ob hF
 refine oy hS (y_rem hx12) ?_
 obtain ⟨x13, hx13, hF⟩ := ob hF
 refine oy hS (y_shr hx13) ?_
 refine oy hS (y_conv Try.underlying21 Try.underlying63) ?_
 refine oy hS y_assign ?_
 refine n_thenN ?_
 obtain rfl := Option.some.inj hF
 exact wp_ret (wr1 hS)
theorem w_word_logic {g : Frag} {a0 : Int} {a1 : Int} {a2 : Int} {r : Int}  (hF : word_logic a0 a1 a2 = some r) : LCs Try.prog 98 #[.int .i64 a0, .int .u32 a1, .int .u32 a2] g (.int .u32 r) := w_word_logic_  hF

def word_flag (a0 : Bool) : Int :=
  bif a0 then 1 else 0
set_option maxHeartbeats 2000000 in
theorem w_word_flag_ {g : Frag} {a0 : Bool} {r : Int}  (hF : word_flag a0 = r) : LCs Try.prog 107 #[.bool a0] g (.int .u32 r) := by
 unfold word_flag at hF
 refine lc_body (k := 4) (av := [.bool a0]) Try.func107 rfl rfl (h := fun W hS => ?_)
 refine c_seq ?_
 refine c_region ?_
 refine oy hS y_assign ?_
 refine n_thenN ?_
 iterate 2 (refine c_seq ?_)
 refine c_region ?_
 refine oy hS y_move ?_
 refine n_thenN ?_
 refine c_if (ht := fun c1 => ?_) (hf := fun c1 => ?_)
 · replace hF := bt c1 hF
   refine c_seq ?_
   refine c_region ?_
   refine oy hS y_assign ?_
   refine n_thenN ?_
   subst hF
   exact wp_ret (wr1 hS)
 replace hF := bf c1 hF
 refine wp_skip ?_
 refine c_seq ?_
 refine c_region ?_
 refine oy hS y_assign ?_
 refine n_thenN ?_
 subst hF
 exact wp_ret (wr1 hS)
theorem w_word_flag {g : Frag} {a0 : Bool}  : LCs Try.prog 107 #[.bool a0] g (.int .u32 (word_flag a0)) := w_word_flag_  rfl

def word_compared (a0 : Int) (a1 : Int) (a2 : Int) : Int :=
  bif decide (a0 = 9) then (word_flag (decide ((IntKind.i32.wrap a1) < (IntKind.i32.wrap a2)))) else bif decide (a0 = 10) then (word_flag (decide (a1 < a2))) else bif decide (a0 = 11) then (word_flag (decide (a1 = a2))) else bif decide (a0 = 12) then IntKind.u32.wrap (imin (IntKind.i32.wrap a1) (IntKind.i32.wrap a2)) else IntKind.u32.wrap (imax (IntKind.i32.wrap a1) (IntKind.i32.wrap a2))
set_option maxHeartbeats 2000000 in
theorem w_word_compared_ {g : Frag} {a0 : Int} {a1 : Int} {a2 : Int} {r : Int}  (hF : word_compared a0 a1 a2 = r) : LCs Try.prog 99 #[.int .i64 a0, .int .u32 a1, .int .u32 a2] g (.int .u32 r) := by
 unfold word_compared at hF
 refine lc_body (k := 42) (av := [.int .i64 a0, .int .u32 a1, .int .u32 a2]) Try.func99 rfl rfl (h := fun W hS => ?_)
 refine c_seq ?_
 refine c_region ?_
 refine oy hS y_assign ?_
 refine n_thenN ?_
 refine c_seq ?_
 refine c_region ?_
 refine oy hS y_move ?_
 refine oy hS (y_conv Try.underlying63 Try.underlying21) ?_
 refine oy hS y_move ?_
 refine oy hS (y_conv Try.underlying63 Try.underlying21) ?_
 iterate 2 (refine oy hS y_assign ?_)
 refine n_thenN ?_
 iterate 2 (refine c_seq ?_)
 refine c_region ?_
 refine oy hS y_move ?_
 refine n_thenN ?_
 refine c_block ?_
 refine c_seq ?_
 refine c_region ?_
 refine oy hS y_bin ?_
 refine oy hS y_assign ?_
 refine n_thenN ?_
 refine c_if (ht := fun c1 => ?_) (hf := fun c1 => ?_)
 · replace hF := bt c1 hF
   refine c_seq ?_
   refine c_region ?_
   iterate 2 (refine oy hS y_move ?_)
   refine oy hS y_bin ?_
   refine o_callS hS Try.func107 rfl rfl (hc := (w_word_flag (a0 := (decide ((IntKind.i32.wrap a1) < (IntKind.i32.wrap a2)))))) (h := ?_)
   clear hS; intro w hS
   refine oy hS y_assign ?_
   refine n_thenN ?_
   subst hF
   exact wp_ret (wr1 hS)
 replace hF := bf c1 hF
 refine c_seq ?_
 refine c_region ?_
 refine oy hS y_bin ?_
 refine oy hS y_assign ?_
 refine n_thenN ?_
 refine c_if (ht := fun c2 => ?_) (hf := fun c2 => ?_)
 · replace hF := bt c2 hF
   refine c_seq ?_
   refine c_region ?_
   iterate 2 (refine oy hS y_move ?_)
   refine oy hS y_bin ?_
   refine o_callS hS Try.func107 rfl rfl (hc := (w_word_flag (a0 := (decide (a1 < a2))))) (h := ?_)
   clear hS; intro w hS
   refine oy hS y_assign ?_
   refine n_thenN ?_
   subst hF
   exact wp_ret (wr1 hS)
 replace hF := bf c2 hF
 refine c_seq ?_
 refine c_region ?_
 refine oy hS y_bin ?_
 refine oy hS y_assign ?_
 refine n_thenN ?_
 refine c_if (ht := fun c3 => ?_) (hf := fun c3 => ?_)
 · replace hF := bt c3 hF
   refine c_seq ?_
   refine c_region ?_
   iterate 2 (refine oy hS y_move ?_)
   refine oy hS y_bin ?_
   refine o_callS hS Try.func107 rfl rfl (hc := (w_word_flag (a0 := (decide (a1 = a2))))) (h := ?_)
   clear hS; intro w hS
   refine oy hS y_assign ?_
   refine n_thenN ?_
   subst hF
   exact wp_ret (wr1 hS)
 replace hF := bf c3 hF
 refine c_seq ?_
 refine c_region ?_
 refine oy hS y_bin ?_
 refine oy hS y_assign ?_
 refine n_thenN ?_
 refine c_if (ht := fun c4 => ?_) (hf := fun c4 => ?_)
 · replace hF := bt c4 hF
   refine c_seq ?_
   refine c_region ?_
   iterate 2 (refine oy hS y_move ?_)
   refine oy hS y_min ?_
   refine oy hS (y_conv Try.underlying21 Try.underlying63) ?_
   refine oy hS y_assign ?_
   refine n_thenN ?_
   subst hF
   exact wp_ret (wr1 hS)
 replace hF := bf c4 hF
 refine wp_skip ?_
 refine c_seq ?_
 refine c_region ?_
 iterate 2 (refine oy hS y_move ?_)
 refine oy hS y_max ?_
 refine oy hS (y_conv Try.underlying21 Try.underlying63) ?_
 refine oy hS y_assign ?_
 refine n_thenN ?_
 subst hF
 exact wp_ret (wr1 hS)
theorem w_word_compared {g : Frag} {a0 : Int} {a1 : Int} {a2 : Int}  : LCs Try.prog 99 #[.int .i64 a0, .int .u32 a1, .int .u32 a2] g (.int .u32 (word_compared a0 a1 a2)) := w_word_compared_  rfl

noncomputable def word_product (a0 : Int) (a1 : Int) (a2 : Int) : Option Int :=
  bif decide (a0 = 14) then some (IntKind.u32.wrap (a1 * a2)) else bif decide (a0 = 15) then (shr' .i64 (IntKind.i64.wrap ((IntKind.i64.wrap (IntKind.i32.wrap a1)) * (IntKind.i64.wrap (IntKind.i32.wrap a2)))) 32).bind fun x3 => some (IntKind.u32.wrap x3) else bif decide (a0 = 16) then (quo' .i32 (IntKind.i32.wrap a1) (IntKind.i32.wrap a2)).bind fun x5 => some (IntKind.u32.wrap x5) else (rem' (IntKind.i32.wrap a1) (IntKind.i32.wrap a2)).bind fun x6 => some (IntKind.u32.wrap x6)
set_option maxHeartbeats 2000000 in
theorem w_word_product_ {g : Frag} {a0 : Int} {a1 : Int} {a2 : Int} {r : Int}  (hF : word_product a0 a1 a2 = some r) : LCs Try.prog 100 #[.int .i64 a0, .int .u32 a1, .int .u32 a2] g (.int .u32 r) := by
 unfold word_product at hF
 refine lc_body (k := 38) (av := [.int .i64 a0, .int .u32 a1, .int .u32 a2]) Try.func100 rfl rfl (h := fun W hS => ?_)
 refine c_seq ?_
 refine c_region ?_
 refine oy hS y_assign ?_
 refine n_thenN ?_
 refine c_seq ?_
 refine c_region ?_
 refine oy hS y_move ?_
 refine oy hS (y_conv Try.underlying63 Try.underlying21) ?_
 refine oy hS y_move ?_
 refine oy hS (y_conv Try.underlying63 Try.underlying21) ?_
 iterate 2 (refine oy hS y_assign ?_)
 refine n_thenN ?_
 iterate 2 (refine c_seq ?_)
 refine c_region ?_
 refine oy hS y_move ?_
 refine n_thenN ?_
 refine c_block ?_
 refine c_seq ?_
 refine c_region ?_
 refine oy hS y_bin ?_
 refine oy hS y_assign ?_
 refine n_thenN ?_
 refine c_if (ht := fun c1 => ?_) (hf := fun c1 => ?_)
 · replace hF := bt c1 hF
   refine c_seq ?_
   refine c_region ?_
   iterate 2 (refine oy hS y_move ?_)
   refine oy hS y_bin ?_
   refine oy hS y_assign ?_
   refine n_thenN ?_
   obtain rfl := Option.some.inj hF
   exact wp_ret (wr1 hS)
 replace hF := bf c1 hF
 refine c_seq ?_
 refine c_region ?_
 refine oy hS y_bin ?_
 refine oy hS y_assign ?_
 refine n_thenN ?_
 refine c_if (ht := fun c2 => ?_) (hf := fun c2 => ?_)
 · replace hF := bt c2 hF
   refine c_seq ?_
   refine c_region ?_
   refine oy hS y_move ?_
   refine oy hS (y_conv Try.underlying21 Try.underlying2) ?_
   refine oy hS y_move ?_
   refine oy hS (y_conv Try.underlying21 Try.underlying2) ?_
   refine oy hS y_bin ?_
   obtain ⟨x3, hx3, hF⟩ := ob hF
   refine oy hS (y_shr hx3) ?_
   refine oy hS (y_conv Try.underlying2 Try.underlying63) ?_
   refine oy hS y_assign ?_
   refine n_thenN ?_
   obtain rfl := Option.some.inj hF
   exact wp_ret (wr1 hS)
 replace hF := bf c2 hF
 refine c_seq ?_
 refine c_region ?_
 refine oy hS y_bin ?_
 refine oy hS y_assign ?_
 refine n_thenN ?_
 refine c_if (ht := fun c4 => ?_) (hf := fun c4 => ?_)
 · replace hF := bt c4 hF
   refine c_seq ?_
   refine c_region ?_
   iterate 2 (refine oy hS y_move ?_)
   obtain ⟨x5, hx5, hF⟩ := ob hF
   refine oy hS (y_quo hx5) ?_
   refine oy hS (y_conv Try.underlying21 Try.underlying63) ?_
   refine oy hS y_assign ?_
   refine n_thenN ?_
   obtain rfl := Option.some.inj hF
   exact wp_ret (wr1 hS)
 replace hF := bf c4 hF
 refine wp_skip ?_
 refine c_seq ?_
 refine c_region ?_
 iterate 2 (refine oy hS y_move ?_)
 obtain ⟨x6, hx6, hF⟩ := ob hF
 refine oy hS (y_rem hx6) ?_
 refine oy hS (y_conv Try.underlying21 Try.underlying63) ?_
 refine oy hS y_assign ?_
 refine n_thenN ?_
 obtain rfl := Option.some.inj hF
 exact wp_ret (wr1 hS)
theorem w_word_product {g : Frag} {a0 : Int} {a1 : Int} {a2 : Int} {r : Int}  (hF : word_product a0 a1 a2 = some r) : LCs Try.prog 100 #[.int .i64 a0, .int .u32 a1, .int .u32 a2] g (.int .u32 r) := w_word_product_  hF

noncomputable def word_Of (a0 : Int) (a1 : Int) (a2 : Int) : Option (Int × Int) :=
  bif !(word_Has a0) then some (0, 1) else bif decide (a2 = 0) then bif decide (a0 = 16) then some (0, 7) else bif decide (a0 = 17) then some (0, 7) else bif decide (a0 ≤ 8) then (word_logic a0 a1 a2).bind fun r6 => some (r6, 0) else bif decide (a0 ≤ 13) then some ((word_compared a0 a1 a2), 0) else (word_product a0 a1 a2).bind fun r8 => some (r8, 0) else bif decide (a0 ≤ 8) then (word_logic a0 a1 a2).bind fun r10 => some (r10, 0) else bif decide (a0 ≤ 13) then some ((word_compared a0 a1 a2), 0) else (word_product a0 a1 a2).bind fun r12 => some (r12, 0)
set_option maxHeartbeats 2000000 in
theorem w_word_Of_ {g : Frag} {a0 : Int} {a1 : Int} {a2 : Int} {r : (Int × Int)}  (hF : word_Of a0 a1 a2 = some r) : LCs Try.prog 84 #[.int .i64 a0, .int .u32 a1, .int .u32 a2] g (.tuple #[.int .u32 r.1, .int .i64 r.2]) := by
 unfold word_Of at hF
 refine lc_body (k := 41) (av := [.int .i64 a0, .int .u32 a1, .int .u32 a2]) Try.func84 rfl rfl (h := fun W hS => ?_)
 refine c_seq ?_
 refine c_region ?_
 iterate 2 (refine oy hS y_assign ?_)
 refine n_thenN ?_
 refine c_seq ?_
 refine c_block ?_
 refine c_seq ?_
 refine c_region ?_
 refine oy hS y_move ?_
 refine o_callS hS Try.func83 rfl rfl (hc := (w_word_Has (a0 := a0))) (h := ?_)
 clear hS; intro w hS
 refine oy hS y_not ?_
 refine oy hS y_assign ?_
 refine n_thenN ?_
 refine c_if (ht := fun c1 => ?_) (hf := fun c1 => ?_)
 · replace hF := bt c1 hF
   refine c_seq ?_
   refine c_region ?_
   iterate 2 (refine oy hS y_assign ?_)
   refine n_thenN ?_
   obtain rfl := Option.some.inj hF
   exact wp_ret (wr2 hS)
 replace hF := bf c1 hF
 refine c_seq ?_
 refine c_region ?_
 refine oy hS y_move ?_
 refine oy hS y_bin ?_
 refine o_split (ht := fun c2 => ?_) (hf := fun c2 => ?_)
 · replace hF := bt c2 hF
   refine o_gu rfl rfl rfl ?_
   refine oy hS y_move ?_
   refine o_gu rfl rfl rfl ?_
   refine oy hS y_bin ?_
   refine o_gu rfl rfl rfl ?_
   refine o_split (ht := fun c3 => ?_) (hf := fun c3 => ?_)
   · replace hF := bt c3 hF
     iterate 2 (refine o_sk rfl rfl ?_)
     refine o_gu rfl rfl rfl ?_
     iterate 2 (refine oy hS y_pickT ?_)
     refine oy hS y_assign ?_
     refine n_thenN ?_
     refine c_if_true (h := ?_)
     refine c_seq ?_
     refine c_region ?_
     iterate 2 (refine oy hS y_assign ?_)
     refine n_thenN ?_
     obtain rfl := Option.some.inj hF
     exact wp_ret (wr2 hS)
   replace hF := bf c3 hF
   refine o_gu rfl rfl rfl ?_
   refine oy hS y_move ?_
   refine o_gu rfl rfl rfl ?_
   refine oy hS y_bin ?_
   refine o_gu rfl rfl rfl ?_
   refine oy hS y_pickF ?_
   refine oy hS y_pickT ?_
   refine oy hS y_assign ?_
   refine n_thenN ?_
   refine c_if (ht := fun c4 => ?_) (hf := fun c4 => ?_)
   · replace hF := bt c4 hF
     refine c_seq ?_
     refine c_region ?_
     iterate 2 (refine oy hS y_assign ?_)
     refine n_thenN ?_
     obtain rfl := Option.some.inj hF
     exact wp_ret (wr2 hS)
   replace hF := bf c4 hF
   refine c_seq ?_
   refine c_region ?_
   refine oy hS y_move ?_
   refine oy hS y_bin ?_
   refine oy hS y_assign ?_
   refine n_thenN ?_
   refine c_if (ht := fun c5 => ?_) (hf := fun c5 => ?_)
   · replace hF := bt c5 hF
     refine c_seq ?_
     refine c_region ?_
     iterate 3 (refine oy hS y_move ?_)
     obtain ⟨r6, hr6, hF⟩ := ob hF
     refine o_callS hS Try.func98 rfl rfl (hc := (w_word_logic (a0 := a0) (a1 := a1) (a2 := a2) (hF := hr6))) (h := ?_)
     clear hS; intro w hS
     iterate 2 (refine oy hS y_assign ?_)
     refine n_thenN ?_
     obtain rfl := Option.some.inj hF
     exact wp_ret (wr2 hS)
   replace hF := bf c5 hF
   refine c_seq ?_
   refine c_region ?_
   refine oy hS y_move ?_
   refine oy hS y_bin ?_
   refine oy hS y_assign ?_
   refine n_thenN ?_
   refine c_if (ht := fun c7 => ?_) (hf := fun c7 => ?_)
   · replace hF := bt c7 hF
     refine c_seq ?_
     refine c_region ?_
     iterate 3 (refine oy hS y_move ?_)
     refine o_callS hS Try.func99 rfl rfl (hc := (w_word_compared (a0 := a0) (a1 := a1) (a2 := a2))) (h := ?_)
     clear hS; intro w hS
     iterate 2 (refine oy hS y_assign ?_)
     refine n_thenN ?_
     obtain rfl := Option.some.inj hF
     exact wp_ret (wr2 hS)
   replace hF := bf c7 hF
   refine wp_skip ?_
   refine c_seq ?_
   refine c_region ?_
   iterate 3 (refine oy hS y_move ?_)
   obtain ⟨r8, hr8, hF⟩ := ob hF
   refine o_callS hS Try.func100 rfl rfl (hc := (w_word_product (a0 := a0) (a1 := a1) (a2 := a2) (hF := hr8))) (h := ?_)
   clear hS; intro w hS
   iterate 2 (refine oy hS y_assign ?_)
   refine n_thenN ?_
   obtain rfl := Option.some.inj hF
   exact wp_ret (wr2 hS)
 replace hF := bf c2 hF
 iterate 3 (refine o_sk rfl rfl ?_)
 iterate 2 (refine o_sku rfl rfl ?_)
 refine o_sk rfl rfl ?_
 refine oy hS y_pickF ?_
 refine oy hS y_assign ?_
 refine n_thenN ?_
 refine c_if_false (h := ?_)
 refine c_seq ?_
 refine c_region ?_
 refine oy hS y_move ?_
 refine oy hS y_bin ?_
 refine oy hS y_assign ?_
 refine n_thenN ?_
 refine c_if (ht := fun c9 => ?_) (hf := fun c9 => ?_)
 · replace hF := bt c9 hF
   refine c_seq ?_
   refine c_region ?_
   iterate 3 (refine oy hS y_move ?_)
   obtain ⟨r10, hr10, hF⟩ := ob hF
   refine o_callS hS Try.func98 rfl rfl (hc := (w_word_logic (a0 := a0) (a1 := a1) (a2 := a2) (hF := hr10))) (h := ?_)
   clear hS; intro w hS
   iterate 2 (refine oy hS y_assign ?_)
   refine n_thenN ?_
   obtain rfl := Option.some.inj hF
   exact wp_ret (wr2 hS)
 replace hF := bf c9 hF
 refine c_seq ?_
 refine c_region ?_
 refine oy hS y_move ?_
 refine oy hS y_bin ?_
 refine oy hS y_assign ?_
 refine n_thenN ?_
 refine c_if (ht := fun c11 => ?_) (hf := fun c11 => ?_)
 · replace hF := bt c11 hF
   refine c_seq ?_
   refine c_region ?_
   iterate 3 (refine oy hS y_move ?_)
   refine o_callS hS Try.func99 rfl rfl (hc := (w_word_compared (a0 := a0) (a1 := a1) (a2 := a2))) (h := ?_)
   clear hS; intro w hS
   iterate 2 (refine oy hS y_assign ?_)
   refine n_thenN ?_
   obtain rfl := Option.some.inj hF
   exact wp_ret (wr2 hS)
 replace hF := bf c11 hF
 refine wp_skip ?_
 refine c_seq ?_
 refine c_region ?_
 iterate 3 (refine oy hS y_move ?_)
 obtain ⟨r12, hr12, hF⟩ := ob hF
 refine o_callS hS Try.func100 rfl rfl (hc := (w_word_product (a0 := a0) (a1 := a1) (a2 := a2) (hF := hr12))) (h := ?_)
 clear hS; intro w hS
 iterate 2 (refine oy hS y_assign ?_)
 refine n_thenN ?_
 obtain rfl := Option.some.inj hF
 exact wp_ret (wr2 hS)
theorem w_word_Of {g : Frag} {a0 : Int} {a1 : Int} {a2 : Int} {r : (Int × Int)}  (hF : word_Of a0 a1 a2 = some r) : LCs Try.prog 84 #[.int .i64 a0, .int .u32 a1, .int .u32 a2] g (.tuple #[.int .u32 r.1, .int .i64 r.2]) := w_word_Of_  hF

noncomputable def seq_memory (a0 : T_State) (a1 : T_Ins) (a2 : Int) (a3 : Int) : Option (T_State × Int × Int) :=
  bif decide (256 ≤ (IntKind.u32.wrap (a2 + (IntKind.u32.wrap a1.Imm)))) then some (a0, 0, 2) else bif decide (a1.Op = 25) then (set' a0.Mem (IntKind.u32.wrap (a2 + (IntKind.u32.wrap a1.Imm))) a3).bind fun zs11 => (at' zs11 (IntKind.u32.wrap (a2 + (IntKind.u32.wrap a1.Imm)))).bind fun x15 => some ((⟨a0.Regs, zs11, a0.In_, a0.Taken, a0.Out, a0.PC, a0.Stack, a0.Stop, a0.Fly, a0.Jump, a0.Delay⟩ : T_State), x15, 0) else (at' a0.Mem (IntKind.u32.wrap (a2 + (IntKind.u32.wrap a1.Imm)))).bind fun x24 => some (a0, x24, 0)
set_option maxHeartbeats 2000000 in
theorem w_seq_memory_ {g : Frag} {a0 : T_State} {b0_ : Nat} {LB0_ : Own} {a1 : T_Ins} {a2 : Int} {a3 : Int} {r : (T_State × Int × Int)} (h0 : Bx_State b0_ a0 LB0_) (hF : seq_memory a0 a1 a2 a3 = some r) : LC Try.prog 85 #[.pointer (some ⟨b0_, 0, none⟩), .agg #[.int .i64 a1.Op, .int .i64 a1.D, .int .i64 a1.A, .int .i64 a1.B, .int .i64 a1.Imm, .string a1.Sym], .int .u32 a2, .int .u32 a3] g LB0_ (fun v L => ∃ (LB' : Own), v = .tuple #[.int .u32 r.2.1, .int .i64 r.2.2] ∧ L = (LB' ++ []) ∧ Bx_State b0_ r.1 LB') := by
 obtain ⟨vP0_0_1, vP0_1_5, vP0_2_9, vP0_4_13, vP0_6_17, vP0_8_21, LXP0_0_2, LXP0_1_6, LXP0_2_10, LXP0_4_14, LXP0_6_18, LXP0_8_22, rfl, hP0_0_3, hP0_1_7, hP0_2_11, hP0_4_15, hP0_6_19, hP0_8_23⟩ := h0
 unfold seq_memory at hF
 refine lc_body (k := 37) (av := [.pointer (some ⟨b0_, 0, none⟩), .agg #[.int .i64 a1.Op, .int .i64 a1.D, .int .i64 a1.A, .int .i64 a1.B, .int .i64 a1.Imm, .string a1.Sym], .int .u32 a2, .int .u32 a3]) Try.func85 rfl rfl (h := fun W hS => ?_)
 refine c_seq ?_
 refine c_region ?_
 refine o_boxP (cl := [.int .i64 a1.Op, .int .i64 a1.D, .int .i64 a1.A, .int .i64 a1.B, .int .i64 a1.Imm, .string a1.Sym]) rfl hS ?_
 clear hS; intro b1 w hS
 iterate 2 (refine oy hS y_assign ?_)
 refine n_thenN ?_
 refine c_seq ?_
 refine c_region ?_
 refine oy hS y_move ?_
 refine oy hS (y_field fa_api_Ins_4) ?_
 refine oy hS (y_load (fun w hS => hS.own (mH)) Try.underlying3 rfl rfl) ?_
 refine oy hS (y_conv Try.underlying3 Try.underlying63) ?_
 refine oy hS y_bin ?_
 refine oy hS y_assign ?_
 refine n_thenN ?_
 refine c_seq ?_
 refine c_block ?_
 refine c_seq ?_
 refine c_region ?_
 refine oy hS y_move ?_
 refine oy hS y_bin ?_
 refine oy hS y_assign ?_
 refine n_thenN ?_
 refine c_if (ht := fun c2 => ?_) (hf := fun c2 => ?_)
 · replace hF := bt c2 hF
   refine c_seq ?_
   refine c_region ?_
   iterate 2 (refine oy hS y_assign ?_)
   refine n_thenN ?_
   obtain rfl := Option.some.inj hF
   refine wp_ret (r_ret (vs := [.int .u32 0, .int .i64 2]) (L' := ((b0_, blk [vP0_0_1, vP0_1_5, vP0_2_9, .int .i64 a0.Taken, vP0_4_13, .int .i64 a0.PC, vP0_6_17, .int .i64 a0.Stop, vP0_8_21, .int .i64 a0.Jump, .int .i64 a0.Delay] 27) :: (LXP0_0_2 ++ (LXP0_1_6 ++ (LXP0_2_10 ++ (LXP0_4_14 ++ (LXP0_6_18 ++ (LXP0_8_22 ++ [])))))))) (hS.re (.takeb (.thereb _ (.hereb _ _)) (.take (.thereb _ (.here _ _)) (.take (.thereb _ (.here _ _)) (.take (.thereb _ (.here _ _)) (.take (.thereb _ (.here _ _)) (.take (.thereb _ (.here _ _)) (.take (.thereb _ (.here _ _)) (.nil _))))))))) (show resAll _ _ _ [.tmp 8, .tmp 9] _ from ⟨res_tmp, res_tmp, trivial⟩) rfl ⟨_, rfl, (by first | rfl | simp only [List.append_assoc, List.cons_append, List.nil_append, List.append_nil]), ⟨_, _, _, _, _, _, _, _, _, _, _, _, rfl, hP0_0_3, hP0_1_7, hP0_2_11, hP0_4_15, hP0_6_19, hP0_8_23⟩⟩)
 replace hF := bf c2 hF
 refine c_seq ?_
 refine c_region ?_
 refine oy hS (y_field fa_api_Ins_0) ?_
 refine oy hS (y_load (fun w hS => hS.own (mH)) Try.underlying3 rfl rfl) ?_
 refine oy hS y_bin ?_
 refine oy hS y_assign ?_
 refine n_thenN ?_
 refine c_if (ht := fun c3 => ?_) (hf := fun c3 => ?_)
 · replace hF := bt c3 hF
   refine c_region ?_
   refine oy hS y_move ?_
   refine oy hS y_nilCheck ?_
   refine oy hS (y_field fa_api_State_1) ?_
   refine oy hS (y_load (fun w hS => hS.own (mC (mH))) Try.underlying23 rfl rfl) ?_
   iterate 2 (refine oy hS y_move ?_)
   obtain ⟨zs11, hzs11, hF⟩ := ob hF
   obtain ⟨b4, c5, cl6, hv7, ha8, hb9, hl10⟩ := OwT.at_set hzs11 hP0_1_7 enc_len_uint32
   refine oy hS (y_index hv7 ha8 hb9 Try.underlying23 el_uint32.size) ?_
   refine o_storeO (L' := fun X => ((b1, blk [.int .i64 a1.Op, .int .i64 a1.D, .int .i64 a1.A, .int .i64 a1.B, .int .i64 a1.Imm, .string a1.Sym] 43) :: ((b0_, blk [vP0_0_1, vP0_1_5, vP0_2_9, .int .i64 a0.Taken, vP0_4_13, .int .i64 a0.PC, vP0_6_17, .int .i64 a0.Stop, vP0_8_21, .int .i64 a0.Jump, .int .i64 a0.Delay] 27) :: (LXP0_0_2 ++ (X ++ (LXP0_2_10 ++ (LXP0_4_14 ++ (LXP0_6_18 ++ (LXP0_8_22 ++ []))))))))) hzs11 hS hP0_1_7 hl10 (fun X => .thereb _ (.thereb _ (.there _ (.here _)))) enc_len_uint32 rfl (by exact sz_uint32) rfl rfl ?_
   clear hS; intro LX12 w h13 hS
   refine n_anyN ?_
   refine c_seq ?_
   refine c_region ?_
   refine oy hS y_move ?_
   refine oy hS y_nilCheck ?_
   refine oy hS (y_field fa_api_State_1) ?_
   refine oy hS (y_load (fun w hS => hS.own (mC (mH))) Try.underlying23 rfl rfl) ?_
   refine oy hS y_move ?_
   obtain ⟨x15, hx15, hF⟩ := ob hF
   obtain ⟨b16, c17, cl18, hv19, ha20, hb21, hl22, hc23⟩ := OwT.at hx15 h13 enc_len_uint32
   refine oy hS (y_index hv19 ha20 hb21 Try.underlying23 el_uint32.size) ?_
   refine oy hS (y_load (fun w hS => hS.own (mC (mC (mB (mA (mX hl22)))))) Try.underlying63 rfl (hc23 0 _ rfl)) ?_
   iterate 2 (refine oy hS y_assign ?_)
   refine n_thenN ?_
   obtain rfl := Option.some.inj hF
   refine wp_ret (r_ret (vs := [.int .u32 x15, .int .i64 0]) (L' := ((b0_, blk [vP0_0_1, vP0_1_5, vP0_2_9, .int .i64 a0.Taken, vP0_4_13, .int .i64 a0.PC, vP0_6_17, .int .i64 a0.Stop, vP0_8_21, .int .i64 a0.Jump, .int .i64 a0.Delay] 27) :: (LXP0_0_2 ++ (LX12 ++ (LXP0_2_10 ++ (LXP0_4_14 ++ (LXP0_6_18 ++ (LXP0_8_22 ++ [])))))))) (hS.re (.takeb (.thereb _ (.hereb _ _)) (.take (.thereb _ (.here _ _)) (.take (.thereb _ (.here _ _)) (.take (.thereb _ (.here _ _)) (.take (.thereb _ (.here _ _)) (.take (.thereb _ (.here _ _)) (.take (.thereb _ (.here _ _)) (.nil _))))))))) (show resAll _ _ _ [.tmp 8, .tmp 9] _ from ⟨res_tmp, res_tmp, trivial⟩) rfl ⟨_, rfl, (by first | rfl | simp only [List.append_assoc, List.cons_append, List.nil_append, List.append_nil]), ⟨_, _, _, _, _, _, _, _, _, _, _, _, rfl, hP0_0_3, h13, hP0_2_11, hP0_4_15, hP0_6_19, hP0_8_23⟩⟩)
 replace hF := bf c3 hF
 refine wp_skip ?_
 refine c_seq ?_
 refine c_region ?_
 refine oy hS y_move ?_
 refine oy hS y_nilCheck ?_
 refine oy hS (y_field fa_api_State_1) ?_
 refine oy hS (y_load (fun w hS => hS.own (mC (mH))) Try.underlying23 rfl rfl) ?_
 refine oy hS y_move ?_
 obtain ⟨x24, hx24, hF⟩ := ob hF
 obtain ⟨b25, c26, cl27, hv28, ha29, hb30, hl31, hc32⟩ := OwT.at hx24 hP0_1_7 enc_len_uint32
 refine oy hS (y_index hv28 ha29 hb30 Try.underlying23 el_uint32.size) ?_
 refine oy hS (y_load (fun w hS => hS.own (mC (mC (mB (mA (mX hl31)))))) Try.underlying63 rfl (hc32 0 _ rfl)) ?_
 iterate 2 (refine oy hS y_assign ?_)
 refine n_thenN ?_
 obtain rfl := Option.some.inj hF
 refine wp_ret (r_ret (vs := [.int .u32 x24, .int .i64 0]) (L' := ((b0_, blk [vP0_0_1, vP0_1_5, vP0_2_9, .int .i64 a0.Taken, vP0_4_13, .int .i64 a0.PC, vP0_6_17, .int .i64 a0.Stop, vP0_8_21, .int .i64 a0.Jump, .int .i64 a0.Delay] 27) :: (LXP0_0_2 ++ (LXP0_1_6 ++ (LXP0_2_10 ++ (LXP0_4_14 ++ (LXP0_6_18 ++ (LXP0_8_22 ++ [])))))))) (hS.re (.takeb (.thereb _ (.hereb _ _)) (.take (.thereb _ (.here _ _)) (.take (.thereb _ (.here _ _)) (.take (.thereb _ (.here _ _)) (.take (.thereb _ (.here _ _)) (.take (.thereb _ (.here _ _)) (.take (.thereb _ (.here _ _)) (.nil _))))))))) (show resAll _ _ _ [.tmp 8, .tmp 9] _ from ⟨res_tmp, res_tmp, trivial⟩) rfl ⟨_, rfl, (by first | rfl | simp only [List.append_assoc, List.cons_append, List.nil_append, List.append_nil]), ⟨_, _, _, _, _, _, _, _, _, _, _, _, rfl, hP0_0_3, hP0_1_7, hP0_2_11, hP0_4_15, hP0_6_19, hP0_8_23⟩⟩)
theorem w_seq_memory {g : Frag} {a0 : T_State} {b0_ : Nat} {LB0_ : Own} {a1 : T_Ins} {a2 : Int} {a3 : Int} {r : (T_State × Int × Int)} (h0 : Bx_State b0_ a0 LB0_) (hF : seq_memory a0 a1 a2 a3 = some r) : LC Try.prog 85 #[.pointer (some ⟨b0_, 0, none⟩), .agg #[.int .i64 a1.Op, .int .i64 a1.D, .int .i64 a1.A, .int .i64 a1.B, .int .i64 a1.Imm, .string a1.Sym], .int .u32 a2, .int .u32 a3] g LB0_ (fun v L => ∃ (LB' : Own), v = .tuple #[.int .u32 r.2.1, .int .i64 r.2.2] ∧ L = (LB' ++ []) ∧ Bx_State b0_ r.1 LB') := w_seq_memory_ h0 hF
end Go.Proofs.Ytadajdcbeegabaa
