/- The law SeqQuotients, lifted. Printed by lift.py. -/
import Derived.Test.YtadajdcbeegabaaProg
import Derived.Test.YtadajdcbeegabaaP10
import Derived.KernelRfl
namespace Go.Proofs.Ytadajdcbeegabaa
open Go Go.RowKit Fr
set_option linter.unusedVariables false
set_option linter.unusedSimpArgs false
set_option maxRecDepth 20000
noncomputable def l5_SeqQuotients (a0 : T_Script) : Option Bool :=
  (l5_kinds a0 16 17).bind fun r2 => (l5_runs a0 r2).bind fun r10 => some (r10)
set_option maxHeartbeats 2000000 in
theorem w_l5_SeqQuotients_ {g : Frag} {a0 : T_Script} {v0_ : Value} {r : Bool} (h0 : Rd_Script g a0 v0_) (hF : l5_SeqQuotients a0 = some r) : LCs Try.prog 6 #[v0_] g (.bool r) := by
 obtain ⟨v0_0_, v0_1_, v0_2_, v0_3_, v0_5_, v0_7_, v0_9_, v0_12_, v0_13_, rfl, h0_0_, h0_1_, h0_2_, h0_3_, h0_5_, h0_7_, h0_9_, h0_12_, h0_13_⟩ := h0
 unfold l5_SeqQuotients at hF
 refine lc_body (k := 7) (av := [.agg #[v0_0_, v0_1_, v0_2_, v0_3_, .int .i64 a0.S.Taken, v0_5_, .int .i64 a0.S.PC, v0_7_, .int .i64 a0.S.Stop, v0_9_, .int .i64 a0.S.Jump, .int .i64 a0.S.Delay, v0_12_, v0_13_]]) Try.func6 rfl rfl (h := fun W hS => ?_)
 refine c_seq ?_
 refine c_region ?_
 refine o_boxP (cl := [v0_0_, v0_1_, v0_2_, v0_3_, .int .i64 a0.S.Taken, v0_5_, .int .i64 a0.S.PC, v0_7_, .int .i64 a0.S.Stop, v0_9_, .int .i64 a0.S.Jump, .int .i64 a0.S.Delay, v0_12_, v0_13_]) rfl hS ?_
 clear hS; intro b1 w hS
 refine oy hS y_assign ?_
 refine n_thenN ?_
 refine c_seq ?_
 refine c_heldB (CB g ((b1, blk [v0_0_, v0_1_, v0_2_, v0_3_, .int .i64 a0.S.Taken, v0_5_, .int .i64 a0.S.PC, v0_7_, .int .i64 a0.S.Stop, v0_9_, .int .i64 a0.S.Jump, .int .i64 a0.S.Delay, v0_12_, v0_13_] 29) :: [])) 5 5 (by kernel_rfl) rfl hS ?_
 clear hS; intro w hS
 refine hy 0 rfl wn (by kernel_rfl) (nq (P := Try.prog) (fn := Try.f6)) hS.cb (y_loadW (fun w hS => hS.own (mH)) Try.underlying29 rfl (by exact sz_sledgelaw5_Script)) ?_
 refine hy 1 rfl wn (by kernel_rfl) (nq (P := Try.prog) (fn := Try.f6)) hS.cb (y_loadW (fun w hS => hS.own (mH)) Try.underlying29 rfl (by exact sz_sledgelaw5_Script)) ?_
 refine hb1 2 (by kernel_rfl) (hb_op rfl wn (nl (P := Try.prog) (fn := Try.f6)) ?_)
 obtain ⟨r2, hr2, hF⟩ := ob hF
 refine o_call (L1 := []) (L2 := ((b1, blk [v0_0_, v0_1_, v0_2_, v0_3_, .int .i64 a0.S.Taken, v0_5_, .int .i64 a0.S.PC, v0_7_, .int .i64 a0.S.Stop, v0_9_, .int .i64 a0.S.Jump, .int .i64 a0.S.Delay, v0_12_, v0_13_] 29) :: [])) hS Try.func22 rfl rfl (hc := (w_l5_kinds (a0 := a0) (a1 := 16) (a2 := 17) (h0 := ⟨_, _, _, _, _, _, _, _, _, rfl, h0_0_.plus, h0_1_.plus, h0_2_.plus, h0_3_.plus, h0_5_.plus, h0_7_.plus, h0_9_.plus, h0_12_.plus, h0_13_.plus⟩) (hF := hr2))) (h := ?_)
 clear hS; intro v3 LY4 w hS hr5
 obtain ⟨v_0_6, LX_0_7, rfl, rfl, h_0_8⟩ := hr5
 simp only [List.append_assoc, List.cons_append, List.nil_append] at hS
 refine hb_next (fun _ => (hS.re (.takeb (.there _ (.hereb _ _)) (.nil _))).cb) ?_
 refine hb1 3 (by kernel_rfl) (hb_op rfl wn (nl (P := Try.prog) (fn := Try.f6)) ?_)
 obtain ⟨r10, hr10, hF⟩ := ob hF
 refine o_callS hS Try.func21 rfl rfl (hc := (w_l5_runs (a0 := a0) (a1 := r2) (h0 := ⟨_, _, _, _, _, _, _, _, _, rfl, h0_0_.plus, h0_1_.plus, h0_2_.plus, h0_3_.plus, h0_5_.plus, h0_7_.plus, h0_9_.plus, h0_12_.plus, h0_13_.plus⟩) (h1 := (OwT.plus h_0_8 hS (fun p hp => mA (hp)))) (hF := hr10))) (h := ?_)
 clear hS; intro w hS
 refine hb_next (fun _ => (hS.re (.takeb (.there _ (.hereb _ _)) (.nil _))).cb) ?_
 refine hy0 4 rfl wn (by kernel_rfl) (nq (P := Try.prog) (fn := Try.f6)) (fun _ => (hS.re (.takeb (.there _ (.hereb _ _)) (.nil _))).cb) y_assign ?_
 refine hb_done (by kernel_rfl) ?_
 obtain rfl := Option.some.inj hF
 exact wp_ret (wr1 hS)
theorem w_l5_SeqQuotients {g : Frag} {a0 : T_Script} {v0_ : Value} {r : Bool} (h0 : Rd_Script g a0 v0_) (hF : l5_SeqQuotients a0 = some r) : LCs Try.prog 6 #[v0_] g (.bool r) := w_l5_SeqQuotients_ h0 hF
end Go.Proofs.Ytadajdcbeegabaa
