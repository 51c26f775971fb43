/- The law SeqCalls, lifted. Printed by lift.py. -/
import Derived.Test.YtadajdcbeegabaaProg
import Derived.Test.YtadajdcbeegabaaP10
import Derived.KernelRfl
namespace Go.Proofs.Ytadajdcbeegabaa
open Go Go.RowKit Fr
set_option linter.unusedVariables false
set_option linter.unusedSimpArgs false
set_option maxRecDepth 20000
noncomputable def l5_SeqCalls (a0 : T_Script) : Option Bool :=
  (rem' (a0.N.length : Int) 3).bind fun x2 => (l5_runs a0 ([(⟨31, 0, 0, 0, 3, ByteArray.empty⟩ : T_Ins), (⟨27, 0, 1, 0, 0, ByteArray.empty⟩ : T_Ins), (⟨33, 0, 0, 0, 0, ByteArray.empty⟩ : T_Ins), (⟨22, 1, 1, 0, IntKind.i64.wrap (1 + x2), ByteArray.empty⟩ : T_Ins), (⟨32, 0, 0, 0, 0, ByteArray.empty⟩ : T_Ins)] : List T_Ins)).bind fun r6 => bif r6 then (l5_runs a0 ([(⟨22, 1, 1, 0, 1, ByteArray.empty⟩ : T_Ins), (⟨31, 0, 0, 0, 0, ByteArray.empty⟩ : T_Ins)] : List T_Ins)).bind fun r11 => bif r11 then (l5_runs a0 ([(⟨32, 0, 0, 0, 0, ByteArray.empty⟩ : T_Ins)] : List T_Ins)).bind fun r16 => bif r16 then (app' ([(⟨31, 0, 0, 0, 3, ByteArray.empty⟩ : T_Ins), (⟨27, 0, 1, 0, 0, ByteArray.empty⟩ : T_Ins), (⟨33, 0, 0, 0, 0, ByteArray.empty⟩ : T_Ins), (⟨22, 1, 1, 0, IntKind.i64.wrap (1 + x2), ByteArray.empty⟩ : T_Ins), (⟨32, 0, 0, 0, 0, ByteArray.empty⟩ : T_Ins)] : List T_Ins) ([(⟨31, 0, 0, 0, 3, ByteArray.empty⟩ : T_Ins), (⟨27, 0, 1, 0, 0, ByteArray.empty⟩ : T_Ins), (⟨33, 0, 0, 0, 0, ByteArray.empty⟩ : T_Ins), (⟨22, 1, 1, 0, IntKind.i64.wrap (1 + x2), ByteArray.empty⟩ : T_Ins), (⟨32, 0, 0, 0, 0, ByteArray.empty⟩ : T_Ins)] : List T_Ins)).bind fun zs18 => (sub' zs18 3 (zs18.length : Int)).bind fun zs24 => (l5_runs a0 zs24).bind fun r25 => some (r25) else some (false) else some (false) else some (false)
set_option maxHeartbeats 40000000 in
theorem w_l5_SeqCalls_ {g : Frag} {a0 : T_Script} {v0_ : Value} {r : Bool} (h0 : Rd_Script g a0 v0_) (hF : l5_SeqCalls a0 = some r) : LCs Try.prog 9 #[v0_] g (.bool r) := by
 obtain ⟨v0_0_, v0_1_, v0_2_, v0_3_, v0_5_, v0_7_, v0_9_, v0_12_, v0_13_, rfl, h0_0_, h0_1_, h0_2_, h0_3_, h0_5_, h0_7_, h0_9_, h0_12_, h0_13_⟩ := h0
 unfold l5_SeqCalls at hF
 refine lc_body (k := 39) (av := [.agg #[v0_0_, v0_1_, v0_2_, v0_3_, .int .i64 a0.S.Taken, v0_5_, .int .i64 a0.S.PC, v0_7_, .int .i64 a0.S.Stop, v0_9_, .int .i64 a0.S.Jump, .int .i64 a0.S.Delay, v0_12_, v0_13_]]) Try.func9 rfl rfl (h := fun W hS => ?_)
 refine c_seq ?_
 refine c_region ?_
 refine o_boxP (cl := [v0_0_, v0_1_, v0_2_, v0_3_, .int .i64 a0.S.Taken, v0_5_, .int .i64 a0.S.PC, v0_7_, .int .i64 a0.S.Stop, v0_9_, .int .i64 a0.S.Jump, .int .i64 a0.S.Delay, v0_12_, v0_13_]) rfl hS ?_
 clear hS; intro b1 w hS
 refine oy hS y_assign ?_
 refine n_thenN ?_
 refine c_seq ?_
 refine c_region ?_
 refine oy hS (y_build (cl := [.int .i64 31, .int .i64 0, .int .i64 0, .int .i64 0, .int .i64 3, .string ByteArray.empty]) bt_api_Ins rfl (fillS (vs := [.int .i64 31]) rfl rfl rfl rfl (fillS (vs := [.int .i64 3]) rfl rfl rfl rfl fillN))) ?_
 refine oy hS (y_build (cl := [.int .i64 27, .int .i64 0, .int .i64 1, .int .i64 0, .int .i64 0, .string ByteArray.empty]) bt_api_Ins rfl (fillS (vs := [.int .i64 27]) rfl rfl rfl rfl (fillS (vs := [.int .i64 1]) rfl rfl rfl rfl fillN))) ?_
 refine oy hS (y_build (cl := [.int .i64 33, .int .i64 0, .int .i64 0, .int .i64 0, .int .i64 0, .string ByteArray.empty]) bt_api_Ins rfl (fillS (vs := [.int .i64 33]) rfl rfl rfl rfl fillN)) ?_
 refine oy hS (y_field fa_sledgelaw5_Script_3) ?_
 refine oy hS (y_load (fun w hS => hS.own (mH)) Try.underlying24 rfl rfl) ?_
 refine oy hS (y_len h0_13_ Try.underlying24) ?_
 obtain ⟨x2, hx2, hF⟩ := ob hF
 refine oy hS (y_rem hx2) ?_
 refine oy hS y_bin ?_
 refine oy hS (y_build (cl := [.int .i64 22, .int .i64 1, .int .i64 1, .int .i64 0, .int .i64 (IntKind.i64.wrap (1 + x2)), .string ByteArray.empty]) bt_api_Ins rfl (fillS (vs := [.int .i64 22]) rfl rfl rfl rfl (fillS (vs := [.int .i64 1]) rfl rfl rfl rfl (fillS (vs := [.int .i64 1]) rfl rfl rfl rfl (fillS (vs := [.int .i64 (IntKind.i64.wrap (1 + x2))]) rfl rfl rfl rfl fillN))))) ?_
 refine oy hS (y_build (cl := [.int .i64 32, .int .i64 0, .int .i64 0, .int .i64 0, .int .i64 0, .string ByteArray.empty]) bt_api_Ins rfl (fillS (vs := [.int .i64 32]) rfl rfl rfl rfl fillN)) ?_
 refine o_buildT val_Ins ([(⟨31, 0, 0, 0, 3, ByteArray.empty⟩ : T_Ins), (⟨27, 0, 1, 0, 0, ByteArray.empty⟩ : T_Ins), (⟨33, 0, 0, 0, 0, ByteArray.empty⟩ : T_Ins), (⟨22, 1, 1, 0, IntKind.i64.wrap (1 + x2), ByteArray.empty⟩ : T_Ins), (⟨32, 0, 0, 0, 0, ByteArray.empty⟩ : T_Ins)] : List T_Ins) hS el_api_Ins (fun _ => rfl) enc_len_Ins (by decide) rfl (by decide) (hp := rfl) (h := ?_)
 clear hS; intro b3 w hS h4
 have hS : St W g [] ([(b3, blk (([(⟨31, 0, 0, 0, 3, ByteArray.empty⟩ : T_Ins), (⟨27, 0, 1, 0, 0, ByteArray.empty⟩ : T_Ins), (⟨33, 0, 0, 0, 0, ByteArray.empty⟩ : T_Ins), (⟨22, 1, 1, 0, IntKind.i64.wrap (1 + x2), ByteArray.empty⟩ : T_Ins), (⟨32, 0, 0, 0, 0, ByteArray.empty⟩ : T_Ins)] : List T_Ins).flatMap enc_Ins) 43)] ++ ((b1, blk [v0_0_, v0_1_, v0_2_, v0_3_, .int .i64 a0.S.Taken, v0_5_, .int .i64 a0.S.PC, v0_7_, .int .i64 a0.S.Stop, v0_9_, .int .i64 a0.S.Jump, .int .i64 a0.S.Delay, v0_12_, v0_13_] 29) :: [])) w := hS
 refine oy hS y_assign ?_
 refine n_thenN ?_
 refine c_seq ?_
 refine c_heldB (CB g ((b1, blk [v0_0_, v0_1_, v0_2_, v0_3_, .int .i64 a0.S.Taken, v0_5_, .int .i64 a0.S.PC, v0_7_, .int .i64 a0.S.Stop, v0_9_, .int .i64 a0.S.Jump, .int .i64 a0.S.Delay, v0_12_, v0_13_] 29) :: [])) 25 25 (by kernel_rfl) rfl hS ?_
 clear hS; intro w hS
 refine hy 0 rfl wn (by kernel_rfl) (nq (P := Try.prog) (fn := Try.f9)) ((hS.re (.takeb (.there _ (.hereb _ _)) (.nil _))).cb) (y_loadW (fun w hS => hS.own (mH)) Try.underlying29 rfl (by exact sz_sledgelaw5_Script)) ?_
 refine hy0 1 rfl wn (by kernel_rfl) (nq (P := Try.prog) (fn := Try.f9)) (fun _ => (hS.re (.takeb (.there _ (.hereb _ _)) (.nil _))).cb) y_move ?_
 refine hb1 2 (by kernel_rfl) (hb_op rfl wn (nl (P := Try.prog) (fn := Try.f9)) ?_)
 obtain ⟨r6, hr6, hF⟩ := ob hF
 refine o_callS hS Try.func21 rfl rfl (hc := (w_l5_runs (a0 := a0) (a1 := ([(⟨31, 0, 0, 0, 3, ByteArray.empty⟩ : T_Ins), (⟨27, 0, 1, 0, 0, ByteArray.empty⟩ : T_Ins), (⟨33, 0, 0, 0, 0, ByteArray.empty⟩ : T_Ins), (⟨22, 1, 1, 0, IntKind.i64.wrap (1 + x2), ByteArray.empty⟩ : T_Ins), (⟨32, 0, 0, 0, 0, ByteArray.empty⟩ : T_Ins)] : List T_Ins)) (h0 := ⟨_, _, _, _, _, _, _, _, _, rfl, h0_0_.plus, h0_1_.plus, h0_2_.plus, h0_3_.plus, h0_5_.plus, h0_7_.plus, h0_9_.plus, h0_12_.plus, h0_13_.plus⟩) (h1 := (OwT.plus h4 hS (fun p hp => mA (hp)))) (hF := hr6))) (h := ?_)
 clear hS; intro w hS
 refine hb_next (fun _ => (hS.re (.takeb (.there _ (.hereb _ _)) (.nil _))).cb) ?_
 refine hsplit 3 rfl wn (by kernel_rfl) (nq (P := Try.prog) (fn := Try.f9)) (fun _ => (hS.re (.takeb (.there _ (.hereb _ _)) (.nil _))).cb) (ht := fun c7 => ?_) (hff := fun c7 => ?_)
 · replace hF := bt c7 hF
   refine hy 4 rfl (wt rfl rfl rfl) (by kernel_rfl) (nq (P := Try.prog) (fn := Try.f9)) ((hS.re (.takeb (.there _ (.hereb _ _)) (.nil _))).cb) (y_loadW (fun w hS => hS.own (mH)) Try.underlying29 rfl (by exact sz_sledgelaw5_Script)) ?_
   refine hy0 5 rfl (wt rfl rfl rfl) (by kernel_rfl) (nq (P := Try.prog) (fn := Try.f9)) (fun _ => (hS.re (.takeb (.there _ (.hereb _ _)) (.nil _))).cb) (y_build (cl := [.int .i64 22, .int .i64 1, .int .i64 1, .int .i64 0, .int .i64 1, .string ByteArray.empty]) bt_api_Ins rfl (fillS (vs := [.int .i64 22]) rfl rfl rfl rfl (fillS (vs := [.int .i64 1]) rfl rfl rfl rfl (fillS (vs := [.int .i64 1]) rfl rfl rfl rfl (fillS (vs := [.int .i64 1]) rfl rfl rfl rfl fillN))))) ?_
   refine hy0 6 rfl (wt rfl rfl rfl) (by kernel_rfl) (nq (P := Try.prog) (fn := Try.f9)) (fun _ => (hS.re (.takeb (.there _ (.hereb _ _)) (.nil _))).cb) (y_build (cl := [.int .i64 31, .int .i64 0, .int .i64 0, .int .i64 0, .int .i64 0, .string ByteArray.empty]) bt_api_Ins rfl (fillS (vs := [.int .i64 31]) rfl rfl rfl rfl (fillS (vs := [.int .i64 0]) rfl rfl rfl rfl fillN))) ?_
   refine hb1 7 (by kernel_rfl) (hb_op rfl (wt rfl rfl rfl) (nl (P := Try.prog) (fn := Try.f9)) ?_)
   refine o_buildT val_Ins ([(⟨22, 1, 1, 0, 1, ByteArray.empty⟩ : T_Ins), (⟨31, 0, 0, 0, 0, ByteArray.empty⟩ : T_Ins)] : List T_Ins) hS el_api_Ins (fun _ => rfl) enc_len_Ins (by decide) rfl (by decide) (hp := rfl) (h := ?_)
   clear hS; intro b8 w hS h9
   have hS : St W g [] ([(b8, blk (([(⟨22, 1, 1, 0, 1, ByteArray.empty⟩ : T_Ins), (⟨31, 0, 0, 0, 0, ByteArray.empty⟩ : T_Ins)] : List T_Ins).flatMap enc_Ins) 43)] ++ ([(b3, blk (([(⟨31, 0, 0, 0, 3, ByteArray.empty⟩ : T_Ins), (⟨27, 0, 1, 0, 0, ByteArray.empty⟩ : T_Ins), (⟨33, 0, 0, 0, 0, ByteArray.empty⟩ : T_Ins), (⟨22, 1, 1, 0, IntKind.i64.wrap (1 + x2), ByteArray.empty⟩ : T_Ins), (⟨32, 0, 0, 0, 0, ByteArray.empty⟩ : T_Ins)] : List T_Ins).flatMap enc_Ins) 43)] ++ ((b1, blk [v0_0_, v0_1_, v0_2_, v0_3_, .int .i64 a0.S.Taken, v0_5_, .int .i64 a0.S.PC, v0_7_, .int .i64 a0.S.Stop, v0_9_, .int .i64 a0.S.Jump, .int .i64 a0.S.Delay, v0_12_, v0_13_] 29) :: []))) w := hS
   refine hb_next (fun _ => (hS.re (.takeb (.there _ (.there _ (.hereb _ _))) (.nil _))).cb) ?_
   refine hb1 8 (by kernel_rfl) (hb_op rfl (wt rfl rfl rfl) (nl (P := Try.prog) (fn := Try.f9)) ?_)
   obtain ⟨r11, hr11, hF⟩ := ob hF
   refine o_callS hS Try.func21 rfl rfl (hc := (w_l5_runs (a0 := a0) (a1 := ([(⟨22, 1, 1, 0, 1, ByteArray.empty⟩ : T_Ins), (⟨31, 0, 0, 0, 0, ByteArray.empty⟩ : T_Ins)] : List T_Ins)) (h0 := ⟨_, _, _, _, _, _, _, _, _, rfl, h0_0_.plus, h0_1_.plus, h0_2_.plus, h0_3_.plus, h0_5_.plus, h0_7_.plus, h0_9_.plus, h0_12_.plus, h0_13_.plus⟩) (h1 := (OwT.plus h9 hS (fun p hp => mA (hp)))) (hF := hr11))) (h := ?_)
   clear hS; intro w hS
   refine hb_next (fun _ => (hS.re (.takeb (.there _ (.there _ (.hereb _ _))) (.nil _))).cb) ?_
   refine hy0 9 rfl wn (by kernel_rfl) (nq (P := Try.prog) (fn := Try.f9)) (fun _ => (hS.re (.takeb (.there _ (.there _ (.hereb _ _))) (.nil _))).cb) y_pickT ?_
   refine hsplit 10 rfl wn (by kernel_rfl) (nq (P := Try.prog) (fn := Try.f9)) (fun _ => (hS.re (.takeb (.there _ (.there _ (.hereb _ _))) (.nil _))).cb) (ht := fun c12 => ?_) (hff := fun c12 => ?_)
   · replace hF := bt c12 hF
     refine hy 11 rfl (wt rfl rfl rfl) (by kernel_rfl) (nq (P := Try.prog) (fn := Try.f9)) ((hS.re (.takeb (.there _ (.there _ (.hereb _ _))) (.nil _))).cb) (y_loadW (fun w hS => hS.own (mH)) Try.underlying29 rfl (by exact sz_sledgelaw5_Script)) ?_
     refine hy0 12 rfl (wt rfl rfl rfl) (by kernel_rfl) (nq (P := Try.prog) (fn := Try.f9)) (fun _ => (hS.re (.takeb (.there _ (.there _ (.hereb _ _))) (.nil _))).cb) (y_build (cl := [.int .i64 32, .int .i64 0, .int .i64 0, .int .i64 0, .int .i64 0, .string ByteArray.empty]) bt_api_Ins rfl (fillS (vs := [.int .i64 32]) rfl rfl rfl rfl fillN)) ?_
     refine hb1 13 (by kernel_rfl) (hb_op rfl (wt rfl rfl rfl) (nl (P := Try.prog) (fn := Try.f9)) ?_)
     refine o_buildT val_Ins ([(⟨32, 0, 0, 0, 0, ByteArray.empty⟩ : T_Ins)] : List T_Ins) hS el_api_Ins (fun _ => rfl) enc_len_Ins (by decide) rfl (by decide) (hp := rfl) (h := ?_)
     clear hS; intro b13 w hS h14
     have hS : St W g [] ([(b13, blk (([(⟨32, 0, 0, 0, 0, ByteArray.empty⟩ : T_Ins)] : List T_Ins).flatMap enc_Ins) 43)] ++ ([(b8, blk (([(⟨22, 1, 1, 0, 1, ByteArray.empty⟩ : T_Ins), (⟨31, 0, 0, 0, 0, ByteArray.empty⟩ : T_Ins)] : List T_Ins).flatMap enc_Ins) 43)] ++ ([(b3, blk (([(⟨31, 0, 0, 0, 3, ByteArray.empty⟩ : T_Ins), (⟨27, 0, 1, 0, 0, ByteArray.empty⟩ : T_Ins), (⟨33, 0, 0, 0, 0, ByteArray.empty⟩ : T_Ins), (⟨22, 1, 1, 0, IntKind.i64.wrap (1 + x2), ByteArray.empty⟩ : T_Ins), (⟨32, 0, 0, 0, 0, ByteArray.empty⟩ : T_Ins)] : List T_Ins).flatMap enc_Ins) 43)] ++ ((b1, blk [v0_0_, v0_1_, v0_2_, v0_3_, .int .i64 a0.S.Taken, v0_5_, .int .i64 a0.S.PC, v0_7_, .int .i64 a0.S.Stop, v0_9_, .int .i64 a0.S.Jump, .int .i64 a0.S.Delay, v0_12_, v0_13_] 29) :: [])))) w := hS
     refine hb_next (fun _ => (hS.re (.takeb (.there _ (.there _ (.there _ (.hereb _ _)))) (.nil _))).cb) ?_
     refine hb1 14 (by kernel_rfl) (hb_op rfl (wt rfl rfl rfl) (nl (P := Try.prog) (fn := Try.f9)) ?_)
     obtain ⟨r16, hr16, hF⟩ := ob hF
     refine o_callS hS Try.func21 rfl rfl (hc := (w_l5_runs (a0 := a0) (a1 := ([(⟨32, 0, 0, 0, 0, ByteArray.empty⟩ : T_Ins)] : List T_Ins)) (h0 := ⟨_, _, _, _, _, _, _, _, _, rfl, h0_0_.plus, h0_1_.plus, h0_2_.plus, h0_3_.plus, h0_5_.plus, h0_7_.plus, h0_9_.plus, h0_12_.plus, h0_13_.plus⟩) (h1 := (OwT.plus h14 hS (fun p hp => mA (hp)))) (hF := hr16))) (h := ?_)
     clear hS; intro w hS
     refine hb_next (fun _ => (hS.re (.takeb (.there _ (.there _ (.there _ (.hereb _ _)))) (.nil _))).cb) ?_
     refine hy0 15 rfl wn (by kernel_rfl) (nq (P := Try.prog) (fn := Try.f9)) (fun _ => (hS.re (.takeb (.there _ (.there _ (.there _ (.hereb _ _)))) (.nil _))).cb) y_pickT ?_
     refine hsplit 16 rfl wn (by kernel_rfl) (nq (P := Try.prog) (fn := Try.f9)) (fun _ => (hS.re (.takeb (.there _ (.there _ (.there _ (.hereb _ _)))) (.nil _))).cb) (ht := fun c17 => ?_) (hff := fun c17 => ?_)
     · replace hF := bt c17 hF
       refine hy 17 rfl (wt rfl rfl rfl) (by kernel_rfl) (nq (P := Try.prog) (fn := Try.f9)) ((hS.re (.takeb (.there _ (.there _ (.there _ (.hereb _ _)))) (.nil _))).cb) (y_loadW (fun w hS => hS.own (mH)) Try.underlying29 rfl (by exact sz_sledgelaw5_Script)) ?_
       refine hy0 18 rfl (wt rfl rfl rfl) (by kernel_rfl) (nq (P := Try.prog) (fn := Try.f9)) (fun _ => (hS.re (.takeb (.there _ (.there _ (.there _ (.hereb _ _)))) (.nil _))).cb) y_move ?_
       refine hy0 19 rfl (wt rfl rfl rfl) (by kernel_rfl) (nq (P := Try.prog) (fn := Try.f9)) (fun _ => (hS.re (.takeb (.there _ (.there _ (.there _ (.hereb _ _)))) (.nil _))).cb) y_move ?_
       refine hb1 20 (by kernel_rfl) (hb_op rfl (wt rfl rfl rfl) (nl (P := Try.prog) (fn := Try.f9)) ?_)
       obtain ⟨zs18, hzs18, hF⟩ := ob hF
       refine o_appFz hzs18 hS (St.handed (L1 := []) (L2 := ([(b13, blk (([(⟨32, 0, 0, 0, 0, ByteArray.empty⟩ : T_Ins)] : List T_Ins).flatMap enc_Ins) 43)] ++ ([(b8, blk (([(⟨22, 1, 1, 0, 1, ByteArray.empty⟩ : T_Ins), (⟨31, 0, 0, 0, 0, ByteArray.empty⟩ : T_Ins)] : List T_Ins).flatMap enc_Ins) 43)] ++ ([(b3, blk (([(⟨31, 0, 0, 0, 3, ByteArray.empty⟩ : T_Ins), (⟨27, 0, 1, 0, 0, ByteArray.empty⟩ : T_Ins), (⟨33, 0, 0, 0, 0, ByteArray.empty⟩ : T_Ins), (⟨22, 1, 1, 0, IntKind.i64.wrap (1 + x2), ByteArray.empty⟩ : T_Ins), (⟨32, 0, 0, 0, 0, ByteArray.empty⟩ : T_Ins)] : List T_Ins).flatMap enc_Ins) 43)] ++ ((b1, blk [v0_0_, v0_1_, v0_2_, v0_3_, .int .i64 a0.S.Taken, v0_5_, .int .i64 a0.S.PC, v0_7_, .int .i64 a0.S.Stop, v0_9_, .int .i64 a0.S.Jump, .int .i64 a0.S.Delay, v0_12_, v0_13_] 29) :: []))))) hS) el_api_Ins (OwT.plus h4 hS (fun p hp => mB (mB (mA (hp))))) (by decide) ?_
       clear hS; intro v19 LX20 w h21 hS
       refine hb_next (fun _ => (hS.re (.takeb (.there _ (.there _ (.there _ (.there _ (.hereb _ _))))) (.nil _))).cb) ?_
       obtain ⟨zs24, hzs24, hF⟩ := ob hF
       refine hy0 21 rfl (wt rfl rfl rfl) (by kernel_rfl) (nq (P := Try.prog) (fn := Try.f9)) (fun _ => (hS.re (.takeb (.there _ (.there _ (.there _ (.there _ (.hereb _ _))))) (.nil _))).cb) (y_slD hzs24 (OwT.plus h21 hS (fun p hp => mA (hp))) Try.underlying22 el_api_Ins.size) ?_
       refine hb1 22 (by kernel_rfl) (hb_op rfl (wt rfl rfl rfl) (nl (P := Try.prog) (fn := Try.f9)) ?_)
       obtain ⟨r25, hr25, hF⟩ := ob hF
       refine o_callS hS Try.func21 rfl rfl (hc := (w_l5_runs (a0 := a0) (a1 := zs24) (h0 := ⟨_, _, _, _, _, _, _, _, _, rfl, h0_0_.plus, h0_1_.plus, h0_2_.plus, h0_3_.plus, h0_5_.plus, h0_7_.plus, h0_9_.plus, h0_12_.plus, h0_13_.plus⟩) (h1 := (SlT.sub hzs24 (OwT.plus h21 hS (fun p hp => mA (hp))) enc_len_Ins)) (hF := hr25))) (h := ?_)
       clear hS; intro w hS
       refine hb_next (fun _ => (hS.re (.takeb (.there _ (.there _ (.there _ (.there _ (.hereb _ _))))) (.nil _))).cb) ?_
       refine hy0 23 rfl wn (by kernel_rfl) (nq (P := Try.prog) (fn := Try.f9)) (fun _ => (hS.re (.takeb (.there _ (.there _ (.there _ (.there _ (.hereb _ _))))) (.nil _))).cb) y_pickT ?_
       refine hy0 24 rfl wn (by kernel_rfl) (nq (P := Try.prog) (fn := Try.f9)) (fun _ => (hS.re (.takeb (.there _ (.there _ (.there _ (.there _ (.hereb _ _))))) (.nil _))).cb) y_assign ?_
       refine hb_done (by kernel_rfl) ?_
       obtain rfl := Option.some.inj hF
       exact wp_ret (wr1 hS)
     replace hF := bf c17 hF
     refine hskip 17 rfl (wf rfl rfl) (by kernel_rfl) (nq (P := Try.prog) (fn := Try.f9)) (fun _ => (hS.re (.takeb (.there _ (.there _ (.there _ (.hereb _ _)))) (.nil _))).cb) ?_
     refine hskip 18 rfl (wf rfl rfl) (by kernel_rfl) (nq (P := Try.prog) (fn := Try.f9)) (fun _ => (hS.re (.takeb (.there _ (.there _ (.there _ (.hereb _ _)))) (.nil _))).cb) ?_
     refine hskip 19 rfl (wf rfl rfl) (by kernel_rfl) (nq (P := Try.prog) (fn := Try.f9)) (fun _ => (hS.re (.takeb (.there _ (.there _ (.there _ (.hereb _ _)))) (.nil _))).cb) ?_
     refine hskip 20 rfl (wf rfl rfl) (by kernel_rfl) (nq (P := Try.prog) (fn := Try.f9)) (fun _ => (hS.re (.takeb (.there _ (.there _ (.there _ (.hereb _ _)))) (.nil _))).cb) ?_
     refine hskip 21 rfl (wf rfl rfl) (by kernel_rfl) (nq (P := Try.prog) (fn := Try.f9)) (fun _ => (hS.re (.takeb (.there _ (.there _ (.there _ (.hereb _ _)))) (.nil _))).cb) ?_
     refine hskip 22 rfl (wf rfl rfl) (by kernel_rfl) (nq (P := Try.prog) (fn := Try.f9)) (fun _ => (hS.re (.takeb (.there _ (.there _ (.there _ (.hereb _ _)))) (.nil _))).cb) ?_
     refine hy0 23 rfl wn (by kernel_rfl) (nq (P := Try.prog) (fn := Try.f9)) (fun _ => (hS.re (.takeb (.there _ (.there _ (.there _ (.hereb _ _)))) (.nil _))).cb) y_pickF ?_
     refine hy0 24 rfl wn (by kernel_rfl) (nq (P := Try.prog) (fn := Try.f9)) (fun _ => (hS.re (.takeb (.there _ (.there _ (.there _ (.hereb _ _)))) (.nil _))).cb) y_assign ?_
     refine hb_done (by kernel_rfl) ?_
     obtain rfl := Option.some.inj hF
     exact wp_ret (wr1 hS)
   replace hF := bf c12 hF
   refine hskip 11 rfl (wf rfl rfl) (by kernel_rfl) (nq (P := Try.prog) (fn := Try.f9)) (fun _ => (hS.re (.takeb (.there _ (.there _ (.hereb _ _))) (.nil _))).cb) ?_
   refine hskip 12 rfl (wf rfl rfl) (by kernel_rfl) (nq (P := Try.prog) (fn := Try.f9)) (fun _ => (hS.re (.takeb (.there _ (.there _ (.hereb _ _))) (.nil _))).cb) ?_
   refine hskip 13 rfl (wf rfl rfl) (by kernel_rfl) (nq (P := Try.prog) (fn := Try.f9)) (fun _ => (hS.re (.takeb (.there _ (.there _ (.hereb _ _))) (.nil _))).cb) ?_
   refine hskip 14 rfl (wf rfl rfl) (by kernel_rfl) (nq (P := Try.prog) (fn := Try.f9)) (fun _ => (hS.re (.takeb (.there _ (.there _ (.hereb _ _))) (.nil _))).cb) ?_
   refine hy0 15 rfl wn (by kernel_rfl) (nq (P := Try.prog) (fn := Try.f9)) (fun _ => (hS.re (.takeb (.there _ (.there _ (.hereb _ _))) (.nil _))).cb) y_pickF ?_
   refine hy0 16 rfl wn (by kernel_rfl) (nq (P := Try.prog) (fn := Try.f9)) (fun _ => (hS.re (.takeb (.there _ (.there _ (.hereb _ _))) (.nil _))).cb) y_move ?_
   refine hskip 17 rfl (wf rfl rfl) (by kernel_rfl) (nq (P := Try.prog) (fn := Try.f9)) (fun _ => (hS.re (.takeb (.there _ (.there _ (.hereb _ _))) (.nil _))).cb) ?_
   refine hskip 18 rfl (wf rfl rfl) (by kernel_rfl) (nq (P := Try.prog) (fn := Try.f9)) (fun _ => (hS.re (.takeb (.there _ (.there _ (.hereb _ _))) (.nil _))).cb) ?_
   refine hskip 19 rfl (wf rfl rfl) (by kernel_rfl) (nq (P := Try.prog) (fn := Try.f9)) (fun _ => (hS.re (.takeb (.there _ (.there _ (.hereb _ _))) (.nil _))).cb) ?_
   refine hskip 20 rfl (wf rfl rfl) (by kernel_rfl) (nq (P := Try.prog) (fn := Try.f9)) (fun _ => (hS.re (.takeb (.there _ (.there _ (.hereb _ _))) (.nil _))).cb) ?_
   refine hskip 21 rfl (wf rfl rfl) (by kernel_rfl) (nq (P := Try.prog) (fn := Try.f9)) (fun _ => (hS.re (.takeb (.there _ (.there _ (.hereb _ _))) (.nil _))).cb) ?_
   refine hskip 22 rfl (wf rfl rfl) (by kernel_rfl) (nq (P := Try.prog) (fn := Try.f9)) (fun _ => (hS.re (.takeb (.there _ (.there _ (.hereb _ _))) (.nil _))).cb) ?_
   refine hy0 23 rfl wn (by kernel_rfl) (nq (P := Try.prog) (fn := Try.f9)) (fun _ => (hS.re (.takeb (.there _ (.there _ (.hereb _ _))) (.nil _))).cb) y_pickF ?_
   refine hy0 24 rfl wn (by kernel_rfl) (nq (P := Try.prog) (fn := Try.f9)) (fun _ => (hS.re (.takeb (.there _ (.there _ (.hereb _ _))) (.nil _))).cb) y_assign ?_
   refine hb_done (by kernel_rfl) ?_
   obtain rfl := Option.some.inj hF
   exact wp_ret (wr1 hS)
 replace hF := bf c7 hF
 refine hskip 4 rfl (wf rfl rfl) (by kernel_rfl) (nq (P := Try.prog) (fn := Try.f9)) (fun _ => (hS.re (.takeb (.there _ (.hereb _ _)) (.nil _))).cb) ?_
 refine hskip 5 rfl (wf rfl rfl) (by kernel_rfl) (nq (P := Try.prog) (fn := Try.f9)) (fun _ => (hS.re (.takeb (.there _ (.hereb _ _)) (.nil _))).cb) ?_
 refine hskip 6 rfl (wf rfl rfl) (by kernel_rfl) (nq (P := Try.prog) (fn := Try.f9)) (fun _ => (hS.re (.takeb (.there _ (.hereb _ _)) (.nil _))).cb) ?_
 refine hskip 7 rfl (wf rfl rfl) (by kernel_rfl) (nq (P := Try.prog) (fn := Try.f9)) (fun _ => (hS.re (.takeb (.there _ (.hereb _ _)) (.nil _))).cb) ?_
 refine hskip 8 rfl (wf rfl rfl) (by kernel_rfl) (nq (P := Try.prog) (fn := Try.f9)) (fun _ => (hS.re (.takeb (.there _ (.hereb _ _)) (.nil _))).cb) ?_
 refine hy0 9 rfl wn (by kernel_rfl) (nq (P := Try.prog) (fn := Try.f9)) (fun _ => (hS.re (.takeb (.there _ (.hereb _ _)) (.nil _))).cb) y_pickF ?_
 refine hy0 10 rfl wn (by kernel_rfl) (nq (P := Try.prog) (fn := Try.f9)) (fun _ => (hS.re (.takeb (.there _ (.hereb _ _)) (.nil _))).cb) y_move ?_
 refine hskip 11 rfl (wf rfl rfl) (by kernel_rfl) (nq (P := Try.prog) (fn := Try.f9)) (fun _ => (hS.re (.takeb (.there _ (.hereb _ _)) (.nil _))).cb) ?_
 refine hskip 12 rfl (wf rfl rfl) (by kernel_rfl) (nq (P := Try.prog) (fn := Try.f9)) (fun _ => (hS.re (.takeb (.there _ (.hereb _ _)) (.nil _))).cb) ?_
 refine hskip 13 rfl (wf rfl rfl) (by kernel_rfl) (nq (P := Try.prog) (fn := Try.f9)) (fun _ => (hS.re (.takeb (.there _ (.hereb _ _)) (.nil _))).cb) ?_
 refine hskip 14 rfl (wf rfl rfl) (by kernel_rfl) (nq (P := Try.prog) (fn := Try.f9)) (fun _ => (hS.re (.takeb (.there _ (.hereb _ _)) (.nil _))).cb) ?_
 refine hy0 15 rfl wn (by kernel_rfl) (nq (P := Try.prog) (fn := Try.f9)) (fun _ => (hS.re (.takeb (.there _ (.hereb _ _)) (.nil _))).cb) y_pickF ?_
 refine hy0 16 rfl wn (by kernel_rfl) (nq (P := Try.prog) (fn := Try.f9)) (fun _ => (hS.re (.takeb (.there _ (.hereb _ _)) (.nil _))).cb) y_move ?_
 refine hskip 17 rfl (wf rfl rfl) (by kernel_rfl) (nq (P := Try.prog) (fn := Try.f9)) (fun _ => (hS.re (.takeb (.there _ (.hereb _ _)) (.nil _))).cb) ?_
 refine hskip 18 rfl (wf rfl rfl) (by kernel_rfl) (nq (P := Try.prog) (fn := Try.f9)) (fun _ => (hS.re (.takeb (.there _ (.hereb _ _)) (.nil _))).cb) ?_
 refine hskip 19 rfl (wf rfl rfl) (by kernel_rfl) (nq (P := Try.prog) (fn := Try.f9)) (fun _ => (hS.re (.takeb (.there _ (.hereb _ _)) (.nil _))).cb) ?_
 refine hskip 20 rfl (wf rfl rfl) (by kernel_rfl) (nq (P := Try.prog) (fn := Try.f9)) (fun _ => (hS.re (.takeb (.there _ (.hereb _ _)) (.nil _))).cb) ?_
 refine hskip 21 rfl (wf rfl rfl) (by kernel_rfl) (nq (P := Try.prog) (fn := Try.f9)) (fun _ => (hS.re (.takeb (.there _ (.hereb _ _)) (.nil _))).cb) ?_
 refine hskip 22 rfl (wf rfl rfl) (by kernel_rfl) (nq (P := Try.prog) (fn := Try.f9)) (fun _ => (hS.re (.takeb (.there _ (.hereb _ _)) (.nil _))).cb) ?_
 refine hy0 23 rfl wn (by kernel_rfl) (nq (P := Try.prog) (fn := Try.f9)) (fun _ => (hS.re (.takeb (.there _ (.hereb _ _)) (.nil _))).cb) y_pickF ?_
 refine hy0 24 rfl wn (by kernel_rfl) (nq (P := Try.prog) (fn := Try.f9)) (fun _ => (hS.re (.takeb (.there _ (.hereb _ _)) (.nil _))).cb) y_assign ?_
 refine hb_done (by kernel_rfl) ?_
 obtain rfl := Option.some.inj hF
 exact wp_ret (wr1 hS)
theorem w_l5_SeqCalls {g : Frag} {a0 : T_Script} {v0_ : Value} {r : Bool} (h0 : Rd_Script g a0 v0_) (hF : l5_SeqCalls a0 = some r) : LCs Try.prog 9 #[v0_] g (.bool r) := w_l5_SeqCalls_ h0 hF
end Go.Proofs.Ytadajdcbeegabaa
