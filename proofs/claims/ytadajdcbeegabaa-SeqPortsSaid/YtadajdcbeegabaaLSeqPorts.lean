/- The law SeqPorts, lifted. Printed by lift.py. -/
import Derived.Test.YtadajdcbeegabaaProg
import Derived.Test.YtadajdcbeegabaaP10
import Derived.KernelRfl
namespace Go.Proofs.Ytadajdcbeegabaa
open Go Go.RowKit Fr
set_option linter.unusedVariables false
set_option linter.unusedSimpArgs false
set_option maxRecDepth 20000
noncomputable def l5_SeqPorts (a0 : T_Script) : Option Bool :=
  (rem' (a0.N.length : Int) 3).bind fun x2 => (l5_runs a0 ([(⟨26, 1, 0, 0, 0, ByteArray.empty⟩ : T_Ins), (⟨27, 0, 1, 0, 0, ByteArray.empty⟩ : T_Ins), (⟨26, 2, 0, 0, 0, ByteArray.empty⟩ : T_Ins), (⟨18, 3, 2, 1, 0, ByteArray.empty⟩ : T_Ins), (⟨27, 0, 3, 0, 0, ByteArray.empty⟩ : T_Ins), (⟨30, 0, 2, 0, x2, ByteArray.empty⟩ : T_Ins), (⟨27, 0, 0, 0, 0, ByteArray.empty⟩ : T_Ins), (⟨26, 0, 0, 0, 0, ByteArray.empty⟩ : T_Ins), (⟨33, 0, 0, 0, 0, ByteArray.empty⟩ : T_Ins)] : List T_Ins)).bind fun r6 => some (r6)
set_option maxHeartbeats 2000000 in
theorem w_l5_SeqPorts_ {g : Frag} {a0 : T_Script} {v0_ : Value} {r : Bool} (h0 : Rd_Script g a0 v0_) (hF : l5_SeqPorts a0 = some r) : LCs Try.prog 10 #[v0_] g (.bool r) := by
 obtain ⟨v0_0_, v0_1_, v0_2_, v0_3_, v0_5_, v0_7_, v0_9_, v0_12_, v0_13_, rfl, h0_0_, h0_1_, h0_2_, h0_3_, h0_5_, h0_7_, h0_9_, h0_12_, h0_13_⟩ := h0
 unfold l5_SeqPorts at hF
 refine lc_body (k := 19) (av := [.agg #[v0_0_, v0_1_, v0_2_, v0_3_, .int .i64 a0.S.Taken, v0_5_, .int .i64 a0.S.PC, v0_7_, .int .i64 a0.S.Stop, v0_9_, .int .i64 a0.S.Jump, .int .i64 a0.S.Delay, v0_12_, v0_13_]]) Try.func10 rfl rfl (h := fun W hS => ?_)
 refine c_seq ?_
 refine c_region ?_
 refine o_boxP (cl := [v0_0_, v0_1_, v0_2_, v0_3_, .int .i64 a0.S.Taken, v0_5_, .int .i64 a0.S.PC, v0_7_, .int .i64 a0.S.Stop, v0_9_, .int .i64 a0.S.Jump, .int .i64 a0.S.Delay, v0_12_, v0_13_]) rfl hS ?_
 clear hS; intro b1 w hS
 refine oy hS y_assign ?_
 refine n_thenN ?_
 refine c_seq ?_
 refine c_region ?_
 refine oy hS (y_loadW (fun w hS => hS.own (mH)) Try.underlying29 rfl (by exact sz_sledgelaw5_Script)) ?_
 refine oy hS (y_build (cl := [.int .i64 26, .int .i64 1, .int .i64 0, .int .i64 0, .int .i64 0, .string ByteArray.empty]) bt_api_Ins rfl (fillS (vs := [.int .i64 26]) rfl rfl rfl rfl (fillS (vs := [.int .i64 1]) rfl rfl rfl rfl fillN))) ?_
 refine oy hS (y_build (cl := [.int .i64 27, .int .i64 0, .int .i64 1, .int .i64 0, .int .i64 0, .string ByteArray.empty]) bt_api_Ins rfl (fillS (vs := [.int .i64 27]) rfl rfl rfl rfl (fillS (vs := [.int .i64 1]) rfl rfl rfl rfl fillN))) ?_
 refine oy hS (y_build (cl := [.int .i64 26, .int .i64 2, .int .i64 0, .int .i64 0, .int .i64 0, .string ByteArray.empty]) bt_api_Ins rfl (fillS (vs := [.int .i64 26]) rfl rfl rfl rfl (fillS (vs := [.int .i64 2]) rfl rfl rfl rfl fillN))) ?_
 refine oy hS (y_build (cl := [.int .i64 18, .int .i64 3, .int .i64 2, .int .i64 1, .int .i64 0, .string ByteArray.empty]) bt_api_Ins rfl (fillS (vs := [.int .i64 18]) rfl rfl rfl rfl (fillS (vs := [.int .i64 3]) rfl rfl rfl rfl (fillS (vs := [.int .i64 2]) rfl rfl rfl rfl (fillS (vs := [.int .i64 1]) rfl rfl rfl rfl fillN))))) ?_
 refine oy hS (y_build (cl := [.int .i64 27, .int .i64 0, .int .i64 3, .int .i64 0, .int .i64 0, .string ByteArray.empty]) bt_api_Ins rfl (fillS (vs := [.int .i64 27]) rfl rfl rfl rfl (fillS (vs := [.int .i64 3]) rfl rfl rfl rfl fillN))) ?_
 refine oy hS (y_field fa_sledgelaw5_Script_3) ?_
 refine oy hS (y_load (fun w hS => hS.own (mH)) Try.underlying24 rfl rfl) ?_
 refine oy hS (y_len h0_13_ Try.underlying24) ?_
 obtain ⟨x2, hx2, hF⟩ := ob hF
 refine oy hS (y_rem hx2) ?_
 refine oy hS (y_build (cl := [.int .i64 30, .int .i64 0, .int .i64 2, .int .i64 0, .int .i64 x2, .string ByteArray.empty]) bt_api_Ins rfl (fillS (vs := [.int .i64 30]) rfl rfl rfl rfl (fillS (vs := [.int .i64 2]) rfl rfl rfl rfl (fillS (vs := [.int .i64 x2]) rfl rfl rfl rfl fillN)))) ?_
 refine oy hS (y_build (cl := [.int .i64 27, .int .i64 0, .int .i64 0, .int .i64 0, .int .i64 0, .string ByteArray.empty]) bt_api_Ins rfl (fillS (vs := [.int .i64 27]) rfl rfl rfl rfl fillN)) ?_
 refine oy hS (y_build (cl := [.int .i64 26, .int .i64 0, .int .i64 0, .int .i64 0, .int .i64 0, .string ByteArray.empty]) bt_api_Ins rfl (fillS (vs := [.int .i64 26]) rfl rfl rfl rfl fillN)) ?_
 refine oy hS (y_build (cl := [.int .i64 33, .int .i64 0, .int .i64 0, .int .i64 0, .int .i64 0, .string ByteArray.empty]) bt_api_Ins rfl (fillS (vs := [.int .i64 33]) rfl rfl rfl rfl fillN)) ?_
 refine o_buildT val_Ins ([(⟨26, 1, 0, 0, 0, ByteArray.empty⟩ : T_Ins), (⟨27, 0, 1, 0, 0, ByteArray.empty⟩ : T_Ins), (⟨26, 2, 0, 0, 0, ByteArray.empty⟩ : T_Ins), (⟨18, 3, 2, 1, 0, ByteArray.empty⟩ : T_Ins), (⟨27, 0, 3, 0, 0, ByteArray.empty⟩ : T_Ins), (⟨30, 0, 2, 0, x2, ByteArray.empty⟩ : T_Ins), (⟨27, 0, 0, 0, 0, ByteArray.empty⟩ : T_Ins), (⟨26, 0, 0, 0, 0, ByteArray.empty⟩ : T_Ins), (⟨33, 0, 0, 0, 0, ByteArray.empty⟩ : T_Ins)] : List T_Ins) hS el_api_Ins (fun _ => rfl) enc_len_Ins (by decide) rfl (by decide) (hp := rfl) (h := ?_)
 clear hS; intro b3 w hS h4
 have hS : St W g [] ([(b3, blk (([(⟨26, 1, 0, 0, 0, ByteArray.empty⟩ : T_Ins), (⟨27, 0, 1, 0, 0, ByteArray.empty⟩ : T_Ins), (⟨26, 2, 0, 0, 0, ByteArray.empty⟩ : T_Ins), (⟨18, 3, 2, 1, 0, ByteArray.empty⟩ : T_Ins), (⟨27, 0, 3, 0, 0, ByteArray.empty⟩ : T_Ins), (⟨30, 0, 2, 0, x2, ByteArray.empty⟩ : T_Ins), (⟨27, 0, 0, 0, 0, ByteArray.empty⟩ : T_Ins), (⟨26, 0, 0, 0, 0, ByteArray.empty⟩ : T_Ins), (⟨33, 0, 0, 0, 0, ByteArray.empty⟩ : T_Ins)] : List T_Ins).flatMap enc_Ins) 43)] ++ ((b1, blk [v0_0_, v0_1_, v0_2_, v0_3_, .int .i64 a0.S.Taken, v0_5_, .int .i64 a0.S.PC, v0_7_, .int .i64 a0.S.Stop, v0_9_, .int .i64 a0.S.Jump, .int .i64 a0.S.Delay, v0_12_, v0_13_] 29) :: [])) w := hS
 obtain ⟨r6, hr6, hF⟩ := ob hF
 refine o_callS hS Try.func21 rfl rfl (hc := (w_l5_runs (a0 := a0) (a1 := ([(⟨26, 1, 0, 0, 0, ByteArray.empty⟩ : T_Ins), (⟨27, 0, 1, 0, 0, ByteArray.empty⟩ : T_Ins), (⟨26, 2, 0, 0, 0, ByteArray.empty⟩ : T_Ins), (⟨18, 3, 2, 1, 0, ByteArray.empty⟩ : T_Ins), (⟨27, 0, 3, 0, 0, ByteArray.empty⟩ : T_Ins), (⟨30, 0, 2, 0, x2, ByteArray.empty⟩ : T_Ins), (⟨27, 0, 0, 0, 0, ByteArray.empty⟩ : T_Ins), (⟨26, 0, 0, 0, 0, ByteArray.empty⟩ : T_Ins), (⟨33, 0, 0, 0, 0, ByteArray.empty⟩ : T_Ins)] : List T_Ins)) (h0 := ⟨_, _, _, _, _, _, _, _, _, rfl, h0_0_.plus, h0_1_.plus, h0_2_.plus, h0_3_.plus, h0_5_.plus, h0_7_.plus, h0_9_.plus, h0_12_.plus, h0_13_.plus⟩) (h1 := (OwT.plus h4 hS (fun p hp => mA (hp)))) (hF := hr6))) (h := ?_)
 clear hS; intro w hS
 refine oy hS y_assign ?_
 refine n_thenN ?_
 obtain rfl := Option.some.inj hF
 exact wp_ret (wr1 hS)
theorem w_l5_SeqPorts {g : Frag} {a0 : T_Script} {v0_ : Value} {r : Bool} (h0 : Rd_Script g a0 v0_) (hF : l5_SeqPorts a0 = some r) : LCs Try.prog 10 #[v0_] g (.bool r) := w_l5_SeqPorts_ h0 hF
end Go.Proofs.Ytadajdcbeegabaa
