/- The law SeqJumps, lifted. Printed by lift.py. -/
import Derived.Test.YtadajdcbeegabaaProg
import Derived.Test.YtadajdcbeegabaaP10
import Derived.KernelRfl
namespace Go.Proofs.Ytadajdcbeegabaa
open Go Go.RowKit Fr
set_option linter.unusedVariables false
set_option linter.unusedSimpArgs false
set_option maxRecDepth 20000
noncomputable def l5_SeqJumps (a0 : T_Script) : Option Bool :=
  (rem' (a0.N.length : Int) 5).bind fun x2 => (l5_runs a0 ([(⟨23, 1, 0, 0, IntKind.i64.wrap (1 + x2), ByteArray.empty⟩ : T_Ins), (⟨27, 0, 1, 0, 0, ByteArray.empty⟩ : T_Ins), (⟨22, 1, 1, 0, (-1), ByteArray.empty⟩ : T_Ins), (⟨30, 0, 1, 0, 1, ByteArray.empty⟩ : T_Ins), (⟨33, 0, 0, 0, 0, ByteArray.empty⟩ : T_Ins)] : List T_Ins)).bind fun r9 => bif r9 then (l5_runs a0 ([(⟨26, 1, 0, 0, 0, ByteArray.empty⟩ : T_Ins), (⟨29, 0, 1, 0, 4, ByteArray.empty⟩ : T_Ins), (⟨27, 0, 1, 0, 0, ByteArray.empty⟩ : T_Ins), (⟨28, 0, 0, 0, 0, ByteArray.empty⟩ : T_Ins), (⟨28, 0, 0, 0, 5, ByteArray.empty⟩ : T_Ins)] : List T_Ins)).bind fun r11 => some (r11) else some (false)
set_option maxHeartbeats 2000000 in
theorem w_l5_SeqJumps_ {g : Frag} {a0 : T_Script} {v0_ : Value} {r : Bool} (h0 : Rd_Script g a0 v0_) (hF : l5_SeqJumps a0 = some r) : LCs Try.prog 8 #[v0_] g (.bool r) := by
 obtain ⟨v0_0_, v0_1_, v0_2_, v0_3_, v0_5_, v0_7_, v0_9_, v0_12_, v0_13_, rfl, h0_0_, h0_1_, h0_2_, h0_3_, h0_5_, h0_7_, h0_9_, h0_12_, h0_13_⟩ := h0
 unfold l5_SeqJumps at hF
 refine lc_body (k := 32) (av := [.agg #[v0_0_, v0_1_, v0_2_, v0_3_, .int .i64 a0.S.Taken, v0_5_, .int .i64 a0.S.PC, v0_7_, .int .i64 a0.S.Stop, v0_9_, .int .i64 a0.S.Jump, .int .i64 a0.S.Delay, v0_12_, v0_13_]]) Try.func8 rfl rfl (h := fun W hS => ?_)
 refine c_seq ?_
 refine c_region ?_
 refine o_boxP (cl := [v0_0_, v0_1_, v0_2_, v0_3_, .int .i64 a0.S.Taken, v0_5_, .int .i64 a0.S.PC, v0_7_, .int .i64 a0.S.Stop, v0_9_, .int .i64 a0.S.Jump, .int .i64 a0.S.Delay, v0_12_, v0_13_]) rfl hS ?_
 clear hS; intro b1 w hS
 refine oy hS y_assign ?_
 refine n_thenN ?_
 refine c_seq ?_
 refine c_region ?_
 refine oy hS (y_field fa_sledgelaw5_Script_3) ?_
 refine oy hS (y_load (fun w hS => hS.own (mH)) Try.underlying24 rfl rfl) ?_
 refine oy hS (y_len h0_13_ Try.underlying24) ?_
 obtain ⟨x2, hx2, hF⟩ := ob hF
 refine oy hS (y_rem hx2) ?_
 refine oy hS y_bin ?_
 refine oy hS y_assign ?_
 refine n_thenN ?_
 refine c_seq ?_
 refine c_region ?_
 refine oy hS y_move ?_
 refine oy hS (y_build (cl := [.int .i64 23, .int .i64 1, .int .i64 0, .int .i64 0, .int .i64 (IntKind.i64.wrap (1 + x2)), .string ByteArray.empty]) bt_api_Ins rfl (fillS (vs := [.int .i64 23]) rfl rfl rfl rfl (fillS (vs := [.int .i64 1]) rfl rfl rfl rfl (fillS (vs := [.int .i64 (IntKind.i64.wrap (1 + x2))]) rfl rfl rfl rfl fillN)))) ?_
 refine oy hS (y_build (cl := [.int .i64 27, .int .i64 0, .int .i64 1, .int .i64 0, .int .i64 0, .string ByteArray.empty]) bt_api_Ins rfl (fillS (vs := [.int .i64 27]) rfl rfl rfl rfl (fillS (vs := [.int .i64 1]) rfl rfl rfl rfl fillN))) ?_
 refine oy hS (y_build (cl := [.int .i64 22, .int .i64 1, .int .i64 1, .int .i64 0, .int .i64 (-1), .string ByteArray.empty]) bt_api_Ins rfl (fillS (vs := [.int .i64 22]) rfl rfl rfl rfl (fillS (vs := [.int .i64 1]) rfl rfl rfl rfl (fillS (vs := [.int .i64 1]) rfl rfl rfl rfl (fillS (vs := [.int .i64 (-1)]) rfl rfl rfl rfl fillN))))) ?_
 refine oy hS (y_build (cl := [.int .i64 30, .int .i64 0, .int .i64 1, .int .i64 0, .int .i64 1, .string ByteArray.empty]) bt_api_Ins rfl (fillS (vs := [.int .i64 30]) rfl rfl rfl rfl (fillS (vs := [.int .i64 1]) rfl rfl rfl rfl (fillS (vs := [.int .i64 1]) rfl rfl rfl rfl fillN)))) ?_
 refine oy hS (y_build (cl := [.int .i64 33, .int .i64 0, .int .i64 0, .int .i64 0, .int .i64 0, .string ByteArray.empty]) bt_api_Ins rfl (fillS (vs := [.int .i64 33]) rfl rfl rfl rfl fillN)) ?_
 refine o_buildT val_Ins ([(⟨23, 1, 0, 0, IntKind.i64.wrap (1 + x2), ByteArray.empty⟩ : T_Ins), (⟨27, 0, 1, 0, 0, ByteArray.empty⟩ : T_Ins), (⟨22, 1, 1, 0, (-1), ByteArray.empty⟩ : T_Ins), (⟨30, 0, 1, 0, 1, ByteArray.empty⟩ : T_Ins), (⟨33, 0, 0, 0, 0, ByteArray.empty⟩ : T_Ins)] : List T_Ins) hS el_api_Ins (fun _ => rfl) enc_len_Ins (by decide) rfl (by decide) (hp := rfl) (h := ?_)
 clear hS; intro b3 w hS h4
 have hS : St W g [] ([(b3, blk (([(⟨23, 1, 0, 0, IntKind.i64.wrap (1 + x2), ByteArray.empty⟩ : T_Ins), (⟨27, 0, 1, 0, 0, ByteArray.empty⟩ : T_Ins), (⟨22, 1, 1, 0, (-1), ByteArray.empty⟩ : T_Ins), (⟨30, 0, 1, 0, 1, ByteArray.empty⟩ : T_Ins), (⟨33, 0, 0, 0, 0, ByteArray.empty⟩ : T_Ins)] : List T_Ins).flatMap enc_Ins) 43)] ++ ((b1, blk [v0_0_, v0_1_, v0_2_, v0_3_, .int .i64 a0.S.Taken, v0_5_, .int .i64 a0.S.PC, v0_7_, .int .i64 a0.S.Stop, v0_9_, .int .i64 a0.S.Jump, .int .i64 a0.S.Delay, v0_12_, v0_13_] 29) :: [])) w := hS
 refine oy hS y_assign ?_
 refine n_thenN ?_
 refine c_seq ?_
 refine c_region ?_
 refine oy hS (y_build (cl := [.int .i64 26, .int .i64 1, .int .i64 0, .int .i64 0, .int .i64 0, .string ByteArray.empty]) bt_api_Ins rfl (fillS (vs := [.int .i64 26]) rfl rfl rfl rfl (fillS (vs := [.int .i64 1]) rfl rfl rfl rfl fillN))) ?_
 refine oy hS (y_build (cl := [.int .i64 29, .int .i64 0, .int .i64 1, .int .i64 0, .int .i64 4, .string ByteArray.empty]) bt_api_Ins rfl (fillS (vs := [.int .i64 29]) rfl rfl rfl rfl (fillS (vs := [.int .i64 1]) rfl rfl rfl rfl (fillS (vs := [.int .i64 4]) rfl rfl rfl rfl fillN)))) ?_
 refine oy hS (y_build (cl := [.int .i64 27, .int .i64 0, .int .i64 1, .int .i64 0, .int .i64 0, .string ByteArray.empty]) bt_api_Ins rfl (fillS (vs := [.int .i64 27]) rfl rfl rfl rfl (fillS (vs := [.int .i64 1]) rfl rfl rfl rfl fillN))) ?_
 refine oy hS (y_build (cl := [.int .i64 28, .int .i64 0, .int .i64 0, .int .i64 0, .int .i64 0, .string ByteArray.empty]) bt_api_Ins rfl (fillS (vs := [.int .i64 28]) rfl rfl rfl rfl (fillS (vs := [.int .i64 0]) rfl rfl rfl rfl fillN))) ?_
 refine oy hS (y_build (cl := [.int .i64 28, .int .i64 0, .int .i64 0, .int .i64 0, .int .i64 5, .string ByteArray.empty]) bt_api_Ins rfl (fillS (vs := [.int .i64 28]) rfl rfl rfl rfl (fillS (vs := [.int .i64 5]) rfl rfl rfl rfl fillN))) ?_
 refine o_buildT val_Ins ([(⟨26, 1, 0, 0, 0, ByteArray.empty⟩ : T_Ins), (⟨29, 0, 1, 0, 4, ByteArray.empty⟩ : T_Ins), (⟨27, 0, 1, 0, 0, ByteArray.empty⟩ : T_Ins), (⟨28, 0, 0, 0, 0, ByteArray.empty⟩ : T_Ins), (⟨28, 0, 0, 0, 5, ByteArray.empty⟩ : T_Ins)] : List T_Ins) hS el_api_Ins (fun _ => rfl) enc_len_Ins (by decide) rfl (by decide) (hp := rfl) (h := ?_)
 clear hS; intro b6 w hS h7
 have hS : St W g [] ([(b6, blk (([(⟨26, 1, 0, 0, 0, ByteArray.empty⟩ : T_Ins), (⟨29, 0, 1, 0, 4, ByteArray.empty⟩ : T_Ins), (⟨27, 0, 1, 0, 0, ByteArray.empty⟩ : T_Ins), (⟨28, 0, 0, 0, 0, ByteArray.empty⟩ : T_Ins), (⟨28, 0, 0, 0, 5, ByteArray.empty⟩ : T_Ins)] : List T_Ins).flatMap enc_Ins) 43)] ++ ([(b3, blk (([(⟨23, 1, 0, 0, IntKind.i64.wrap (1 + x2), ByteArray.empty⟩ : T_Ins), (⟨27, 0, 1, 0, 0, ByteArray.empty⟩ : T_Ins), (⟨22, 1, 1, 0, (-1), ByteArray.empty⟩ : T_Ins), (⟨30, 0, 1, 0, 1, ByteArray.empty⟩ : T_Ins), (⟨33, 0, 0, 0, 0, ByteArray.empty⟩ : T_Ins)] : List T_Ins).flatMap enc_Ins) 43)] ++ ((b1, blk [v0_0_, v0_1_, v0_2_, v0_3_, .int .i64 a0.S.Taken, v0_5_, .int .i64 a0.S.PC, v0_7_, .int .i64 a0.S.Stop, v0_9_, .int .i64 a0.S.Jump, .int .i64 a0.S.Delay, v0_12_, v0_13_] 29) :: []))) w := hS
 refine oy hS y_assign ?_
 refine n_thenN ?_
 refine c_seq ?_
 refine c_region ?_
 refine oy hS (y_loadW (fun w hS => hS.own (mB (mB (mH)))) Try.underlying29 rfl (by exact sz_sledgelaw5_Script)) ?_
 refine oy hS y_move ?_
 obtain ⟨r9, hr9, hF⟩ := ob hF
 refine o_callS hS Try.func21 rfl rfl (hc := (w_l5_runs (a0 := a0) (a1 := ([(⟨23, 1, 0, 0, IntKind.i64.wrap (1 + x2), ByteArray.empty⟩ : T_Ins), (⟨27, 0, 1, 0, 0, ByteArray.empty⟩ : T_Ins), (⟨22, 1, 1, 0, (-1), ByteArray.empty⟩ : T_Ins), (⟨30, 0, 1, 0, 1, ByteArray.empty⟩ : T_Ins), (⟨33, 0, 0, 0, 0, ByteArray.empty⟩ : T_Ins)] : List T_Ins)) (h0 := ⟨_, _, _, _, _, _, _, _, _, rfl, h0_0_.plus, h0_1_.plus, h0_2_.plus, h0_3_.plus, h0_5_.plus, h0_7_.plus, h0_9_.plus, h0_12_.plus, h0_13_.plus⟩) (h1 := (OwT.plus h4 hS (fun p hp => mB (mA (hp))))) (hF := hr9))) (h := ?_)
 clear hS; intro w hS
 refine o_split (ht := fun c10 => ?_) (hf := fun c10 => ?_)
 · replace hF := bt c10 hF
   refine o_gu rfl rfl rfl ?_
   refine oy hS (y_loadW (fun w hS => hS.own (mB (mB (mH)))) Try.underlying29 rfl (by exact sz_sledgelaw5_Script)) ?_
   refine o_gu rfl rfl rfl ?_
   refine oy hS y_move ?_
   refine o_gu rfl rfl rfl ?_
   obtain ⟨r11, hr11, hF⟩ := ob hF
   refine o_callS hS Try.func21 rfl rfl (hc := (w_l5_runs (a0 := a0) (a1 := ([(⟨26, 1, 0, 0, 0, ByteArray.empty⟩ : T_Ins), (⟨29, 0, 1, 0, 4, ByteArray.empty⟩ : T_Ins), (⟨27, 0, 1, 0, 0, ByteArray.empty⟩ : T_Ins), (⟨28, 0, 0, 0, 0, ByteArray.empty⟩ : T_Ins), (⟨28, 0, 0, 0, 5, ByteArray.empty⟩ : T_Ins)] : List T_Ins)) (h0 := ⟨_, _, _, _, _, _, _, _, _, rfl, h0_0_.plus, h0_1_.plus, h0_2_.plus, h0_3_.plus, h0_5_.plus, h0_7_.plus, h0_9_.plus, h0_12_.plus, h0_13_.plus⟩) (h1 := (OwT.plus h7 hS (fun p hp => mA (hp)))) (hF := hr11))) (h := ?_)
   clear hS; intro w hS
   refine oy hS y_pickT ?_
   refine oy hS y_assign ?_
   refine n_thenN ?_
   obtain rfl := Option.some.inj hF
   exact wp_ret (wr1 hS)
 replace hF := bf c10 hF
 iterate 3 (refine o_sk rfl rfl ?_)
 refine oy hS y_pickF ?_
 refine oy hS y_assign ?_
 refine n_thenN ?_
 obtain rfl := Option.some.inj hF
 exact wp_ret (wr1 hS)
theorem w_l5_SeqJumps {g : Frag} {a0 : T_Script} {v0_ : Value} {r : Bool} (h0 : Rd_Script g a0 v0_) (hF : l5_SeqJumps a0 = some r) : LCs Try.prog 8 #[v0_] g (.bool r) := w_l5_SeqJumps_ h0 hF
end Go.Proofs.Ytadajdcbeegabaa
