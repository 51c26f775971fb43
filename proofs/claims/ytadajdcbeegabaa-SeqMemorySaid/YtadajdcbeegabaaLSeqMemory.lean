/- The law SeqMemory, lifted. Printed by lift.py. -/
import Derived.Test.YtadajdcbeegabaaProg
import Derived.Test.YtadajdcbeegabaaP10
import Derived.KernelRfl
namespace Go.Proofs.Ytadajdcbeegabaa
open Go Go.RowKit Fr
set_option linter.unusedVariables false
set_option linter.unusedSimpArgs false
set_option maxRecDepth 20000
noncomputable def l5_SeqMemory_b2 (a0 : T_Script) : Int → Option (Step Int (Step Unit Bool)) := fun x41 => bif decide (x41 < 3) then (rem' (a0.N.length : Int) 3).bind fun x55 => (rem' (a0.N.length : Int) 3).bind fun x56 => (l5_runs a0 ([(⟨23, 1, 0, 0, 253, ByteArray.empty⟩ : T_Ins), (⟨26, 2, 0, 0, 0, ByteArray.empty⟩ : T_Ins), (⟨25, 0, 1, 2, IntKind.i64.wrap (x41 + x55), ByteArray.empty⟩ : T_Ins), (⟨24, 3, 1, 0, IntKind.i64.wrap (x41 + x56), ByteArray.empty⟩ : T_Ins), (⟨27, 0, 3, 0, 0, ByteArray.empty⟩ : T_Ins), (⟨22, 1, 1, 0, 1, ByteArray.empty⟩ : T_Ins), (⟨28, 0, 0, 0, 1, ByteArray.empty⟩ : T_Ins)] : List T_Ins)).bind fun r60 => bif !r60 then some (.done (.done (false))) else some (.next (IntKind.i64.wrap (x41 + 1))) else some (.done (.next ()))
noncomputable def l5_SeqMemory_k1 (a0 : T_Script) : Unit → Option Bool := fun _ => (l5_runs a0 ([(⟨23, 1, 0, 0, (-1), ByteArray.empty⟩ : T_Ins), (⟨24, 2, 1, 0, 1, ByteArray.empty⟩ : T_Ins), (⟨25, 0, 1, 2, 0, ByteArray.empty⟩ : T_Ins)] : List T_Ins)).bind fun r66 => some (r66)
noncomputable def l5_SeqMemory (a0 : T_Script) : Option Bool :=
  cut (σ := Unit) (loop (σ := Int) (l5_SeqMemory_b2 a0) (-2)) (l5_SeqMemory_k1 a0)
set_option maxHeartbeats 2000000 in
theorem w_l5_SeqMemory_ {g : Frag} {a0 : T_Script} {v0_ : Value} {r : Bool} (h0 : Rd_Script g a0 v0_) (hF : l5_SeqMemory a0 = some r) : LCs Try.prog 7 #[v0_] g (.bool r) := by
 obtain ⟨v0_0_, v0_1_, v0_2_, v0_3_, v0_5_, v0_7_, v0_9_, v0_12_, v0_13_, rfl, h0_0_, h0_1_, h0_2_, h0_3_, h0_5_, h0_7_, h0_9_, h0_12_, h0_13_⟩ := h0
 unfold l5_SeqMemory at hF
 refine lc_body (k := 39) (av := [.agg #[v0_0_, v0_1_, v0_2_, v0_3_, .int .i64 a0.S.Taken, v0_5_, .int .i64 a0.S.PC, v0_7_, .int .i64 a0.S.Stop, v0_9_, .int .i64 a0.S.Jump, .int .i64 a0.S.Delay, v0_12_, v0_13_]]) Try.func7 rfl rfl (h := fun W hS => ?_)
 refine c_seq ?_
 refine c_region ?_
 refine o_boxP (cl := [v0_0_, v0_1_, v0_2_, v0_3_, .int .i64 a0.S.Taken, v0_5_, .int .i64 a0.S.PC, v0_7_, .int .i64 a0.S.Stop, v0_9_, .int .i64 a0.S.Jump, .int .i64 a0.S.Delay, v0_12_, v0_13_]) rfl hS ?_
 clear hS; intro b1 w hS
 refine oy hS y_assign ?_
 refine n_thenN ?_
 obtain ⟨z31, hF, hK32⟩ := cut_step hF
 refine c_cutP (fun a w' => l5_SeqMemory_k1 a0 () = some r ∧ (∃ s : Nat → Value, a = Ac (.lit 39 [s 0, .pointer (some ⟨b1, 0, none⟩), s 2, s 3, s 4, s 5, s 6, s 7, s 8, s 9, s 10, s 11, s 12, s 13, s 14, s 15, s 16, s 17, s 18, s 19, s 20, s 21, s 22, s 23, s 24, s 25, s 26, s 27, s 28, s 29, s 30, s 31, s 32, s 33, s 34, s 35, s 36, s 37, s 38])) ∧ St W g [] ((b1, blk [v0_0_, v0_1_, v0_2_, v0_3_, .int .i64 a0.S.Taken, v0_5_, .int .i64 a0.S.PC, v0_7_, .int .i64 a0.S.Stop, v0_9_, .int .i64 a0.S.Jump, .int .i64 a0.S.Delay, v0_12_, v0_13_] 29) :: []) w') ?_ ?_
 · skip
   refine c_seq ?_
   refine c_region ?_
   refine oy hS y_assign ?_
   refine n_thenN ?_
   refine c_block ?_
   refine c_loopP hF (fun (q : Int) a w' => (∃ s : Nat → Value, a = Ac (.lit 39 [s 0, .pointer (some ⟨b1, 0, none⟩), s 2, .int .i64 q, s 4, s 5, s 6, s 7, s 8, s 9, s 10, s 11, s 12, s 13, s 14, s 15, s 16, s 17, s 18, s 19, s 20, s 21, s 22, s 23, s 24, s 25, s 26, s 27, s 28, s 29, s 30, s 31, s 32, s 33, s 34, s 35, s 36, s 37, s 38])) ∧ St W g [] ((b1, blk [v0_0_, v0_1_, v0_2_, v0_3_, .int .i64 a0.S.Taken, v0_5_, .int .i64 a0.S.PC, v0_7_, .int .i64 a0.S.Stop, v0_9_, .int .i64 a0.S.Jump, .int .i64 a0.S.Delay, v0_12_, v0_13_] 29) :: []) w') ⟨mk_ex, (hS.re (.takeb (.hereb _ _) (.nil _)))⟩ ?_
   clear hS hF
   intro n52 q a w hI hq
   revert hq hI; revert q; intro x41 hI hq
   obtain ⟨⟨s53, rfl⟩, hS⟩ := hq
   obtain ⟨z50, hF, hK51⟩ := iter_step hI
   clear hI
   dsimp only [l5_SeqMemory_b2] at hF
   iterate 2 (refine c_seq ?_)
   refine c_region ?_
   refine oy hS y_move ?_
   refine oy hS y_bin ?_
   refine n_thenN ?_
   refine c_if (ht := fun c54 => ?_) (hf := fun c54 => ?_)
   · replace hF := bt c54 hF
     refine wp_skip ?_
     refine c_seq ?_
     refine c_block ?_
     refine c_seq ?_
     refine c_region ?_
     refine oy hS (y_build (cl := [.int .i64 23, .int .i64 1, .int .i64 0, .int .i64 0, .int .i64 253, .string ByteArray.empty]) bt_api_Ins rfl (fillS (vs := [.int .i64 23]) rfl rfl rfl rfl (fillS (vs := [.int .i64 1]) rfl rfl rfl rfl (fillS (vs := [.int .i64 253]) rfl rfl rfl rfl fillN)))) ?_
     refine oy hS (y_build (cl := [.int .i64 26, .int .i64 2, .int .i64 0, .int .i64 0, .int .i64 0, .string ByteArray.empty]) bt_api_Ins rfl (fillS (vs := [.int .i64 26]) rfl rfl rfl rfl (fillS (vs := [.int .i64 2]) rfl rfl rfl rfl fillN))) ?_
     refine oy hS y_move ?_
     refine oy hS (y_field fa_sledgelaw5_Script_3) ?_
     refine oy hS (y_load (fun w hS => hS.own (mH)) Try.underlying24 rfl rfl) ?_
     refine oy hS (y_len h0_13_ Try.underlying24) ?_
     obtain ⟨x55, hx55, hF⟩ := ob hF
     refine oy hS (y_rem hx55) ?_
     refine oy hS y_bin ?_
     refine oy hS (y_build (cl := [.int .i64 25, .int .i64 0, .int .i64 1, .int .i64 2, .int .i64 (IntKind.i64.wrap (x41 + x55)), .string ByteArray.empty]) bt_api_Ins rfl (fillS (vs := [.int .i64 25]) rfl rfl rfl rfl (fillS (vs := [.int .i64 1]) rfl rfl rfl rfl (fillS (vs := [.int .i64 2]) rfl rfl rfl rfl (fillS (vs := [.int .i64 (IntKind.i64.wrap (x41 + x55))]) rfl rfl rfl rfl fillN))))) ?_
     refine oy hS y_move ?_
     refine oy hS (y_field fa_sledgelaw5_Script_3) ?_
     refine oy hS (y_load (fun w hS => hS.own (mH)) Try.underlying24 rfl rfl) ?_
     refine oy hS (y_len h0_13_ Try.underlying24) ?_
     obtain ⟨x56, hx56, hF⟩ := ob hF
     refine oy hS (y_rem hx56) ?_
     refine oy hS y_bin ?_
     refine oy hS (y_build (cl := [.int .i64 24, .int .i64 3, .int .i64 1, .int .i64 0, .int .i64 (IntKind.i64.wrap (x41 + x56)), .string ByteArray.empty]) bt_api_Ins rfl (fillS (vs := [.int .i64 24]) rfl rfl rfl rfl (fillS (vs := [.int .i64 3]) rfl rfl rfl rfl (fillS (vs := [.int .i64 1]) rfl rfl rfl rfl (fillS (vs := [.int .i64 (IntKind.i64.wrap (x41 + x56))]) rfl rfl rfl rfl fillN))))) ?_
     refine oy hS (y_build (cl := [.int .i64 27, .int .i64 0, .int .i64 3, .int .i64 0, .int .i64 0, .string ByteArray.empty]) bt_api_Ins rfl (fillS (vs := [.int .i64 27]) rfl rfl rfl rfl (fillS (vs := [.int .i64 3]) rfl rfl rfl rfl fillN))) ?_
     refine oy hS (y_build (cl := [.int .i64 22, .int .i64 1, .int .i64 1, .int .i64 0, .int .i64 1, .string ByteArray.empty]) bt_api_Ins rfl (fillS (vs := [.int .i64 22]) rfl rfl rfl rfl (fillS (vs := [.int .i64 1]) rfl rfl rfl rfl (fillS (vs := [.int .i64 1]) rfl rfl rfl rfl (fillS (vs := [.int .i64 1]) rfl rfl rfl rfl fillN))))) ?_
     refine oy hS (y_build (cl := [.int .i64 28, .int .i64 0, .int .i64 0, .int .i64 0, .int .i64 1, .string ByteArray.empty]) bt_api_Ins rfl (fillS (vs := [.int .i64 28]) rfl rfl rfl rfl (fillS (vs := [.int .i64 1]) rfl rfl rfl rfl fillN))) ?_
     refine o_buildT val_Ins ([(⟨23, 1, 0, 0, 253, ByteArray.empty⟩ : T_Ins), (⟨26, 2, 0, 0, 0, ByteArray.empty⟩ : T_Ins), (⟨25, 0, 1, 2, IntKind.i64.wrap (x41 + x55), ByteArray.empty⟩ : T_Ins), (⟨24, 3, 1, 0, IntKind.i64.wrap (x41 + x56), ByteArray.empty⟩ : T_Ins), (⟨27, 0, 3, 0, 0, ByteArray.empty⟩ : T_Ins), (⟨22, 1, 1, 0, 1, ByteArray.empty⟩ : T_Ins), (⟨28, 0, 0, 0, 1, ByteArray.empty⟩ : T_Ins)] : List T_Ins) hS el_api_Ins (fun _ => rfl) enc_len_Ins (by decide) rfl (by decide) (hp := rfl) (h := ?_)
     clear hS; intro b57 w hS h58
     have hS : St W g [] ([(b57, blk (([(⟨23, 1, 0, 0, 253, ByteArray.empty⟩ : T_Ins), (⟨26, 2, 0, 0, 0, ByteArray.empty⟩ : T_Ins), (⟨25, 0, 1, 2, IntKind.i64.wrap (x41 + x55), ByteArray.empty⟩ : T_Ins), (⟨24, 3, 1, 0, IntKind.i64.wrap (x41 + x56), ByteArray.empty⟩ : T_Ins), (⟨27, 0, 3, 0, 0, ByteArray.empty⟩ : T_Ins), (⟨22, 1, 1, 0, 1, ByteArray.empty⟩ : T_Ins), (⟨28, 0, 0, 0, 1, ByteArray.empty⟩ : T_Ins)] : List T_Ins).flatMap enc_Ins) 43)] ++ ((b1, blk [v0_0_, v0_1_, v0_2_, v0_3_, .int .i64 a0.S.Taken, v0_5_, .int .i64 a0.S.PC, v0_7_, .int .i64 a0.S.Stop, v0_9_, .int .i64 a0.S.Jump, .int .i64 a0.S.Delay, v0_12_, v0_13_] 29) :: [])) w := hS
     refine oy hS y_assign ?_
     refine n_thenN ?_
     refine c_seq ?_
     refine c_region ?_
     refine oy hS (y_loadW (fun w hS => hS.own (mB (mH))) Try.underlying29 rfl (by exact sz_sledgelaw5_Script)) ?_
     refine oy hS y_move ?_
     obtain ⟨r60, hr60, hF⟩ := ob hF
     refine o_callS hS Try.func21 rfl rfl (hc := (w_l5_runs (a0 := a0) (a1 := ([(⟨23, 1, 0, 0, 253, ByteArray.empty⟩ : T_Ins), (⟨26, 2, 0, 0, 0, ByteArray.empty⟩ : T_Ins), (⟨25, 0, 1, 2, IntKind.i64.wrap (x41 + x55), ByteArray.empty⟩ : T_Ins), (⟨24, 3, 1, 0, IntKind.i64.wrap (x41 + x56), ByteArray.empty⟩ : T_Ins), (⟨27, 0, 3, 0, 0, ByteArray.empty⟩ : T_Ins), (⟨22, 1, 1, 0, 1, ByteArray.empty⟩ : T_Ins), (⟨28, 0, 0, 0, 1, ByteArray.empty⟩ : T_Ins)] : List T_Ins)) (h0 := ⟨_, _, _, _, _, _, _, _, _, rfl, h0_0_.plus, h0_1_.plus, h0_2_.plus, h0_3_.plus, h0_5_.plus, h0_7_.plus, h0_9_.plus, h0_12_.plus, h0_13_.plus⟩) (h1 := (OwT.plus h58 hS (fun p hp => mA (hp)))) (hF := hr60))) (h := ?_)
     clear hS; intro w hS
     refine oy hS y_not ?_
     refine n_thenN ?_
     refine c_if (ht := fun c61 => ?_) (hf := fun c61 => ?_)
     · replace hF := bt c61 hF
       refine c_seq ?_
       refine c_region ?_
       refine oy hS y_assign ?_
       refine n_thenN ?_
       obtain rfl := Option.some.inj hF
       obtain rfl : _ = z31 := hK51
       obtain rfl : _ = r := hK32
       exact wp_ret (wr1 hS)
     replace hF := bf c61 hF
     refine wp_skip ?_
     refine c_region ?_
     refine oy hS y_move ?_
     refine oy hS y_bin ?_
     refine oy hS y_assign ?_
     refine n_thenN ?_
     obtain rfl := Option.some.inj hF
     exact ⟨_, hK51, mk_ex, (hS.re (.takeb (.there _ (.hereb _ _)) (.nil _)))⟩
   replace hF := bf c54 hF
   refine wp_exit ?_
   obtain rfl := Option.some.inj hF
   obtain rfl : _ = z31 := hK51
   change _ ∧ _
   exact ⟨hK32, mk_ex, (hS.re (.takeb (.hereb _ _) (.nil _)))⟩
 rintro a w ⟨hF, ⟨s62, rfl⟩, hS⟩
 dsimp only [l5_SeqMemory_k1] at hF
 refine c_seq ?_
 refine c_region ?_
 refine oy hS (y_loadW (fun w hS => hS.own (mH)) Try.underlying29 rfl (by exact sz_sledgelaw5_Script)) ?_
 refine oy hS (y_build (cl := [.int .i64 23, .int .i64 1, .int .i64 0, .int .i64 0, .int .i64 (-1), .string ByteArray.empty]) bt_api_Ins rfl (fillS (vs := [.int .i64 23]) rfl rfl rfl rfl (fillS (vs := [.int .i64 1]) rfl rfl rfl rfl (fillS (vs := [.int .i64 (-1)]) rfl rfl rfl rfl fillN)))) ?_
 refine oy hS (y_build (cl := [.int .i64 24, .int .i64 2, .int .i64 1, .int .i64 0, .int .i64 1, .string ByteArray.empty]) bt_api_Ins rfl (fillS (vs := [.int .i64 24]) rfl rfl rfl rfl (fillS (vs := [.int .i64 2]) rfl rfl rfl rfl (fillS (vs := [.int .i64 1]) rfl rfl rfl rfl (fillS (vs := [.int .i64 1]) rfl rfl rfl rfl fillN))))) ?_
 refine oy hS (y_build (cl := [.int .i64 25, .int .i64 0, .int .i64 1, .int .i64 2, .int .i64 0, .string ByteArray.empty]) bt_api_Ins rfl (fillS (vs := [.int .i64 25]) rfl rfl rfl rfl (fillS (vs := [.int .i64 1]) rfl rfl rfl rfl (fillS (vs := [.int .i64 2]) rfl rfl rfl rfl fillN)))) ?_
 refine o_buildT val_Ins ([(⟨23, 1, 0, 0, (-1), ByteArray.empty⟩ : T_Ins), (⟨24, 2, 1, 0, 1, ByteArray.empty⟩ : T_Ins), (⟨25, 0, 1, 2, 0, ByteArray.empty⟩ : T_Ins)] : List T_Ins) hS el_api_Ins (fun _ => rfl) enc_len_Ins (by decide) rfl (by decide) (hp := rfl) (h := ?_)
 clear hS; intro b63 w hS h64
 have hS : St W g [] ([(b63, blk (([(⟨23, 1, 0, 0, (-1), ByteArray.empty⟩ : T_Ins), (⟨24, 2, 1, 0, 1, ByteArray.empty⟩ : T_Ins), (⟨25, 0, 1, 2, 0, ByteArray.empty⟩ : T_Ins)] : List T_Ins).flatMap enc_Ins) 43)] ++ ((b1, blk [v0_0_, v0_1_, v0_2_, v0_3_, .int .i64 a0.S.Taken, v0_5_, .int .i64 a0.S.PC, v0_7_, .int .i64 a0.S.Stop, v0_9_, .int .i64 a0.S.Jump, .int .i64 a0.S.Delay, v0_12_, v0_13_] 29) :: [])) w := hS
 obtain ⟨r66, hr66, hF⟩ := ob hF
 refine o_callS hS Try.func21 rfl rfl (hc := (w_l5_runs (a0 := a0) (a1 := ([(⟨23, 1, 0, 0, (-1), ByteArray.empty⟩ : T_Ins), (⟨24, 2, 1, 0, 1, ByteArray.empty⟩ : T_Ins), (⟨25, 0, 1, 2, 0, ByteArray.empty⟩ : T_Ins)] : List T_Ins)) (h0 := ⟨_, _, _, _, _, _, _, _, _, rfl, h0_0_.plus, h0_1_.plus, h0_2_.plus, h0_3_.plus, h0_5_.plus, h0_7_.plus, h0_9_.plus, h0_12_.plus, h0_13_.plus⟩) (h1 := (OwT.plus h64 hS (fun p hp => mA (hp)))) (hF := hr66))) (h := ?_)
 clear hS; intro w hS
 refine oy hS y_assign ?_
 refine n_thenN ?_
 obtain rfl := Option.some.inj hF
 exact wp_ret (wr1 hS)
theorem w_l5_SeqMemory {g : Frag} {a0 : T_Script} {v0_ : Value} {r : Bool} (h0 : Rd_Script g a0 v0_) (hF : l5_SeqMemory a0 = some r) : LCs Try.prog 7 #[v0_] g (.bool r) := w_l5_SeqMemory_ h0 hF
end Go.Proofs.Ytadajdcbeegabaa
