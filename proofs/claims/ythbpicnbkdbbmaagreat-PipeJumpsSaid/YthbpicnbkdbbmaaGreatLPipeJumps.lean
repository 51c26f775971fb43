/- The law PipeJumps, lifted. Printed by lift.py. -/
import Derived.Test.YthbpicnbkdbbmaaGreatProg
import Derived.Test.YthbpicnbkdbbmaaGreatP9
import Derived.KernelRfl
namespace Go.Proofs.YthbpicnbkdbbmaaGreat
open Go Go.RowKit Fr
set_option linter.unusedVariables false
set_option linter.unusedSimpArgs false
set_option maxRecDepth 20000
open Tryz
set_option maxHeartbeats 2000000
noncomputable def l6_PipeJumps_b1 (a0 : T_Script) : Int → Option (Step Int Bool) := fun x47 => bif decide (x47 < 6) then (rem' x47 3).bind fun x97 => (at' ([28, 29, 30] : List Int) x97).bind fun x101 => (l6_at (⟨x101, 0, 0, 0, 5, ByteArray.empty⟩ : T_Ins)).bind fun r110 => (l6_at (l6_adds 22 1)).bind fun r111 => (l6_at (l6_adds 22 1)).bind fun r112 => (l6_at (l6_adds 22 1)).bind fun r113 => (l6_at (l6_adds 22 1)).bind fun r114 => (l6_at (⟨27, 0, 1, 0, 0, ByteArray.empty⟩ : T_Ins)).bind fun r115 => (l6_at (⟨33, 0, 0, 0, 0, ByteArray.empty⟩ : T_Ins)).bind fun r116 => bif decide (2 < x47) then (rem' (a0.N.length : Int) 2).bind fun x121 => (at' ([r110, r111, r112, r113, r114, r115, r116] : List (A4 T_Ins)) (IntKind.i64.wrap (1 + x121))).bind fun x122 => (set' ([r110, r111, r112, r113, r114, r115, r116] : List (A4 T_Ins)) (IntKind.i64.wrap (1 + x121)) (⟨(⟨28, 0, 0, 0, 6, ByteArray.empty⟩ : T_Ins), x122.x1, x122.x2, x122.x3⟩ : (A4 T_Ins))).bind fun zs131 => (l6_runs zs131 ([])).bind fun r135 => bif !r135 then some (.done (false)) else some (.next (IntKind.i64.wrap (x47 + 1))) else (l6_runs ([r110, r111, r112, r113, r114, r115, r116] : List (A4 T_Ins)) ([])).bind fun r137 => bif !r137 then some (.done (false)) else some (.next (IntKind.i64.wrap (x47 + 1))) else (l6_wakes).bind fun r139 => some (.done (r139))
noncomputable def l6_PipeJumps (a0 : T_Script) : Option Bool :=
  loop (σ := Int) (l6_PipeJumps_b1 a0) 0
theorem w_l6_PipeJumps_ {g : Frag} {a0 : T_Script} {v0_ : Value} {r : Bool} (h0 : Rd_Script g a0 v0_) (hF : l6_PipeJumps a0 = some r) : LCs Tryz.prog 3 #[v0_] g (.bool r) := by
 obtain ⟨v0_0_, v0_1_, v0_2_, v0_3_, v0_5_, v0_7_, v0_9_, v0_12_, rfl, h0_0_, h0_1_, h0_2_, h0_3_, h0_5_, h0_7_, h0_9_, h0_12_⟩ := h0
 unfold l6_PipeJumps at hF
 refine lc_body (k := 46) (av := [.agg (cl_Script v0_0_ v0_1_ v0_2_ v0_3_ a0.S.Taken v0_5_ a0.S.PC v0_7_ a0.S.Stop v0_9_ a0.S.Jump a0.S.Delay v0_12_).toArray]) func3 rfl rfl (h := fun W hS => ?_)
 refine c_seq <| c_region ?_
 refine o_boxP (cl := (cl_Script v0_0_ v0_1_ v0_2_ v0_3_ a0.S.Taken v0_5_ a0.S.PC v0_7_ a0.S.Stop v0_9_ a0.S.Jump a0.S.Delay v0_12_)) rfl hS ?_
 clear hS; intro b1 w hS
 refine oy hS y_assign <| n_thenN <| c_seq <| c_region ?_
 refine o_callS hS func14 rfl rfl (hc := (w_l6_adds (a0 := 22) (a1 := 1))) (h := ?_)
 clear hS; intro w hS
 refine o_allocP (cl := (enc_Ins ⟨0, 0, 0, 0, 0, ByteArray.empty⟩)) zr_api_Ins rfl hS ?_
 clear hS; intro b2 w hS
 refine o_storeW (vs := (enc_Ins (l6_adds 22 1))) hS (by exact rfl) (Upd.here _) (by exact sz_api_Ins) (enc_one_Ins _) ?_
 clear hS; intro w hS
 refine n_thenN ?_
 iterate 2 (refine c_seq ?_)
 refine c_region <| oy hS y_assign <| n_thenN <| c_block ?_
 refine c_loopP hF (fun (q : Int) a w' => (∃ s : Nat → Value, a = Ac ((((Fm.dead 46 s).upd 1 (.pointer (some ⟨b1, 0, none⟩))).upd 3 (.pointer (some ⟨b2, 0, none⟩))).upd 4 (.int .i64 q))) ∧ St W g [] ((b1, blk (cl_Script v0_0_ v0_1_ v0_2_ v0_3_ a0.S.Taken v0_5_ a0.S.PC v0_7_ a0.S.Stop v0_9_ a0.S.Jump a0.S.Delay v0_12_) 29) :: ((b2, blk (enc_Ins (l6_adds 22 1)) 31) :: [])) w') ⟨mk_exF, (hS.re (.b (.thereb _ .hb) (.b .hb .n)))⟩ ?_
 clear hS hF
 intro n94 q a w hI hq
 revert hq hI; revert q; intro x47 hI hq
 obtain ⟨⟨s95, rfl⟩, hS⟩ := hq
 obtain ⟨z92, hF, hK93⟩ := iter_step hI
 clear hI
 dsimp only [l6_PipeJumps_b1] at hF
 iterate 2 (refine c_seq ?_)
 refine c_region <| oy hS y_move <| oy hS y_bin <| n_thenN ?_
 refine c_if (ht := fun c96 => ?_) (hf := fun c96 => ?_)
 · replace hF := bt c96 hF
   refine wp_skip <| c_seq <| c_block <| c_seq ?_
   refine c_heldL 21 21 (by kernel_rfl) rfl hS ?_
   clear hS; intro w hS
   refine hy0 1 rfl wn (by kernel_rfl) (nq (P := Tryz.prog) (fn := Tryz.f3)) (fun _ => hS.cb) y_move ?_
   obtain ⟨x97, hx97, hF⟩ := ob hF
   refine hy0 2 rfl wn (by kernel_rfl) (nq (P := Tryz.prog) (fn := Tryz.f3)) (fun _ => hS.cb) (y_rem hx97) ?_
   refine hy 7 rfl wn (by kernel_rfl) (nq (P := Tryz.prog) (fn := Tryz.f3)) hS.cb (y_loadW (fun w hS => hS.own (mC (mH))) underlying31 rfl (by exact sz_api_Ins)) ?_
   refine hy 9 rfl wn (by kernel_rfl) (nq (P := Tryz.prog) (fn := Tryz.f3)) hS.cb (y_loadW (fun w hS => hS.own (mC (mH))) underlying31 rfl (by exact sz_api_Ins)) ?_
   refine hy 11 rfl wn (by kernel_rfl) (nq (P := Tryz.prog) (fn := Tryz.f3)) hS.cb (y_loadW (fun w hS => hS.own (mC (mH))) underlying31 rfl (by exact sz_api_Ins)) ?_
   refine hy 13 rfl wn (by kernel_rfl) (nq (P := Tryz.prog) (fn := Tryz.f3)) hS.cb (y_loadW (fun w hS => hS.own (mC (mH))) underlying31 rfl (by exact sz_api_Ins)) ?_
   refine hy0 15 rfl wn (by kernel_rfl) (nq (P := Tryz.prog) (fn := Tryz.f3)) (fun _ => hS.cb) (y_build (cl := (enc_Ins ⟨27, 0, 1, 0, 0, ByteArray.empty⟩)) bt_api_Ins rfl (by kernel_rfl)) ?_
   refine hy0 17 rfl wn (by kernel_rfl) (nq (P := Tryz.prog) (fn := Tryz.f3)) (fun _ => hS.cb) (y_build (cl := (enc_Ins ⟨33, 0, 0, 0, 0, ByteArray.empty⟩)) bt_api_Ins rfl (by kernel_rfl)) ?_
   refine hb1 0 (by kernel_rfl) (hb_op rfl wn (nl (P := Tryz.prog) (fn := Tryz.f3)) ?_)
   refine o_buildT val_int ([28, 29, 30] : List Int) hS el_int (fun _ => rfl) enc_len_int (by decide) rfl (by decide) (hp := rfl) (h := ?_)
   clear hS; intro b98 w hS h99
   have hS : St W g [] ([(b98, blk (([28, 29, 30] : List Int).flatMap enc_int) 3)] ++ ((b1, blk (cl_Script v0_0_ v0_1_ v0_2_ v0_3_ a0.S.Taken v0_5_ a0.S.PC v0_7_ a0.S.Stop v0_9_ a0.S.Jump a0.S.Delay v0_12_) 29) :: ((b2, blk (enc_Ins (l6_adds 22 1)) 31) :: []))) w := hS
   refine hb_next (fun _ => (hS.re (.b (.there _ .hb) (.b (.there _ .hb) .n))).cb) ?_
   obtain ⟨x101, hx101, hF⟩ := ob hF
   obtain ⟨b102, c103, cl104, hv105, ha106, hb107, hl108, hc109⟩ := OwT.at hx101 h99 enc_len_int
   refine hy0 3 rfl wn (by kernel_rfl) (nq (P := Tryz.prog) (fn := Tryz.f3)) (fun _ => (hS.re (.b (.there _ .hb) (.b (.there _ .hb) .n))).cb) (y_index hv105 ha106 hb107 underlying24 el_int.size) ?_
   refine hb_up (CB g ([(b98, blk (([28, 29, 30] : List Int).flatMap enc_int) 3)] ++ ((b1, blk (cl_Script v0_0_ v0_1_ v0_2_ v0_3_ a0.S.Taken v0_5_ a0.S.PC v0_7_ a0.S.Stop v0_9_ a0.S.Jump a0.S.Delay v0_12_) 29) :: ((b2, blk (enc_Ins (l6_adds 22 1)) 31) :: [])))) (fun w h => h.sub (.b (.there _ .hb) (.b (.there _ .hb) .n))) ?_
   refine hy 4 rfl wn (by kernel_rfl) (nq (P := Tryz.prog) (fn := Tryz.f3)) hS.cb (y_load (fun w hS => hS.own (mA (mX hl108))) underlying3 rfl (hc109 0 _ rfl)) ?_
   refine hy0 5 rfl wn (by kernel_rfl) (nq (P := Tryz.prog) (fn := Tryz.f3)) (fun _ => hS.cb) (y_build (cl := (enc_Ins ⟨x101, 0, 0, 0, 5, ByteArray.empty⟩)) bt_api_Ins rfl (by kernel_rfl)) ?_
   refine hb1 6 (by kernel_rfl) (hb_op rfl wn (nl (P := Tryz.prog) (fn := Tryz.f3)) ?_)
   obtain ⟨r110, hr110, hF⟩ := ob hF
   refine o_callS hS func15 rfl rfl (hc := (w_l6_at (a0 := (⟨x101, 0, 0, 0, 5, ByteArray.empty⟩ : T_Ins)) (hF := hr110))) (h := ?_)
   clear hS; intro w hS
   refine hb_next (fun _ => hS.cb) ?_
   refine hb1 8 (by kernel_rfl) (hb_op rfl wn (nl (P := Tryz.prog) (fn := Tryz.f3)) ?_)
   obtain ⟨r111, hr111, hF⟩ := ob hF
   refine o_callS hS func15 rfl rfl (hc := (w_l6_at (a0 := (l6_adds 22 1)) (hF := hr111))) (h := ?_)
   clear hS; intro w hS
   refine hb_next (fun _ => hS.cb) ?_
   refine hb1 10 (by kernel_rfl) (hb_op rfl wn (nl (P := Tryz.prog) (fn := Tryz.f3)) ?_)
   obtain ⟨r112, hr112, hF⟩ := ob hF
   refine o_callS hS func15 rfl rfl (hc := (w_l6_at (a0 := (l6_adds 22 1)) (hF := hr112))) (h := ?_)
   clear hS; intro w hS
   refine hb_next (fun _ => hS.cb) ?_
   refine hb1 12 (by kernel_rfl) (hb_op rfl wn (nl (P := Tryz.prog) (fn := Tryz.f3)) ?_)
   obtain ⟨r113, hr113, hF⟩ := ob hF
   refine o_callS hS func15 rfl rfl (hc := (w_l6_at (a0 := (l6_adds 22 1)) (hF := hr113))) (h := ?_)
   clear hS; intro w hS
   refine hb_next (fun _ => hS.cb) ?_
   refine hb1 14 (by kernel_rfl) (hb_op rfl wn (nl (P := Tryz.prog) (fn := Tryz.f3)) ?_)
   obtain ⟨r114, hr114, hF⟩ := ob hF
   refine o_callS hS func15 rfl rfl (hc := (w_l6_at (a0 := (l6_adds 22 1)) (hF := hr114))) (h := ?_)
   clear hS; intro w hS
   refine hb_next (fun _ => hS.cb) ?_
   refine hb1 16 (by kernel_rfl) (hb_op rfl wn (nl (P := Tryz.prog) (fn := Tryz.f3)) ?_)
   obtain ⟨r115, hr115, hF⟩ := ob hF
   refine o_callS hS func15 rfl rfl (hc := (w_l6_at (a0 := (⟨27, 0, 1, 0, 0, ByteArray.empty⟩ : T_Ins)) (hF := hr115))) (h := ?_)
   clear hS; intro w hS
   refine hb_next (fun _ => hS.cb) ?_
   refine hb1 18 (by kernel_rfl) (hb_op rfl wn (nl (P := Tryz.prog) (fn := Tryz.f3)) ?_)
   obtain ⟨r116, hr116, hF⟩ := ob hF
   refine o_callS hS func15 rfl rfl (hc := (w_l6_at (a0 := (⟨33, 0, 0, 0, 0, ByteArray.empty⟩ : T_Ins)) (hF := hr116))) (h := ?_)
   clear hS; intro w hS
   refine hb_next (fun _ => hS.cb) ?_
   refine hb1 19 (by kernel_rfl) (hb_op rfl wn (nl (P := Tryz.prog) (fn := Tryz.f3)) ?_)
   refine o_buildT val_Bundle ([r110, r111, r112, r113, r114, r115, r116] : List (A4 T_Ins)) hS el_api_Bundle (fun _ => rfl) enc_len_Bundle (by decide) rfl (by decide) (hp := rfl) (h := ?_)
   clear hS; intro b117 w hS h118
   have hS : St W g [] ([(b117, blk (([r110, r111, r112, r113, r114, r115, r116] : List (A4 T_Ins)).flatMap enc_Bundle) 34)] ++ ([(b98, blk (([28, 29, 30] : List Int).flatMap enc_int) 3)] ++ ((b1, blk (cl_Script v0_0_ v0_1_ v0_2_ v0_3_ a0.S.Taken v0_5_ a0.S.PC v0_7_ a0.S.Stop v0_9_ a0.S.Jump a0.S.Delay v0_12_) 29) :: ((b2, blk (enc_Ins (l6_adds 22 1)) 31) :: [])))) w := hS
   refine hb_next (fun _ => (hS.re (.t (.there _ .h) (.b (.there _ .hb) (.b (.there _ .hb) .n)))).cb) ?_
   refine hy0 20 rfl wn (by kernel_rfl) (nq (P := Tryz.prog) (fn := Tryz.f3)) (fun _ => (hS.re (.t (.there _ .h) (.b (.there _ .hb) (.b (.there _ .hb) .n)))).cb) y_assign ?_
   refine hb_done (by kernel_rfl) ?_
   iterate 2 (refine c_seq ?_)
   refine c_region <| oy hS y_move <| oy hS y_bin <| n_thenN ?_
   refine c_if (ht := fun c120 => ?_) (hf := fun c120 => ?_)
   · replace hF := bt c120 hF
     refine c_region <| oy hS y_move <| oy hS (y_field fa_sledgelaw6_Script_2) <| oy hS (y_load (fun w hS => hS.own (mB (mB (mH)))) underlying24 rfl rfl) <| oy hS (y_len h0_12_ underlying24) ?_
     obtain ⟨x121, hx121, hF⟩ := ob hF
     refine oy hS (y_rem hx121) <| oy hS y_bin ?_
     refine oy hS (y_build (cl := (enc_Ins ⟨28, 0, 0, 0, 6, ByteArray.empty⟩)) bt_api_Ins rfl (by kernel_rfl)) ?_
     obtain ⟨x122, hx122, hF⟩ := ob hF
     obtain ⟨b123, c124, cl125, hv126, ha127, hb128, hl129, hc130⟩ := OwT.at hx122 h118 enc_len_Bundle
     refine oy hS (y_index hv126 ha127 hb128 underlying22 el_api_Bundle.size) ?_
     refine oy hS (y_indexA (i := 0) (n := 4) (by decide) (by decide) underlying34 (by exact sz_api_Ins)) ?_
     obtain ⟨zs131, hzs131, hF⟩ := ob hF
     refine o_storeOP (k := 0) (vs := (enc_Ins ⟨28, 0, 0, 0, 6, ByteArray.empty⟩)) (L' := fun X => (X ++ ([(b98, blk (([28, 29, 30] : List Int).flatMap enc_int) 3)] ++ ((b1, blk (cl_Script v0_0_ v0_1_ v0_2_ v0_3_ a0.S.Taken v0_5_ a0.S.PC v0_7_ a0.S.Stop v0_9_ a0.S.Jump a0.S.Delay v0_12_) 29) :: ((b2, blk (enc_Ins (l6_adds 22 1)) 31) :: []))))) hx122 hzs131 hS h118 hl129 (fun X => .here _) enc_len_Bundle (by exact rfl) rfl (by exact sz_api_Ins) (enc_one_Ins _) ?_
     clear hS; intro LX132 w h133 hS
     refine n_thenN <| c_seq <| c_region <| oy hS y_move ?_
     obtain ⟨r135, hr135, hF⟩ := ob hF
     refine o_callS hS func16 rfl rfl (hc := (w_l6_runs (a0 := zs131) (a1 := ([])) (h0 := (OwT.plus h133 hS (fun p hp => mA (hp)))) (h1 := (SlR.nil _ _)) (hF := hr135))) (h := ?_)
     clear hS; intro w hS
     refine oy hS y_not <| n_thenN ?_
     refine c_if (ht := fun c136 => ?_) (hf := fun c136 => ?_)
     · replace hF := bt c136 hF
       refine c_seq <| c_region <| oy hS y_assign <| n_thenN ?_
       obtain rfl := osi hF
       obtain rfl : _ = r := hK93
       exact wp_ret (wr1 hS)
     replace hF := bf c136 hF
     refine wp_skip <| c_region <| oy hS y_move <| oy hS y_bin <| oy hS y_assign <| n_thenN ?_
     obtain rfl := osi hF
     exact ⟨_, hK93, mk_exF, (hS.re (.b (.there _ (.there _ .hb)) (.b (.there _ (.there _ .hb)) .n)))⟩
   replace hF := bf c120 hF
   refine wp_skip <| c_seq <| c_region <| oy hS y_move ?_
   obtain ⟨r137, hr137, hF⟩ := ob hF
   refine o_callS hS func16 rfl rfl (hc := (w_l6_runs (a0 := ([r110, r111, r112, r113, r114, r115, r116] : List (A4 T_Ins))) (a1 := ([])) (h0 := (OwT.plus h118 hS (fun p hp => mA (hp)))) (h1 := (SlR.nil _ _)) (hF := hr137))) (h := ?_)
   clear hS; intro w hS
   refine oy hS y_not <| n_thenN ?_
   refine c_if (ht := fun c138 => ?_) (hf := fun c138 => ?_)
   · replace hF := bt c138 hF
     refine c_seq <| c_region <| oy hS y_assign <| n_thenN ?_
     obtain rfl := osi hF
     obtain rfl : _ = r := hK93
     exact wp_ret (wr1 hS)
   replace hF := bf c138 hF
   refine wp_skip <| c_region <| oy hS y_move <| oy hS y_bin <| oy hS y_assign <| n_thenN ?_
   obtain rfl := osi hF
   exact ⟨_, hK93, mk_exF, (hS.re (.b (.there _ (.there _ .hb)) (.b (.there _ (.there _ .hb)) .n)))⟩
 replace hF := bf c96 hF
 refine wp_exit ?_
 refine c_seq <| c_region ?_
 obtain ⟨r139, hr139, hF⟩ := ob hF
 refine o_callS hS func17 rfl rfl (hc := (w_l6_wakes  (hF := hr139))) (h := ?_)
 clear hS; intro w hS
 refine oy hS y_assign <| n_thenN ?_
 obtain rfl := osi hF
 obtain rfl : _ = r := hK93
 exact wp_ret (wr1 hS)
theorem w_l6_PipeJumps {g : Frag} {a0 : T_Script} {v0_ : Value} {r : Bool} (h0 : Rd_Script g a0 v0_) (hF : l6_PipeJumps a0 = some r) : LCs Tryz.prog 3 #[v0_] g (.bool r) := w_l6_PipeJumps_ h0 hF
end Go.Proofs.YthbpicnbkdbbmaaGreat
