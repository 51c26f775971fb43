/- The law PipeCalls, lifted. Printed by lift.py. -/
import Derived.Test.YthbpicnbkdbbmaaGreatProg
import Derived.Test.YthbpicnbkdbbmaaGreatP9
import Derived.KernelRfl
namespace Go.Proofs.YthbpicnbkdbbmaaGreat
open Go Go.RowKit Fr
set_option linter.unusedVariables false
set_option linter.unusedSimpArgs false
set_option maxRecDepth 20000
open Tryz
set_option maxHeartbeats 2000000
noncomputable def l6_PipeCalls (a0 : T_Script) : Option Bool :=
  (rem' (a0.N.length : Int) 3).bind fun x2 => (l6_at (⟨31, 0, 0, 0, 6, ByteArray.empty⟩ : T_Ins)).bind fun r4 => (l6_at (l6_adds 22 (IntKind.i64.wrap (1 + x2)))).bind fun r5 => (l6_at (⟨27, 0, 1, 0, 0, ByteArray.empty⟩ : T_Ins)).bind fun r6 => (l6_at (⟨33, 0, 0, 0, 0, ByteArray.empty⟩ : T_Ins)).bind fun r7 => (l6_at (l6_adds 22 (IntKind.i64.wrap (1 + x2)))).bind fun r8 => (l6_at (⟨32, 0, 0, 0, 0, ByteArray.empty⟩ : T_Ins)).bind fun r9 => (l6_at (l6_adds 22 (IntKind.i64.wrap (1 + x2)))).bind fun r10 => (l6_at (l6_adds 22 (IntKind.i64.wrap (1 + x2)))).bind fun r14 => (l6_at (⟨31, 0, 0, 0, 0, ByteArray.empty⟩ : T_Ins)).bind fun r15 => (l6_runs ([r4, r5, (⟨(⟨0, 0, 0, 0, 0, ByteArray.empty⟩ : T_Ins), (⟨0, 0, 0, 0, 0, ByteArray.empty⟩ : T_Ins), (⟨0, 0, 0, 0, 0, ByteArray.empty⟩ : T_Ins), (⟨0, 0, 0, 0, 0, ByteArray.empty⟩ : T_Ins)⟩ : (A4 T_Ins)), r6, r7, (⟨(⟨0, 0, 0, 0, 0, ByteArray.empty⟩ : T_Ins), (⟨0, 0, 0, 0, 0, ByteArray.empty⟩ : T_Ins), (⟨0, 0, 0, 0, 0, ByteArray.empty⟩ : T_Ins), (⟨0, 0, 0, 0, 0, ByteArray.empty⟩ : T_Ins)⟩ : (A4 T_Ins)), r8, r9, (⟨(⟨0, 0, 0, 0, 0, ByteArray.empty⟩ : T_Ins), (⟨0, 0, 0, 0, 0, ByteArray.empty⟩ : T_Ins), (⟨0, 0, 0, 0, 0, ByteArray.empty⟩ : T_Ins), (⟨0, 0, 0, 0, 0, ByteArray.empty⟩ : T_Ins)⟩ : (A4 T_Ins)), r10] : List (A4 T_Ins)) ([])).bind fun r19 => bif r19 then (l6_runs ([r14, r15, (⟨(⟨0, 0, 0, 0, 0, ByteArray.empty⟩ : T_Ins), (⟨0, 0, 0, 0, 0, ByteArray.empty⟩ : T_Ins), (⟨0, 0, 0, 0, 0, ByteArray.empty⟩ : T_Ins), (⟨0, 0, 0, 0, 0, ByteArray.empty⟩ : T_Ins)⟩ : (A4 T_Ins)), (⟨(⟨0, 0, 0, 0, 0, ByteArray.empty⟩ : T_Ins), (⟨0, 0, 0, 0, 0, ByteArray.empty⟩ : T_Ins), (⟨0, 0, 0, 0, 0, ByteArray.empty⟩ : T_Ins), (⟨0, 0, 0, 0, 0, ByteArray.empty⟩ : T_Ins)⟩ : (A4 T_Ins))] : List (A4 T_Ins)) ([])).bind fun r21 => bif r21 then (sub' ([r4, r5, (⟨(⟨0, 0, 0, 0, 0, ByteArray.empty⟩ : T_Ins), (⟨0, 0, 0, 0, 0, ByteArray.empty⟩ : T_Ins), (⟨0, 0, 0, 0, 0, ByteArray.empty⟩ : T_Ins), (⟨0, 0, 0, 0, 0, ByteArray.empty⟩ : T_Ins)⟩ : (A4 T_Ins)), r6, r7, (⟨(⟨0, 0, 0, 0, 0, ByteArray.empty⟩ : T_Ins), (⟨0, 0, 0, 0, 0, ByteArray.empty⟩ : T_Ins), (⟨0, 0, 0, 0, 0, ByteArray.empty⟩ : T_Ins), (⟨0, 0, 0, 0, 0, ByteArray.empty⟩ : T_Ins)⟩ : (A4 T_Ins)), r8, r9, (⟨(⟨0, 0, 0, 0, 0, ByteArray.empty⟩ : T_Ins), (⟨0, 0, 0, 0, 0, ByteArray.empty⟩ : T_Ins), (⟨0, 0, 0, 0, 0, ByteArray.empty⟩ : T_Ins), (⟨0, 0, 0, 0, 0, ByteArray.empty⟩ : T_Ins)⟩ : (A4 T_Ins)), r10] : List (A4 T_Ins)) 7 (([r4, r5, (⟨(⟨0, 0, 0, 0, 0, ByteArray.empty⟩ : T_Ins), (⟨0, 0, 0, 0, 0, ByteArray.empty⟩ : T_Ins), (⟨0, 0, 0, 0, 0, ByteArray.empty⟩ : T_Ins), (⟨0, 0, 0, 0, 0, ByteArray.empty⟩ : T_Ins)⟩ : (A4 T_Ins)), r6, r7, (⟨(⟨0, 0, 0, 0, 0, ByteArray.empty⟩ : T_Ins), (⟨0, 0, 0, 0, 0, ByteArray.empty⟩ : T_Ins), (⟨0, 0, 0, 0, 0, ByteArray.empty⟩ : T_Ins), (⟨0, 0, 0, 0, 0, ByteArray.empty⟩ : T_Ins)⟩ : (A4 T_Ins)), r8, r9, (⟨(⟨0, 0, 0, 0, 0, ByteArray.empty⟩ : T_Ins), (⟨0, 0, 0, 0, 0, ByteArray.empty⟩ : T_Ins), (⟨0, 0, 0, 0, 0, ByteArray.empty⟩ : T_Ins), (⟨0, 0, 0, 0, 0, ByteArray.empty⟩ : T_Ins)⟩ : (A4 T_Ins)), r10] : List (A4 T_Ins)).length : Int)).bind fun zs24 => (l6_runs zs24 ([])).bind fun r25 => some (r25) else some (false) else some (false)
theorem w_l6_PipeCalls_ {g : Frag} {a0 : T_Script} {v0_ : Value} {r : Bool} (h0 : Rd_Script g a0 v0_) (hF : l6_PipeCalls a0 = some r) : LCs Tryz.prog 4 #[v0_] g (.bool r) := by
 obtain ⟨v0_0_, v0_1_, v0_2_, v0_3_, v0_5_, v0_7_, v0_9_, v0_12_, rfl, h0_0_, h0_1_, h0_2_, h0_3_, h0_5_, h0_7_, h0_9_, h0_12_⟩ := h0
 unfold l6_PipeCalls at hF
 refine lc_body (k := 48) (av := [.agg (cl_Script v0_0_ v0_1_ v0_2_ v0_3_ a0.S.Taken v0_5_ a0.S.PC v0_7_ a0.S.Stop v0_9_ a0.S.Jump a0.S.Delay v0_12_).toArray]) func4 rfl rfl (h := fun W hS => ?_)
 refine c_seq <| c_region ?_
 refine o_boxP (cl := (cl_Script v0_0_ v0_1_ v0_2_ v0_3_ a0.S.Taken v0_5_ a0.S.PC v0_7_ a0.S.Stop v0_9_ a0.S.Jump a0.S.Delay v0_12_)) rfl hS ?_
 clear hS; intro b1 w hS
 refine oy hS y_assign <| n_thenN <| c_seq <| c_region <| oy hS (y_field fa_sledgelaw6_Script_2) <| oy hS (y_load (fun w hS => hS.own (mH)) underlying24 rfl rfl) <| oy hS (y_len h0_12_ underlying24) ?_
 obtain ⟨x2, hx2, hF⟩ := ob hF
 refine oy hS (y_rem hx2) <| oy hS y_bin ?_
 refine o_callS hS func14 rfl rfl (hc := (w_l6_adds (a0 := 22) (a1 := (IntKind.i64.wrap (1 + x2))))) (h := ?_)
 clear hS; intro w hS
 refine o_allocP (cl := (enc_Ins ⟨0, 0, 0, 0, 0, ByteArray.empty⟩)) zr_api_Ins rfl hS ?_
 clear hS; intro b3 w hS
 refine o_storeW (vs := (enc_Ins (l6_adds 22 (IntKind.i64.wrap (1 + x2))))) hS (by exact rfl) (Upd.here _) (by exact sz_api_Ins) (enc_one_Ins _) ?_
 clear hS; intro w hS
 refine n_thenN <| c_seq ?_
 refine c_heldL 19 19 (by kernel_rfl) rfl hS ?_
 clear hS; intro w hS
 refine hy0 0 rfl wn (by kernel_rfl) (nq (P := Tryz.prog) (fn := Tryz.f4)) (fun _ => hS.cb) (y_build (cl := (enc_Ins ⟨31, 0, 0, 0, 6, ByteArray.empty⟩)) bt_api_Ins rfl (by kernel_rfl)) ?_
 refine hy 2 rfl wn (by kernel_rfl) (nq (P := Tryz.prog) (fn := Tryz.f4)) hS.cb (y_loadW (fun w hS => hS.own (mH)) underlying31 rfl (by exact sz_api_Ins)) ?_
 refine hy0 4 rfl wn (by kernel_rfl) (nq (P := Tryz.prog) (fn := Tryz.f4)) (fun _ => hS.cb) (y_buildA (cl := (enc_Bundle ⟨(⟨0, 0, 0, 0, 0, ByteArray.empty⟩ : T_Ins), (⟨0, 0, 0, 0, 0, ByteArray.empty⟩ : T_Ins), (⟨0, 0, 0, 0, 0, ByteArray.empty⟩ : T_Ins), (⟨0, 0, 0, 0, 0, ByteArray.empty⟩ : T_Ins)⟩)) bta_api_Bundle rfl (by kernel_rfl)) ?_
 refine hy0 5 rfl wn (by kernel_rfl) (nq (P := Tryz.prog) (fn := Tryz.f4)) (fun _ => hS.cb) (y_build (cl := (enc_Ins ⟨27, 0, 1, 0, 0, ByteArray.empty⟩)) bt_api_Ins rfl (by kernel_rfl)) ?_
 refine hy0 7 rfl wn (by kernel_rfl) (nq (P := Tryz.prog) (fn := Tryz.f4)) (fun _ => hS.cb) (y_build (cl := (enc_Ins ⟨33, 0, 0, 0, 0, ByteArray.empty⟩)) bt_api_Ins rfl (by kernel_rfl)) ?_
 refine hy0 9 rfl wn (by kernel_rfl) (nq (P := Tryz.prog) (fn := Tryz.f4)) (fun _ => hS.cb) (y_buildA (cl := (enc_Bundle ⟨(⟨0, 0, 0, 0, 0, ByteArray.empty⟩ : T_Ins), (⟨0, 0, 0, 0, 0, ByteArray.empty⟩ : T_Ins), (⟨0, 0, 0, 0, 0, ByteArray.empty⟩ : T_Ins), (⟨0, 0, 0, 0, 0, ByteArray.empty⟩ : T_Ins)⟩)) bta_api_Bundle rfl (by kernel_rfl)) ?_
 refine hy 10 rfl wn (by kernel_rfl) (nq (P := Tryz.prog) (fn := Tryz.f4)) hS.cb (y_loadW (fun w hS => hS.own (mH)) underlying31 rfl (by exact sz_api_Ins)) ?_
 refine hy0 12 rfl wn (by kernel_rfl) (nq (P := Tryz.prog) (fn := Tryz.f4)) (fun _ => hS.cb) (y_build (cl := (enc_Ins ⟨32, 0, 0, 0, 0, ByteArray.empty⟩)) bt_api_Ins rfl (by kernel_rfl)) ?_
 refine hy0 14 rfl wn (by kernel_rfl) (nq (P := Tryz.prog) (fn := Tryz.f4)) (fun _ => hS.cb) (y_buildA (cl := (enc_Bundle ⟨(⟨0, 0, 0, 0, 0, ByteArray.empty⟩ : T_Ins), (⟨0, 0, 0, 0, 0, ByteArray.empty⟩ : T_Ins), (⟨0, 0, 0, 0, 0, ByteArray.empty⟩ : T_Ins), (⟨0, 0, 0, 0, 0, ByteArray.empty⟩ : T_Ins)⟩)) bta_api_Bundle rfl (by kernel_rfl)) ?_
 refine hy 15 rfl wn (by kernel_rfl) (nq (P := Tryz.prog) (fn := Tryz.f4)) hS.cb (y_loadW (fun w hS => hS.own (mH)) underlying31 rfl (by exact sz_api_Ins)) ?_
 refine hb1 1 (by kernel_rfl) (hb_op rfl wn (nl (P := Tryz.prog) (fn := Tryz.f4)) ?_)
 obtain ⟨r4, hr4, hF⟩ := ob hF
 refine o_callS hS func15 rfl rfl (hc := (w_l6_at (a0 := (⟨31, 0, 0, 0, 6, ByteArray.empty⟩ : T_Ins)) (hF := hr4))) (h := ?_)
 clear hS; intro w hS
 refine hb_next (fun _ => hS.cb) ?_
 refine hb1 3 (by kernel_rfl) (hb_op rfl wn (nl (P := Tryz.prog) (fn := Tryz.f4)) ?_)
 obtain ⟨r5, hr5, hF⟩ := ob hF
 refine o_callS hS func15 rfl rfl (hc := (w_l6_at (a0 := (l6_adds 22 (IntKind.i64.wrap (1 + x2)))) (hF := hr5))) (h := ?_)
 clear hS; intro w hS
 refine hb_next (fun _ => hS.cb) ?_
 refine hb1 6 (by kernel_rfl) (hb_op rfl wn (nl (P := Tryz.prog) (fn := Tryz.f4)) ?_)
 obtain ⟨r6, hr6, hF⟩ := ob hF
 refine o_callS hS func15 rfl rfl (hc := (w_l6_at (a0 := (⟨27, 0, 1, 0, 0, ByteArray.empty⟩ : T_Ins)) (hF := hr6))) (h := ?_)
 clear hS; intro w hS
 refine hb_next (fun _ => hS.cb) ?_
 refine hb1 8 (by kernel_rfl) (hb_op rfl wn (nl (P := Tryz.prog) (fn := Tryz.f4)) ?_)
 obtain ⟨r7, hr7, hF⟩ := ob hF
 refine o_callS hS func15 rfl rfl (hc := (w_l6_at (a0 := (⟨33, 0, 0, 0, 0, ByteArray.empty⟩ : T_Ins)) (hF := hr7))) (h := ?_)
 clear hS; intro w hS
 refine hb_next (fun _ => hS.cb) ?_
 refine hb1 11 (by kernel_rfl) (hb_op rfl wn (nl (P := Tryz.prog) (fn := Tryz.f4)) ?_)
 obtain ⟨r8, hr8, hF⟩ := ob hF
 refine o_callS hS func15 rfl rfl (hc := (w_l6_at (a0 := (l6_adds 22 (IntKind.i64.wrap (1 + x2)))) (hF := hr8))) (h := ?_)
 clear hS; intro w hS
 refine hb_next (fun _ => hS.cb) ?_
 refine hb1 13 (by kernel_rfl) (hb_op rfl wn (nl (P := Tryz.prog) (fn := Tryz.f4)) ?_)
 obtain ⟨r9, hr9, hF⟩ := ob hF
 refine o_callS hS func15 rfl rfl (hc := (w_l6_at (a0 := (⟨32, 0, 0, 0, 0, ByteArray.empty⟩ : T_Ins)) (hF := hr9))) (h := ?_)
 clear hS; intro w hS
 refine hb_next (fun _ => hS.cb) ?_
 refine hb1 16 (by kernel_rfl) (hb_op rfl wn (nl (P := Tryz.prog) (fn := Tryz.f4)) ?_)
 obtain ⟨r10, hr10, hF⟩ := ob hF
 refine o_callS hS func15 rfl rfl (hc := (w_l6_at (a0 := (l6_adds 22 (IntKind.i64.wrap (1 + x2)))) (hF := hr10))) (h := ?_)
 clear hS; intro w hS
 refine hb_next (fun _ => hS.cb) ?_
 refine hb1 17 (by kernel_rfl) (hb_op rfl wn (nl (P := Tryz.prog) (fn := Tryz.f4)) ?_)
 refine o_buildT val_Bundle ([r4, r5, (⟨(⟨0, 0, 0, 0, 0, ByteArray.empty⟩ : T_Ins), (⟨0, 0, 0, 0, 0, ByteArray.empty⟩ : T_Ins), (⟨0, 0, 0, 0, 0, ByteArray.empty⟩ : T_Ins), (⟨0, 0, 0, 0, 0, ByteArray.empty⟩ : T_Ins)⟩ : (A4 T_Ins)), r6, r7, (⟨(⟨0, 0, 0, 0, 0, ByteArray.empty⟩ : T_Ins), (⟨0, 0, 0, 0, 0, ByteArray.empty⟩ : T_Ins), (⟨0, 0, 0, 0, 0, ByteArray.empty⟩ : T_Ins), (⟨0, 0, 0, 0, 0, ByteArray.empty⟩ : T_Ins)⟩ : (A4 T_Ins)), r8, r9, (⟨(⟨0, 0, 0, 0, 0, ByteArray.empty⟩ : T_Ins), (⟨0, 0, 0, 0, 0, ByteArray.empty⟩ : T_Ins), (⟨0, 0, 0, 0, 0, ByteArray.empty⟩ : T_Ins), (⟨0, 0, 0, 0, 0, ByteArray.empty⟩ : T_Ins)⟩ : (A4 T_Ins)), r10] : List (A4 T_Ins)) hS el_api_Bundle (fun _ => rfl) enc_len_Bundle (by decide) rfl (by decide) (hp := rfl) (h := ?_)
 clear hS; intro b11 w hS h12
 have hS : St W g [] ([(b11, blk (([r4, r5, (⟨(⟨0, 0, 0, 0, 0, ByteArray.empty⟩ : T_Ins), (⟨0, 0, 0, 0, 0, ByteArray.empty⟩ : T_Ins), (⟨0, 0, 0, 0, 0, ByteArray.empty⟩ : T_Ins), (⟨0, 0, 0, 0, 0, ByteArray.empty⟩ : T_Ins)⟩ : (A4 T_Ins)), r6, r7, (⟨(⟨0, 0, 0, 0, 0, ByteArray.empty⟩ : T_Ins), (⟨0, 0, 0, 0, 0, ByteArray.empty⟩ : T_Ins), (⟨0, 0, 0, 0, 0, ByteArray.empty⟩ : T_Ins), (⟨0, 0, 0, 0, 0, ByteArray.empty⟩ : T_Ins)⟩ : (A4 T_Ins)), r8, r9, (⟨(⟨0, 0, 0, 0, 0, ByteArray.empty⟩ : T_Ins), (⟨0, 0, 0, 0, 0, ByteArray.empty⟩ : T_Ins), (⟨0, 0, 0, 0, 0, ByteArray.empty⟩ : T_Ins), (⟨0, 0, 0, 0, 0, ByteArray.empty⟩ : T_Ins)⟩ : (A4 T_Ins)), r10] : List (A4 T_Ins)).flatMap enc_Bundle) 34)] ++ ((b3, blk (enc_Ins (l6_adds 22 (IntKind.i64.wrap (1 + x2)))) 31) :: ((b1, blk (cl_Script v0_0_ v0_1_ v0_2_ v0_3_ a0.S.Taken v0_5_ a0.S.PC v0_7_ a0.S.Stop v0_9_ a0.S.Jump a0.S.Delay v0_12_) 29) :: []))) w := hS
 refine hb_next (fun _ => (hS.re (.b (.there _ .hb) (.b (.there _ .hb) .n))).cb) ?_
 refine hy0 18 rfl wn (by kernel_rfl) (nq (P := Tryz.prog) (fn := Tryz.f4)) (fun _ => (hS.re (.b (.there _ .hb) (.b (.there _ .hb) .n))).cb) y_assign ?_
 refine hb_done (by kernel_rfl) ?_
 refine c_seq <| c_region ?_
 refine oy hS (y_loadW (fun w hS => hS.own (mB (mH))) underlying31 rfl (by exact sz_api_Ins)) ?_
 obtain ⟨r14, hr14, hF⟩ := ob hF
 refine o_callS hS func15 rfl rfl (hc := (w_l6_at (a0 := (l6_adds 22 (IntKind.i64.wrap (1 + x2)))) (hF := hr14))) (h := ?_)
 clear hS; intro w hS
 refine oy hS (y_build (cl := (enc_Ins ⟨31, 0, 0, 0, 0, ByteArray.empty⟩)) bt_api_Ins rfl (by kernel_rfl)) ?_
 obtain ⟨r15, hr15, hF⟩ := ob hF
 refine o_callS hS func15 rfl rfl (hc := (w_l6_at (a0 := (⟨31, 0, 0, 0, 0, ByteArray.empty⟩ : T_Ins)) (hF := hr15))) (h := ?_)
 clear hS; intro w hS
 iterate 2 (refine oy hS (y_buildA (cl := (enc_Bundle ⟨(⟨0, 0, 0, 0, 0, ByteArray.empty⟩ : T_Ins), (⟨0, 0, 0, 0, 0, ByteArray.empty⟩ : T_Ins), (⟨0, 0, 0, 0, 0, ByteArray.empty⟩ : T_Ins), (⟨0, 0, 0, 0, 0, ByteArray.empty⟩ : T_Ins)⟩)) bta_api_Bundle rfl (by kernel_rfl)) ?_)
 refine o_buildT val_Bundle ([r14, r15, (⟨(⟨0, 0, 0, 0, 0, ByteArray.empty⟩ : T_Ins), (⟨0, 0, 0, 0, 0, ByteArray.empty⟩ : T_Ins), (⟨0, 0, 0, 0, 0, ByteArray.empty⟩ : T_Ins), (⟨0, 0, 0, 0, 0, ByteArray.empty⟩ : T_Ins)⟩ : (A4 T_Ins)), (⟨(⟨0, 0, 0, 0, 0, ByteArray.empty⟩ : T_Ins), (⟨0, 0, 0, 0, 0, ByteArray.empty⟩ : T_Ins), (⟨0, 0, 0, 0, 0, ByteArray.empty⟩ : T_Ins), (⟨0, 0, 0, 0, 0, ByteArray.empty⟩ : T_Ins)⟩ : (A4 T_Ins))] : List (A4 T_Ins)) hS el_api_Bundle (fun _ => rfl) enc_len_Bundle (by decide) rfl (by decide) (hp := rfl) (h := ?_)
 clear hS; intro b16 w hS h17
 have hS : St W g [] ([(b16, blk (([r14, r15, (⟨(⟨0, 0, 0, 0, 0, ByteArray.empty⟩ : T_Ins), (⟨0, 0, 0, 0, 0, ByteArray.empty⟩ : T_Ins), (⟨0, 0, 0, 0, 0, ByteArray.empty⟩ : T_Ins), (⟨0, 0, 0, 0, 0, ByteArray.empty⟩ : T_Ins)⟩ : (A4 T_Ins)), (⟨(⟨0, 0, 0, 0, 0, ByteArray.empty⟩ : T_Ins), (⟨0, 0, 0, 0, 0, ByteArray.empty⟩ : T_Ins), (⟨0, 0, 0, 0, 0, ByteArray.empty⟩ : T_Ins), (⟨0, 0, 0, 0, 0, ByteArray.empty⟩ : T_Ins)⟩ : (A4 T_Ins))] : List (A4 T_Ins)).flatMap enc_Bundle) 34)] ++ ([(b11, blk (([r4, r5, (⟨(⟨0, 0, 0, 0, 0, ByteArray.empty⟩ : T_Ins), (⟨0, 0, 0, 0, 0, ByteArray.empty⟩ : T_Ins), (⟨0, 0, 0, 0, 0, ByteArray.empty⟩ : T_Ins), (⟨0, 0, 0, 0, 0, ByteArray.empty⟩ : T_Ins)⟩ : (A4 T_Ins)), r6, r7, (⟨(⟨0, 0, 0, 0, 0, ByteArray.empty⟩ : T_Ins), (⟨0, 0, 0, 0, 0, ByteArray.empty⟩ : T_Ins), (⟨0, 0, 0, 0, 0, ByteArray.empty⟩ : T_Ins), (⟨0, 0, 0, 0, 0, ByteArray.empty⟩ : T_Ins)⟩ : (A4 T_Ins)), r8, r9, (⟨(⟨0, 0, 0, 0, 0, ByteArray.empty⟩ : T_Ins), (⟨0, 0, 0, 0, 0, ByteArray.empty⟩ : T_Ins), (⟨0, 0, 0, 0, 0, ByteArray.empty⟩ : T_Ins), (⟨0, 0, 0, 0, 0, ByteArray.empty⟩ : T_Ins)⟩ : (A4 T_Ins)), r10] : List (A4 T_Ins)).flatMap enc_Bundle) 34)] ++ ((b3, blk (enc_Ins (l6_adds 22 (IntKind.i64.wrap (1 + x2)))) 31) :: ((b1, blk (cl_Script v0_0_ v0_1_ v0_2_ v0_3_ a0.S.Taken v0_5_ a0.S.PC v0_7_ a0.S.Stop v0_9_ a0.S.Jump a0.S.Delay v0_12_) 29) :: [])))) w := hS
 refine oy hS y_assign <| n_thenN <| c_seq <| c_region <| oy hS y_move ?_
 obtain ⟨r19, hr19, hF⟩ := ob hF
 refine o_callS hS func16 rfl rfl (hc := (w_l6_runs (a0 := ([r4, r5, (⟨(⟨0, 0, 0, 0, 0, ByteArray.empty⟩ : T_Ins), (⟨0, 0, 0, 0, 0, ByteArray.empty⟩ : T_Ins), (⟨0, 0, 0, 0, 0, ByteArray.empty⟩ : T_Ins), (⟨0, 0, 0, 0, 0, ByteArray.empty⟩ : T_Ins)⟩ : (A4 T_Ins)), r6, r7, (⟨(⟨0, 0, 0, 0, 0, ByteArray.empty⟩ : T_Ins), (⟨0, 0, 0, 0, 0, ByteArray.empty⟩ : T_Ins), (⟨0, 0, 0, 0, 0, ByteArray.empty⟩ : T_Ins), (⟨0, 0, 0, 0, 0, ByteArray.empty⟩ : T_Ins)⟩ : (A4 T_Ins)), r8, r9, (⟨(⟨0, 0, 0, 0, 0, ByteArray.empty⟩ : T_Ins), (⟨0, 0, 0, 0, 0, ByteArray.empty⟩ : T_Ins), (⟨0, 0, 0, 0, 0, ByteArray.empty⟩ : T_Ins), (⟨0, 0, 0, 0, 0, ByteArray.empty⟩ : T_Ins)⟩ : (A4 T_Ins)), r10] : List (A4 T_Ins))) (a1 := ([])) (h0 := (OwT.plus h12 hS (fun p hp => mB (mA (hp))))) (h1 := (SlR.nil _ _)) (hF := hr19))) (h := ?_)
 clear hS; intro w hS
 refine o_split (ht := fun c20 => ?_) (hf := fun c20 => ?_)
 · replace hF := bt c20 hF
   refine o_gu rfl rfl rfl <| oy hS y_move <| o_gu rfl rfl rfl ?_
   obtain ⟨r21, hr21, hF⟩ := ob hF
   refine o_callS hS func16 rfl rfl (hc := (w_l6_runs (a0 := ([r14, r15, (⟨(⟨0, 0, 0, 0, 0, ByteArray.empty⟩ : T_Ins), (⟨0, 0, 0, 0, 0, ByteArray.empty⟩ : T_Ins), (⟨0, 0, 0, 0, 0, ByteArray.empty⟩ : T_Ins), (⟨0, 0, 0, 0, 0, ByteArray.empty⟩ : T_Ins)⟩ : (A4 T_Ins)), (⟨(⟨0, 0, 0, 0, 0, ByteArray.empty⟩ : T_Ins), (⟨0, 0, 0, 0, 0, ByteArray.empty⟩ : T_Ins), (⟨0, 0, 0, 0, 0, ByteArray.empty⟩ : T_Ins), (⟨0, 0, 0, 0, 0, ByteArray.empty⟩ : T_Ins)⟩ : (A4 T_Ins))] : List (A4 T_Ins))) (a1 := ([])) (h0 := (OwT.plus h17 hS (fun p hp => mA (hp)))) (h1 := (SlR.nil _ _)) (hF := hr21))) (h := ?_)
   clear hS; intro w hS
   refine oy hS y_pickT ?_
   refine o_split (ht := fun c22 => ?_) (hf := fun c22 => ?_)
   · replace hF := bt c22 hF
     refine o_gu rfl rfl rfl <| oy hS y_move <| o_gu rfl rfl rfl ?_
     have hS := hS.re (.t (.there _ .h) (.t .h (.b .hb (.b .hb .n))))
     obtain ⟨hS, h23⟩ := St.frz hS h12
     obtain ⟨zs24, hzs24, hF⟩ := ob hF
     refine oy hS (y_slD hzs24 h23 underlying22 el_api_Bundle.size) <| o_gu rfl rfl rfl ?_
     obtain ⟨r25, hr25, hF⟩ := ob hF
     refine o_callS hS func16 rfl rfl (hc := (w_l6_runs (a0 := zs24) (a1 := ([])) (h0 := (SlT.sub hzs24 h23 enc_len_Bundle).plus) (h1 := (SlR.nil _ _)) (hF := hr25))) (h := ?_)
     clear hS; intro w hS
     refine oy hS y_pickT <| oy hS y_assign <| n_thenN ?_
     obtain rfl := osi hF
     exact wp_ret (wr1 (hS.less (Frag.le_plus _ _)))
   replace hF := bf c22 hF
   iterate 3 (refine o_sk rfl rfl ?_)
   refine oy hS y_pickF <| oy hS y_assign <| n_thenN ?_
   obtain rfl := osi hF
   exact wp_ret (wr1 hS)
 replace hF := bf c20 hF
 iterate 2 (refine o_sk rfl rfl ?_)
 refine oy hS y_pickF <| oy hS y_move ?_
 iterate 3 (refine o_sk rfl rfl ?_)
 refine oy hS y_pickF <| oy hS y_assign <| n_thenN ?_
 obtain rfl := osi hF
 exact wp_ret (wr1 hS)
theorem w_l6_PipeCalls {g : Frag} {a0 : T_Script} {v0_ : Value} {r : Bool} (h0 : Rd_Script g a0 v0_) (hF : l6_PipeCalls a0 = some r) : LCs Tryz.prog 4 #[v0_] g (.bool r) := w_l6_PipeCalls_ h0 hF
end Go.Proofs.YthbpicnbkdbbmaaGreat
