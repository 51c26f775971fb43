/- The law PipeStops, lifted. Printed by lift.py. -/
import Derived.Test.YthbpicnbkdbbmaaGreatProg
import Derived.Test.YthbpicnbkdbbmaaGreatP9
import Derived.KernelRfl
namespace Go.Proofs.YthbpicnbkdbbmaaGreat
open Go Go.RowKit Fr
set_option linter.unusedVariables false
set_option linter.unusedSimpArgs false
set_option maxRecDepth 20000
open Tryz
set_option maxHeartbeats 2000000
noncomputable def l6_PipeStops_k2 (a0 : T_Script) (x38 : Int) : (Int × Int × Int × Int × Int × Int × Int × Int × Int × Int × Int) → Option (Step Int Bool) := fun (x86, x87, x88, x89, x90, x91, x92, x93, x94, x95, x96) => (rem' (a0.N.length : Int) 100).bind fun x106 => (l6_runs ([(⟨(⟨23, 1, 0, 0, IntKind.i64.wrap (4 + x106), ByteArray.empty⟩ : T_Ins), (⟨0, 0, 0, 0, 0, ByteArray.empty⟩ : T_Ins), (⟨0, 0, 0, 0, 0, ByteArray.empty⟩ : T_Ins), (⟨14, 2, 0, 0, 0, ByteArray.empty⟩ : T_Ins)⟩ : (A4 T_Ins)), (⟨(⟨x86, x87, 0, 0, x88, ByteArray.empty⟩ : T_Ins), (⟨23, 6, 0, 0, 8, ByteArray.empty⟩ : T_Ins), (⟨x89, x90, x91, x92, x93, ByteArray.empty⟩ : T_Ins), (⟨x94, x95, 1, x96, 0, ByteArray.empty⟩ : T_Ins)⟩ : (A4 T_Ins)), (⟨(⟨23, 5, 0, 0, 9, ByteArray.empty⟩ : T_Ins), (⟨0, 0, 0, 0, 0, ByteArray.empty⟩ : T_Ins), (⟨0, 0, 0, 0, 0, ByteArray.empty⟩ : T_Ins), (⟨0, 0, 0, 0, 0, ByteArray.empty⟩ : T_Ins)⟩ : (A4 T_Ins))] : List (A4 T_Ins)) ([])).bind fun r110 => bif !r110 then some (.done (false)) else some (.next (IntKind.i64.wrap (x38 + 1)))
noncomputable def l6_PipeStops_b1 (a0 : T_Script) : Int → Option (Step Int Bool) := fun x38 => bif decide (x38 < 8) then cut (σ := (Int × Int × Int × Int × Int × Int × Int × Int × Int × Int × Int)) (bif decide (x38 = 0) then some (.next (32, 0, 0, 27, 0, 1, 0, 0, 14, 7, 1)) else bif decide (x38 = 1) then some (.next (23, 5, 9, 24, 8, 9, 0, (-1), 14, 7, 1)) else bif decide (x38 = 2) then some (.next (23, 5, 9, 27, 0, 1, 0, 0, 16, 8, 9)) else bif decide (x38 = 3) then some (.next (33, 0, 0, 27, 0, 1, 0, 0, 14, 7, 1)) else bif decide (x38 = 4) then some (.next (28, 0, 0, 25, 0, 9, 1, (-1), 14, 7, 1)) else bif decide (x38 = 5) then some (.next (31, 0, 0, 27, 0, 1, 0, 0, 17, 8, 9)) else some (.next (23, 5, 9, 27, 0, 1, 0, 0, 14, 7, 1))) (l6_PipeStops_k2 a0 x38) else (l6_wakes).bind fun r112 => some (.done (r112))
noncomputable def l6_PipeStops (a0 : T_Script) : Option Bool :=
  loop (σ := Int) (l6_PipeStops_b1 a0) 0
theorem w_l6_PipeStops_ {g : Frag} {a0 : T_Script} {v0_ : Value} {r : Bool} (h0 : Rd_Script g a0 v0_) (hF : l6_PipeStops a0 = some r) : LCs Tryz.prog 5 #[v0_] g (.bool r) := by
 obtain ⟨v0_0_, v0_1_, v0_2_, v0_3_, v0_5_, v0_7_, v0_9_, v0_12_, rfl, h0_0_, h0_1_, h0_2_, h0_3_, h0_5_, h0_7_, h0_9_, h0_12_⟩ := h0
 unfold l6_PipeStops at hF
 refine lc_body (k := 62) (av := [.agg (cl_Script v0_0_ v0_1_ v0_2_ v0_3_ a0.S.Taken v0_5_ a0.S.PC v0_7_ a0.S.Stop v0_9_ a0.S.Jump a0.S.Delay v0_12_).toArray]) func5 rfl rfl (h := fun W hS => ?_)
 refine c_seq <| c_region ?_
 refine o_boxP (cl := (cl_Script v0_0_ v0_1_ v0_2_ v0_3_ a0.S.Taken v0_5_ a0.S.PC v0_7_ a0.S.Stop v0_9_ a0.S.Jump a0.S.Delay v0_12_)) rfl hS ?_
 clear hS; intro b1 w hS
 refine oy hS y_assign <| n_thenN <| c_seq <| c_region ?_
 refine oy hS (y_build (cl := (enc_Ins ⟨23, 5, 0, 0, 9, ByteArray.empty⟩)) bt_api_Ins rfl (by kernel_rfl)) ?_
 refine o_allocP (cl := (enc_Ins ⟨0, 0, 0, 0, 0, ByteArray.empty⟩)) zr_api_Ins rfl hS ?_
 clear hS; intro b2 w hS
 refine o_storeW (vs := (enc_Ins ⟨23, 5, 0, 0, 9, ByteArray.empty⟩)) hS (by exact rfl) (Upd.here _) (by exact sz_api_Ins) (enc_one_Ins _) ?_
 clear hS; intro w hS
 refine n_thenN ?_
 iterate 2 (refine c_seq ?_)
 refine c_region <| oy hS y_assign <| n_thenN <| c_block ?_
 refine c_loopP hF (fun (q : Int) a w' => (∃ s : Nat → Value, a = Ac ((((Fm.dead 62 s).upd 1 (.pointer (some ⟨b1, 0, none⟩))).upd 3 (.pointer (some ⟨b2, 0, none⟩))).upd 4 (.int .i64 q))) ∧ St W g [] ((b1, blk (cl_Script v0_0_ v0_1_ v0_2_ v0_3_ a0.S.Taken v0_5_ a0.S.PC v0_7_ a0.S.Stop v0_9_ a0.S.Jump a0.S.Delay v0_12_) 29) :: ((b2, blk (enc_Ins ⟨23, 5, 0, 0, 9, ByteArray.empty⟩) 31) :: [])) w') ⟨mk_exF, (hS.re (.b (.thereb _ .hb) (.b .hb .n)))⟩ ?_
 clear hS hF
 intro n76 q a w hI hq
 revert hq hI; revert q; intro x38 hI hq
 obtain ⟨⟨s77, rfl⟩, hS⟩ := hq
 obtain ⟨z74, hF, hK75⟩ := iter_step hI
 clear hI
 dsimp only [l6_PipeStops_b1] at hF
 iterate 2 (refine c_seq ?_)
 refine c_region <| oy hS y_move <| oy hS y_bin <| n_thenN ?_
 refine c_if (ht := fun c78 => ?_) (hf := fun c78 => ?_)
 · replace hF := bt c78 hF
   refine wp_skip <| c_seq <| c_block <| c_seq <| c_region ?_
   refine oy hS (y_loadW (fun w hS => hS.own (mC (mH))) underlying31 rfl (by exact sz_api_Ins)) ?_
   refine oy hS (y_build (cl := (enc_Ins ⟨23, 6, 0, 0, 8, ByteArray.empty⟩)) bt_api_Ins rfl (by kernel_rfl)) ?_
   refine oy hS (y_build (cl := (enc_Ins ⟨27, 0, 1, 0, 0, ByteArray.empty⟩)) bt_api_Ins rfl (by kernel_rfl)) ?_
   refine oy hS (y_build (cl := (enc_Ins ⟨14, 7, 1, 1, 0, ByteArray.empty⟩)) bt_api_Ins rfl (by kernel_rfl)) ?_
   refine oy hS (y_buildA (cl := (enc_Bundle ⟨(⟨23, 5, 0, 0, 9, ByteArray.empty⟩ : T_Ins), (⟨23, 6, 0, 0, 8, ByteArray.empty⟩ : T_Ins), (⟨27, 0, 1, 0, 0, ByteArray.empty⟩ : T_Ins), (⟨14, 7, 1, 1, 0, ByteArray.empty⟩ : T_Ins)⟩)) bta_api_Bundle rfl (by kernel_rfl)) ?_
   refine o_allocP (cl := (enc_Bundle ⟨(⟨0, 0, 0, 0, 0, ByteArray.empty⟩ : T_Ins), (⟨0, 0, 0, 0, 0, ByteArray.empty⟩ : T_Ins), (⟨0, 0, 0, 0, 0, ByteArray.empty⟩ : T_Ins), (⟨0, 0, 0, 0, 0, ByteArray.empty⟩ : T_Ins)⟩)) zr_api_Bundle rfl hS ?_
   clear hS; intro b79 w hS
   refine o_storeW (vs := (enc_Bundle ⟨(⟨23, 5, 0, 0, 9, ByteArray.empty⟩ : T_Ins), (⟨23, 6, 0, 0, 8, ByteArray.empty⟩ : T_Ins), (⟨27, 0, 1, 0, 0, ByteArray.empty⟩ : T_Ins), (⟨14, 7, 1, 1, 0, ByteArray.empty⟩ : T_Ins)⟩)) hS (by exact rfl) (Upd.here _) (by exact sz_api_Bundle) (enc_one_Bundle _) ?_
   clear hS; intro w hS
   refine n_thenN ?_
   obtain ⟨z97, hF, hK98⟩ := cut_step hF
   refine c_cutP (fun a w' => ∃ (x86 : Int) (x87 : Int) (x88 : Int) (x89 : Int) (x90 : Int) (x91 : Int) (x92 : Int) (x93 : Int) (x94 : Int) (x95 : Int) (x96 : Int), l6_PipeStops_k2 a0 x38 (x86, x87, x88, x89, x90, x91, x92, x93, x94, x95, x96) = some z74 ∧ (∃ s : Nat → Value, a = Ac (((((Fm.dead 62 s).upd 1 (.pointer (some ⟨b1, 0, none⟩))).upd 3 (.pointer (some ⟨b2, 0, none⟩))).upd 4 (.int .i64 x38)).upd 5 (.pointer (some ⟨b79, 0, none⟩)))) ∧ St W g [] ((b1, blk (cl_Script v0_0_ v0_1_ v0_2_ v0_3_ a0.S.Taken v0_5_ a0.S.PC v0_7_ a0.S.Stop v0_9_ a0.S.Jump a0.S.Delay v0_12_) 29) :: ((b2, blk (enc_Ins ⟨23, 5, 0, 0, 9, ByteArray.empty⟩) 31) :: ((b79, blk (enc_Bundle ⟨(⟨x86, x87, 0, 0, x88, ByteArray.empty⟩ : T_Ins), (⟨23, 6, 0, 0, 8, ByteArray.empty⟩ : T_Ins), (⟨x89, x90, x91, x92, x93, ByteArray.empty⟩ : T_Ins), (⟨x94, x95, 1, x96, 0, ByteArray.empty⟩ : T_Ins)⟩) 34) :: []))) w') ?_ ?_
   · skip
     refine c_seq <| c_region <| oy hS y_move <| n_thenN <| c_block <| c_seq <| c_region <| oy hS y_bin ?_
     refine oy hS y_assign <| n_thenN ?_
     refine c_if (ht := fun c99 => ?_) (hf := fun c99 => ?_)
     · replace hF := bt c99 hF
       refine c_region ?_
       refine oy hS (y_build (cl := (enc_Ins ⟨32, 0, 0, 0, 0, ByteArray.empty⟩)) bt_api_Ins rfl (by kernel_rfl)) ?_
       refine oy hS (y_indexA (i := 0) (n := 4) (by decide) (by decide) underlying34 (by exact sz_api_Ins)) ?_
       refine o_storeAN (o := 0) (cl' := (enc_Bundle ⟨(⟨32, 0, 0, 0, 0, ByteArray.empty⟩ : T_Ins), (⟨23, 6, 0, 0, 8, ByteArray.empty⟩ : T_Ins), (⟨27, 0, 1, 0, 0, ByteArray.empty⟩ : T_Ins), (⟨14, 7, 1, 1, 0, ByteArray.empty⟩ : T_Ins)⟩)) (vs := (enc_Ins ⟨32, 0, 0, 0, 0, ByteArray.empty⟩)) hS (by kernel_rfl) (by exact Nat.le_of_ble_eq_true rfl) (Upd.here _) (by exact sz_api_Ins) (enc_one_Ins _) ?_
       clear hS; intro w hS
       refine n_anyN ?_
       obtain rfl := osi hF
       change ∃ _, _
       exact ⟨32, 0, 0, 27, 0, 1, 0, 0, 14, 7, 1, hK98, mk_exF, (hS.re (.b (.thereb _ .hb) (.b (.thereb _ .hb) (.b .hb .n))))⟩
     replace hF := bf c99 hF
     refine c_seq <| c_region <| oy hS y_bin <| oy hS y_assign <| n_thenN ?_
     refine c_if (ht := fun c100 => ?_) (hf := fun c100 => ?_)
     · replace hF := bt c100 hF
       refine c_region ?_
       refine oy hS (y_build (cl := (enc_Ins ⟨24, 8, 9, 0, (-1), ByteArray.empty⟩)) bt_api_Ins rfl (by kernel_rfl)) ?_
       refine oy hS (y_indexA (i := 2) (n := 4) (by decide) (by decide) underlying34 (by exact sz_api_Ins)) ?_
       refine o_storeAN (o := 12) (cl' := (enc_Bundle ⟨(⟨23, 5, 0, 0, 9, ByteArray.empty⟩ : T_Ins), (⟨23, 6, 0, 0, 8, ByteArray.empty⟩ : T_Ins), (⟨24, 8, 9, 0, (-1), ByteArray.empty⟩ : T_Ins), (⟨14, 7, 1, 1, 0, ByteArray.empty⟩ : T_Ins)⟩)) (vs := (enc_Ins ⟨24, 8, 9, 0, (-1), ByteArray.empty⟩)) hS (by kernel_rfl) (by exact Nat.le_of_ble_eq_true rfl) (Upd.here _) (by exact sz_api_Ins) (enc_one_Ins _) ?_
       clear hS; intro w hS
       refine n_anyN ?_
       obtain rfl := osi hF
       change ∃ _, _
       exact ⟨23, 5, 9, 24, 8, 9, 0, (-1), 14, 7, 1, hK98, mk_exF, (hS.re (.b (.thereb _ .hb) (.b (.thereb _ .hb) (.b .hb .n))))⟩
     replace hF := bf c100 hF
     refine c_seq <| c_region <| oy hS y_bin <| oy hS y_assign <| n_thenN ?_
     refine c_if (ht := fun c101 => ?_) (hf := fun c101 => ?_)
     · replace hF := bt c101 hF
       refine c_region ?_
       refine oy hS (y_build (cl := (enc_Ins ⟨16, 8, 1, 9, 0, ByteArray.empty⟩)) bt_api_Ins rfl (by kernel_rfl)) ?_
       refine oy hS (y_indexA (i := 3) (n := 4) (by decide) (by decide) underlying34 (by exact sz_api_Ins)) ?_
       refine o_storeAN (o := 18) (cl' := (enc_Bundle ⟨(⟨23, 5, 0, 0, 9, ByteArray.empty⟩ : T_Ins), (⟨23, 6, 0, 0, 8, ByteArray.empty⟩ : T_Ins), (⟨27, 0, 1, 0, 0, ByteArray.empty⟩ : T_Ins), (⟨16, 8, 1, 9, 0, ByteArray.empty⟩ : T_Ins)⟩)) (vs := (enc_Ins ⟨16, 8, 1, 9, 0, ByteArray.empty⟩)) hS (by kernel_rfl) (by exact Nat.le_of_ble_eq_true rfl) (Upd.here _) (by exact sz_api_Ins) (enc_one_Ins _) ?_
       clear hS; intro w hS
       refine n_anyN ?_
       obtain rfl := osi hF
       change ∃ _, _
       exact ⟨23, 5, 9, 27, 0, 1, 0, 0, 16, 8, 9, hK98, mk_exF, (hS.re (.b (.thereb _ .hb) (.b (.thereb _ .hb) (.b .hb .n))))⟩
     replace hF := bf c101 hF
     refine c_seq <| c_region <| oy hS y_bin <| oy hS y_assign <| n_thenN ?_
     refine c_if (ht := fun c102 => ?_) (hf := fun c102 => ?_)
     · replace hF := bt c102 hF
       refine c_region ?_
       refine oy hS (y_build (cl := (enc_Ins ⟨33, 0, 0, 0, 0, ByteArray.empty⟩)) bt_api_Ins rfl (by kernel_rfl)) ?_
       refine oy hS (y_indexA (i := 0) (n := 4) (by decide) (by decide) underlying34 (by exact sz_api_Ins)) ?_
       refine o_storeAN (o := 0) (cl' := (enc_Bundle ⟨(⟨33, 0, 0, 0, 0, ByteArray.empty⟩ : T_Ins), (⟨23, 6, 0, 0, 8, ByteArray.empty⟩ : T_Ins), (⟨27, 0, 1, 0, 0, ByteArray.empty⟩ : T_Ins), (⟨14, 7, 1, 1, 0, ByteArray.empty⟩ : T_Ins)⟩)) (vs := (enc_Ins ⟨33, 0, 0, 0, 0, ByteArray.empty⟩)) hS (by kernel_rfl) (by exact Nat.le_of_ble_eq_true rfl) (Upd.here _) (by exact sz_api_Ins) (enc_one_Ins _) ?_
       clear hS; intro w hS
       refine n_anyN ?_
       obtain rfl := osi hF
       change ∃ _, _
       exact ⟨33, 0, 0, 27, 0, 1, 0, 0, 14, 7, 1, hK98, mk_exF, (hS.re (.b (.thereb _ .hb) (.b (.thereb _ .hb) (.b .hb .n))))⟩
     replace hF := bf c102 hF
     refine c_seq <| c_region <| oy hS y_bin <| oy hS y_assign <| n_thenN ?_
     refine c_if (ht := fun c103 => ?_) (hf := fun c103 => ?_)
     · replace hF := bt c103 hF
       refine c_region ?_
       refine oy hS (y_build (cl := (enc_Ins ⟨28, 0, 0, 0, 0, ByteArray.empty⟩)) bt_api_Ins rfl (by kernel_rfl)) ?_
       refine oy hS (y_build (cl := (enc_Ins ⟨25, 0, 9, 1, (-1), ByteArray.empty⟩)) bt_api_Ins rfl (by kernel_rfl)) ?_
       refine oy hS (y_indexA (i := 0) (n := 4) (by decide) (by decide) underlying34 (by exact sz_api_Ins)) ?_
       refine o_storeAN (o := 0) (cl' := (enc_Bundle ⟨(⟨28, 0, 0, 0, 0, ByteArray.empty⟩ : T_Ins), (⟨23, 6, 0, 0, 8, ByteArray.empty⟩ : T_Ins), (⟨27, 0, 1, 0, 0, ByteArray.empty⟩ : T_Ins), (⟨14, 7, 1, 1, 0, ByteArray.empty⟩ : T_Ins)⟩)) (vs := (enc_Ins ⟨28, 0, 0, 0, 0, ByteArray.empty⟩)) hS (by kernel_rfl) (by exact Nat.le_of_ble_eq_true rfl) (Upd.here _) (by exact sz_api_Ins) (enc_one_Ins _) ?_
       clear hS; intro w hS
       refine oy hS (y_indexA (i := 2) (n := 4) (by decide) (by decide) underlying34 (by exact sz_api_Ins)) ?_
       refine o_storeAN (o := 12) (cl' := (enc_Bundle ⟨(⟨28, 0, 0, 0, 0, ByteArray.empty⟩ : T_Ins), (⟨23, 6, 0, 0, 8, ByteArray.empty⟩ : T_Ins), (⟨25, 0, 9, 1, (-1), ByteArray.empty⟩ : T_Ins), (⟨14, 7, 1, 1, 0, ByteArray.empty⟩ : T_Ins)⟩)) (vs := (enc_Ins ⟨25, 0, 9, 1, (-1), ByteArray.empty⟩)) hS (by kernel_rfl) (by exact Nat.le_of_ble_eq_true rfl) (Upd.here _) (by exact sz_api_Ins) (enc_one_Ins _) ?_
       clear hS; intro w hS
       refine n_anyN ?_
       obtain rfl := osi hF
       change ∃ _, _
       exact ⟨28, 0, 0, 25, 0, 9, 1, (-1), 14, 7, 1, hK98, mk_exF, (hS.re (.b (.thereb _ .hb) (.b (.thereb _ .hb) (.b .hb .n))))⟩
     replace hF := bf c103 hF
     refine c_seq <| c_region <| oy hS y_bin <| oy hS y_assign <| n_thenN ?_
     refine c_if (ht := fun c104 => ?_) (hf := fun c104 => ?_)
     · replace hF := bt c104 hF
       refine c_region ?_
       refine oy hS (y_build (cl := (enc_Ins ⟨31, 0, 0, 0, 0, ByteArray.empty⟩)) bt_api_Ins rfl (by kernel_rfl)) ?_
       refine oy hS (y_build (cl := (enc_Ins ⟨17, 8, 1, 9, 0, ByteArray.empty⟩)) bt_api_Ins rfl (by kernel_rfl)) ?_
       refine oy hS (y_indexA (i := 0) (n := 4) (by decide) (by decide) underlying34 (by exact sz_api_Ins)) ?_
       refine o_storeAN (o := 0) (cl' := (enc_Bundle ⟨(⟨31, 0, 0, 0, 0, ByteArray.empty⟩ : T_Ins), (⟨23, 6, 0, 0, 8, ByteArray.empty⟩ : T_Ins), (⟨27, 0, 1, 0, 0, ByteArray.empty⟩ : T_Ins), (⟨14, 7, 1, 1, 0, ByteArray.empty⟩ : T_Ins)⟩)) (vs := (enc_Ins ⟨31, 0, 0, 0, 0, ByteArray.empty⟩)) hS (by kernel_rfl) (by exact Nat.le_of_ble_eq_true rfl) (Upd.here _) (by exact sz_api_Ins) (enc_one_Ins _) ?_
       clear hS; intro w hS
       refine oy hS (y_indexA (i := 3) (n := 4) (by decide) (by decide) underlying34 (by exact sz_api_Ins)) ?_
       refine o_storeAN (o := 18) (cl' := (enc_Bundle ⟨(⟨31, 0, 0, 0, 0, ByteArray.empty⟩ : T_Ins), (⟨23, 6, 0, 0, 8, ByteArray.empty⟩ : T_Ins), (⟨27, 0, 1, 0, 0, ByteArray.empty⟩ : T_Ins), (⟨17, 8, 1, 9, 0, ByteArray.empty⟩ : T_Ins)⟩)) (vs := (enc_Ins ⟨17, 8, 1, 9, 0, ByteArray.empty⟩)) hS (by kernel_rfl) (by exact Nat.le_of_ble_eq_true rfl) (Upd.here _) (by exact sz_api_Ins) (enc_one_Ins _) ?_
       clear hS; intro w hS
       refine n_anyN ?_
       obtain rfl := osi hF
       change ∃ _, _
       exact ⟨31, 0, 0, 27, 0, 1, 0, 0, 17, 8, 9, hK98, mk_exF, (hS.re (.b (.thereb _ .hb) (.b (.thereb _ .hb) (.b .hb .n))))⟩
     replace hF := bf c104 hF
     refine wp_skip ?_
     obtain rfl := osi hF
     change ∃ _, _
     exact ⟨23, 5, 9, 27, 0, 1, 0, 0, 14, 7, 1, hK98, mk_exF, (hS.re (.b (.thereb _ .hb) (.b (.thereb _ .hb) (.b .hb .n))))⟩
   rintro a w ⟨x86, x87, x88, x89, x90, x91, x92, x93, x94, x95, x96, hF, ⟨s105, rfl⟩, hS⟩
   dsimp only [l6_PipeStops_k2] at hF
   refine c_seq <| c_region <| oy hS (y_field fa_sledgelaw6_Script_2) <| oy hS (y_load (fun w hS => hS.own (mH)) underlying24 rfl rfl) <| oy hS (y_len h0_12_ underlying24) ?_
   obtain ⟨x106, hx106, hF⟩ := ob hF
   refine oy hS (y_rem hx106) <| oy hS y_bin ?_
   refine oy hS (y_build (cl := (enc_Ins ⟨23, 1, 0, 0, IntKind.i64.wrap (4 + x106), ByteArray.empty⟩)) bt_api_Ins rfl (by kernel_rfl)) ?_
   iterate 2 (refine oy hS (y_build (cl := (enc_Ins ⟨0, 0, 0, 0, 0, ByteArray.empty⟩)) bt_api_Ins rfl (by kernel_rfl)) ?_)
   refine oy hS (y_build (cl := (enc_Ins ⟨14, 2, 0, 0, 0, ByteArray.empty⟩)) bt_api_Ins rfl (by kernel_rfl)) ?_
   refine oy hS (y_buildA (cl := (enc_Bundle ⟨(⟨23, 1, 0, 0, IntKind.i64.wrap (4 + x106), ByteArray.empty⟩ : T_Ins), (⟨0, 0, 0, 0, 0, ByteArray.empty⟩ : T_Ins), (⟨0, 0, 0, 0, 0, ByteArray.empty⟩ : T_Ins), (⟨14, 2, 0, 0, 0, ByteArray.empty⟩ : T_Ins)⟩)) bta_api_Bundle rfl (by kernel_rfl)) ?_
   refine oy hS (y_loadW (fun w hS => hS.own (mC (mC (mH)))) underlying34 rfl (by exact sz_api_Bundle)) ?_
   refine oy hS (y_loadW (fun w hS => hS.own (mC (mH))) underlying31 rfl (by exact sz_api_Ins)) ?_
   refine oy hS (y_buildA (cl := (enc_Bundle ⟨(⟨23, 5, 0, 0, 9, ByteArray.empty⟩ : T_Ins), (⟨0, 0, 0, 0, 0, ByteArray.empty⟩ : T_Ins), (⟨0, 0, 0, 0, 0, ByteArray.empty⟩ : T_Ins), (⟨0, 0, 0, 0, 0, ByteArray.empty⟩ : T_Ins)⟩)) bta_api_Bundle rfl (by kernel_rfl)) ?_
   refine o_buildT val_Bundle ([(⟨(⟨23, 1, 0, 0, IntKind.i64.wrap (4 + x106), ByteArray.empty⟩ : T_Ins), (⟨0, 0, 0, 0, 0, ByteArray.empty⟩ : T_Ins), (⟨0, 0, 0, 0, 0, ByteArray.empty⟩ : T_Ins), (⟨14, 2, 0, 0, 0, ByteArray.empty⟩ : T_Ins)⟩ : (A4 T_Ins)), (⟨(⟨x86, x87, 0, 0, x88, ByteArray.empty⟩ : T_Ins), (⟨23, 6, 0, 0, 8, ByteArray.empty⟩ : T_Ins), (⟨x89, x90, x91, x92, x93, ByteArray.empty⟩ : T_Ins), (⟨x94, x95, 1, x96, 0, ByteArray.empty⟩ : T_Ins)⟩ : (A4 T_Ins)), (⟨(⟨23, 5, 0, 0, 9, ByteArray.empty⟩ : T_Ins), (⟨0, 0, 0, 0, 0, ByteArray.empty⟩ : T_Ins), (⟨0, 0, 0, 0, 0, ByteArray.empty⟩ : T_Ins), (⟨0, 0, 0, 0, 0, ByteArray.empty⟩ : T_Ins)⟩ : (A4 T_Ins))] : List (A4 T_Ins)) hS el_api_Bundle (fun _ => rfl) enc_len_Bundle (by decide) rfl (by decide) (hp := rfl) (h := ?_)
   clear hS; intro b107 w hS h108
   have hS : St W g [] ([(b107, blk (([(⟨(⟨23, 1, 0, 0, IntKind.i64.wrap (4 + x106), ByteArray.empty⟩ : T_Ins), (⟨0, 0, 0, 0, 0, ByteArray.empty⟩ : T_Ins), (⟨0, 0, 0, 0, 0, ByteArray.empty⟩ : T_Ins), (⟨14, 2, 0, 0, 0, ByteArray.empty⟩ : T_Ins)⟩ : (A4 T_Ins)), (⟨(⟨x86, x87, 0, 0, x88, ByteArray.empty⟩ : T_Ins), (⟨23, 6, 0, 0, 8, ByteArray.empty⟩ : T_Ins), (⟨x89, x90, x91, x92, x93, ByteArray.empty⟩ : T_Ins), (⟨x94, x95, 1, x96, 0, ByteArray.empty⟩ : T_Ins)⟩ : (A4 T_Ins)), (⟨(⟨23, 5, 0, 0, 9, ByteArray.empty⟩ : T_Ins), (⟨0, 0, 0, 0, 0, ByteArray.empty⟩ : T_Ins), (⟨0, 0, 0, 0, 0, ByteArray.empty⟩ : T_Ins), (⟨0, 0, 0, 0, 0, ByteArray.empty⟩ : T_Ins)⟩ : (A4 T_Ins))] : List (A4 T_Ins)).flatMap enc_Bundle) 34)] ++ ((b1, blk (cl_Script v0_0_ v0_1_ v0_2_ v0_3_ a0.S.Taken v0_5_ a0.S.PC v0_7_ a0.S.Stop v0_9_ a0.S.Jump a0.S.Delay v0_12_) 29) :: ((b2, blk (enc_Ins ⟨23, 5, 0, 0, 9, ByteArray.empty⟩) 31) :: ((b79, blk (enc_Bundle ⟨(⟨x86, x87, 0, 0, x88, ByteArray.empty⟩ : T_Ins), (⟨23, 6, 0, 0, 8, ByteArray.empty⟩ : T_Ins), (⟨x89, x90, x91, x92, x93, ByteArray.empty⟩ : T_Ins), (⟨x94, x95, 1, x96, 0, ByteArray.empty⟩ : T_Ins)⟩) 34) :: [])))) w := hS
   obtain ⟨r110, hr110, hF⟩ := ob hF
   refine o_callS hS func16 rfl rfl (hc := (w_l6_runs (a0 := ([(⟨(⟨23, 1, 0, 0, IntKind.i64.wrap (4 + x106), ByteArray.empty⟩ : T_Ins), (⟨0, 0, 0, 0, 0, ByteArray.empty⟩ : T_Ins), (⟨0, 0, 0, 0, 0, ByteArray.empty⟩ : T_Ins), (⟨14, 2, 0, 0, 0, ByteArray.empty⟩ : T_Ins)⟩ : (A4 T_Ins)), (⟨(⟨x86, x87, 0, 0, x88, ByteArray.empty⟩ : T_Ins), (⟨23, 6, 0, 0, 8, ByteArray.empty⟩ : T_Ins), (⟨x89, x90, x91, x92, x93, ByteArray.empty⟩ : T_Ins), (⟨x94, x95, 1, x96, 0, ByteArray.empty⟩ : T_Ins)⟩ : (A4 T_Ins)), (⟨(⟨23, 5, 0, 0, 9, ByteArray.empty⟩ : T_Ins), (⟨0, 0, 0, 0, 0, ByteArray.empty⟩ : T_Ins), (⟨0, 0, 0, 0, 0, ByteArray.empty⟩ : T_Ins), (⟨0, 0, 0, 0, 0, ByteArray.empty⟩ : T_Ins)⟩ : (A4 T_Ins))] : List (A4 T_Ins))) (a1 := ([])) (h0 := (OwT.plus h108 hS (fun p hp => mA (hp)))) (h1 := (SlR.nil _ _)) (hF := hr110))) (h := ?_)
   clear hS; intro w hS
   refine oy hS y_not <| n_thenN ?_
   refine c_if (ht := fun c111 => ?_) (hf := fun c111 => ?_)
   · replace hF := bt c111 hF
     refine c_seq <| c_region <| oy hS y_assign <| n_thenN ?_
     obtain rfl := osi hF
     obtain rfl : _ = r := hK75
     exact wp_ret (wr1 hS)
   replace hF := bf c111 hF
   refine wp_skip <| c_region <| oy hS y_move <| oy hS y_bin <| oy hS y_assign <| n_thenN ?_
   obtain rfl := osi hF
   exact ⟨_, hK75, mk_exF, (hS.re (.b (.there _ .hb) (.b (.there _ .hb) .n)))⟩
 replace hF := bf c78 hF
 refine wp_exit ?_
 refine c_seq <| c_region ?_
 obtain ⟨r112, hr112, hF⟩ := ob hF
 refine o_callS hS func17 rfl rfl (hc := (w_l6_wakes  (hF := hr112))) (h := ?_)
 clear hS; intro w hS
 refine oy hS y_assign <| n_thenN ?_
 obtain rfl := osi hF
 obtain rfl : _ = r := hK75
 exact wp_ret (wr1 hS)
theorem w_l6_PipeStops {g : Frag} {a0 : T_Script} {v0_ : Value} {r : Bool} (h0 : Rd_Script g a0 v0_) (hF : l6_PipeStops a0 = some r) : LCs Tryz.prog 5 #[v0_] g (.bool r) := w_l6_PipeStops_ h0 hF
end Go.Proofs.YthbpicnbkdbbmaaGreat
