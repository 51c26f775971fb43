/- Functions, lifted. Printed by lift.py. -/
import Derived.Test.YtjmmkbehdbpklaaProg
import Derived.Test.YtjmmkbehdbpklaaP2
import Derived.KernelRfl
namespace Go.Proofs.Ytjmmkbehdbpklaa
open Go Go.RowKit Fr
set_option linter.unusedVariables false
set_option linter.unusedSimpArgs false
set_option maxRecDepth 20000
open Try
set_option maxHeartbeats 2000000
noncomputable def bits_Ins_k3 (x2 : Int) (a0 : Int) (x9 : Int) (x15 : Int) : Int → Option (T_Ins × Int) := fun x22 => bif (isa_Target (isa_Shape (IntKind.i64.wrap x2))) then (word_Low (IntKind.i64.wrap a0) (isa_Bits (isa_Shape (IntKind.i64.wrap x2)))).bind fun r29 => (isa_IsIns (⟨IntKind.i64.wrap x2, x9, x15, x22, IntKind.i64.wrap r29, ByteArray.empty⟩ : T_Ins)).bind fun r30 => bif !r30 then some ((⟨0, 0, 0, 0, 0, ByteArray.empty⟩ : T_Ins), 8) else (bits_Pack (⟨IntKind.i64.wrap x2, x9, x15, x22, IntKind.i64.wrap r29, ByteArray.empty⟩ : T_Ins)).bind fun r32 => bif decide (r32 ≠ a0) then some ((⟨0, 0, 0, 0, 0, ByteArray.empty⟩ : T_Ins), 8) else some ((⟨IntKind.i64.wrap x2, x9, x15, x22, IntKind.i64.wrap r29, ByteArray.empty⟩ : T_Ins), 0) else bif decide (0 < (isa_Bits (isa_Shape (IntKind.i64.wrap x2)))) then (word_Signed a0 (isa_Bits (isa_Shape (IntKind.i64.wrap x2)))).bind fun r35 => (isa_IsIns (⟨IntKind.i64.wrap x2, x9, x15, x22, r35, ByteArray.empty⟩ : T_Ins)).bind fun r36 => bif !r36 then some ((⟨0, 0, 0, 0, 0, ByteArray.empty⟩ : T_Ins), 8) else (bits_Pack (⟨IntKind.i64.wrap x2, x9, x15, x22, r35, ByteArray.empty⟩ : T_Ins)).bind fun r38 => bif decide (r38 ≠ a0) then some ((⟨0, 0, 0, 0, 0, ByteArray.empty⟩ : T_Ins), 8) else some ((⟨IntKind.i64.wrap x2, x9, x15, x22, r35, ByteArray.empty⟩ : T_Ins), 0) else (isa_IsIns (⟨IntKind.i64.wrap x2, x9, x15, x22, 0, ByteArray.empty⟩ : T_Ins)).bind fun r40 => bif !r40 then some ((⟨0, 0, 0, 0, 0, ByteArray.empty⟩ : T_Ins), 8) else (bits_Pack (⟨IntKind.i64.wrap x2, x9, x15, x22, 0, ByteArray.empty⟩ : T_Ins)).bind fun r42 => bif decide (r42 ≠ a0) then some ((⟨0, 0, 0, 0, 0, ByteArray.empty⟩ : T_Ins), 8) else some ((⟨IntKind.i64.wrap x2, x9, x15, x22, 0, ByteArray.empty⟩ : T_Ins), 0)
noncomputable def bits_Ins_k2 (x2 : Int) (x7 : Int) (x5 : Int) (a0 : Int) (x9 : Int) : Int → Option (T_Ins × Int) := fun x15 => cut (σ := Int) (bif decide ((isa_Shape (IntKind.i64.wrap x2)) = 1) then some (.next (IntKind.i64.wrap (bits .and .u32 x7 15))) else bif decide ((isa_Shape (IntKind.i64.wrap x2)) = 5) then some (.next (IntKind.i64.wrap (bits .and .u32 x5 15))) else some (.next 0)) (bits_Ins_k3 x2 a0 x9 x15)
noncomputable def bits_Ins_k1 (x2 : Int) (x6 : Int) (x7 : Int) (x5 : Int) (a0 : Int) : Int → Option (T_Ins × Int) := fun x9 => cut (σ := Int) (bif (isa_HasA (isa_Shape (IntKind.i64.wrap x2))) then some (.next (IntKind.i64.wrap (bits .and .u32 x6 15))) else some (.next 0)) (bits_Ins_k2 x2 x7 x5 a0 x9)
noncomputable def bits_Ins (a0 : Int) : Option (T_Ins × Int) :=
  (shr' .u32 a0 26).bind fun x2 => bif !(isa_Is (IntKind.i64.wrap x2)) then some ((⟨0, 0, 0, 0, 0, ByteArray.empty⟩ : T_Ins), 8) else (shr' .u32 a0 22).bind fun x5 => (shr' .u32 a0 18).bind fun x6 => (shr' .u32 a0 14).bind fun x7 => cut (σ := Int) (bif (isa_HasD (isa_Shape (IntKind.i64.wrap x2))) then some (.next (IntKind.i64.wrap (bits .and .u32 x5 15))) else some (.next 0)) (bits_Ins_k1 x2 x6 x7 x5 a0)
theorem w_bits_Ins_ {g : Frag} {a0 : Int} {r : (T_Ins × Int)}  (hF : bits_Ins a0 = some r) : LCs Try.prog 61 #[.int .u32 a0] g (.tuple #[.agg (enc_Ins r.1).toArray, .int .i64 r.2]) := by
 unfold bits_Ins at hF
 refine lc_body (k := 78) (av := [.int .u32 a0]) func61 rfl rfl (h := fun W hS => ?_)
 refine c_seq <| c_region ?_
 refine o_allocP (cl := (enc_Ins ⟨0, 0, 0, 0, 0, ByteArray.empty⟩)) zr_api_Ins rfl hS ?_
 clear hS; intro b1 w hS
 refine oy hS y_assign <| n_thenN <| c_seq <| c_region <| oy hS y_move ?_
 obtain ⟨x2, hx2, hF⟩ := ob hF
 refine oy hS (y_shr hx2) <| oy hS (y_conv underlying38 underlying3) ?_
 refine oy hS (y_build (cl := (enc_Ins ⟨IntKind.i64.wrap x2, 0, 0, 0, 0, ByteArray.empty⟩)) bt_api_Ins rfl (by kernel_rfl)) ?_
 refine o_allocP (cl := (enc_Ins ⟨0, 0, 0, 0, 0, ByteArray.empty⟩)) zr_api_Ins rfl hS ?_
 clear hS; intro b3 w hS
 refine o_storeW (vs := (enc_Ins ⟨IntKind.i64.wrap x2, 0, 0, 0, 0, ByteArray.empty⟩)) hS (by exact rfl) (Upd.here _) (by exact sz_api_Ins) (enc_one_Ins _) ?_
 clear hS; intro w hS
 refine n_thenN ?_
 iterate 2 (refine c_seq ?_)
 refine c_region <| oy hS (y_field fa_api_Ins_0) <| oy hS (y_load oH underlying3 rfl rfl) ?_
 refine o_callS hS func79 rfl rfl (hc := (w_isa_Is (a0 := (IntKind.i64.wrap x2)))) (h := ?_)
 clear hS; intro w hS
 refine oy hS y_not <| n_thenN ?_
 refine c_if (ht := fun c4 => ?_) (hf := fun c4 => ?_)
 · replace hF := bt c4 hF
   refine c_seq <| c_region ?_
   refine oy hS (y_build (cl := (enc_Ins ⟨0, 0, 0, 0, 0, ByteArray.empty⟩)) bt_api_Ins rfl (by kernel_rfl)) ?_
   refine o_storeW (vs := (enc_Ins ⟨0, 0, 0, 0, 0, ByteArray.empty⟩)) hS (by exact rfl) (Upd.there _ (Upd.here _)) (by exact sz_api_Ins) (enc_one_Ins _) ?_
   clear hS; intro w hS
   refine oy hS y_assign <| n_thenN ?_
   obtain rfl := osi hF
   refine wp_ret (r_ret (vs := [.agg (enc_Ins ⟨0, 0, 0, 0, 0, ByteArray.empty⟩).toArray, .int .i64 8]) (hS.re (.nil _)) (rsC (res_cell (hS.own (mC (mH))) underlying78 rfl (by exact sz_api_Ins)) (rsC res_tmp rsN)) rfl ⟨rfl, rfl⟩)
 replace hF := bf c4 hF
 refine wp_skip <| c_seq <| c_region <| oy hS (y_field fa_api_Ins_0) <| oy hS (y_load oH underlying3 rfl rfl) ?_
 refine o_callS hS func80 rfl rfl (hc := (w_isa_Shape (a0 := (IntKind.i64.wrap x2)))) (h := ?_)
 clear hS; intro w hS
 refine oy hS y_assign <| n_thenN <| c_seq <| c_region <| oy hS y_move ?_
 obtain ⟨x5, hx5, hF⟩ := ob hF
 refine oy hS (y_shr hx5) <| oy hS y_bin <| oy hS (y_conv underlying38 underlying3) <| oy hS y_move ?_
 obtain ⟨x6, hx6, hF⟩ := ob hF
 refine oy hS (y_shr hx6) <| oy hS y_bin <| oy hS (y_conv underlying38 underlying3) <| oy hS y_move ?_
 obtain ⟨x7, hx7, hF⟩ := ob hF
 refine oy hS (y_shr hx7) <| oy hS y_bin <| oy hS (y_conv underlying38 underlying3) ?_
 iterate 3 (refine oy hS y_assign ?_)
 refine n_thenN ?_
 obtain ⟨z10, hF, D0⟩ := cut_step hF
 refine c_cutP (fun a w' => ∃ (x9 : Int), bits_Ins_k1 x2 x6 x7 x5 a0 x9 = some r ∧ (∃ s : Nat → Value, a = Ac ((((((((Fm.dead 78 s).upd 0 (.int .u32 a0)).upd 2 (.pointer (some ⟨b1, 0, none⟩))).upd 4 (.pointer (some ⟨b3, 0, none⟩))).upd 5 (.int .i64 (isa_Shape (IntKind.i64.wrap x2)))).upd 6 (.int .i64 (IntKind.i64.wrap (bits .and .u32 x5 15)))).upd 7 (.int .i64 (IntKind.i64.wrap (bits .and .u32 x6 15)))).upd 8 (.int .i64 (IntKind.i64.wrap (bits .and .u32 x7 15))))) ∧ St W g [] ((b1, blk (enc_Ins ⟨0, 0, 0, 0, 0, ByteArray.empty⟩) 78) :: ((b3, blk (enc_Ins ⟨IntKind.i64.wrap x2, x9, 0, 0, 0, ByteArray.empty⟩) 78) :: [])) w') ?_ ?_
 · skip
   refine c_seq <| c_region <| oy hS y_move ?_
   refine o_callS hS func81 rfl rfl (hc := (w_isa_HasD (a0 := (isa_Shape (IntKind.i64.wrap x2))))) (h := ?_)
   clear hS; intro w hS
   refine n_thenN ?_
   refine c_if (ht := fun c12 => ?_) (hf := fun c12 => ?_)
   · replace hF := bt c12 hF
     refine c_region <| oy hS y_move <| oy hS (y_field fa_api_Ins_1) ?_
     refine o_storeA1 (o := 1) (cl' := (enc_Ins ⟨IntKind.i64.wrap x2, IntKind.i64.wrap (bits .and .u32 x5 15), 0, 0, 0, ByteArray.empty⟩)) hS (by kernel_rfl) (by exact Nat.le_of_ble_eq_true rfl) (Upd.here _) (by exact sz_int) rfl rfl ?_
     clear hS; intro w hS
     refine n_thenN ?_
     obtain rfl := osi hF
     change ∃ _, _
     exact ⟨IntKind.i64.wrap (bits .and .u32 x5 15), D0, mk_exF, (hS.re (.b (.e .hb) (.b .hb .n)))⟩
   replace hF := bf c12 hF
   refine wp_skip ?_
   obtain rfl := osi hF
   change ∃ _, _
   exact ⟨0, D0, mk_exF, (hS.re (.b (.e .hb) (.b .hb .n)))⟩
 rintro a w ⟨x9, hF, ⟨s13, rfl⟩, hS⟩
 dsimp only [bits_Ins_k1] at hF
 obtain ⟨z16, hF, E0⟩ := cut_step hF
 refine c_cutP (fun a w' => ∃ (x15 : Int), bits_Ins_k2 x2 x7 x5 a0 x9 x15 = some r ∧ (∃ s : Nat → Value, a = Ac (((((((Fm.dead 78 s).upd 0 (.int .u32 a0)).upd 2 (.pointer (some ⟨b1, 0, none⟩))).upd 4 (.pointer (some ⟨b3, 0, none⟩))).upd 5 (.int .i64 (isa_Shape (IntKind.i64.wrap x2)))).upd 6 (.int .i64 (IntKind.i64.wrap (bits .and .u32 x5 15)))).upd 8 (.int .i64 (IntKind.i64.wrap (bits .and .u32 x7 15))))) ∧ St W g [] ((b1, blk (enc_Ins ⟨0, 0, 0, 0, 0, ByteArray.empty⟩) 78) :: ((b3, blk (enc_Ins ⟨IntKind.i64.wrap x2, x9, x15, 0, 0, ByteArray.empty⟩) 78) :: [])) w') ?_ ?_
 · skip
   refine c_seq <| c_region <| oy hS y_move ?_
   refine o_callS hS func82 rfl rfl (hc := (w_isa_HasA (a0 := (isa_Shape (IntKind.i64.wrap x2))))) (h := ?_)
   clear hS; intro w hS
   refine n_thenN ?_
   refine c_if (ht := fun c18 => ?_) (hf := fun c18 => ?_)
   · replace hF := bt c18 hF
     refine c_region <| oy hS y_move <| oy hS (y_field fa_api_Ins_2) ?_
     refine o_storeA1 (o := 2) (cl' := (enc_Ins ⟨IntKind.i64.wrap x2, x9, IntKind.i64.wrap (bits .and .u32 x6 15), 0, 0, ByteArray.empty⟩)) hS (by kernel_rfl) (by exact Nat.le_of_ble_eq_true rfl) (Upd.there _ (Upd.here _)) (by exact sz_int) rfl rfl ?_
     clear hS; intro w hS
     refine n_thenN ?_
     obtain rfl := osi hF
     change ∃ _, _
     exact ⟨IntKind.i64.wrap (bits .and .u32 x6 15), E0, mk_exF, (hS.re (.b .hb (.b .hb .n)))⟩
   replace hF := bf c18 hF
   refine wp_skip ?_
   obtain rfl := osi hF
   change ∃ _, _
   exact ⟨0, E0, mk_exF, (hS.re (.b .hb (.b .hb .n)))⟩
 rintro a w ⟨x15, hF, ⟨s19, rfl⟩, hS⟩
 dsimp only [bits_Ins_k2] at hF
 obtain ⟨z23, hF, B0⟩ := cut_step hF
 refine c_cutP (fun a w' => ∃ (x22 : Int), bits_Ins_k3 x2 a0 x9 x15 x22 = some r ∧ (∃ s : Nat → Value, a = Ac (((((Fm.dead 78 s).upd 0 (.int .u32 a0)).upd 2 (.pointer (some ⟨b1, 0, none⟩))).upd 4 (.pointer (some ⟨b3, 0, none⟩))).upd 5 (.int .i64 (isa_Shape (IntKind.i64.wrap x2))))) ∧ St W g [] ((b1, blk (enc_Ins ⟨0, 0, 0, 0, 0, ByteArray.empty⟩) 78) :: ((b3, blk (enc_Ins ⟨IntKind.i64.wrap x2, x9, x15, x22, 0, ByteArray.empty⟩) 78) :: [])) w') ?_ ?_
 · skip
   refine c_seq <| c_region <| oy hS y_move <| n_thenN <| c_block <| c_seq <| c_region <| oy hS y_bin ?_
   refine oy hS y_assign <| n_thenN ?_
   refine c_if (ht := fun c25 => ?_) (hf := fun c25 => ?_)
   · replace hF := bt c25 hF
     refine c_region <| oy hS y_move <| oy hS (y_field fa_api_Ins_3) ?_
     refine o_storeA1 (o := 3) (cl' := (enc_Ins ⟨IntKind.i64.wrap x2, x9, x15, IntKind.i64.wrap (bits .and .u32 x7 15), 0, ByteArray.empty⟩)) hS (by kernel_rfl) (by exact Nat.le_of_ble_eq_true rfl) (Upd.there _ (Upd.here _)) (by exact sz_int) rfl rfl ?_
     clear hS; intro w hS
     refine n_anyN ?_
     obtain rfl := osi hF
     change ∃ _, _
     exact ⟨IntKind.i64.wrap (bits .and .u32 x7 15), B0, mk_exF, (hS.re (.b .hb (.b .hb .n)))⟩
   replace hF := bf c25 hF
   refine c_seq <| c_region <| oy hS y_bin <| oy hS y_assign <| n_thenN ?_
   refine c_if (ht := fun c26 => ?_) (hf := fun c26 => ?_)
   · replace hF := bt c26 hF
     refine c_region <| oy hS y_move <| oy hS (y_field fa_api_Ins_3) ?_
     refine o_storeA1 (o := 3) (cl' := (enc_Ins ⟨IntKind.i64.wrap x2, x9, x15, IntKind.i64.wrap (bits .and .u32 x5 15), 0, ByteArray.empty⟩)) hS (by kernel_rfl) (by exact Nat.le_of_ble_eq_true rfl) (Upd.there _ (Upd.here _)) (by exact sz_int) rfl rfl ?_
     clear hS; intro w hS
     refine n_anyN ?_
     obtain rfl := osi hF
     change ∃ _, _
     exact ⟨IntKind.i64.wrap (bits .and .u32 x5 15), B0, mk_exF, (hS.re (.b .hb (.b .hb .n)))⟩
   replace hF := bf c26 hF
   refine wp_skip ?_
   obtain rfl := osi hF
   change ∃ _, _
   exact ⟨0, B0, mk_exF, (hS.re (.b .hb (.b .hb .n)))⟩
 rintro a w ⟨x22, hF, ⟨s27, rfl⟩, hS⟩
 dsimp only [bits_Ins_k3] at hF
 iterate 2 (refine c_seq ?_)
 refine c_region <| oy hS y_move ?_
 refine o_callS hS func83 rfl rfl (hc := (w_isa_Bits (a0 := (isa_Shape (IntKind.i64.wrap x2))))) (h := ?_)
 clear hS; intro w hS
 refine oy hS y_assign <| n_thenN <| c_seq <| c_region <| oy hS y_move ?_
 refine o_callS hS func84 rfl rfl (hc := (w_isa_Target (a0 := (isa_Shape (IntKind.i64.wrap x2))))) (h := ?_)
 clear hS; intro w hS
 refine n_thenN ?_
 refine c_if (ht := fun c28 => ?_) (hf := fun c28 => ?_)
 · replace hF := bt c28 hF
   refine c_region <| oy hS y_move <| oy hS (y_conv underlying38 underlying3) <| oy hS y_move ?_
   obtain ⟨r29, G0, hF⟩ := ob hF
   refine o_callS hS func85 rfl rfl (hc := (w_word_Low (a0 := (IntKind.i64.wrap a0)) (a1 := (isa_Bits (isa_Shape (IntKind.i64.wrap x2)))) (hF := G0))) (h := ?_)
   clear hS; intro w hS
   refine oy hS (y_conv underlying38 underlying3) <| oy hS (y_field fa_api_Ins_4) ?_
   refine o_storeA1 (o := 4) (cl' := (enc_Ins ⟨IntKind.i64.wrap x2, x9, x15, x22, IntKind.i64.wrap r29, ByteArray.empty⟩)) hS (by kernel_rfl) (by exact Nat.le_of_ble_eq_true rfl) (Upd.there _ (Upd.here _)) (by exact sz_int) rfl rfl ?_
   clear hS; intro w hS
   refine n_thenN ?_
   iterate 2 (refine c_seq ?_)
   refine c_region ?_
   refine oy hS (y_loadW (fun w hS => hS.own (mC (mH))) underlying78 rfl (by exact sz_api_Ins)) ?_
   obtain ⟨r30, I0, hF⟩ := ob hF
   refine o_callS hS func65 rfl rfl (hc := (w_isa_IsIns (a0 := (⟨IntKind.i64.wrap x2, x9, x15, x22, IntKind.i64.wrap r29, ByteArray.empty⟩ : T_Ins)) (hF := I0))) (h := ?_)
   clear hS; intro w hS
   refine oy hS y_not ?_
   refine o_split (ht := fun c31 => ?_) (hf := fun c31 => ?_)
   · replace hF := bt c31 hF
     iterate 4 (refine o_sk rfl rfl ?_)
     refine oy hS y_pickT <| n_thenN ?_
     refine c_if_true (h := ?_)
     refine c_seq <| c_region ?_
     refine oy hS (y_build (cl := (enc_Ins ⟨0, 0, 0, 0, 0, ByteArray.empty⟩)) bt_api_Ins rfl (by kernel_rfl)) ?_
     refine o_storeW (vs := (enc_Ins ⟨0, 0, 0, 0, 0, ByteArray.empty⟩)) hS (by exact rfl) (Upd.here _) (by exact sz_api_Ins) (enc_one_Ins _) ?_
     clear hS; intro w hS
     refine oy hS y_assign <| n_thenN ?_
     obtain rfl := osi hF
     refine wp_ret (r_ret (vs := [.agg (enc_Ins ⟨0, 0, 0, 0, 0, ByteArray.empty⟩).toArray, .int .i64 8]) (hS.re (.nil _)) (rsC (res_cell (hS.own (mH)) underlying78 rfl (by exact sz_api_Ins)) (rsC res_tmp rsN)) rfl ⟨rfl, rfl⟩)
   replace hF := bf c31 hF
   refine o_gu rfl rfl rfl ?_
   refine oy hS (y_loadW (fun w hS => hS.own (mC (mH))) underlying78 rfl (by exact sz_api_Ins)) ?_
   refine o_gu rfl rfl rfl ?_
   obtain ⟨r32, J0, hF⟩ := ob hF
   refine o_callS hS func68 rfl rfl (hc := (w_bits_Pack (a0 := (⟨IntKind.i64.wrap x2, x9, x15, x22, IntKind.i64.wrap r29, ByteArray.empty⟩ : T_Ins)) (hF := J0))) (h := ?_)
   clear hS; intro w hS
   refine o_gu rfl rfl rfl <| oy hS y_move <| o_gu rfl rfl rfl <| oy hS y_bin <| oy hS y_pickF <| n_thenN ?_
   refine c_if (ht := fun c33 => ?_) (hf := fun c33 => ?_)
   · replace hF := bt c33 hF
     refine c_seq <| c_region ?_
     refine oy hS (y_build (cl := (enc_Ins ⟨0, 0, 0, 0, 0, ByteArray.empty⟩)) bt_api_Ins rfl (by kernel_rfl)) ?_
     refine o_storeW (vs := (enc_Ins ⟨0, 0, 0, 0, 0, ByteArray.empty⟩)) hS (by exact rfl) (Upd.here _) (by exact sz_api_Ins) (enc_one_Ins _) ?_
     clear hS; intro w hS
     refine oy hS y_assign <| n_thenN ?_
     obtain rfl := osi hF
     refine wp_ret (r_ret (vs := [.agg (enc_Ins ⟨0, 0, 0, 0, 0, ByteArray.empty⟩).toArray, .int .i64 8]) (hS.re (.nil _)) (rsC (res_cell (hS.own (mH)) underlying78 rfl (by exact sz_api_Ins)) (rsC res_tmp rsN)) rfl ⟨rfl, rfl⟩)
   replace hF := bf c33 hF
   refine wp_skip <| c_seq <| c_region ?_
   refine oy hS (y_loadW (fun w hS => hS.own (mC (mH))) underlying78 rfl (by exact sz_api_Ins)) ?_
   refine o_storeW (vs := (enc_Ins ⟨IntKind.i64.wrap x2, x9, x15, x22, IntKind.i64.wrap r29, ByteArray.empty⟩)) hS (by exact rfl) (Upd.here _) (by exact sz_api_Ins) (enc_one_Ins _) ?_
   clear hS; intro w hS
   refine oy hS y_assign <| n_thenN ?_
   obtain rfl := osi hF
   refine wp_ret (r_ret (vs := [.agg (enc_Ins ⟨IntKind.i64.wrap x2, x9, x15, x22, IntKind.i64.wrap r29, ByteArray.empty⟩).toArray, .int .i64 0]) (hS.re (.nil _)) (rsC (res_cell (hS.own (mH)) underlying78 rfl (by exact sz_api_Ins)) (rsC res_tmp rsN)) rfl ⟨rfl, rfl⟩)
 replace hF := bf c28 hF
 refine c_seq <| c_region <| oy hS y_move <| oy hS y_bin <| n_thenN ?_
 refine c_if (ht := fun c34 => ?_) (hf := fun c34 => ?_)
 · replace hF := bt c34 hF
   refine c_region ?_
   iterate 2 (refine oy hS y_move ?_)
   obtain ⟨r35, K0, hF⟩ := ob hF
   refine o_callS hS func86 rfl rfl (hc := (w_word_Signed (a0 := a0) (a1 := (isa_Bits (isa_Shape (IntKind.i64.wrap x2)))) (hF := K0))) (h := ?_)
   clear hS; intro w hS
   refine oy hS (y_field fa_api_Ins_4) ?_
   refine o_storeA1 (o := 4) (cl' := (enc_Ins ⟨IntKind.i64.wrap x2, x9, x15, x22, r35, ByteArray.empty⟩)) hS (by kernel_rfl) (by exact Nat.le_of_ble_eq_true rfl) (Upd.there _ (Upd.here _)) (by exact sz_int) rfl rfl ?_
   clear hS; intro w hS
   refine n_thenN ?_
   iterate 2 (refine c_seq ?_)
   refine c_region ?_
   refine oy hS (y_loadW (fun w hS => hS.own (mC (mH))) underlying78 rfl (by exact sz_api_Ins)) ?_
   obtain ⟨r36, M0, hF⟩ := ob hF
   refine o_callS hS func65 rfl rfl (hc := (w_isa_IsIns (a0 := (⟨IntKind.i64.wrap x2, x9, x15, x22, r35, ByteArray.empty⟩ : T_Ins)) (hF := M0))) (h := ?_)
   clear hS; intro w hS
   refine oy hS y_not ?_
   refine o_split (ht := fun c37 => ?_) (hf := fun c37 => ?_)
   · replace hF := bt c37 hF
     iterate 4 (refine o_sk rfl rfl ?_)
     refine oy hS y_pickT <| n_thenN ?_
     refine c_if_true (h := ?_)
     refine c_seq <| c_region ?_
     refine oy hS (y_build (cl := (enc_Ins ⟨0, 0, 0, 0, 0, ByteArray.empty⟩)) bt_api_Ins rfl (by kernel_rfl)) ?_
     refine o_storeW (vs := (enc_Ins ⟨0, 0, 0, 0, 0, ByteArray.empty⟩)) hS (by exact rfl) (Upd.here _) (by exact sz_api_Ins) (enc_one_Ins _) ?_
     clear hS; intro w hS
     refine oy hS y_assign <| n_thenN ?_
     obtain rfl := osi hF
     refine wp_ret (r_ret (vs := [.agg (enc_Ins ⟨0, 0, 0, 0, 0, ByteArray.empty⟩).toArray, .int .i64 8]) (hS.re (.nil _)) (rsC (res_cell (hS.own (mH)) underlying78 rfl (by exact sz_api_Ins)) (rsC res_tmp rsN)) rfl ⟨rfl, rfl⟩)
   replace hF := bf c37 hF
   refine o_gu rfl rfl rfl ?_
   refine oy hS (y_loadW (fun w hS => hS.own (mC (mH))) underlying78 rfl (by exact sz_api_Ins)) ?_
   refine o_gu rfl rfl rfl ?_
   obtain ⟨r38, N0, hF⟩ := ob hF
   refine o_callS hS func68 rfl rfl (hc := (w_bits_Pack (a0 := (⟨IntKind.i64.wrap x2, x9, x15, x22, r35, ByteArray.empty⟩ : T_Ins)) (hF := N0))) (h := ?_)
   clear hS; intro w hS
   refine o_gu rfl rfl rfl <| oy hS y_move <| o_gu rfl rfl rfl <| oy hS y_bin <| oy hS y_pickF <| n_thenN ?_
   refine c_if (ht := fun c39 => ?_) (hf := fun c39 => ?_)
   · replace hF := bt c39 hF
     refine c_seq <| c_region ?_
     refine oy hS (y_build (cl := (enc_Ins ⟨0, 0, 0, 0, 0, ByteArray.empty⟩)) bt_api_Ins rfl (by kernel_rfl)) ?_
     refine o_storeW (vs := (enc_Ins ⟨0, 0, 0, 0, 0, ByteArray.empty⟩)) hS (by exact rfl) (Upd.here _) (by exact sz_api_Ins) (enc_one_Ins _) ?_
     clear hS; intro w hS
     refine oy hS y_assign <| n_thenN ?_
     obtain rfl := osi hF
     refine wp_ret (r_ret (vs := [.agg (enc_Ins ⟨0, 0, 0, 0, 0, ByteArray.empty⟩).toArray, .int .i64 8]) (hS.re (.nil _)) (rsC (res_cell (hS.own (mH)) underlying78 rfl (by exact sz_api_Ins)) (rsC res_tmp rsN)) rfl ⟨rfl, rfl⟩)
   replace hF := bf c39 hF
   refine wp_skip <| c_seq <| c_region ?_
   refine oy hS (y_loadW (fun w hS => hS.own (mC (mH))) underlying78 rfl (by exact sz_api_Ins)) ?_
   refine o_storeW (vs := (enc_Ins ⟨IntKind.i64.wrap x2, x9, x15, x22, r35, ByteArray.empty⟩)) hS (by exact rfl) (Upd.here _) (by exact sz_api_Ins) (enc_one_Ins _) ?_
   clear hS; intro w hS
   refine oy hS y_assign <| n_thenN ?_
   obtain rfl := osi hF
   refine wp_ret (r_ret (vs := [.agg (enc_Ins ⟨IntKind.i64.wrap x2, x9, x15, x22, r35, ByteArray.empty⟩).toArray, .int .i64 0]) (hS.re (.nil _)) (rsC (res_cell (hS.own (mH)) underlying78 rfl (by exact sz_api_Ins)) (rsC res_tmp rsN)) rfl ⟨rfl, rfl⟩)
 replace hF := bf c34 hF
 refine wp_skip ?_
 iterate 2 (refine c_seq ?_)
 refine c_region ?_
 refine oy hS (y_loadW (fun w hS => hS.own (mC (mH))) underlying78 rfl (by exact sz_api_Ins)) ?_
 obtain ⟨r40, R0, hF⟩ := ob hF
 refine o_callS hS func65 rfl rfl (hc := (w_isa_IsIns (a0 := (⟨IntKind.i64.wrap x2, x9, x15, x22, 0, ByteArray.empty⟩ : T_Ins)) (hF := R0))) (h := ?_)
 clear hS; intro w hS
 refine oy hS y_not ?_
 refine o_split (ht := fun c41 => ?_) (hf := fun c41 => ?_)
 · replace hF := bt c41 hF
   iterate 4 (refine o_sk rfl rfl ?_)
   refine oy hS y_pickT <| n_thenN ?_
   refine c_if_true (h := ?_)
   refine c_seq <| c_region ?_
   refine oy hS (y_build (cl := (enc_Ins ⟨0, 0, 0, 0, 0, ByteArray.empty⟩)) bt_api_Ins rfl (by kernel_rfl)) ?_
   refine o_storeW (vs := (enc_Ins ⟨0, 0, 0, 0, 0, ByteArray.empty⟩)) hS (by exact rfl) (Upd.here _) (by exact sz_api_Ins) (enc_one_Ins _) ?_
   clear hS; intro w hS
   refine oy hS y_assign <| n_thenN ?_
   obtain rfl := osi hF
   refine wp_ret (r_ret (vs := [.agg (enc_Ins ⟨0, 0, 0, 0, 0, ByteArray.empty⟩).toArray, .int .i64 8]) (hS.re (.nil _)) (rsC (res_cell (hS.own (mH)) underlying78 rfl (by exact sz_api_Ins)) (rsC res_tmp rsN)) rfl ⟨rfl, rfl⟩)
 replace hF := bf c41 hF
 refine o_gu rfl rfl rfl ?_
 refine oy hS (y_loadW (fun w hS => hS.own (mC (mH))) underlying78 rfl (by exact sz_api_Ins)) ?_
 refine o_gu rfl rfl rfl ?_
 obtain ⟨r42, T0, hF⟩ := ob hF
 refine o_callS hS func68 rfl rfl (hc := (w_bits_Pack (a0 := (⟨IntKind.i64.wrap x2, x9, x15, x22, 0, ByteArray.empty⟩ : T_Ins)) (hF := T0))) (h := ?_)
 clear hS; intro w hS
 refine o_gu rfl rfl rfl <| oy hS y_move <| o_gu rfl rfl rfl <| oy hS y_bin <| oy hS y_pickF <| n_thenN ?_
 refine c_if (ht := fun c43 => ?_) (hf := fun c43 => ?_)
 · replace hF := bt c43 hF
   refine c_seq <| c_region ?_
   refine oy hS (y_build (cl := (enc_Ins ⟨0, 0, 0, 0, 0, ByteArray.empty⟩)) bt_api_Ins rfl (by kernel_rfl)) ?_
   refine o_storeW (vs := (enc_Ins ⟨0, 0, 0, 0, 0, ByteArray.empty⟩)) hS (by exact rfl) (Upd.here _) (by exact sz_api_Ins) (enc_one_Ins _) ?_
   clear hS; intro w hS
   refine oy hS y_assign <| n_thenN ?_
   obtain rfl := osi hF
   refine wp_ret (r_ret (vs := [.agg (enc_Ins ⟨0, 0, 0, 0, 0, ByteArray.empty⟩).toArray, .int .i64 8]) (hS.re (.nil _)) (rsC (res_cell (hS.own (mH)) underlying78 rfl (by exact sz_api_Ins)) (rsC res_tmp rsN)) rfl ⟨rfl, rfl⟩)
 replace hF := bf c43 hF
 refine wp_skip <| c_seq <| c_region ?_
 refine oy hS (y_loadW (fun w hS => hS.own (mC (mH))) underlying78 rfl (by exact sz_api_Ins)) ?_
 refine o_storeW (vs := (enc_Ins ⟨IntKind.i64.wrap x2, x9, x15, x22, 0, ByteArray.empty⟩)) hS (by exact rfl) (Upd.here _) (by exact sz_api_Ins) (enc_one_Ins _) ?_
 clear hS; intro w hS
 refine oy hS y_assign <| n_thenN ?_
 obtain rfl := osi hF
 refine wp_ret (r_ret (vs := [.agg (enc_Ins ⟨IntKind.i64.wrap x2, x9, x15, x22, 0, ByteArray.empty⟩).toArray, .int .i64 0]) (hS.re (.nil _)) (rsC (res_cell (hS.own (mH)) underlying78 rfl (by exact sz_api_Ins)) (rsC res_tmp rsN)) rfl ⟨rfl, rfl⟩)
theorem w_bits_Ins {g : Frag} {a0 : Int} {r : (T_Ins × Int)}  (hF : bits_Ins a0 = some r) : LCs Try.prog 61 #[.int .u32 a0] g (.tuple #[.agg (enc_Ins r.1).toArray, .int .i64 r.2]) := w_bits_Ins_  hF

noncomputable def bits_Bundle_b1 (a0 : (List Int)) : (Int × Int × Int × Int × Int × Int × ByteArray × Int × Int × Int × Int × Int × ByteArray × Int × Int × Int × Int × Int × ByteArray × Int × Int × Int × Int × Int × ByteArray) → Option (Step (Int × Int × Int × Int × Int × Int × ByteArray × Int × Int × Int × Int × Int × ByteArray × Int × Int × Int × Int × Int × ByteArray × Int × Int × Int × Int × Int × ByteArray) ((A4 T_Ins) × Int)) := fun (x47, x48, x49, x50, x51, x52, x53, x54, x55, x56, x57, x58, x59, x60, x61, x62, x63, x64, x65, x66, x67, x68, x69, x70, x71) => bif decide (x47 < (a0.length : Int)) then (at' a0 x47).bind fun x96 => (bits_Ins x96).bind fun D0 => bif decide (D0.2 ≠ 0) then some (.done (((⟨(⟨0, 0, 0, 0, 0, ByteArray.empty⟩ : T_Ins), (⟨0, 0, 0, 0, 0, ByteArray.empty⟩ : T_Ins), (⟨0, 0, 0, 0, 0, ByteArray.empty⟩ : T_Ins), (⟨0, 0, 0, 0, 0, ByteArray.empty⟩ : T_Ins)⟩ : (A4 T_Ins)), 8))) else bif !(isa_May D0.1.Op x47) then some (.done (((⟨(⟨0, 0, 0, 0, 0, ByteArray.empty⟩ : T_Ins), (⟨0, 0, 0, 0, 0, ByteArray.empty⟩ : T_Ins), (⟨0, 0, 0, 0, 0, ByteArray.empty⟩ : T_Ins), (⟨0, 0, 0, 0, 0, ByteArray.empty⟩ : T_Ins)⟩ : (A4 T_Ins)), 8))) else (at' [(⟨x48, x49, x50, x51, x52, x53⟩ : T_Ins), (⟨x54, x55, x56, x57, x58, x59⟩ : T_Ins), (⟨x60, x61, x62, x63, x64, x65⟩ : T_Ins), (⟨x66, x67, x68, x69, x70, x71⟩ : T_Ins)] x47).bind fun E0 => (A4.put (⟨(⟨x48, x49, x50, x51, x52, x53⟩ : T_Ins), (⟨x54, x55, x56, x57, x58, x59⟩ : T_Ins), (⟨x60, x61, x62, x63, x64, x65⟩ : T_Ins), (⟨x66, x67, x68, x69, x70, x71⟩ : T_Ins)⟩ : (A4 T_Ins)) x47 D0.1).bind fun B0 => some (.next (IntKind.i64.wrap (x47 + 1), B0.x0.Op, B0.x0.D, B0.x0.A, B0.x0.B, B0.x0.Imm, B0.x0.Sym, B0.x1.Op, B0.x1.D, B0.x1.A, B0.x1.B, B0.x1.Imm, B0.x1.Sym, B0.x2.Op, B0.x2.D, B0.x2.A, B0.x2.B, B0.x2.Imm, B0.x2.Sym, B0.x3.Op, B0.x3.D, B0.x3.A, B0.x3.B, B0.x3.Imm, B0.x3.Sym)) else some (.done (((⟨(⟨x48, x49, x50, x51, x52, x53⟩ : T_Ins), (⟨x54, x55, x56, x57, x58, x59⟩ : T_Ins), (⟨x60, x61, x62, x63, x64, x65⟩ : T_Ins), (⟨x66, x67, x68, x69, x70, x71⟩ : T_Ins)⟩ : (A4 T_Ins)), 0)))
noncomputable def bits_Bundle (a0 : (List Int)) : Option ((A4 T_Ins) × Int) :=
  bif decide ((a0.length : Int) ≠ 4) then some ((⟨(⟨0, 0, 0, 0, 0, ByteArray.empty⟩ : T_Ins), (⟨0, 0, 0, 0, 0, ByteArray.empty⟩ : T_Ins), (⟨0, 0, 0, 0, 0, ByteArray.empty⟩ : T_Ins), (⟨0, 0, 0, 0, 0, ByteArray.empty⟩ : T_Ins)⟩ : (A4 T_Ins)), 8) else loop (σ := (Int × Int × Int × Int × Int × Int × ByteArray × Int × Int × Int × Int × Int × ByteArray × Int × Int × Int × Int × Int × ByteArray × Int × Int × Int × Int × Int × ByteArray)) (bits_Bundle_b1 a0) (0, 0, 0, 0, 0, 0, ByteArray.empty, 0, 0, 0, 0, 0, ByteArray.empty, 0, 0, 0, 0, 0, ByteArray.empty, 0, 0, 0, 0, 0, ByteArray.empty)
theorem w_bits_Bundle_ {g : Frag} {a0 : (List Int)} {v0_ : Value} {r : ((A4 T_Ins) × Int)} (h0 : SlT g enc_uint32 1 a0 v0_) (hF : bits_Bundle a0 = some r) : LCs Try.prog 47 #[v0_] g (.tuple #[.agg (enc_Bundle r.1).toArray, .int .i64 r.2]) := by
 unfold bits_Bundle at hF
 refine lc_body (k := 40) (av := [v0_]) func47 rfl rfl (h := fun W hS => ?_)
 refine c_seq <| c_region ?_
 refine o_allocP (cl := (enc_Bundle ⟨(⟨0, 0, 0, 0, 0, ByteArray.empty⟩ : T_Ins), (⟨0, 0, 0, 0, 0, ByteArray.empty⟩ : T_Ins), (⟨0, 0, 0, 0, 0, ByteArray.empty⟩ : T_Ins), (⟨0, 0, 0, 0, 0, ByteArray.empty⟩ : T_Ins)⟩)) zr_api_Bundle rfl hS ?_
 clear hS; intro b1 w hS
 refine oy hS y_assign <| n_thenN <| c_seq <| c_region ?_
 refine o_allocP (cl := (enc_Bundle ⟨(⟨0, 0, 0, 0, 0, ByteArray.empty⟩ : T_Ins), (⟨0, 0, 0, 0, 0, ByteArray.empty⟩ : T_Ins), (⟨0, 0, 0, 0, 0, ByteArray.empty⟩ : T_Ins), (⟨0, 0, 0, 0, 0, ByteArray.empty⟩ : T_Ins)⟩)) zr_api_Bundle rfl hS ?_
 clear hS; intro b2 w hS
 refine n_thenN ?_
 iterate 2 (refine c_seq ?_)
 refine c_region <| oy hS y_move <| oy hS (y_len h0 underlying31) <| oy hS y_bin <| n_thenN ?_
 refine c_if (ht := fun c3 => ?_) (hf := fun c3 => ?_)
 · replace hF := bt c3 hF
   refine c_seq <| c_region ?_
   refine oy hS (y_buildA (cl := (enc_Bundle ⟨(⟨0, 0, 0, 0, 0, ByteArray.empty⟩ : T_Ins), (⟨0, 0, 0, 0, 0, ByteArray.empty⟩ : T_Ins), (⟨0, 0, 0, 0, 0, ByteArray.empty⟩ : T_Ins), (⟨0, 0, 0, 0, 0, ByteArray.empty⟩ : T_Ins)⟩)) bta_api_Bundle rfl (by kernel_rfl)) ?_
   refine o_storeW (vs := (enc_Bundle ⟨(⟨0, 0, 0, 0, 0, ByteArray.empty⟩ : T_Ins), (⟨0, 0, 0, 0, 0, ByteArray.empty⟩ : T_Ins), (⟨0, 0, 0, 0, 0, ByteArray.empty⟩ : T_Ins), (⟨0, 0, 0, 0, 0, ByteArray.empty⟩ : T_Ins)⟩)) hS (by exact rfl) (Upd.there _ (Upd.here _)) (by exact sz_api_Bundle) (enc_one_Bundle _) ?_
   clear hS; intro w hS
   refine oy hS y_assign <| n_thenN ?_
   obtain rfl := osi hF
   refine wp_ret (r_ret (vs := [.agg (enc_Bundle ⟨(⟨0, 0, 0, 0, 0, ByteArray.empty⟩ : T_Ins), (⟨0, 0, 0, 0, 0, ByteArray.empty⟩ : T_Ins), (⟨0, 0, 0, 0, 0, ByteArray.empty⟩ : T_Ins), (⟨0, 0, 0, 0, 0, ByteArray.empty⟩ : T_Ins)⟩).toArray, .int .i64 8]) (hS.re (.nil _)) (rsC (res_cell (hS.own (mC (mH))) underlying80 rfl (by exact sz_api_Bundle)) (rsC res_tmp rsN)) rfl ⟨rfl, rfl⟩)
 replace hF := bf c3 hF
 refine wp_skip ?_
 iterate 2 (refine c_seq ?_)
 refine c_region <| oy hS y_move <| oy hS (y_len h0 underlying31) <| oy hS y_move <| n_thenN <| c_block ?_
 refine c_loopP hF (fun (q : (Int × Int × Int × Int × Int × Int × ByteArray × Int × Int × Int × Int × Int × ByteArray × Int × Int × Int × Int × Int × ByteArray × Int × Int × Int × Int × Int × ByteArray)) a w' => (∃ s : Nat → Value, a = Ac ((((((Fm.dead 40 s).upd 2 (.pointer (some ⟨b1, 0, none⟩))).upd 4 (.pointer (some ⟨b2, 0, none⟩))).upd 13 v0_).upd 14 (.int .i64 (a0.length : Int))).upd 15 (.int .i64 q.1))) ∧ St W g [] ((b1, blk (enc_Bundle ⟨(⟨0, 0, 0, 0, 0, ByteArray.empty⟩ : T_Ins), (⟨0, 0, 0, 0, 0, ByteArray.empty⟩ : T_Ins), (⟨0, 0, 0, 0, 0, ByteArray.empty⟩ : T_Ins), (⟨0, 0, 0, 0, 0, ByteArray.empty⟩ : T_Ins)⟩) 80) :: ((b2, blk (enc_Bundle ⟨(⟨q.2.1, q.2.2.1, q.2.2.2.1, q.2.2.2.2.1, q.2.2.2.2.2.1, q.2.2.2.2.2.2.1⟩ : T_Ins), (⟨q.2.2.2.2.2.2.2.1, q.2.2.2.2.2.2.2.2.1, q.2.2.2.2.2.2.2.2.2.1, q.2.2.2.2.2.2.2.2.2.2.1, q.2.2.2.2.2.2.2.2.2.2.2.1, q.2.2.2.2.2.2.2.2.2.2.2.2.1⟩ : T_Ins), (⟨q.2.2.2.2.2.2.2.2.2.2.2.2.2.1, q.2.2.2.2.2.2.2.2.2.2.2.2.2.2.1, q.2.2.2.2.2.2.2.2.2.2.2.2.2.2.2.1, q.2.2.2.2.2.2.2.2.2.2.2.2.2.2.2.2.1, q.2.2.2.2.2.2.2.2.2.2.2.2.2.2.2.2.2.1, q.2.2.2.2.2.2.2.2.2.2.2.2.2.2.2.2.2.2.1⟩ : T_Ins), (⟨q.2.2.2.2.2.2.2.2.2.2.2.2.2.2.2.2.2.2.2.1, q.2.2.2.2.2.2.2.2.2.2.2.2.2.2.2.2.2.2.2.2.1, q.2.2.2.2.2.2.2.2.2.2.2.2.2.2.2.2.2.2.2.2.2.1, q.2.2.2.2.2.2.2.2.2.2.2.2.2.2.2.2.2.2.2.2.2.2.1, q.2.2.2.2.2.2.2.2.2.2.2.2.2.2.2.2.2.2.2.2.2.2.2.1, q.2.2.2.2.2.2.2.2.2.2.2.2.2.2.2.2.2.2.2.2.2.2.2.2⟩ : T_Ins)⟩) 80) :: [])) w') ⟨mk_exF, (hS.re (.b (.e .hb) (.b .hb .n)))⟩ ?_
 clear hS hF
 intro n93 q a w hI hq
 obtain ⟨x47, x48, x49, x50, x51, x52, x53, x54, x55, x56, x57, x58, x59, x60, x61, x62, x63, x64, x65, x66, x67, x68, x69, x70, x71⟩ := q
 obtain ⟨⟨s94, rfl⟩, hS⟩ := hq
 obtain ⟨z91, hF, B0⟩ := iter_step hI
 clear hI
 dsimp only [bits_Bundle_b1] at hF
 refine c_seq <| c_region <| oy hS y_bin <| n_thenN <| c_seq ?_
 refine c_if (ht := fun c95 => ?_) (hf := fun c95 => ?_)
 · replace hF := bt c95 hF
   refine wp_skip <| c_seq <| c_block <| c_seq <| c_region <| oy hS y_move ?_
   obtain ⟨x96, V0, hF⟩ := ob hF
   obtain ⟨b97, o98, c99, Y0, B1, Z0, K0, M0, N0, R0, T0⟩ := SlT.at V0 h0 enc_len_uint32
   refine oy hS (y_index K0 M0 N0 underlying31 el_uint32.size) <| oy hS (y_load (fun w hS => hS.block R0) underlying38 rfl (T0 0 _ rfl)) ?_
   iterate 2 (refine oy hS y_assign ?_)
   refine n_thenN <| c_seq <| c_region <| oy hS y_move ?_
   obtain ⟨E0, U0, hF⟩ := ob hF
   refine o_callS hS func61 rfl rfl (hc := (w_bits_Ins (a0 := x96) (hF := U0))) (h := ?_)
   clear hS; intro w hS
   refine oy hS y_move ?_
   iterate 2 (refine oy hS (y_extract rfl) ?_)
   refine o_allocP (cl := (enc_Ins ⟨0, 0, 0, 0, 0, ByteArray.empty⟩)) zr_api_Ins rfl hS ?_
   clear hS; intro D1 w hS
   refine o_storeW (vs := (enc_Ins E0.1)) hS (by exact rfl) (Upd.here _) (by exact sz_api_Ins) (enc_one_Ins _) ?_
   clear hS; intro w hS
   refine oy hS y_assign <| n_thenN ?_
   iterate 2 (refine c_seq ?_)
   refine c_region <| oy hS y_move <| oy hS y_bin ?_
   refine o_split (ht := fun G0 => ?_) (hf := fun G0 => ?_)
   · replace hF := bt G0 hF
     iterate 5 (refine o_sk rfl rfl ?_)
     refine oy hS y_pickT <| n_thenN ?_
     refine c_if_true (h := ?_)
     refine c_seq <| c_region ?_
     refine oy hS (y_buildA (cl := (enc_Bundle ⟨(⟨0, 0, 0, 0, 0, ByteArray.empty⟩ : T_Ins), (⟨0, 0, 0, 0, 0, ByteArray.empty⟩ : T_Ins), (⟨0, 0, 0, 0, 0, ByteArray.empty⟩ : T_Ins), (⟨0, 0, 0, 0, 0, ByteArray.empty⟩ : T_Ins)⟩)) bta_api_Bundle rfl (by kernel_rfl)) ?_
     refine o_storeW (vs := (enc_Bundle ⟨(⟨0, 0, 0, 0, 0, ByteArray.empty⟩ : T_Ins), (⟨0, 0, 0, 0, 0, ByteArray.empty⟩ : T_Ins), (⟨0, 0, 0, 0, 0, ByteArray.empty⟩ : T_Ins), (⟨0, 0, 0, 0, 0, ByteArray.empty⟩ : T_Ins)⟩)) hS (by exact rfl) (Upd.there _ (Upd.here _)) (by exact sz_api_Bundle) (enc_one_Bundle _) ?_
     clear hS; intro w hS
     refine oy hS y_assign <| n_thenN ?_
     obtain rfl := osi hF
     obtain rfl : _ = r := B0
     refine wp_ret (r_ret (vs := [.agg (enc_Bundle ⟨(⟨0, 0, 0, 0, 0, ByteArray.empty⟩ : T_Ins), (⟨0, 0, 0, 0, 0, ByteArray.empty⟩ : T_Ins), (⟨0, 0, 0, 0, 0, ByteArray.empty⟩ : T_Ins), (⟨0, 0, 0, 0, 0, ByteArray.empty⟩ : T_Ins)⟩).toArray, .int .i64 8]) (hS.re (.nil _)) (rsC (res_cell (hS.own (mC (mH))) underlying80 rfl (by exact sz_api_Bundle)) (rsC res_tmp rsN)) rfl ⟨rfl, rfl⟩)
   replace hF := bf G0 hF
   refine o_gu rfl rfl rfl <| oy hS (y_field fa_api_Ins_0) <| o_gu rfl rfl rfl <| oy hS (y_load oH underlying3 rfl rfl) <| o_gu rfl rfl rfl <| oy hS y_move <| o_gu rfl rfl rfl ?_
   refine o_callS hS func62 rfl rfl (hc := (w_isa_May (a0 := E0.1.Op) (a1 := x47))) (h := ?_)
   clear hS; intro w hS
   refine o_gu rfl rfl rfl <| oy hS y_not <| oy hS y_pickF <| n_thenN ?_
   refine c_if (ht := fun I0 => ?_) (hf := fun I0 => ?_)
   · replace hF := bt I0 hF
     refine c_seq <| c_region ?_
     refine oy hS (y_buildA (cl := (enc_Bundle ⟨(⟨0, 0, 0, 0, 0, ByteArray.empty⟩ : T_Ins), (⟨0, 0, 0, 0, 0, ByteArray.empty⟩ : T_Ins), (⟨0, 0, 0, 0, 0, ByteArray.empty⟩ : T_Ins), (⟨0, 0, 0, 0, 0, ByteArray.empty⟩ : T_Ins)⟩)) bta_api_Bundle rfl (by kernel_rfl)) ?_
     refine o_storeW (vs := (enc_Bundle ⟨(⟨0, 0, 0, 0, 0, ByteArray.empty⟩ : T_Ins), (⟨0, 0, 0, 0, 0, ByteArray.empty⟩ : T_Ins), (⟨0, 0, 0, 0, 0, ByteArray.empty⟩ : T_Ins), (⟨0, 0, 0, 0, 0, ByteArray.empty⟩ : T_Ins)⟩)) hS (by exact rfl) (Upd.there _ (Upd.here _)) (by exact sz_api_Bundle) (enc_one_Bundle _) ?_
     clear hS; intro w hS
     refine oy hS y_assign <| n_thenN ?_
     obtain rfl := osi hF
     obtain rfl : _ = r := B0
     refine wp_ret (r_ret (vs := [.agg (enc_Bundle ⟨(⟨0, 0, 0, 0, 0, ByteArray.empty⟩ : T_Ins), (⟨0, 0, 0, 0, 0, ByteArray.empty⟩ : T_Ins), (⟨0, 0, 0, 0, 0, ByteArray.empty⟩ : T_Ins), (⟨0, 0, 0, 0, 0, ByteArray.empty⟩ : T_Ins)⟩).toArray, .int .i64 8]) (hS.re (.nil _)) (rsC (res_cell (hS.own (mC (mH))) underlying80 rfl (by exact sz_api_Bundle)) (rsC res_tmp rsN)) rfl ⟨rfl, rfl⟩)
   replace hF := bf I0 hF
   refine wp_skip <| c_region <| oy hS y_move ?_
   refine oy hS (y_loadW oH underlying78 rfl (by exact sz_api_Ins)) ?_
   obtain ⟨E1, J0, hF⟩ := ob hF
   refine oy hS (y_indexA (at'_bnd J0 rfl).1 (at'_bnd J0 (n := 4) rfl).2 underlying80 (by exact sz_api_Ins)) ?_
   have hS := hS.re (.b (.e (.e .hb)) (.b .hb (.b .hb .n)))
   obtain ⟨X0, D0, hF⟩ := ob hF
   refine o_storeAN (o := 0 + (x47).toNat * 6) (cl := (enc_Bundle ⟨(⟨x48, x49, x50, x51, x52, x53⟩ : T_Ins), (⟨x54, x55, x56, x57, x58, x59⟩ : T_Ins), (⟨x60, x61, x62, x63, x64, x65⟩ : T_Ins), (⟨x66, x67, x68, x69, x70, x71⟩ : T_Ins)⟩)) (cl' := (enc_Bundle X0)) (vs := (enc_Ins E0.1)) hS (by rcases A4.put_cases D0 with ⟨hi, rfl⟩ | ⟨hi, rfl⟩ | ⟨hi, rfl⟩ | ⟨hi, rfl⟩ <;> rw [hi] <;> rfl) (by have q1 := (A4.put_lt D0).1; have q2 := (A4.put_lt D0).2; simp only [List.length_cons, List.length_nil]; omega) (Upd.here _) (by exact sz_api_Ins) (enc_one_Ins _) ?_
   clear hS; intro w hS
   refine n_anyN ?_
   refine c_region <| oy hS y_bin <| oy hS y_move <| n_thenN ?_
   obtain rfl := osi hF
   exact ⟨_, B0, mk_exF, (hS.re (.b (.e (.e .hb)) (.b .hb .n)))⟩
 replace hF := bf c95 hF
 refine wp_exit ?_
 refine c_seq <| c_region ?_
 refine oy hS (y_loadW (fun w hS => hS.own (mC (mH))) underlying80 rfl (by exact sz_api_Bundle)) ?_
 refine o_storeW (vs := (enc_Bundle ⟨(⟨x48, x49, x50, x51, x52, x53⟩ : T_Ins), (⟨x54, x55, x56, x57, x58, x59⟩ : T_Ins), (⟨x60, x61, x62, x63, x64, x65⟩ : T_Ins), (⟨x66, x67, x68, x69, x70, x71⟩ : T_Ins)⟩)) hS (by exact rfl) (Upd.here _) (by exact sz_api_Bundle) (enc_one_Bundle _) ?_
 clear hS; intro w hS
 refine oy hS y_assign <| n_thenN ?_
 obtain rfl := osi hF
 obtain rfl : _ = r := B0
 refine wp_ret (r_ret (vs := [.agg (enc_Bundle ⟨(⟨x48, x49, x50, x51, x52, x53⟩ : T_Ins), (⟨x54, x55, x56, x57, x58, x59⟩ : T_Ins), (⟨x60, x61, x62, x63, x64, x65⟩ : T_Ins), (⟨x66, x67, x68, x69, x70, x71⟩ : T_Ins)⟩).toArray, .int .i64 0]) (hS.re (.nil _)) (rsC (res_cell (hS.own (mH)) underlying80 rfl (by exact sz_api_Bundle)) (rsC res_tmp rsN)) rfl ⟨rfl, rfl⟩)
theorem w_bits_Bundle {g : Frag} {a0 : (List Int)} {v0_ : Value} {r : ((A4 T_Ins) × Int)} (h0 : SlT g enc_uint32 1 a0 v0_) (hF : bits_Bundle a0 = some r) : LCs Try.prog 47 #[v0_] g (.tuple #[.agg (enc_Bundle r.1).toArray, .int .i64 r.2]) := w_bits_Bundle_ h0 hF

noncomputable def object_Reader_Code_b1 (r1 : (T_Reader × Int)) : ((List (A4 T_Ins)) × Int × ByteArray × Bool) → Option (Step ((List (A4 T_Ins)) × Int × ByteArray × Bool) (T_Reader × (List (A4 T_Ins)))) := fun (x57, x62, x63, x64) => bif decide (x62 < r1.2) then (object_Reader_Number (⟨x63, x64⟩ : T_Reader)).bind fun E0 => (object_Reader_Number E0.1).bind fun G0 => (object_Reader_Number G0.1).bind fun I0 => (object_Reader_Number I0.1).bind fun B0 => (bits_Bundle ([E0.2, G0.2, I0.2, B0.2] : List Int)).bind fun D0 => bif B0.1.Bad then (app' x57 ([D0.1] : List (A4 T_Ins))).bind fun J0 => some (.next (J0, IntKind.i64.wrap (x62 + 1), B0.1.s, true)) else (app' x57 ([D0.1] : List (A4 T_Ins))).bind fun K0 => some (.next (K0, IntKind.i64.wrap (x62 + 1), B0.1.s, decide (D0.2 ≠ 0))) else some (.done (((⟨x63, x64⟩ : T_Reader), x57)))
noncomputable def object_Reader_Code (a0 : T_Reader) : Option (T_Reader × (List (A4 T_Ins))) :=
  (object_Reader_many a0 16).bind fun r1 => loop (σ := ((List (A4 T_Ins)) × Int × ByteArray × Bool)) (object_Reader_Code_b1 r1) ([], 0, r1.1.s, r1.1.Bad)
theorem w_object_Reader_Code_ {g : Frag} {a0 : T_Reader} {b0_ : Nat} {LB0_ : Own} {r : (T_Reader × (List (A4 T_Ins)))} (h0 : Bx_Reader b0_ a0 LB0_) (hF : object_Reader_Code a0 = some r) : LC Try.prog 22 #[.pointer (some ⟨b0_, 0, none⟩)] g LB0_ (fun v L => ∃ (LB' : Own) (u0 : Value) (M0 : Own), u0 = v ∧ L = (LB' ++ (M0 ++ [])) ∧ Bx_Reader b0_ r.1 LB' ∧ OwT 80 enc_Bundle 24 r.2 u0 M0) := by
 have X1 := h0
 unfold object_Reader_Code at hF
 refine lc_body (k := 39) (av := [.pointer (some ⟨b0_, 0, none⟩)]) func22 rfl rfl (h := fun W hS => ?_)
 have hS := hS.own_eq X1
 refine c_seq <| c_region <| oy hS y_assign <| n_thenN ?_
 iterate 2 (refine c_seq ?_)
 refine c_region <| oy hS y_move ?_
 have hS2 := hS.spl (.cons _ (.nil _))
 obtain ⟨r1, hr1, hF⟩ := ob hF
 refine o_call hS2 func46 rfl rfl (hc := (w_object_Reader_many (a0 := a0) (a1 := 16) (h0 := (rfl : Bx_Reader b0_ a0 ((b0_, blk (enc_Reader a0) 68) :: []))) (hF := hr1))) (h := ?_)
 clear hS; intro v2 LY3 w hS hr4
 clear hS2
 obtain ⟨LB5, rfl, rfl, hb6⟩ := hr4
 obtain rfl := hb6
 simp only [aa, ac, al] at hS
 refine oy hS y_move <| n_thenN <| c_block ?_
 refine c_loopP hF (fun (q : ((List (A4 T_Ins)) × Int × ByteArray × Bool)) a w' => ∃ (v58 : Value) (E0 : Own), OwT 80 enc_Bundle 24 q.1 v58 E0 ∧ (∃ s : Nat → Value, a = Ac (((((Fm.dead 39 s).upd 0 (.pointer (some ⟨b0_, 0, none⟩))).upd 2 v58).upd 6 (.int .i64 r1.2)).upd 7 (.int .i64 q.2.1))) ∧ St W g LB0_ ((b0_, blk (enc_Reader ⟨q.2.2.1, q.2.2.2⟩) 68) :: (E0 ++ [])) w') ⟨(.slice none 0 0), [], (OwT.nil _ _ _), mk_exF, (hS.re (.b .hb (.take (X := []) (.here [] _) .n)))⟩ ?_
 clear hS hF
 intro Z2 q a w hI hq
 obtain ⟨x57, x62, x63, x64⟩ := q
 obtain ⟨v58, E0, h59, ⟨B3, rfl⟩, hS⟩ := hq
 replace h59 : OwT 80 enc_Bundle 24 x57 v58 E0 := h59
 obtain ⟨D3, hF, K0⟩ := iter_step hI
 clear hI
 dsimp only [object_Reader_Code_b1] at hF
 refine c_seq <| c_region <| oy hS y_bin <| n_thenN <| c_seq ?_
 refine c_if (ht := fun N0 => ?_) (hf := fun N0 => ?_)
 · replace hF := bt N0 hF
   refine wp_skip <| c_seq <| c_block <| c_seq <| c_region <| oy hS y_move ?_
   have hS2 := hS.spl (.cons _ (.nil _))
   obtain ⟨G0, Y0, hF⟩ := ob hF
   refine o_call hS2 func24 rfl rfl (hc := (w_object_Reader_Number (a0 := (⟨x63, x64⟩ : T_Reader)) (h0 := (rfl : Bx_Reader b0_ (⟨x63, x64⟩ : T_Reader) ((b0_, blk (enc_Reader ⟨x63, x64⟩) 68) :: []))) (hF := Y0))) (h := ?_)
   clear hS; intro E3 J2 w hS Z0
   clear hS2
   obtain ⟨K2, rfl, rfl, B1⟩ := Z0
   obtain rfl := B1
   simp only [aa, ac, al] at hS
   refine oy hS y_move ?_
   have hS2 := hS.spl (.cons _ (.nil _))
   obtain ⟨I0, D1, hF⟩ := ob hF
   refine o_call hS2 func24 rfl rfl (hc := (w_object_Reader_Number (a0 := G0.1) (h0 := (rfl : Bx_Reader b0_ G0.1 ((b0_, blk (enc_Reader G0.1) 68) :: []))) (hF := D1))) (h := ?_)
   clear hS; intro G3 M2 w hS E1
   clear hS2
   obtain ⟨N2, rfl, rfl, G1⟩ := E1
   obtain rfl := G1
   simp only [aa, ac, al] at hS
   refine oy hS y_move ?_
   have hS2 := hS.spl (.cons _ (.nil _))
   obtain ⟨J0, I1, hF⟩ := ob hF
   refine o_call hS2 func24 rfl rfl (hc := (w_object_Reader_Number (a0 := I0.1) (h0 := (rfl : Bx_Reader b0_ I0.1 ((b0_, blk (enc_Reader I0.1) 68) :: []))) (hF := I1))) (h := ?_)
   clear hS; intro I3 R2 w hS J1
   clear hS2
   obtain ⟨T2, rfl, rfl, K1⟩ := J1
   obtain rfl := K1
   simp only [aa, ac, al] at hS
   refine oy hS y_move ?_
   have hS2 := hS.spl (.cons _ (.nil _))
   obtain ⟨D0, M1, hF⟩ := ob hF
   refine o_call hS2 func24 rfl rfl (hc := (w_object_Reader_Number (a0 := J0.1) (h0 := (rfl : Bx_Reader b0_ J0.1 ((b0_, blk (enc_Reader J0.1) 68) :: []))) (hF := M1))) (h := ?_)
   clear hS; intro J3 U2 w hS N1
   clear hS2
   obtain ⟨V2, rfl, rfl, R1⟩ := N1
   obtain rfl := R1
   simp only [aa, ac, al] at hS
   refine o_buildT val_uint32 ([G0.2, I0.2, J0.2, D0.2] : List Int) hS el_uint32 (fun _ => rfl) enc_len_uint32 (by decide) rfl (by decide) (hp := rfl) (h := ?_)
   clear hS; intro R0 w hS Y1
   have hS : St W g LB0_ ([(R0, blk (([G0.2, I0.2, J0.2, D0.2] : List Int).flatMap enc_uint32) 38)] ++ ((b0_, blk (enc_Reader D0.1) 68) :: (E0 ++ []))) w := hS
   obtain ⟨B0, T1, hF⟩ := ob hF
   refine o_callS hS func47 rfl rfl (hc := (w_bits_Bundle (a0 := ([G0.2, I0.2, J0.2, D0.2] : List Int)) (h0 := (OwT.plus Y1 hS (fun p hp => mA (hp)))) (hF := T1))) (h := ?_)
   clear hS; intro w hS
   refine oy hS y_move ?_
   iterate 2 (refine oy hS (y_extract rfl) ?_)
   refine o_allocP (cl := (enc_Bundle ⟨(⟨0, 0, 0, 0, 0, ByteArray.empty⟩ : T_Ins), (⟨0, 0, 0, 0, 0, ByteArray.empty⟩ : T_Ins), (⟨0, 0, 0, 0, 0, ByteArray.empty⟩ : T_Ins), (⟨0, 0, 0, 0, 0, ByteArray.empty⟩ : T_Ins)⟩)) zr_api_Bundle rfl hS ?_
   clear hS; intro U0 w hS
   refine o_storeW (vs := (enc_Bundle B0.1)) hS (by exact rfl) (Upd.here _) (by exact sz_api_Bundle) (enc_one_Bundle _) ?_
   clear hS; intro w hS
   refine oy hS y_assign <| n_thenN <| c_seq <| c_region ?_
   iterate 2 (refine oy hS y_move ?_)
   refine oy hS y_nilCheck <| oy hS (y_field fa_object_Reader_1) <| oy hS (y_load (fun w hS => hS.own (mC (mB (mH)))) underlying4 rfl rfl) ?_
   refine o_split (ht := fun T0 => ?_) (hf := fun T0 => ?_)
   · replace hF := bt T0 hF
     iterate 2 (refine o_sk rfl rfl ?_)
     refine oy hS y_pickT <| oy hS y_nilCheck <| oy hS (y_field fa_object_Reader_1) ?_
     have hS := hS.re (.b (.e (.d .hb)) (.b .hb (.t .h (.t .h .n))))
     refine o_storeA1 (o := 1) (cl' := (enc_Reader ⟨D0.1.s, true⟩)) hS (by kernel_rfl) (by exact Nat.le_of_ble_eq_true rfl) (Upd.here _) (by exact sz_bool) rfl rfl ?_
     clear hS; intro w hS
     refine n_thenN <| c_region <| oy hS y_move ?_
     refine oy hS (y_loadW (fun w hS => hS.own (mC (mH))) underlying80 rfl (by exact sz_api_Bundle)) ?_
     refine o_buildT val_Bundle ([B0.1] : List (A4 T_Ins)) hS el_api_Bundle (fun _ => rfl) enc_len_Bundle (by decide) rfl (by decide) (hp := rfl) (h := ?_)
     clear hS; intro Z1 w hS K3
     have hS : St W g LB0_ ([(Z1, blk (([B0.1] : List (A4 T_Ins)).flatMap enc_Bundle) 80)] ++ ((b0_, blk (enc_Reader ⟨D0.1.s, true⟩) 68) :: ((U0, blk (enc_Bundle B0.1) 80) :: ([(R0, blk (([G0.2, I0.2, J0.2, D0.2] : List Int).flatMap enc_uint32) 38)] ++ (E0 ++ []))))) w := hS
     obtain ⟨X2, V0, hF⟩ := ob hF
     have hS := hS.re (.t .h (.t (.e (.e (.d .h))) (.b .hb (.b .hb (.t .h .n)))))
     refine o_appPn (ys := ([B0.1] : List (A4 T_Ins))) (LX := E0) V0 hS el_api_Bundle h59 rfl enc_len_Bundle (enc_ones_Bundle _) (by decide) ?_
     clear hS; intro B2 U1 w D2 hS
     refine oy hS y_assign ?_
     refine n_anyN ?_
     refine c_region <| oy hS y_bin <| oy hS y_move <| n_thenN ?_
     obtain rfl := osi hF
     exact ⟨_, K0, B2, U1, D2, mk_exF, (hS.re (.b (.d .hb) (.t .h .n)))⟩
   replace hF := bf T0 hF
   refine o_gu rfl rfl rfl <| oy hS y_move <| o_gu rfl rfl rfl <| oy hS y_bin <| oy hS y_pickF <| oy hS y_nilCheck <| oy hS (y_field fa_object_Reader_1) ?_
   have hS := hS.re (.b (.e (.d .hb)) (.b .hb (.t .h (.t .h .n))))
   refine o_storeA1 (o := 1) (cl' := (enc_Reader ⟨D0.1.s, decide (B0.2 ≠ 0)⟩)) hS (by kernel_rfl) (by exact Nat.le_of_ble_eq_true rfl) (Upd.here _) (by exact sz_bool) rfl rfl ?_
   clear hS; intro w hS
   refine n_thenN <| c_region <| oy hS y_move ?_
   refine oy hS (y_loadW (fun w hS => hS.own (mC (mH))) underlying80 rfl (by exact sz_api_Bundle)) ?_
   refine o_buildT val_Bundle ([B0.1] : List (A4 T_Ins)) hS el_api_Bundle (fun _ => rfl) enc_len_Bundle (by decide) rfl (by decide) (hp := rfl) (h := ?_)
   clear hS; intro E2 w hS M3
   have hS : St W g LB0_ ([(E2, blk (([B0.1] : List (A4 T_Ins)).flatMap enc_Bundle) 80)] ++ ((b0_, blk (enc_Reader ⟨D0.1.s, decide (B0.2 ≠ 0)⟩) 68) :: ((U0, blk (enc_Bundle B0.1) 80) :: ([(R0, blk (([G0.2, I0.2, J0.2, D0.2] : List Int).flatMap enc_uint32) 38)] ++ (E0 ++ []))))) w := hS
   obtain ⟨Y2, X0, hF⟩ := ob hF
   have hS := hS.re (.t .h (.t (.e (.e (.d .h))) (.b .hb (.b .hb (.t .h .n)))))
   refine o_appPn (ys := ([B0.1] : List (A4 T_Ins))) (LX := E0) X0 hS el_api_Bundle h59 rfl enc_len_Bundle (enc_ones_Bundle _) (by decide) ?_
   clear hS; intro G2 V1 w I2 hS
   refine oy hS y_assign ?_
   refine n_anyN ?_
   refine c_region <| oy hS y_bin <| oy hS y_move <| n_thenN ?_
   obtain rfl := osi hF
   exact ⟨_, K0, G2, V1, I2, mk_exF, (hS.re (.b (.d .hb) (.t .h .n)))⟩
 replace hF := bf N0 hF
 refine wp_exit ?_
 refine c_seq <| c_region <| oy hS y_move <| oy hS y_assign <| n_thenN ?_
 obtain rfl := osi hF
 obtain rfl : _ = r := K0
 refine wp_ret (r_ret (vs := [v58]) (hS.re (.b .hb (.t .h .n))) (rsC res_tmp rsN) rfl ⟨_, _, _, rfl, (by first | rfl | simp only [aa, ac, al, an]), rfl, h59⟩)
theorem w_object_Reader_Code {g : Frag} {a0 : T_Reader} {b0_ : Nat} {LB0_ : Own} {r : (T_Reader × (List (A4 T_Ins)))} (h0 : Bx_Reader b0_ a0 LB0_) (hF : object_Reader_Code a0 = some r) : LC Try.prog 22 #[.pointer (some ⟨b0_, 0, none⟩)] g LB0_ (fun v L => ∃ (LB' : Own) (u0 : Value) (M0 : Own), u0 = v ∧ L = (LB' ++ (M0 ++ [])) ∧ Bx_Reader b0_ r.1 LB' ∧ OwT 80 enc_Bundle 24 r.2 u0 M0) := w_object_Reader_Code_ h0 hF

noncomputable def object_Reader_Numbers_b1 (r1 : (T_Reader × Int)) : ((List Int) × Int × ByteArray × Bool) → Option (Step ((List Int) × Int × ByteArray × Bool) (T_Reader × (List Int))) := fun (x24, x29, x30, x31) => bif decide (x29 < r1.2) then (object_Reader_Number (⟨x30, x31⟩ : T_Reader)).bind fun r53 => (app' x24 ([r53.2] : List Int)).bind fun B0 => some (.next (B0, IntKind.i64.wrap (x29 + 1), r53.1.s, r53.1.Bad)) else some (.done (((⟨x30, x31⟩ : T_Reader), x24)))
noncomputable def object_Reader_Numbers (a0 : T_Reader) : Option (T_Reader × (List Int)) :=
  (object_Reader_many a0 4).bind fun r1 => loop (σ := ((List Int) × Int × ByteArray × Bool)) (object_Reader_Numbers_b1 r1) ([], 0, r1.1.s, r1.1.Bad)
theorem w_object_Reader_Numbers_ {g : Frag} {a0 : T_Reader} {b0_ : Nat} {LB0_ : Own} {r : (T_Reader × (List Int))} (h0 : Bx_Reader b0_ a0 LB0_) (hF : object_Reader_Numbers a0 = some r) : LC Try.prog 23 #[.pointer (some ⟨b0_, 0, none⟩)] g LB0_ (fun v L => ∃ (LB' : Own) (u0 : Value) (M0 : Own), u0 = v ∧ L = (LB' ++ (M0 ++ [])) ∧ Bx_Reader b0_ r.1 LB' ∧ OwT 38 enc_uint32 1 r.2 u0 M0) := by
 have G0 := h0
 unfold object_Reader_Numbers at hF
 refine lc_body (k := 14) (av := [.pointer (some ⟨b0_, 0, none⟩)]) func23 rfl rfl (h := fun W hS => ?_)
 have hS := hS.own_eq G0
 refine c_seq <| c_region <| oy hS y_assign <| n_thenN ?_
 iterate 2 (refine c_seq ?_)
 refine c_region <| oy hS y_move ?_
 have hS2 := hS.spl (.cons _ (.nil _))
 obtain ⟨r1, hr1, hF⟩ := ob hF
 refine o_call hS2 func46 rfl rfl (hc := (w_object_Reader_many (a0 := a0) (a1 := 4) (h0 := (rfl : Bx_Reader b0_ a0 ((b0_, blk (enc_Reader a0) 68) :: []))) (hF := hr1))) (h := ?_)
 clear hS; intro v2 LY3 w hS hr4
 clear hS2
 obtain ⟨LB5, rfl, rfl, hb6⟩ := hr4
 obtain rfl := hb6
 simp only [aa, ac, al] at hS
 refine oy hS y_move <| n_thenN <| c_block ?_
 refine c_loopP hF (fun (q : ((List Int) × Int × ByteArray × Bool)) a w' => ∃ (v25 : Value) (B0 : Own), OwT 38 enc_uint32 1 q.1 v25 B0 ∧ (∃ s : Nat → Value, a = Ac (((((Fm.dead 14 s).upd 0 (.pointer (some ⟨b0_, 0, none⟩))).upd 2 v25).upd 4 (.int .i64 r1.2)).upd 5 (.int .i64 q.2.1))) ∧ St W g LB0_ ((b0_, blk (enc_Reader ⟨q.2.2.1, q.2.2.2⟩) 68) :: (B0 ++ [])) w') ⟨(.slice none 0 0), [], (OwT.nil _ _ _), mk_exF, (hS.re (.b .hb (.take (X := []) (.here [] _) .n)))⟩ ?_
 clear hS hF
 intro n50 q a w hI hq
 obtain ⟨x24, x29, x30, x31⟩ := q
 obtain ⟨v25, B0, h26, ⟨s51, rfl⟩, hS⟩ := hq
 replace h26 : OwT 38 enc_uint32 1 x24 v25 B0 := h26
 obtain ⟨z47, hF, D0⟩ := iter_step hI
 clear hI
 dsimp only [object_Reader_Numbers_b1] at hF
 refine c_seq <| c_region <| oy hS y_bin <| n_thenN <| c_seq ?_
 refine c_if (ht := fun c52 => ?_) (hf := fun c52 => ?_)
 · replace hF := bt c52 hF
   refine wp_skip <| c_seq <| c_block <| c_region ?_
   iterate 2 (refine oy hS y_move ?_)
   have hS2 := hS.spl (.cons _ (.nil _))
   obtain ⟨r53, I0, hF⟩ := ob hF
   refine o_call hS2 func24 rfl rfl (hc := (w_object_Reader_Number (a0 := (⟨x30, x31⟩ : T_Reader)) (h0 := (rfl : Bx_Reader b0_ (⟨x30, x31⟩ : T_Reader) ((b0_, blk (enc_Reader ⟨x30, x31⟩) 68) :: []))) (hF := I0))) (h := ?_)
   clear hS; intro v54 R0 w hS J0
   clear hS2
   obtain ⟨T0, rfl, rfl, K0⟩ := J0
   obtain rfl := K0
   simp only [aa, ac, al] at hS
   refine o_buildT val_uint32 ([r53.2] : List Int) hS el_uint32 (fun _ => rfl) enc_len_uint32 (by decide) rfl (by decide) (hp := rfl) (h := ?_)
   clear hS; intro b59 w hS h60
   have hS : St W g LB0_ ([(b59, blk (([r53.2] : List Int).flatMap enc_uint32) 38)] ++ ((b0_, blk (enc_Reader r53.1) 68) :: (B0 ++ []))) w := hS
   obtain ⟨U0, E0, hF⟩ := ob hF
   have hS := hS.re (.t .h (.t (.e .h) (.b .hb .n)))
   refine o_appPn (ys := ([r53.2] : List Int)) (LX := B0) E0 hS el_uint32 h26 rfl enc_len_uint32 (enc_ones_uint32 _) (by decide) ?_
   clear hS; intro v62 N0 w h64 hS
   refine oy hS y_assign ?_
   refine n_anyN ?_
   refine c_region <| oy hS y_bin <| oy hS y_move <| n_thenN ?_
   obtain rfl := osi hF
   exact ⟨_, D0, v62, N0, h64, mk_exF, (hS.re (.b (.d .hb) (.t .h .n)))⟩
 replace hF := bf c52 hF
 refine wp_exit ?_
 refine c_seq <| c_region <| oy hS y_move <| oy hS y_assign <| n_thenN ?_
 obtain rfl := osi hF
 obtain rfl : _ = r := D0
 refine wp_ret (r_ret (vs := [v25]) (hS.re (.b .hb (.t .h .n))) (rsC res_tmp rsN) rfl ⟨_, _, _, rfl, (by first | rfl | simp only [aa, ac, al, an]), rfl, h26⟩)
theorem w_object_Reader_Numbers {g : Frag} {a0 : T_Reader} {b0_ : Nat} {LB0_ : Own} {r : (T_Reader × (List Int))} (h0 : Bx_Reader b0_ a0 LB0_) (hF : object_Reader_Numbers a0 = some r) : LC Try.prog 23 #[.pointer (some ⟨b0_, 0, none⟩)] g LB0_ (fun v L => ∃ (LB' : Own) (u0 : Value) (M0 : Own), u0 = v ∧ L = (LB' ++ (M0 ++ [])) ∧ Bx_Reader b0_ r.1 LB' ∧ OwT 38 enc_uint32 1 r.2 u0 M0) := w_object_Reader_Numbers_ h0 hF

def object_Reader_Over (a0 : T_Reader) : (T_Reader × Bool) :=
  (a0, decide (a0.s = (ByteArray.mk #[])))
theorem w_object_Reader_Over_ {g : Frag} {a0 : T_Reader} {b0_ : Nat} {LB0_ : Own} {r : (T_Reader × Bool)} (h0 : Bx_Reader b0_ a0 LB0_) (hF : object_Reader_Over a0 = r) : LC Try.prog 25 #[.pointer (some ⟨b0_, 0, none⟩)] g LB0_ (fun v L => ∃ (LB' : Own), v = .bool r.2 ∧ L = (LB' ++ []) ∧ Bx_Reader b0_ r.1 LB') := by
 have B0 := h0
 unfold object_Reader_Over at hF
 refine lc_body (k := 8) (av := [.pointer (some ⟨b0_, 0, none⟩)]) func25 rfl rfl (h := fun W hS => ?_)
 have hS := hS.own_eq B0
 refine c_seq <| c_region <| oy hS y_assign <| n_thenN <| c_seq <| c_region <| oy hS y_move <| oy hS y_nilCheck ?_
 refine oy hS (y_field fa_object_Reader_0) <| oy hS (y_load oH underlying9 rfl rfl) <| oy hS y_seql <| oy hS y_assign <| n_thenN ?_
 subst hF
 refine wp_ret (r_ret (vs := [.bool (decide (a0.s = (ByteArray.mk #[])))]) (hS.re (.b .hb .n)) (rsC res_tmp rsN) rfl ⟨_, rfl, (by first | rfl | simp only [aa, ac, al, an]), rfl⟩)
theorem w_object_Reader_Over {g : Frag} {a0 : T_Reader} {b0_ : Nat} {LB0_ : Own} (h0 : Bx_Reader b0_ a0 LB0_) : LC Try.prog 25 #[.pointer (some ⟨b0_, 0, none⟩)] g LB0_ (fun v L => ∃ (LB' : Own), v = .bool (object_Reader_Over a0).2 ∧ L = (LB' ++ []) ∧ Bx_Reader b0_ (object_Reader_Over a0).1 LB') := w_object_Reader_Over_ h0 rfl

noncomputable def image_Read (a0 : ByteArray) : Option (T_Image × Int) :=
  bif decide (60000 < (a0.size : Int)) then some ((⟨[], [], 0⟩ : T_Image), 2) else (object_Begun a0).bind fun r3 => (object_Reader_Text r3).bind fun r11 => (object_Reader_Code r11.1).bind fun r17 => (object_Reader_Numbers r17.1).bind fun r27 => (object_Reader_Number r27.1).bind fun r37 => bif r37.1.Bad then some ((⟨[], [], 0⟩ : T_Image), 8) else bif !((object_Reader_Over r37.1).2) then some ((⟨[], [], 0⟩ : T_Image), 8) else bif !(decide (r11.2 = (ByteArray.mk #[105, 109, 97, 103, 101]))) then some ((⟨[], [], 0⟩ : T_Image), 8) else (link_May (⟨r17.2, r27.2, IntKind.i64.wrap r37.2⟩ : T_Image)).bind fun r52 => bif !r52 then some ((⟨[], [], 0⟩ : T_Image), 8) else (image_spelt (⟨r17.2, r27.2, IntKind.i64.wrap r37.2⟩ : T_Image)).bind fun r54 => bif !(decide (r54 = a0)) then some ((⟨[], [], 0⟩ : T_Image), 8) else some ((⟨r17.2, r27.2, IntKind.i64.wrap r37.2⟩ : T_Image), 0)
theorem w_image_Read_ {g : Frag} {a0 : ByteArray} {r : (T_Image × Int)}  (hF : image_Read a0 = some r) : LC Try.prog 8 #[.string a0] g [] (fun v L => ∃ (u0 : Value) (M0 : Own), v = .tuple #[u0, .int .i64 r.2] ∧ L = (M0 ++ []) ∧ Ow_Image r.1 u0 M0) := by
 unfold image_Read at hF
 refine lc_body (k := 49) (av := [.string a0]) func8 rfl rfl (h := fun W hS => ?_)
 refine c_seq <| c_region ?_
 refine o_allocP (cl := (cl_Image (.slice none 0 0) (.slice none 0 0) 0)) zr_api_Image rfl hS ?_
 clear hS; intro b1 w hS
 refine oy hS y_assign <| n_thenN ?_
 iterate 2 (refine c_seq ?_)
 refine c_region <| oy hS y_move <| oy hS (y_lens underlying9) <| oy hS y_bin <| n_thenN ?_
 refine c_if (ht := fun c2 => ?_) (hf := fun c2 => ?_)
 · replace hF := bt c2 hF
   refine c_seq <| c_region <| oy hS (y_build (cl := (cl_Image (.slice none 0 0) (.slice none 0 0) 0)) bt_api_Image rfl fillN) ?_
   refine o_storeW (vs := (cl_Image (.slice none 0 0) (.slice none 0 0) 0)) hS (by exact rfl) (Upd.here _) (by exact sz_api_Image) (one_Image rfl rfl) ?_
   clear hS; intro w hS
   refine oy hS y_assign <| n_thenN ?_
   obtain rfl := osi hF
   refine wp_ret (r_ret (vs := [.agg (cl_Image (.slice none 0 0) (.slice none 0 0) 0).toArray, .int .i64 2]) (hS.re (.n)) (rsC (res_cell (hS.own (mH)) underlying37 rfl (by exact sz_api_Image)) (rsC res_tmp rsN)) rfl ⟨_, _, rfl, (by first | rfl | simp only [aa, ac, al, an]), ⟨_, _, _, _, rfl, rfl, OwT.nil _ _ _, OwT.nil _ _ _⟩⟩)
 replace hF := bf c2 hF
 refine wp_skip <| c_seq <| c_region <| oy hS y_move ?_
 obtain ⟨r3, hr3, hF⟩ := ob hF
 refine o_call0 hS func20 rfl rfl (hc := (w_object_Begun (a0 := a0) (hF := hr3))) (h := ?_)
 clear hS; intro v4 LY5 w hS hr6
 obtain ⟨v_0_7, LX_0_8, rfl, rfl, h_0_9⟩ := hr6
 obtain ⟨b_0_10, rfl, rfl⟩ := h_0_9
 simp only [aa, ac, al] at hS
 refine oy hS y_assign <| n_thenN <| c_seq <| c_region <| oy hS y_move ?_
 have hS2 := hS.spl (.cons _ (.nil _))
 obtain ⟨r11, B0, hF⟩ := ob hF
 refine o_call hS2 func21 rfl rfl (hc := (w_object_Reader_Text (a0 := r3) (h0 := (rfl : Bx_Reader b_0_10 r3 ((b_0_10, blk (enc_Reader r3) 68) :: []))) (hF := B0))) (h := ?_)
 clear hS; intro v12 D1 w hS D0
 clear hS2
 obtain ⟨E1, rfl, rfl, E0⟩ := D0
 obtain rfl := E0
 simp only [aa, ac, al] at hS
 refine oy hS y_assign <| n_thenN <| c_seq <| c_region <| oy hS y_move ?_
 have hS2 := hS.spl (.cons _ (.nil _))
 obtain ⟨r17, G0, hF⟩ := ob hF
 refine o_call hS2 func22 rfl rfl (hc := (w_object_Reader_Code (a0 := r11.1) (h0 := (rfl : Bx_Reader b_0_10 r11.1 ((b_0_10, blk (enc_Reader r11.1) 68) :: []))) (hF := G0))) (h := ?_)
 clear hS; intro v18 G1 w hS I0
 clear hS2
 obtain ⟨I1, v_0_23, LX_0_24, rfl, rfl, J0, h_0_25⟩ := I0
 obtain rfl := J0
 simp only [aa, ac, al] at hS
 refine oy hS y_move ?_
 have hS2 := hS.spl (.cons _ (.nil _))
 obtain ⟨r27, K0, hF⟩ := ob hF
 refine o_call hS2 func23 rfl rfl (hc := (w_object_Reader_Numbers (a0 := r17.1) (h0 := (rfl : Bx_Reader b_0_10 r17.1 ((b_0_10, blk (enc_Reader r17.1) 68) :: []))) (hF := K0))) (h := ?_)
 clear hS; intro v28 J1 w hS N0
 clear hS2
 obtain ⟨K1, v_0_33, LX_0_34, rfl, rfl, R0, h_0_35⟩ := N0
 obtain rfl := R0
 simp only [aa, ac, al] at hS
 refine oy hS y_move ?_
 have hS2 := hS.spl (.cons _ (.nil _))
 obtain ⟨r37, T0, hF⟩ := ob hF
 refine o_call hS2 func24 rfl rfl (hc := (w_object_Reader_Number (a0 := r27.1) (h0 := (rfl : Bx_Reader b_0_10 r27.1 ((b_0_10, blk (enc_Reader r27.1) 68) :: []))) (hF := T0))) (h := ?_)
 clear hS; intro v38 M1 w hS U0
 clear hS2
 obtain ⟨N1, rfl, rfl, V0⟩ := U0
 obtain rfl := V0
 simp only [aa, ac, al] at hS
 refine oy hS (y_conv underlying38 underlying3) <| oy hS (y_build (cl := (cl_Image v_0_23 v_0_33 (IntKind.i64.wrap r37.2))) bt_api_Image rfl (fillS (vs := [v_0_23]) rfl (h_0_25).cell rfl rfl (fillS (vs := [v_0_33]) rfl (h_0_35).cell rfl rfl (fillS (vs := [.int .i64 (IntKind.i64.wrap r37.2)]) rfl rfl rfl rfl fillN)))) ?_
 refine o_allocP (cl := (cl_Image (.slice none 0 0) (.slice none 0 0) 0)) zr_api_Image rfl hS ?_
 clear hS; intro b43 w hS
 refine o_storeW (vs := (cl_Image v_0_23 v_0_33 (IntKind.i64.wrap r37.2))) hS (by exact rfl) (Upd.here _) (by exact sz_api_Image) (one_Image (h_0_25).one (h_0_35).one) ?_
 clear hS; intro w hS
 refine n_thenN ?_
 iterate 2 (refine c_seq ?_)
 refine c_region <| oy hS y_move <| oy hS y_nilCheck <| oy hS (y_field fa_object_Reader_1) <| oy hS (y_load (fun w hS => hS.own (mC (mH))) underlying4 rfl rfl) ?_
 refine o_split (ht := fun c44 => ?_) (hf := fun c44 => ?_)
 · replace hF := bt c44 hF
   iterate 3 (refine o_sk rfl rfl ?_)
   refine oy hS y_pickT <| oy hS y_move ?_
   iterate 2 (refine o_sk rfl rfl ?_)
   refine oy hS y_pickT <| oy hS y_move ?_
   iterate 3 (refine o_sk rfl rfl ?_)
   refine oy hS y_pickT <| oy hS y_move ?_
   iterate 4 (refine o_sk rfl rfl ?_)
   refine oy hS y_pickT <| n_thenN ?_
   refine c_if_true (h := ?_)
   refine c_seq <| c_region <| oy hS (y_build (cl := (cl_Image (.slice none 0 0) (.slice none 0 0) 0)) bt_api_Image rfl fillN) ?_
   have hS := hS.re (.b (.e (.e (.d (.d .hb)))) (.b .hb (.b .hb (.t .h (.t .h .n)))))
   refine o_storeW (vs := (cl_Image (.slice none 0 0) (.slice none 0 0) 0)) hS (by exact rfl) (Upd.here _) (by exact sz_api_Image) (one_Image rfl rfl) ?_
   clear hS; intro w hS
   refine oy hS y_assign <| n_thenN ?_
   obtain rfl := osi hF
   refine wp_ret (r_ret (vs := [.agg (cl_Image (.slice none 0 0) (.slice none 0 0) 0).toArray, .int .i64 8]) (hS.re (.n)) (rsC (res_cell (hS.own (mH)) underlying37 rfl (by exact sz_api_Image)) (rsC res_tmp rsN)) rfl ⟨_, _, rfl, (by first | rfl | simp only [aa, ac, al, an]), ⟨_, _, _, _, rfl, rfl, OwT.nil _ _ _, OwT.nil _ _ _⟩⟩)
 replace hF := bf c44 hF
 refine o_gu rfl rfl rfl <| oy hS y_move <| o_gu rfl rfl rfl ?_
 have hS := hS.re (.b (.e .hb) (.b .hb (.t .h (.t .h (.b .hb .n)))))
 have hS2 := hS.spl (.cons _ (.nil _))
 refine o_call hS2 func25 rfl rfl (hc := (w_object_Reader_Over (a0 := r37.1) (h0 := (rfl : Bx_Reader b_0_10 r37.1 ((b_0_10, blk (enc_Reader r37.1) 68) :: []))))) (h := ?_)
 clear hS; intro v45 R1 w hS X0
 clear hS2
 obtain ⟨T1, rfl, rfl, Y0⟩ := X0
 obtain rfl := Y0
 simp only [aa, ac, al] at hS
 refine o_gu rfl rfl rfl <| oy hS y_not <| oy hS y_pickF ?_
 refine o_split (ht := fun c50 => ?_) (hf := fun c50 => ?_)
 · replace hF := bt c50 hF
   iterate 2 (refine o_sk rfl rfl ?_)
   refine oy hS y_pickT <| oy hS y_move ?_
   iterate 3 (refine o_sk rfl rfl ?_)
   refine oy hS y_pickT <| oy hS y_move ?_
   iterate 4 (refine o_sk rfl rfl ?_)
   refine oy hS y_pickT <| n_thenN ?_
   refine c_if_true (h := ?_)
   refine c_seq <| c_region <| oy hS (y_build (cl := (cl_Image (.slice none 0 0) (.slice none 0 0) 0)) bt_api_Image rfl fillN) ?_
   have hS := hS.re (.b (.e (.e (.d (.d .hb)))) (.b .hb (.b .hb (.t .h (.t .h .n)))))
   refine o_storeW (vs := (cl_Image (.slice none 0 0) (.slice none 0 0) 0)) hS (by exact rfl) (Upd.here _) (by exact sz_api_Image) (one_Image rfl rfl) ?_
   clear hS; intro w hS
   refine oy hS y_assign <| n_thenN ?_
   obtain rfl := osi hF
   refine wp_ret (r_ret (vs := [.agg (cl_Image (.slice none 0 0) (.slice none 0 0) 0).toArray, .int .i64 8]) (hS.re (.n)) (rsC (res_cell (hS.own (mH)) underlying37 rfl (by exact sz_api_Image)) (rsC res_tmp rsN)) rfl ⟨_, _, rfl, (by first | rfl | simp only [aa, ac, al, an]), ⟨_, _, _, _, rfl, rfl, OwT.nil _ _ _, OwT.nil _ _ _⟩⟩)
 replace hF := bf c50 hF
 refine o_gu rfl rfl rfl <| oy hS y_move <| o_gu rfl rfl rfl <| oy hS y_sneq <| oy hS y_pickF ?_
 refine o_split (ht := fun c51 => ?_) (hf := fun c51 => ?_)
 · replace hF := bt c51 hF
   iterate 3 (refine o_sk rfl rfl ?_)
   refine oy hS y_pickT <| oy hS y_move ?_
   iterate 4 (refine o_sk rfl rfl ?_)
   refine oy hS y_pickT <| n_thenN ?_
   refine c_if_true (h := ?_)
   refine c_seq <| c_region <| oy hS (y_build (cl := (cl_Image (.slice none 0 0) (.slice none 0 0) 0)) bt_api_Image rfl fillN) ?_
   have hS := hS.re (.b (.e (.e (.d (.d .hb)))) (.b .hb (.b .hb (.t .h (.t .h .n)))))
   refine o_storeW (vs := (cl_Image (.slice none 0 0) (.slice none 0 0) 0)) hS (by exact rfl) (Upd.here _) (by exact sz_api_Image) (one_Image rfl rfl) ?_
   clear hS; intro w hS
   refine oy hS y_assign <| n_thenN ?_
   obtain rfl := osi hF
   refine wp_ret (r_ret (vs := [.agg (cl_Image (.slice none 0 0) (.slice none 0 0) 0).toArray, .int .i64 8]) (hS.re (.n)) (rsC (res_cell (hS.own (mH)) underlying37 rfl (by exact sz_api_Image)) (rsC res_tmp rsN)) rfl ⟨_, _, rfl, (by first | rfl | simp only [aa, ac, al, an]), ⟨_, _, _, _, rfl, rfl, OwT.nil _ _ _, OwT.nil _ _ _⟩⟩)
 replace hF := bf c51 hF
 refine o_gu rfl rfl rfl ?_
 refine oy hS (y_loadW (fun w hS => hS.own (mC (mH))) underlying37 rfl (by exact sz_api_Image)) ?_
 refine o_gu rfl rfl rfl ?_
 obtain ⟨r52, Z0, hF⟩ := ob hF
 refine o_callS hS func15 rfl rfl (hc := (w_link_May (a0 := (⟨r17.2, r27.2, IntKind.i64.wrap r37.2⟩ : T_Image)) (h0 := ⟨_, _, rfl, (OwT.plus h_0_25 hS (fun p hp => mC (mC (mB (mA (hp)))))), (OwT.plus h_0_35 hS (fun p hp => mC (mC (mA (hp)))))⟩) (hF := Z0))) (h := ?_)
 clear hS; intro w hS
 refine o_gu rfl rfl rfl <| oy hS y_not <| oy hS y_pickF ?_
 refine o_split (ht := fun c53 => ?_) (hf := fun c53 => ?_)
 · replace hF := bt c53 hF
   iterate 4 (refine o_sk rfl rfl ?_)
   refine oy hS y_pickT <| n_thenN ?_
   refine c_if_true (h := ?_)
   refine c_seq <| c_region <| oy hS (y_build (cl := (cl_Image (.slice none 0 0) (.slice none 0 0) 0)) bt_api_Image rfl fillN) ?_
   have hS := hS.re (.b (.e (.e (.d (.d .hb)))) (.b .hb (.b .hb (.t .h (.t .h .n)))))
   refine o_storeW (vs := (cl_Image (.slice none 0 0) (.slice none 0 0) 0)) hS (by exact rfl) (Upd.here _) (by exact sz_api_Image) (one_Image rfl rfl) ?_
   clear hS; intro w hS
   refine oy hS y_assign <| n_thenN ?_
   obtain rfl := osi hF
   refine wp_ret (r_ret (vs := [.agg (cl_Image (.slice none 0 0) (.slice none 0 0) 0).toArray, .int .i64 8]) (hS.re (.n)) (rsC (res_cell (hS.own (mH)) underlying37 rfl (by exact sz_api_Image)) (rsC res_tmp rsN)) rfl ⟨_, _, rfl, (by first | rfl | simp only [aa, ac, al, an]), ⟨_, _, _, _, rfl, rfl, OwT.nil _ _ _, OwT.nil _ _ _⟩⟩)
 replace hF := bf c53 hF
 refine o_gu rfl rfl rfl ?_
 refine oy hS (y_loadW (fun w hS => hS.own (mC (mH))) underlying37 rfl (by exact sz_api_Image)) ?_
 refine o_gu rfl rfl rfl ?_
 obtain ⟨r54, B1, hF⟩ := ob hF
 refine o_callS hS func16 rfl rfl (hc := (w_image_spelt (a0 := (⟨r17.2, r27.2, IntKind.i64.wrap r37.2⟩ : T_Image)) (h0 := ⟨_, _, rfl, (OwT.plus h_0_25 hS (fun p hp => mC (mC (mB (mA (hp)))))), (OwT.plus h_0_35 hS (fun p hp => mC (mC (mA (hp)))))⟩) (hF := B1))) (h := ?_)
 clear hS; intro w hS
 refine o_gu rfl rfl rfl <| oy hS y_move <| o_gu rfl rfl rfl <| oy hS y_sneq <| oy hS y_pickF <| n_thenN ?_
 refine c_if (ht := fun c55 => ?_) (hf := fun c55 => ?_)
 · replace hF := bt c55 hF
   refine c_seq <| c_region <| oy hS (y_build (cl := (cl_Image (.slice none 0 0) (.slice none 0 0) 0)) bt_api_Image rfl fillN) ?_
   have hS := hS.re (.b (.e (.e (.d (.d .hb)))) (.b .hb (.b .hb (.t .h (.t .h .n)))))
   refine o_storeW (vs := (cl_Image (.slice none 0 0) (.slice none 0 0) 0)) hS (by exact rfl) (Upd.here _) (by exact sz_api_Image) (one_Image rfl rfl) ?_
   clear hS; intro w hS
   refine oy hS y_assign <| n_thenN ?_
   obtain rfl := osi hF
   refine wp_ret (r_ret (vs := [.agg (cl_Image (.slice none 0 0) (.slice none 0 0) 0).toArray, .int .i64 8]) (hS.re (.n)) (rsC (res_cell (hS.own (mH)) underlying37 rfl (by exact sz_api_Image)) (rsC res_tmp rsN)) rfl ⟨_, _, rfl, (by first | rfl | simp only [aa, ac, al, an]), ⟨_, _, _, _, rfl, rfl, OwT.nil _ _ _, OwT.nil _ _ _⟩⟩)
 replace hF := bf c55 hF
 refine wp_skip <| c_seq <| c_region ?_
 refine oy hS (y_loadW (fun w hS => hS.own (mC (mH))) underlying37 rfl (by exact sz_api_Image)) ?_
 have hS := hS.re (.b (.e (.e (.d (.d .hb)))) (.b .hb (.b .hb (.t .h (.t .h .n)))))
 refine o_storeW (vs := (cl_Image v_0_23 v_0_33 (IntKind.i64.wrap r37.2))) hS (by exact rfl) (Upd.here _) (by exact sz_api_Image) (one_Image (h_0_25).one (h_0_35).one) ?_
 clear hS; intro w hS
 refine oy hS y_assign <| n_thenN ?_
 obtain rfl := osi hF
 refine wp_ret (r_ret (vs := [.agg (cl_Image v_0_23 v_0_33 (IntKind.i64.wrap r37.2)).toArray, .int .i64 0]) (hS.re (.t (.e (.e (.e (.d .h)))) (.t (.e (.e (.e .h))) .n))) (rsC (res_cell (hS.own (mH)) underlying37 rfl (by exact sz_api_Image)) (rsC res_tmp rsN)) rfl ⟨_, _, rfl, (by first | rfl | simp only [aa, ac, al, an]), ⟨_, _, _, _, rfl, rfl, h_0_25, h_0_35⟩⟩)
theorem w_image_Read {g : Frag} {a0 : ByteArray} {r : (T_Image × Int)}  (hF : image_Read a0 = some r) : LC Try.prog 8 #[.string a0] g [] (fun v L => ∃ (u0 : Value) (M0 : Own), v = .tuple #[u0, .int .i64 r.2] ∧ L = (M0 ++ []) ∧ Ow_Image r.1 u0 M0) := w_image_Read_  hF

noncomputable def r16_Text (a0 : ByteArray) : Option ByteArray :=
  (cat' (strOfNums ([IntKind.u8.wrap (a0.size : Int)] : List Int)) a0).bind fun x4 => some (x4)
theorem w_r16_Text_ {g : Frag} {a0 : ByteArray} {r : ByteArray}  (hF : r16_Text a0 = some r) : LCs Try.prog 26 #[.string a0] g (.string r) := by
 unfold r16_Text at hF
 refine lc_body (k := 10) (av := [.string a0]) func26 rfl rfl (h := fun W hS => ?_)
 refine c_seq <| c_region <| oy hS y_assign <| n_thenN <| c_seq <| c_region <| oy hS y_move <| oy hS (y_lens underlying9) ?_
 refine oy hS (y_conv underlying3 underlying5) ?_
 refine o_buildT val_uint8 ([IntKind.u8.wrap (a0.size : Int)] : List Int) hS el_uint8 (fun _ => rfl) enc_len_uint8 (by decide) rfl (by decide) (hp := rfl) (h := ?_)
 clear hS; intro b1 w hS h2
 have hS : St W g [] ([(b1, blk (([IntKind.u8.wrap (a0.size : Int)] : List Int).flatMap enc_uint8) 5)] ++ []) w := hS
 refine oy hS (y_b2s (OwT.plus h2 hS (fun p hp => mA (hp))) (fun _ => rfl) (fun w hS _ _ hb => hS.pb hb) underlying83 underlying5 underlying9) <| oy hS y_move ?_
 obtain ⟨x4, hx4, hF⟩ := ob hF
 refine oy hS (y_cat hx4) <| oy hS y_assign <| n_thenN ?_
 obtain rfl := osi hF
 exact wp_ret (wr1 hS)
theorem w_r16_Text {g : Frag} {a0 : ByteArray} {r : ByteArray}  (hF : r16_Text a0 = some r) : LCs Try.prog 26 #[.string a0] g (.string r) := w_r16_Text_  hF

noncomputable def r16_Number (a0 : Int) : Option ByteArray :=
  (shr' .i64 a0 24).bind fun x1 => (shr' .i64 a0 16).bind fun x2 => (shr' .i64 a0 8).bind fun x3 => some (strOfNums ([IntKind.u8.wrap x1, IntKind.u8.wrap x2, IntKind.u8.wrap x3, IntKind.u8.wrap a0] : List Int))
theorem w_r16_Number_ {g : Frag} {a0 : Int} {r : ByteArray}  (hF : r16_Number a0 = some r) : LCs Try.prog 29 #[.int .i64 a0] g (.string r) := by
 unfold r16_Number at hF
 refine lc_body (k := 16) (av := [.int .i64 a0]) func29 rfl rfl (h := fun W hS => ?_)
 refine c_seq <| c_region <| oy hS y_assign <| n_thenN <| c_seq <| c_region <| oy hS y_move ?_
 obtain ⟨x1, hx1, hF⟩ := ob hF
 refine oy hS (y_shr hx1) <| oy hS (y_conv underlying3 underlying5) <| oy hS y_move ?_
 obtain ⟨x2, hx2, hF⟩ := ob hF
 refine oy hS (y_shr hx2) <| oy hS (y_conv underlying3 underlying5) <| oy hS y_move ?_
 obtain ⟨x3, hx3, hF⟩ := ob hF
 refine oy hS (y_shr hx3) <| oy hS (y_conv underlying3 underlying5) <| oy hS y_move <| oy hS (y_conv underlying3 underlying5) ?_
 refine o_buildT val_uint8 ([IntKind.u8.wrap x1, IntKind.u8.wrap x2, IntKind.u8.wrap x3, IntKind.u8.wrap a0] : List Int) hS el_uint8 (fun _ => rfl) enc_len_uint8 (by decide) rfl (by decide) (hp := rfl) (h := ?_)
 clear hS; intro b4 w hS h5
 have hS : St W g [] ([(b4, blk (([IntKind.u8.wrap x1, IntKind.u8.wrap x2, IntKind.u8.wrap x3, IntKind.u8.wrap a0] : List Int).flatMap enc_uint8) 5)] ++ []) w := hS
 refine oy hS (y_b2s (OwT.plus h5 hS (fun p hp => mA (hp))) (fun _ => rfl) (fun w hS _ _ hb => hS.pb hb) underlying83 underlying5 underlying9) <| oy hS y_assign <| n_thenN ?_
 obtain rfl := osi hF
 exact wp_ret (wr1 hS)
theorem w_r16_Number {g : Frag} {a0 : Int} {r : ByteArray}  (hF : r16_Number a0 = some r) : LCs Try.prog 29 #[.int .i64 a0] g (.string r) := w_r16_Number_  hF

noncomputable def r3_Word (a0 : T_Ins) : Option Int :=
  (r3_Form a0.Op).bind fun r2 => (shl' .u32 (IntKind.u32.wrap a0.Op) 26).bind fun x3 => (shl' .u32 (IntKind.u32.wrap a0.A) 18).bind fun x4 => bif decide (r2 = 5) then (shl' .u32 (IntKind.u32.wrap a0.B) 22).bind fun x6 => bif decide (0 < (r3_Bits r2)) then (shl' .u32 1 (r3_Bits r2)).bind fun x8 => some (bits .or .u32 (bits .or .u32 (bits .or .u32 x3 x4) x6) (bits .and .u32 (IntKind.u32.wrap a0.Imm) (IntKind.u32.wrap (x8 - 1)))) else some (bits .or .u32 (bits .or .u32 x3 x4) x6) else (shl' .u32 (IntKind.u32.wrap a0.D) 22).bind fun x9 => (shl' .u32 (IntKind.u32.wrap a0.B) 14).bind fun x10 => bif decide (0 < (r3_Bits r2)) then (shl' .u32 1 (r3_Bits r2)).bind fun x12 => some (bits .or .u32 (bits .or .u32 (bits .or .u32 (bits .or .u32 x3 x4) x9) x10) (bits .and .u32 (IntKind.u32.wrap a0.Imm) (IntKind.u32.wrap (x12 - 1)))) else some (bits .or .u32 (bits .or .u32 (bits .or .u32 x3 x4) x9) x10)
theorem w_r3_Word_ {g : Frag} {a0 : T_Ins} {r : Int}  (hF : r3_Word a0 = some r) : LCs Try.prog 48 #[.agg (enc_Ins a0).toArray] g (.int .u32 r) := by
 unfold r3_Word at hF
 refine lc_body (k := 50) (av := [.agg (enc_Ins a0).toArray]) func48 rfl rfl (h := fun W hS => ?_)
 refine c_seq <| c_region ?_
 refine o_boxP (cl := (enc_Ins a0)) rfl hS ?_
 clear hS; intro b1 w hS
 refine oy hS y_assign <| n_thenN <| c_seq <| c_region <| oy hS (y_field fa_api_Ins_0) <| oy hS (y_load oH underlying3 rfl rfl) ?_
 obtain ⟨r2, hr2, hF⟩ := ob hF
 refine o_callS hS func63 rfl rfl (hc := (w_r3_Form (a0 := a0.Op) (hF := hr2))) (h := ?_)
 clear hS; intro w hS
 refine oy hS y_assign <| n_thenN <| c_seq <| c_region <| oy hS (y_field fa_api_Ins_0) <| oy hS (y_load oH underlying3 rfl rfl) <| oy hS (y_conv underlying3 underlying38) ?_
 obtain ⟨x3, hx3, hF⟩ := ob hF
 refine oy hS (y_shl hx3) <| oy hS (y_field fa_api_Ins_2) <| oy hS (y_load oH underlying3 rfl rfl) <| oy hS (y_conv underlying3 underlying38) ?_
 obtain ⟨x4, hx4, hF⟩ := ob hF
 refine oy hS (y_shl hx4) <| oy hS y_bin <| oy hS y_assign <| n_thenN ?_
 iterate 2 (refine c_seq ?_)
 refine c_region <| oy hS y_move <| oy hS y_bin <| n_thenN ?_
 refine c_if (ht := fun c5 => ?_) (hf := fun c5 => ?_)
 · replace hF := bt c5 hF
   refine c_region <| oy hS y_move <| oy hS (y_field fa_api_Ins_3) <| oy hS (y_load oH underlying3 rfl rfl) <| oy hS (y_conv underlying3 underlying38) ?_
   obtain ⟨x6, hx6, hF⟩ := ob hF
   refine oy hS (y_shl hx6) <| oy hS y_bin <| oy hS y_assign <| n_thenN ?_
   iterate 2 (refine c_seq ?_)
   refine c_region <| oy hS y_move ?_
   refine o_callS hS func64 rfl rfl (hc := (w_r3_Bits (a0 := r2))) (h := ?_)
   clear hS; intro w hS
   refine oy hS y_bin <| n_thenN ?_
   refine c_if (ht := fun c7 => ?_) (hf := fun c7 => ?_)
   · replace hF := bt c7 hF
     refine c_quiet (by kernel_rfl) (by kernel_rfl) hS ?_
     refine qy y_move <| qy (y_field fa_api_Ins_4) <| qy (y_load (fun w hS => hS.own (mH)) underlying3 rfl rfl) <| qy (y_conv underlying3 underlying38) <| qy y_move ?_
     refine q_callS func64 rfl rfl (hc := (w_r3_Bits (a0 := r2))) (h := ?_)
     obtain ⟨x8, hx8, hF⟩ := ob hF
     refine qy (y_shl hx8) ?_
     iterate 3 (refine qy y_bin ?_)
     refine qy y_assign ?_
     refine q_nilN (h := ?_)
     clear hS; intro w hS
     refine c_seq <| c_region <| oy hS y_move <| oy hS y_assign <| n_thenN ?_
     obtain rfl := osi hF
     exact wp_ret (wr1 hS)
   replace hF := bf c7 hF
   refine wp_skip <| c_seq <| c_region <| oy hS y_move <| oy hS y_assign <| n_thenN ?_
   obtain rfl := osi hF
   exact wp_ret (wr1 hS)
 replace hF := bf c5 hF
 refine c_region <| oy hS y_move <| oy hS (y_field fa_api_Ins_1) <| oy hS (y_load oH underlying3 rfl rfl) <| oy hS (y_conv underlying3 underlying38) ?_
 obtain ⟨x9, hx9, hF⟩ := ob hF
 refine oy hS (y_shl hx9) <| oy hS y_bin <| oy hS (y_field fa_api_Ins_3) <| oy hS (y_load oH underlying3 rfl rfl) <| oy hS (y_conv underlying3 underlying38) ?_
 obtain ⟨x10, B0, hF⟩ := ob hF
 refine oy hS (y_shl B0) <| oy hS y_bin <| oy hS y_assign <| n_thenN ?_
 iterate 2 (refine c_seq ?_)
 refine c_region <| oy hS y_move ?_
 refine o_callS hS func64 rfl rfl (hc := (w_r3_Bits (a0 := r2))) (h := ?_)
 clear hS; intro w hS
 refine oy hS y_bin <| n_thenN ?_
 refine c_if (ht := fun c11 => ?_) (hf := fun c11 => ?_)
 · replace hF := bt c11 hF
   refine c_quiet (by kernel_rfl) (by kernel_rfl) hS ?_
   refine qy y_move <| qy (y_field fa_api_Ins_4) <| qy (y_load (fun w hS => hS.own (mH)) underlying3 rfl rfl) <| qy (y_conv underlying3 underlying38) <| qy y_move ?_
   refine q_callS func64 rfl rfl (hc := (w_r3_Bits (a0 := r2))) (h := ?_)
   obtain ⟨x12, D0, hF⟩ := ob hF
   refine qy (y_shl D0) ?_
   iterate 3 (refine qy y_bin ?_)
   refine qy y_assign ?_
   refine q_nilN (h := ?_)
   clear hS; intro w hS
   refine c_seq <| c_region <| oy hS y_move <| oy hS y_assign <| n_thenN ?_
   obtain rfl := osi hF
   exact wp_ret (wr1 hS)
 replace hF := bf c11 hF
 refine wp_skip <| c_seq <| c_region <| oy hS y_move <| oy hS y_assign <| n_thenN ?_
 obtain rfl := osi hF
 exact wp_ret (wr1 hS)
theorem w_r3_Word {g : Frag} {a0 : T_Ins} {r : Int}  (hF : r3_Word a0 = some r) : LCs Try.prog 48 #[.agg (enc_Ins a0).toArray] g (.int .u32 r) := w_r3_Word_  hF

noncomputable def r16_Words_b2 (a0 : (List (A4 T_Ins))) (x60 : Int) : (ByteArray × Int) → Option (Step (ByteArray × Int) (Step (ByteArray × Int) ByteArray)) := fun (E0, D0) => bif decide (D0 < 4) then (at' a0 x60).bind fun B0 => (at' [B0.x0, B0.x1, B0.x2, B0.x3] D0).bind fun G0 => (r3_Word G0).bind fun I0 => (r16_Number (IntKind.i64.wrap I0)).bind fun J0 => (cat' E0 J0).bind fun K0 => some (.next (K0, IntKind.i64.wrap (D0 + 1))) else some (.done (.next (E0, IntKind.i64.wrap (x60 + 1))))
noncomputable def r16_Words_b1 (a0 : (List (A4 T_Ins))) : (ByteArray × Int) → Option (Step (ByteArray × Int) ByteArray) := fun (x59, x60) => bif decide (x60 < (a0.length : Int)) then loop (σ := (ByteArray × Int)) (r16_Words_b2 a0 x60) (x59, 0) else some (.done (x59))
noncomputable def r16_Words (a0 : (List (A4 T_Ins))) : Option ByteArray :=
  (r16_Number (a0.length : Int)).bind fun r1 => loop (σ := (ByteArray × Int)) (r16_Words_b1 a0) (r1, 0)
theorem w_r16_Words_ {g : Frag} {a0 : (List (A4 T_Ins))} {v0_ : Value} {r : ByteArray} (h0 : SlT g enc_Bundle 24 a0 v0_) (hF : r16_Words a0 = some r) : LCs Try.prog 27 #[v0_] g (.string r) := by
 unfold r16_Words at hF
 refine lc_body (k := 31) (av := [v0_]) func27 rfl rfl (h := fun W hS => ?_)
 refine c_seq <| c_region <| oy hS y_assign <| n_thenN <| c_seq <| c_region <| oy hS y_move <| oy hS (y_len h0 underlying34) ?_
 obtain ⟨r1, hr1, hF⟩ := ob hF
 refine o_callS hS func29 rfl rfl (hc := (w_r16_Number (a0 := (a0.length : Int)) (hF := hr1))) (h := ?_)
 clear hS; intro w hS
 refine oy hS y_assign <| n_thenN ?_
 iterate 2 (refine c_seq ?_)
 refine c_region <| oy hS y_assign <| n_thenN <| c_block ?_
 refine c_loopP hF (fun (q : (ByteArray × Int)) a w' => (∃ s : Nat → Value, a = Ac ((((Fm.dead 31 s).upd 0 v0_).upd 3 (.string q.1)).upd 4 (.int .i64 q.2))) ∧ St W g [] [] w') ⟨mk_exF, (hS.re (.n))⟩ ?_
 clear hS hF
 intro J1 q a w hI hq
 obtain ⟨x59, x60⟩ := q
 obtain ⟨⟨K1, rfl⟩, hS⟩ := hq
 obtain ⟨B1, hF, I0⟩ := iter_step hI
 clear hI
 dsimp only [r16_Words_b1] at hF
 iterate 2 (refine c_seq ?_)
 refine c_region ?_
 iterate 2 (refine oy hS y_move ?_)
 refine oy hS (y_len h0 underlying34) <| oy hS y_bin <| n_thenN ?_
 refine c_if (ht := fun E0 => ?_) (hf := fun E0 => ?_)
 · replace hF := bt E0 hF
   refine wp_skip <| c_seq <| c_block <| c_seq <| c_region <| oy hS y_assign <| n_thenN <| c_block ?_
   refine c_loopP hF (fun (q : (ByteArray × Int)) a w' => (∃ s : Nat → Value, a = Ac (((((Fm.dead 31 s).upd 0 v0_).upd 3 (.string q.1)).upd 4 (.int .i64 x60)).upd 5 (.int .i64 q.2))) ∧ St W g [] [] w') ⟨mk_exF, (hS.re (.n))⟩ ?_
   clear hS hF
   intro M1 q a w hI hq
   obtain ⟨N1, R1⟩ := q
   obtain ⟨⟨T1, rfl⟩, hS⟩ := hq
   obtain ⟨U1, hF, J0⟩ := iter_step hI
   clear hI
   dsimp only [r16_Words_b2] at hF
   iterate 2 (refine c_seq ?_)
   refine c_region <| oy hS y_move <| oy hS y_bin <| n_thenN ?_
   refine c_if (ht := fun G0 => ?_) (hf := fun G0 => ?_)
   · replace hF := bt G0 hF
     refine wp_skip <| c_seq <| c_block <| c_region ?_
     iterate 4 (refine oy hS y_move ?_)
     obtain ⟨B0, M0, hF⟩ := ob hF
     obtain ⟨V1, D1, X1, G1, Y1, I1, N0, R0, T0, U0, V0⟩ := SlT.at M0 h0 enc_len_Bundle
     refine oy hS (y_index N0 R0 T0 underlying34 el_api_Bundle.size) ?_
     obtain ⟨K0, D0, hF⟩ := ob hF
     refine oy hS (y_indexA (at'_bnd D0 rfl).1 (at'_bnd D0 (n := 4) rfl).2 underlying80 (by exact sz_api_Ins)) ?_
     refine oy hS (y_loadN (vs := (enc_Ins K0)) (fun w hS => hS.block U0) underlying78 rfl (by exact sz_api_Ins) (arr_elt (q := D1 + (x60).toNat * 24) (o := 0) (xs := [B0.x0, B0.x1, B0.x2, B0.x3]) (pre := []) (post := []) D0 enc_len_Ins V0 (by exact rfl) rfl)) ?_
     obtain ⟨E1, X0, hF⟩ := ob hF
     refine o_callS hS func48 rfl rfl (hc := (w_r3_Word (a0 := K0) (hF := X0))) (h := ?_)
     clear hS; intro w hS
     refine oy hS (y_conv underlying38 underlying3) ?_
     obtain ⟨Z1, Y0, hF⟩ := ob hF
     refine o_callS hS func29 rfl rfl (hc := (w_r16_Number (a0 := (IntKind.i64.wrap E1)) (hF := Y0))) (h := ?_)
     clear hS; intro w hS
     obtain ⟨B2, Z0, hF⟩ := ob hF
     refine oy hS (y_cat Z0) <| oy hS y_assign ?_
     refine n_anyN ?_
     refine c_region <| oy hS y_move <| oy hS y_bin <| oy hS y_assign <| n_thenN ?_
     obtain rfl := osi hF
     exact ⟨_, J0, mk_exF, (hS.re (.n))⟩
   replace hF := bf G0 hF
   refine wp_exit ?_
   refine c_region <| oy hS y_move <| oy hS y_bin <| oy hS y_assign <| n_thenN ?_
   obtain rfl := osi hF
   obtain rfl : _ = B1 := J0
   exact ⟨_, I0, mk_exF, (hS.re (.n))⟩
 replace hF := bf E0 hF
 refine wp_exit ?_
 refine c_seq <| c_region <| oy hS y_move <| oy hS y_assign <| n_thenN ?_
 obtain rfl := osi hF
 obtain rfl : _ = r := I0
 exact wp_ret (wr1 hS)
theorem w_r16_Words {g : Frag} {a0 : (List (A4 T_Ins))} {v0_ : Value} {r : ByteArray} (h0 : SlT g enc_Bundle 24 a0 v0_) (hF : r16_Words a0 = some r) : LCs Try.prog 27 #[v0_] g (.string r) := w_r16_Words_ h0 hF
end Go.Proofs.Ytjmmkbehdbpklaa
