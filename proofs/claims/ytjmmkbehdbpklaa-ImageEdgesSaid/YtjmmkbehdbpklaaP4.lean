/- Functions, lifted. Printed by lift.py. -/
import Derived.Test.YtjmmkbehdbpklaaProg
import Derived.Test.YtjmmkbehdbpklaaP3
import Derived.KernelRfl
namespace Go.Proofs.Ytjmmkbehdbpklaa
open Go Go.RowKit Fr
set_option linter.unusedVariables false
set_option linter.unusedSimpArgs false
set_option maxRecDepth 20000
open Try
set_option maxHeartbeats 2000000
noncomputable def r16_Datas_b1 (a0 : (List Int)) : (ByteArray × Int) → Option (Step (ByteArray × Int) ByteArray) := fun (x17, x18) => bif decide (x18 < (a0.length : Int)) then (at' a0 x18).bind fun x39 => (r16_Number (IntKind.i64.wrap x39)).bind fun r51 => (cat' x17 r51).bind fun x52 => some (.next (x52, IntKind.i64.wrap (x18 + 1))) else some (.done (x17))
noncomputable def r16_Datas (a0 : (List Int)) : Option ByteArray :=
  (r16_Number (a0.length : Int)).bind fun r1 => loop (σ := (ByteArray × Int)) (r16_Datas_b1 a0) (r1, 0)
theorem w_r16_Datas_ {g : Frag} {a0 : (List Int)} {v0_ : Value} {r : ByteArray} (h0 : SlT g enc_uint32 1 a0 v0_) (hF : r16_Datas a0 = some r) : LCs Try.prog 28 #[v0_] g (.string r) := by
 unfold r16_Datas at hF
 refine lc_body (k := 23) (av := [v0_]) func28 rfl rfl (h := fun W hS => ?_)
 refine c_seq <| c_region <| oy hS y_assign <| n_thenN <| c_seq <| c_region <| oy hS y_move <| oy hS (y_len h0 underlying31) ?_
 obtain ⟨r1, hr1, hF⟩ := ob hF
 refine o_callS hS func29 rfl rfl (hc := (w_r16_Number (a0 := (a0.length : Int)) (hF := hr1))) (h := ?_)
 clear hS; intro w hS
 refine oy hS y_assign <| n_thenN ?_
 iterate 2 (refine c_seq ?_)
 refine c_region <| oy hS y_assign <| n_thenN <| c_block ?_
 refine c_loopP hF (fun (q : (ByteArray × Int)) a w' => (∃ s : Nat → Value, a = Ac ((((Fm.dead 23 s).upd 0 v0_).upd 3 (.string q.1)).upd 4 (.int .i64 q.2))) ∧ St W g [] [] w') ⟨mk_exF, (hS.re (.n))⟩ ?_
 clear hS hF
 intro n36 q a w hI hq
 obtain ⟨x17, x18⟩ := q
 obtain ⟨⟨s37, rfl⟩, hS⟩ := hq
 obtain ⟨z34, hF, B0⟩ := iter_step hI
 clear hI
 dsimp only [r16_Datas_b1] at hF
 iterate 2 (refine c_seq ?_)
 refine c_region ?_
 iterate 2 (refine oy hS y_move ?_)
 refine oy hS (y_len h0 underlying31) <| oy hS y_bin <| n_thenN ?_
 refine c_if (ht := fun c38 => ?_) (hf := fun c38 => ?_)
 · replace hF := bt c38 hF
   refine wp_skip <| c_seq <| c_block <| c_region ?_
   iterate 3 (refine oy hS y_move ?_)
   obtain ⟨x39, D0, hF⟩ := ob hF
   obtain ⟨b40, o41, c42, R0, e44, T0, E0, G0, I0, J0, K0⟩ := SlT.at D0 h0 enc_len_uint32
   refine oy hS (y_index E0 G0 I0 underlying31 el_uint32.size) <| oy hS (y_load (fun w hS => hS.block J0) underlying38 rfl (K0 0 _ rfl)) <| oy hS (y_conv underlying38 underlying3) ?_
   obtain ⟨r51, M0, hF⟩ := ob hF
   refine o_callS hS func29 rfl rfl (hc := (w_r16_Number (a0 := (IntKind.i64.wrap x39)) (hF := M0))) (h := ?_)
   clear hS; intro w hS
   obtain ⟨x52, N0, hF⟩ := ob hF
   refine oy hS (y_cat N0) <| oy hS y_assign ?_
   refine n_anyN ?_
   refine c_region <| oy hS y_move <| oy hS y_bin <| oy hS y_assign <| n_thenN ?_
   obtain rfl := osi hF
   exact ⟨_, B0, mk_exF, (hS.re (.n))⟩
 replace hF := bf c38 hF
 refine wp_exit ?_
 refine c_seq <| c_region <| oy hS y_move <| oy hS y_assign <| n_thenN ?_
 obtain rfl := osi hF
 obtain rfl : _ = r := B0
 exact wp_ret (wr1 hS)
theorem w_r16_Datas {g : Frag} {a0 : (List Int)} {v0_ : Value} {r : ByteArray} (h0 : SlT g enc_uint32 1 a0 v0_) (hF : r16_Datas a0 = some r) : LCs Try.prog 28 #[v0_] g (.string r) := w_r16_Datas_ h0 hF

noncomputable def r16_Summed_b2 (a0 : ByteArray) : (Int × Int) → Option (Step (Int × Int) (Step Int ByteArray)) := fun (x18, x19) => bif decide (x19 < (a0.size : Int)) then (byte' a0 x19).bind fun x27 => some (.next (IntKind.i64.wrap (x18 + (IntKind.i64.wrap x27)), IntKind.i64.wrap (x19 + 1))) else some (.done (.next x18))
noncomputable def r16_Summed_k1 (a0 : ByteArray) : Int → Option ByteArray := fun x13 => (rem' x13 65521).bind fun x29 => (r16_Number x29).bind fun r30 => (cat' a0 r30).bind fun x31 => some (x31)
noncomputable def r16_Summed (a0 : ByteArray) : Option ByteArray :=
  cut (σ := Int) (loop (σ := (Int × Int)) (r16_Summed_b2 a0) (0, 0)) (r16_Summed_k1 a0)
theorem w_r16_Summed_ {g : Frag} {a0 : ByteArray} {r : ByteArray}  (hF : r16_Summed a0 = some r) : LCs Try.prog 13 #[.string a0] g (.string r) := by
 unfold r16_Summed at hF
 refine lc_body (k := 22) (av := [.string a0]) func13 rfl rfl (h := fun W hS => ?_)
 refine c_seq <| c_region <| oy hS y_assign <| n_thenN <| c_seq <| c_region <| oy hS y_assign <| n_thenN ?_
 obtain ⟨z14, hF, D0⟩ := cut_step hF
 refine c_cutP (fun a w' => ∃ (x13 : Int), r16_Summed_k1 a0 x13 = some r ∧ (∃ s : Nat → Value, a = Ac (((Fm.dead 22 s).upd 0 (.string a0)).upd 3 (.int .i64 x13))) ∧ St W g [] [] w') ?_ ?_
 · skip
   refine c_seq <| c_region <| oy hS y_assign <| n_thenN <| c_block ?_
   refine c_loopP hF (fun (q : (Int × Int)) a w' => (∃ s : Nat → Value, a = Ac ((((Fm.dead 22 s).upd 0 (.string a0)).upd 3 (.int .i64 q.1)).upd 4 (.int .i64 q.2))) ∧ St W g [] [] w') ⟨mk_exF, (hS.re (.n))⟩ ?_
   clear hS hF
   intro n24 q a w hI hq
   obtain ⟨x18, x19⟩ := q
   obtain ⟨⟨s25, rfl⟩, hS⟩ := hq
   obtain ⟨z22, hF, B0⟩ := iter_step hI
   clear hI
   dsimp only [r16_Summed_b2] at hF
   iterate 2 (refine c_seq ?_)
   refine c_region ?_
   iterate 2 (refine oy hS y_move ?_)
   refine oy hS (y_lens underlying9) <| oy hS y_bin <| n_thenN ?_
   refine c_if (ht := fun c26 => ?_) (hf := fun c26 => ?_)
   · replace hF := bt c26 hF
     refine wp_skip <| c_seq <| c_block <| c_region ?_
     iterate 3 (refine oy hS y_move ?_)
     obtain ⟨x27, E0, hF⟩ := ob hF
     refine oy hS (y_byte E0 underlying9) <| oy hS (y_conv underlying5 underlying3) <| oy hS y_bin <| oy hS y_assign ?_
     refine n_anyN ?_
     refine c_region <| oy hS y_move <| oy hS y_bin <| oy hS y_assign <| n_thenN ?_
     obtain rfl := osi hF
     exact ⟨_, B0, mk_exF, (hS.re (.n))⟩
   replace hF := bf c26 hF
   refine wp_exit ?_
   obtain rfl := osi hF
   obtain rfl : _ = z14 := B0
   change ∃ _, _
   exact ⟨x18, D0, mk_exF, (hS.re (.n))⟩
 rintro a w ⟨x13, hF, ⟨s28, rfl⟩, hS⟩
 dsimp only [r16_Summed_k1] at hF
 refine c_seq <| c_region ?_
 iterate 2 (refine oy hS y_move ?_)
 obtain ⟨x29, G0, hF⟩ := ob hF
 refine oy hS (y_rem G0) ?_
 obtain ⟨r30, I0, hF⟩ := ob hF
 refine o_callS hS func29 rfl rfl (hc := (w_r16_Number (a0 := x29) (hF := I0))) (h := ?_)
 clear hS; intro w hS
 obtain ⟨x31, J0, hF⟩ := ob hF
 refine oy hS (y_cat J0) <| oy hS y_assign <| n_thenN ?_
 obtain rfl := osi hF
 exact wp_ret (wr1 hS)
theorem w_r16_Summed {g : Frag} {a0 : ByteArray} {r : ByteArray}  (hF : r16_Summed a0 = some r) : LCs Try.prog 13 #[.string a0] g (.string r) := w_r16_Summed_  hF

noncomputable def r19_Write (a0 : T_Image) : Option ByteArray :=
  (r16_Text (ByteArray.mk #[105, 109, 97, 103, 101])).bind fun r2 => (r16_Words a0.Code).bind fun r3 => (cat' r2 r3).bind fun x4 => (r16_Datas a0.Data).bind fun r5 => (cat' x4 r5).bind fun x6 => (r16_Number a0.Entry).bind fun r7 => (cat' x6 r7).bind fun x8 => (r16_Summed x8).bind fun r9 => some (r9)
theorem w_r19_Write_ {g : Frag} {a0 : T_Image} {v0_ : Value} {r : ByteArray} (h0 : Rd_Image g a0 v0_) (hF : r19_Write a0 = some r) : LCs Try.prog 9 #[v0_] g (.string r) := by
 obtain ⟨B0, D0, rfl, E0, G0⟩ := h0
 unfold r19_Write at hF
 refine lc_body (k := 17) (av := [.agg (cl_Image B0 D0 a0.Entry).toArray]) func9 rfl rfl (h := fun W hS => ?_)
 refine c_seq <| c_region ?_
 refine o_boxP (cl := (cl_Image B0 D0 a0.Entry)) rfl hS ?_
 clear hS; intro b1 w hS
 refine oy hS y_assign <| n_thenN <| c_seq ?_
 refine c_quiet (by kernel_rfl) (by kernel_rfl) hS ?_
 obtain ⟨r2, hr2, hF⟩ := ob hF
 refine q_callS func26 rfl rfl (hc := (w_r16_Text (a0 := (ByteArray.mk #[105, 109, 97, 103, 101])) (hF := hr2))) (h := ?_)
 refine qy (y_field fa_api_Image_0) <| qy (y_load (fun w hS => hS.own (mH)) underlying34 rfl rfl) ?_
 obtain ⟨r3, hr3, hF⟩ := ob hF
 refine q_callS func27 rfl rfl (hc := (w_r16_Words (a0 := a0.Code) (h0 := E0.plus) (hF := hr3))) (h := ?_)
 obtain ⟨x4, hx4, hF⟩ := ob hF
 refine qy (y_cat hx4) <| qy (y_field fa_api_Image_1) <| qy (y_load (fun w hS => hS.own (mH)) underlying31 rfl rfl) ?_
 obtain ⟨r5, hr5, hF⟩ := ob hF
 refine q_callS func28 rfl rfl (hc := (w_r16_Datas (a0 := a0.Data) (h0 := G0.plus) (hF := hr5))) (h := ?_)
 obtain ⟨x6, hx6, hF⟩ := ob hF
 refine qy (y_cat hx6) <| qy (y_field fa_api_Image_2) <| qy (y_load (fun w hS => hS.own (mH)) underlying3 rfl rfl) ?_
 obtain ⟨r7, hr7, hF⟩ := ob hF
 refine q_callS func29 rfl rfl (hc := (w_r16_Number (a0 := a0.Entry) (hF := hr7))) (h := ?_)
 obtain ⟨x8, hx8, hF⟩ := ob hF
 refine qy (y_cat hx8) ?_
 obtain ⟨r9, hr9, hF⟩ := ob hF
 refine q_callS func13 rfl rfl (hc := (w_r16_Summed (a0 := x8) (hF := hr9))) (h := ?_)
 refine qy y_assign ?_
 refine q_nilN (h := ?_)
 clear hS; intro w hS
 obtain rfl := osi hF
 exact wp_ret (wr1 hS)
theorem w_r19_Write {g : Frag} {a0 : T_Image} {v0_ : Value} {r : ByteArray} (h0 : Rd_Image g a0 v0_) (hF : r19_Write a0 = some r) : LCs Try.prog 9 #[v0_] g (.string r) := w_r19_Write_ h0 hF

noncomputable def r0_EqBundles_b1 (a0 : (List (A4 T_Ins))) (a1 : (List (A4 T_Ins))) : Int → Option (Step Int Bool) := fun x28 => bif decide (x28 < (a0.length : Int)) then (at' a0 x28).bind fun x60 => (at' a1 x28).bind fun x72 => bif !(eqb_Bundle x60 x72) then some (.done (false)) else some (.next (IntKind.i64.wrap (x28 + 1))) else some (.done (true))
noncomputable def r0_EqBundles (a0 : (List (A4 T_Ins))) (a1 : (List (A4 T_Ins))) : Option Bool :=
  bif decide ((a0.length : Int) ≠ (a1.length : Int)) then some (false) else loop (σ := Int) (r0_EqBundles_b1 a0 a1) 0
theorem w_r0_EqBundles_ {g : Frag} {a0 : (List (A4 T_Ins))} {v0_ : Value} {a1 : (List (A4 T_Ins))} {v1_ : Value} {r : Bool} (h0 : SlT g enc_Bundle 24 a0 v0_) (h1 : SlT g enc_Bundle 24 a1 v1_) (hF : r0_EqBundles a0 a1 = some r) : LCs Try.prog 30 #[v0_, v1_] g (.bool r) := by
 unfold r0_EqBundles at hF
 refine lc_body (k := 26) (av := [v0_, v1_]) func30 rfl rfl (h := fun W hS => ?_)
 refine c_seq <| c_region <| oy hS y_assign <| n_thenN ?_
 iterate 2 (refine c_seq ?_)
 refine c_region <| oy hS y_move <| oy hS (y_len h0 underlying34) <| oy hS y_move <| oy hS (y_len h1 underlying34) <| oy hS y_bin <| n_thenN ?_
 refine c_if (ht := fun c1 => ?_) (hf := fun c1 => ?_)
 · replace hF := bt c1 hF
   refine c_seq <| c_region <| oy hS y_assign <| n_thenN ?_
   obtain rfl := osi hF
   exact wp_ret (wr1 hS)
 replace hF := bf c1 hF
 refine wp_skip ?_
 iterate 2 (refine c_seq ?_)
 refine c_region <| oy hS y_assign <| n_thenN <| c_block ?_
 refine c_loopP hF (fun (q : Int) a w' => (∃ s : Nat → Value, a = Ac ((((Fm.dead 26 s).upd 0 v0_).upd 1 v1_).upd 5 (.int .i64 q))) ∧ St W g [] [] w') ⟨mk_exF, (hS.re (.n))⟩ ?_
 clear hS hF
 intro n57 q a w hI hq
 revert hq hI; revert q; intro x28 hI hq
 obtain ⟨⟨s58, rfl⟩, hS⟩ := hq
 obtain ⟨z55, hF, B0⟩ := iter_step hI
 clear hI
 dsimp only [r0_EqBundles_b1] at hF
 iterate 2 (refine c_seq ?_)
 refine c_region ?_
 iterate 2 (refine oy hS y_move ?_)
 refine oy hS (y_len h0 underlying34) <| oy hS y_bin <| n_thenN ?_
 refine c_if (ht := fun c59 => ?_) (hf := fun c59 => ?_)
 · replace hF := bt c59 hF
   refine wp_skip <| c_seq <| c_block <| c_seq ?_
   refine c_quiet (by kernel_rfl) (by kernel_rfl) hS ?_
   iterate 2 (refine qy y_move ?_)
   obtain ⟨x60, D0, hF⟩ := ob hF
   obtain ⟨b61, o62, c63, X0, e65, Y0, E0, G0, I0, J0, K0⟩ := SlT.at D0 h0 enc_len_Bundle
   refine qy (y_index E0 G0 I0 underlying34 el_api_Bundle.size) ?_
   refine qy (y_loadN (vs := (enc_Bundle x60)) (fun w hS => hS.block J0) underlying80 rfl (by exact sz_api_Bundle) (fun j u hj => K0 j u hj)) ?_
   iterate 2 (refine qy y_move ?_)
   obtain ⟨x72, M0, hF⟩ := ob hF
   obtain ⟨b73, o74, c75, Z0, e77, B1, N0, R0, T0, U0, V0⟩ := SlT.at M0 h1 enc_len_Bundle
   refine qy (y_index N0 R0 T0 underlying34 el_api_Bundle.size) ?_
   refine qy (y_loadN (vs := (enc_Bundle x72)) (fun w hS => hS.block U0) underlying80 rfl (by exact sz_api_Bundle) (fun j u hj => V0 j u hj)) ?_
   refine qy (y_neq_Bundle) ?_
   refine q_nilN (h := ?_)
   clear hS; intro w hS
   refine c_if (ht := fun c84 => ?_) (hf := fun c84 => ?_)
   · replace hF := bt c84 hF
     refine c_seq <| c_region <| oy hS y_assign <| n_thenN ?_
     obtain rfl := osi hF
     obtain rfl : _ = r := B0
     exact wp_ret (wr1 hS)
   replace hF := bf c84 hF
   refine wp_skip <| c_region <| oy hS y_move <| oy hS y_bin <| oy hS y_assign <| n_thenN ?_
   obtain rfl := osi hF
   exact ⟨_, B0, mk_exF, (hS.re (.n))⟩
 replace hF := bf c59 hF
 refine wp_exit ?_
 refine c_seq <| c_region <| oy hS y_assign <| n_thenN ?_
 obtain rfl := osi hF
 obtain rfl : _ = r := B0
 exact wp_ret (wr1 hS)
theorem w_r0_EqBundles {g : Frag} {a0 : (List (A4 T_Ins))} {v0_ : Value} {a1 : (List (A4 T_Ins))} {v1_ : Value} {r : Bool} (h0 : SlT g enc_Bundle 24 a0 v0_) (h1 : SlT g enc_Bundle 24 a1 v1_) (hF : r0_EqBundles a0 a1 = some r) : LCs Try.prog 30 #[v0_, v1_] g (.bool r) := w_r0_EqBundles_ h0 h1 hF

noncomputable def r0_EqWords_b1 (a0 : (List Int)) (a1 : (List Int)) : Int → Option (Step Int Bool) := fun x28 => bif decide (x28 < (a0.length : Int)) then (at' a0 x28).bind fun x60 => (at' a1 x28).bind fun x72 => bif decide (x60 ≠ x72) then some (.done (false)) else some (.next (IntKind.i64.wrap (x28 + 1))) else some (.done (true))
noncomputable def r0_EqWords (a0 : (List Int)) (a1 : (List Int)) : Option Bool :=
  bif decide ((a0.length : Int) ≠ (a1.length : Int)) then some (false) else loop (σ := Int) (r0_EqWords_b1 a0 a1) 0
theorem w_r0_EqWords_ {g : Frag} {a0 : (List Int)} {v0_ : Value} {a1 : (List Int)} {v1_ : Value} {r : Bool} (h0 : SlT g enc_uint32 1 a0 v0_) (h1 : SlT g enc_uint32 1 a1 v1_) (hF : r0_EqWords a0 a1 = some r) : LCs Try.prog 31 #[v0_, v1_] g (.bool r) := by
 unfold r0_EqWords at hF
 refine lc_body (k := 26) (av := [v0_, v1_]) func31 rfl rfl (h := fun W hS => ?_)
 refine c_seq <| c_region <| oy hS y_assign <| n_thenN ?_
 iterate 2 (refine c_seq ?_)
 refine c_region <| oy hS y_move <| oy hS (y_len h0 underlying31) <| oy hS y_move <| oy hS (y_len h1 underlying31) <| oy hS y_bin <| n_thenN ?_
 refine c_if (ht := fun c1 => ?_) (hf := fun c1 => ?_)
 · replace hF := bt c1 hF
   refine c_seq <| c_region <| oy hS y_assign <| n_thenN ?_
   obtain rfl := osi hF
   exact wp_ret (wr1 hS)
 replace hF := bf c1 hF
 refine wp_skip ?_
 iterate 2 (refine c_seq ?_)
 refine c_region <| oy hS y_assign <| n_thenN <| c_block ?_
 refine c_loopP hF (fun (q : Int) a w' => (∃ s : Nat → Value, a = Ac ((((Fm.dead 26 s).upd 0 v0_).upd 1 v1_).upd 5 (.int .i64 q))) ∧ St W g [] [] w') ⟨mk_exF, (hS.re (.n))⟩ ?_
 clear hS hF
 intro n57 q a w hI hq
 revert hq hI; revert q; intro x28 hI hq
 obtain ⟨⟨s58, rfl⟩, hS⟩ := hq
 obtain ⟨z55, hF, B0⟩ := iter_step hI
 clear hI
 dsimp only [r0_EqWords_b1] at hF
 iterate 2 (refine c_seq ?_)
 refine c_region ?_
 iterate 2 (refine oy hS y_move ?_)
 refine oy hS (y_len h0 underlying31) <| oy hS y_bin <| n_thenN ?_
 refine c_if (ht := fun c59 => ?_) (hf := fun c59 => ?_)
 · replace hF := bt c59 hF
   refine wp_skip <| c_seq <| c_block <| c_seq ?_
   refine c_quiet (by kernel_rfl) (by kernel_rfl) hS ?_
   iterate 2 (refine qy y_move ?_)
   obtain ⟨x60, D0, hF⟩ := ob hF
   obtain ⟨b61, o62, c63, X0, e65, Y0, E0, G0, I0, J0, K0⟩ := SlT.at D0 h0 enc_len_uint32
   refine qy (y_index E0 G0 I0 underlying31 el_uint32.size) <| qy (y_load (fun w hS => hS.block J0) underlying38 rfl (K0 0 _ rfl)) ?_
   iterate 2 (refine qy y_move ?_)
   obtain ⟨x72, M0, hF⟩ := ob hF
   obtain ⟨b73, o74, c75, Z0, e77, B1, N0, R0, T0, U0, V0⟩ := SlT.at M0 h1 enc_len_uint32
   refine qy (y_index N0 R0 T0 underlying31 el_uint32.size) <| qy (y_load (fun w hS => hS.block U0) underlying38 rfl (V0 0 _ rfl)) <| qy y_bin ?_
   refine q_nilN (h := ?_)
   clear hS; intro w hS
   refine c_if (ht := fun c84 => ?_) (hf := fun c84 => ?_)
   · replace hF := bt c84 hF
     refine c_seq <| c_region <| oy hS y_assign <| n_thenN ?_
     obtain rfl := osi hF
     obtain rfl : _ = r := B0
     exact wp_ret (wr1 hS)
   replace hF := bf c84 hF
   refine wp_skip <| c_region <| oy hS y_move <| oy hS y_bin <| oy hS y_assign <| n_thenN ?_
   obtain rfl := osi hF
   exact ⟨_, B0, mk_exF, (hS.re (.n))⟩
 replace hF := bf c59 hF
 refine wp_exit ?_
 refine c_seq <| c_region <| oy hS y_assign <| n_thenN ?_
 obtain rfl := osi hF
 obtain rfl : _ = r := B0
 exact wp_ret (wr1 hS)
theorem w_r0_EqWords {g : Frag} {a0 : (List Int)} {v0_ : Value} {a1 : (List Int)} {v1_ : Value} {r : Bool} (h0 : SlT g enc_uint32 1 a0 v0_) (h1 : SlT g enc_uint32 1 a1 v1_) (hF : r0_EqWords a0 a1 = some r) : LCs Try.prog 31 #[v0_, v1_] g (.bool r) := w_r0_EqWords_ h0 h1 hF

noncomputable def r0_EqImage (a0 : T_Image) (a1 : T_Image) : Option Bool :=
  (r0_EqBundles a0.Code a1.Code).bind fun r3 => bif r3 then (r0_EqWords a0.Data a1.Data).bind fun r5 => bif r5 then some (decide (a0.Entry = a1.Entry)) else some (false) else some (false)
theorem w_r0_EqImage_ {g : Frag} {a0 : T_Image} {v0_ : Value} {a1 : T_Image} {v1_ : Value} {r : Bool} (h0 : Rd_Image g a0 v0_) (h1 : Rd_Image g a1 v1_) (hF : r0_EqImage a0 a1 = some r) : LCs Try.prog 10 #[v0_, v1_] g (.bool r) := by
 obtain ⟨B0, D0, rfl, I0, J0⟩ := h0
 obtain ⟨E0, G0, rfl, K0, M0⟩ := h1
 unfold r0_EqImage at hF
 refine lc_body (k := 24) (av := [.agg (cl_Image B0 D0 a0.Entry).toArray, .agg (cl_Image E0 G0 a1.Entry).toArray]) func10 rfl rfl (h := fun W hS => ?_)
 refine c_seq <| c_region ?_
 refine o_boxP (cl := (cl_Image B0 D0 a0.Entry)) rfl hS ?_
 clear hS; intro b1 w hS
 refine o_boxP (cl := (cl_Image E0 G0 a1.Entry)) rfl hS ?_
 clear hS; intro b2 w hS
 refine oy hS y_assign <| n_thenN <| c_seq <| c_region <| oy hS (y_field fa_api_Image_0) <| oy hS (y_load (fun w hS => hS.own (mC (mH))) underlying34 rfl rfl) <| oy hS (y_field fa_api_Image_0) <| oy hS (y_load oH underlying34 rfl rfl) ?_
 obtain ⟨r3, hr3, hF⟩ := ob hF
 refine o_callS hS func30 rfl rfl (hc := (w_r0_EqBundles (a0 := a0.Code) (a1 := a1.Code) (h0 := I0.plus) (h1 := K0.plus) (hF := hr3))) (h := ?_)
 clear hS; intro w hS
 refine o_split (ht := fun c4 => ?_) (hf := fun c4 => ?_)
 · replace hF := bt c4 hF
   refine o_gu rfl rfl rfl <| oy hS (y_field fa_api_Image_1) <| o_gu rfl rfl rfl <| oy hS (y_load (fun w hS => hS.own (mC (mH))) underlying31 rfl rfl) <| o_gu rfl rfl rfl <| oy hS (y_field fa_api_Image_1) <| o_gu rfl rfl rfl <| oy hS (y_load oH underlying31 rfl rfl) ?_
   refine o_gu rfl rfl rfl ?_
   obtain ⟨r5, hr5, hF⟩ := ob hF
   refine o_callS hS func31 rfl rfl (hc := (w_r0_EqWords (a0 := a0.Data) (a1 := a1.Data) (h0 := J0.plus) (h1 := M0.plus) (hF := hr5))) (h := ?_)
   clear hS; intro w hS
   refine oy hS y_pickT ?_
   refine o_split (ht := fun c6 => ?_) (hf := fun c6 => ?_)
   · replace hF := bt c6 hF
     refine o_gu rfl rfl rfl <| oy hS (y_field fa_api_Image_2) <| o_gu rfl rfl rfl <| oy hS (y_load (fun w hS => hS.own (mC (mH))) underlying3 rfl rfl) <| o_gu rfl rfl rfl <| oy hS (y_field fa_api_Image_2) <| o_gu rfl rfl rfl <| oy hS (y_load oH underlying3 rfl rfl) ?_
     refine o_gu rfl rfl rfl <| oy hS y_bin <| oy hS y_pickT <| oy hS y_assign <| n_thenN ?_
     obtain rfl := osi hF
     exact wp_ret (wr1 hS)
   replace hF := bf c6 hF
   iterate 5 (refine o_sk rfl rfl ?_)
   refine oy hS y_pickF <| oy hS y_assign <| n_thenN ?_
   obtain rfl := osi hF
   exact wp_ret (wr1 hS)
 replace hF := bf c4 hF
 iterate 5 (refine o_sk rfl rfl ?_)
 refine oy hS y_pickF <| oy hS y_move ?_
 iterate 5 (refine o_sk rfl rfl ?_)
 refine oy hS y_pickF <| oy hS y_assign <| n_thenN ?_
 obtain rfl := osi hF
 exact wp_ret (wr1 hS)
theorem w_r0_EqImage {g : Frag} {a0 : T_Image} {v0_ : Value} {a1 : T_Image} {v1_ : Value} {r : Bool} (h0 : Rd_Image g a0 v0_) (h1 : Rd_Image g a1 v1_) (hF : r0_EqImage a0 a1 = some r) : LCs Try.prog 10 #[v0_, v1_] g (.bool r) := w_r0_EqImage_ h0 h1 hF

noncomputable def r0_CopyWords_b1 (a0 : (List Int)) : ((List Int) × Int) → Option (Step ((List Int) × Int) (List Int)) := fun (x24, x29) => bif decide (x29 < (a0.length : Int)) then (at' a0 x29).bind fun x57 => (app' x24 ([x57] : List Int)).bind fun B0 => some (.next (B0, IntKind.i64.wrap (x29 + 1))) else some (.done (x24))
noncomputable def r0_CopyWords (a0 : (List Int)) : Option (List Int) :=
  loop (σ := ((List Int) × Int)) (r0_CopyWords_b1 a0) ([], 0)
theorem w_r0_CopyWords_ {g : Frag} {a0 : (List Int)} {v0_ : Value} {r : (List Int)} (h0 : SlT g enc_uint32 1 a0 v0_) (hF : r0_CopyWords a0 = some r) : LC Try.prog 49 #[v0_] g [] (fun v L => ∃ (u0 : Value) (M0 : Own), u0 = v ∧ L = (M0 ++ []) ∧ OwT 38 enc_uint32 1 r u0 M0) := by
 unfold r0_CopyWords at hF
 refine lc_body (k := 19) (av := [v0_]) func49 rfl rfl (h := fun W hS => ?_)
 refine c_seq <| c_region <| oy hS y_assign <| n_thenN <| c_seq <| c_region <| oy hS y_assign <| n_thenN ?_
 iterate 2 (refine c_seq ?_)
 refine c_region <| oy hS y_assign <| n_thenN <| c_block ?_
 refine c_loopP hF (fun (q : ((List Int) × Int)) a w' => ∃ (v25 : Value) (B0 : Own), OwT 38 enc_uint32 1 q.1 v25 B0 ∧ (∃ s : Nat → Value, a = Ac ((((Fm.dead 19 s).upd 0 v0_).upd 3 v25).upd 4 (.int .i64 q.2))) ∧ St W g [] (B0 ++ []) w') ⟨(.slice none 0 0), [], (OwT.nil _ _ _), mk_exF, (hS.re (.take (X := []) (.here [] _) .n))⟩ ?_
 clear hS hF
 intro n54 q a w hI hq
 obtain ⟨x24, x29⟩ := q
 obtain ⟨v25, B0, h26, ⟨s55, rfl⟩, hS⟩ := hq
 replace h26 : OwT 38 enc_uint32 1 x24 v25 B0 := h26
 obtain ⟨z51, hF, D0⟩ := iter_step hI
 clear hI
 dsimp only [r0_CopyWords_b1] at hF
 iterate 2 (refine c_seq ?_)
 refine c_region ?_
 iterate 2 (refine oy hS y_move ?_)
 refine oy hS (y_len h0 underlying31) <| oy hS y_bin <| n_thenN ?_
 refine c_if (ht := fun c56 => ?_) (hf := fun c56 => ?_)
 · replace hF := bt c56 hF
   refine wp_skip <| c_seq <| c_block <| c_region ?_
   iterate 3 (refine oy hS y_move ?_)
   obtain ⟨x57, G0, hF⟩ := ob hF
   obtain ⟨b58, o59, c60, U0, e62, V0, I0, J0, K0, N0, R0⟩ := SlT.at G0 h0 enc_len_uint32
   refine oy hS (y_index I0 J0 K0 underlying31 el_uint32.size) <| oy hS (y_load (fun w hS => hS.block N0) underlying38 rfl (R0 0 _ rfl)) ?_
   refine o_buildT val_uint32 ([x57] : List Int) hS el_uint32 (fun _ => rfl) enc_len_uint32 (by decide) rfl (by decide) (hp := rfl) (h := ?_)
   clear hS; intro b69 w hS h70
   have hS : St W g [] ([(b69, blk (([x57] : List Int).flatMap enc_uint32) 38)] ++ (B0 ++ [])) w := hS
   obtain ⟨X0, E0, hF⟩ := ob hF
   refine o_appPn (ys := ([x57] : List Int)) (LX := B0) E0 hS el_uint32 h26 rfl enc_len_uint32 (enc_ones_uint32 _) (by decide) ?_
   clear hS; intro v72 T0 w h74 hS
   refine oy hS y_assign ?_
   refine n_anyN ?_
   refine c_region <| oy hS y_move <| oy hS y_bin <| oy hS y_assign <| n_thenN ?_
   obtain rfl := osi hF
   exact ⟨_, D0, v72, T0, h74, mk_exF, (hS.re (.t .h .n))⟩
 replace hF := bf c56 hF
 refine wp_exit ?_
 refine c_seq <| c_region <| oy hS y_move <| oy hS y_assign <| n_thenN ?_
 obtain rfl := osi hF
 obtain rfl : _ = r := D0
 refine wp_ret (r_ret (vs := [v25]) (hS.re (.t .h .n)) (rsC res_tmp rsN) rfl ⟨_, _, rfl, (by first | rfl | simp only [aa, ac, al, an]), h26⟩)
theorem w_r0_CopyWords {g : Frag} {a0 : (List Int)} {v0_ : Value} {r : (List Int)} (h0 : SlT g enc_uint32 1 a0 v0_) (hF : r0_CopyWords a0 = some r) : LC Try.prog 49 #[v0_] g [] (fun v L => ∃ (u0 : Value) (M0 : Own), u0 = v ∧ L = (M0 ++ []) ∧ OwT 38 enc_uint32 1 r u0 M0) := w_r0_CopyWords_ h0 hF

noncomputable def r5_New (a0 : (List Int)) : Option T_State :=
  (make' 16 (0 : Int)).bind fun zs2 => (make' 256 (0 : Int)).bind fun zs7 => (r0_CopyWords a0).bind fun r12 => some (⟨zs2, zs7, r12, 0, [], 0, [], 0, [], 0, 0⟩ : T_State)
theorem w_r5_New_ {g : Frag} {a0 : (List Int)} {v0_ : Value} {r : T_State} (h0 : SlT g enc_uint32 1 a0 v0_) (hF : r5_New a0 = some r) : LC Try.prog 34 #[v0_] g [] (fun v L => ∃ (u0 : Value) (M0 : Own), u0 = v ∧ L = (M0 ++ []) ∧ Ow_State r u0 M0) := by
 unfold r5_New at hF
 refine lc_body (k := 8) (av := [v0_]) func34 rfl rfl (h := fun W hS => ?_)
 refine c_seq <| c_region ?_
 refine o_allocP (cl := (cl_State (.slice none 0 0) (.slice none 0 0) (.slice none 0 0) 0 (.slice none 0 0) 0 (.slice none 0 0) 0 (.slice none 0 0) 0 0)) zr_api_State rfl hS ?_
 clear hS; intro b1 w hS
 refine n_thenN <| c_seq ?_
 obtain ⟨zs2, D0, hF⟩ := ob hF
 obtain ⟨zs7, E0, hF⟩ := ob hF
 obtain ⟨r12, G0, hF⟩ := ob hF
 refine c_heldL 5 6 (by kernel_rfl) rfl hS ?_
 clear hS; intro w hS
 refine hy0 2 rfl wn (by kernel_rfl) (nq (P := Try.prog) (fn := Try.f34)) (fun _ => hS.cb) y_move ?_
 refine hb3 0 1 3 (by kernel_rfl) (hb_op rfl wn (nl (P := Try.prog) (fn := Try.f34)) ?_) (hb_op rfl wn (nl (P := Try.prog) (fn := Try.f34)) ?_) (hb_op rfl wn (nl (P := Try.prog) (fn := Try.f34)) ?_)
 · skip
   refine o_makeP D0 hS el_uint32 enc_len_uint32 mz_uint32 (by decide) ?_
   clear hS; intro v3 LX4 w h5 hS
   refine hb_next (fun _ => (hS.re (.b (.d .hb) .n)).cb) ?_
   refine hb2 1 3 (by kernel_rfl) (hb_op rfl wn (nl (P := Try.prog) (fn := Try.f34)) ?_) (hb_op rfl wn (nl (P := Try.prog) (fn := Try.f34)) ?_)
   · skip
     refine o_makeP E0 hS el_uint32 enc_len_uint32 mz_uint32 (by decide) ?_
     clear hS; intro v8 LX9 w h10 hS
     refine hb_next (fun _ => (hS.re (.b (.d (.d .hb)) .n)).cb) ?_
     refine hb1 3 (by kernel_rfl) (hb_op rfl wn (nl (P := Try.prog) (fn := Try.f34)) ?_)
     refine o_call0 hS func49 rfl rfl (hc := (w_r0_CopyWords (a0 := a0) (h0 := h0.plus) (hF := G0))) (h := ?_)
     clear hS; intro v13 I0 w hS B0
     obtain ⟨v_0_16, LX_0_17, rfl, rfl, h_0_18⟩ := B0
     simp only [aa, ac, al] at hS
     have hC := (hS.re (.b (.d (.d (.d .hb))) .n)).cb
     refine hb_next (fun _ => hC) ?_
     refine hy0 4 rfl wn (by kernel_rfl) (nq (P := Try.prog) (fn := Try.f34)) (fun _ => hC) (y_build (cl := (cl_State v3 v8 v_0_16 0 (.slice none 0 0) 0 (.slice none 0 0) 0 (.slice none 0 0) 0 0)) bt_api_State rfl (fillS (vs := [v3]) rfl (h5).cell rfl rfl (fillS (vs := [v8]) rfl (h10).cell rfl rfl (fillS (vs := [v_0_16]) rfl (h_0_18).cell rfl rfl fillN)))) ?_
     refine hb1 5 (by kernel_rfl) (hb_op rfl wn (nl (P := Try.prog) (fn := Try.f34)) ?_)
     have hS := hS.re (.b (.d (.d (.d .hb))) (.t .h (.t .h (.t .h .n))))
     refine o_storeW (vs := (cl_State v3 v8 v_0_16 0 (.slice none 0 0) 0 (.slice none 0 0) 0 (.slice none 0 0) 0 0)) hS (by exact rfl) (Upd.here _) (by exact sz_api_State) (one_State (h5).one (h10).one (h_0_18).one rfl rfl rfl) ?_
     clear hS; intro w hS
     refine hb_next (fun h => absurd h (by decide)) ?_
     refine hb_done (by kernel_rfl) ?_
     obtain rfl := osi hF
     refine wp_ret (r_ret (vs := [.agg (cl_State v3 v8 v_0_16 0 (.slice none 0 0) 0 (.slice none 0 0) 0 (.slice none 0 0) 0 0).toArray]) (hS.re (.t (.e (.d (.d .h))) (.t (.e (.d .h)) (.t (.e .h) .n)))) (rsC (res_cell (hS.own (mH)) underlying44 rfl (by exact sz_api_State)) rsN) rfl ⟨_, _, rfl, (by first | rfl | simp only [aa, ac, al, an]), ⟨_, _, _, _, _, _, _, _, _, _, _, _, rfl, rfl, h5, h10, h_0_18, OwT.nil _ _ _, OwT.nil _ _ _, OwT.nil _ _ _⟩⟩)
   refine o_call0 hS func49 rfl rfl (hc := (w_r0_CopyWords (a0 := a0) (h0 := h0.plus) (hF := G0))) (h := ?_)
   clear hS; intro v13 I0 w hS B0
   obtain ⟨v_0_16, LX_0_17, rfl, rfl, h_0_18⟩ := B0
   simp only [aa, ac, al] at hS
   refine hb_next (fun _ => (hS.re (.b (.d (.d .hb)) .n)).cb) ?_
   refine hb1 1 (by kernel_rfl) (hb_op rfl wn (nl (P := Try.prog) (fn := Try.f34)) ?_)
   refine o_makeP E0 hS el_uint32 enc_len_uint32 mz_uint32 (by decide) ?_
   clear hS; intro v8 LX9 w h10 hS
   have hC := (hS.re (.b (.d (.d (.d .hb))) .n)).cb
   refine hb_next (fun _ => hC) ?_
   refine hy0 4 rfl wn (by kernel_rfl) (nq (P := Try.prog) (fn := Try.f34)) (fun _ => hC) (y_build (cl := (cl_State v3 v8 v_0_16 0 (.slice none 0 0) 0 (.slice none 0 0) 0 (.slice none 0 0) 0 0)) bt_api_State rfl (fillS (vs := [v3]) rfl (h5).cell rfl rfl (fillS (vs := [v8]) rfl (h10).cell rfl rfl (fillS (vs := [v_0_16]) rfl (h_0_18).cell rfl rfl fillN)))) ?_
   refine hb1 5 (by kernel_rfl) (hb_op rfl wn (nl (P := Try.prog) (fn := Try.f34)) ?_)
   have hS := hS.re (.b (.d (.d (.d .hb))) (.t .h (.t .h (.t .h .n))))
   refine o_storeW (vs := (cl_State v3 v8 v_0_16 0 (.slice none 0 0) 0 (.slice none 0 0) 0 (.slice none 0 0) 0 0)) hS (by exact rfl) (Upd.here _) (by exact sz_api_State) (one_State (h5).one (h10).one (h_0_18).one rfl rfl rfl) ?_
   clear hS; intro w hS
   refine hb_next (fun h => absurd h (by decide)) ?_
   refine hb_done (by kernel_rfl) ?_
   obtain rfl := osi hF
   refine wp_ret (r_ret (vs := [.agg (cl_State v3 v8 v_0_16 0 (.slice none 0 0) 0 (.slice none 0 0) 0 (.slice none 0 0) 0 0).toArray]) (hS.re (.t (.e (.d (.d .h))) (.t (.e .h) (.t (.e .h) .n)))) (rsC (res_cell (hS.own (mH)) underlying44 rfl (by exact sz_api_State)) rsN) rfl ⟨_, _, rfl, (by first | rfl | simp only [aa, ac, al, an]), ⟨_, _, _, _, _, _, _, _, _, _, _, _, rfl, rfl, h5, h10, h_0_18, OwT.nil _ _ _, OwT.nil _ _ _, OwT.nil _ _ _⟩⟩)
 · skip
   refine o_makeP E0 hS el_uint32 enc_len_uint32 mz_uint32 (by decide) ?_
   clear hS; intro v8 LX9 w h10 hS
   refine hb_next (fun _ => (hS.re (.b (.d .hb) .n)).cb) ?_
   refine hb2 0 3 (by kernel_rfl) (hb_op rfl wn (nl (P := Try.prog) (fn := Try.f34)) ?_) (hb_op rfl wn (nl (P := Try.prog) (fn := Try.f34)) ?_)
   · skip
     refine o_makeP D0 hS el_uint32 enc_len_uint32 mz_uint32 (by decide) ?_
     clear hS; intro v3 LX4 w h5 hS
     refine hb_next (fun _ => (hS.re (.b (.d (.d .hb)) .n)).cb) ?_
     refine hb1 3 (by kernel_rfl) (hb_op rfl wn (nl (P := Try.prog) (fn := Try.f34)) ?_)
     refine o_call0 hS func49 rfl rfl (hc := (w_r0_CopyWords (a0 := a0) (h0 := h0.plus) (hF := G0))) (h := ?_)
     clear hS; intro v13 I0 w hS B0
     obtain ⟨v_0_16, LX_0_17, rfl, rfl, h_0_18⟩ := B0
     simp only [aa, ac, al] at hS
     have hC := (hS.re (.b (.d (.d (.d .hb))) .n)).cb
     refine hb_next (fun _ => hC) ?_
     refine hy0 4 rfl wn (by kernel_rfl) (nq (P := Try.prog) (fn := Try.f34)) (fun _ => hC) (y_build (cl := (cl_State v3 v8 v_0_16 0 (.slice none 0 0) 0 (.slice none 0 0) 0 (.slice none 0 0) 0 0)) bt_api_State rfl (fillS (vs := [v3]) rfl (h5).cell rfl rfl (fillS (vs := [v8]) rfl (h10).cell rfl rfl (fillS (vs := [v_0_16]) rfl (h_0_18).cell rfl rfl fillN)))) ?_
     refine hb1 5 (by kernel_rfl) (hb_op rfl wn (nl (P := Try.prog) (fn := Try.f34)) ?_)
     have hS := hS.re (.b (.d (.d (.d .hb))) (.t .h (.t .h (.t .h .n))))
     refine o_storeW (vs := (cl_State v3 v8 v_0_16 0 (.slice none 0 0) 0 (.slice none 0 0) 0 (.slice none 0 0) 0 0)) hS (by exact rfl) (Upd.here _) (by exact sz_api_State) (one_State (h5).one (h10).one (h_0_18).one rfl rfl rfl) ?_
     clear hS; intro w hS
     refine hb_next (fun h => absurd h (by decide)) ?_
     refine hb_done (by kernel_rfl) ?_
     obtain rfl := osi hF
     refine wp_ret (r_ret (vs := [.agg (cl_State v3 v8 v_0_16 0 (.slice none 0 0) 0 (.slice none 0 0) 0 (.slice none 0 0) 0 0).toArray]) (hS.re (.t (.e (.d .h)) (.t (.e (.d .h)) (.t (.e .h) .n)))) (rsC (res_cell (hS.own (mH)) underlying44 rfl (by exact sz_api_State)) rsN) rfl ⟨_, _, rfl, (by first | rfl | simp only [aa, ac, al, an]), ⟨_, _, _, _, _, _, _, _, _, _, _, _, rfl, rfl, h5, h10, h_0_18, OwT.nil _ _ _, OwT.nil _ _ _, OwT.nil _ _ _⟩⟩)
   refine o_call0 hS func49 rfl rfl (hc := (w_r0_CopyWords (a0 := a0) (h0 := h0.plus) (hF := G0))) (h := ?_)
   clear hS; intro v13 I0 w hS B0
   obtain ⟨v_0_16, LX_0_17, rfl, rfl, h_0_18⟩ := B0
   simp only [aa, ac, al] at hS
   refine hb_next (fun _ => (hS.re (.b (.d (.d .hb)) .n)).cb) ?_
   refine hb1 0 (by kernel_rfl) (hb_op rfl wn (nl (P := Try.prog) (fn := Try.f34)) ?_)
   refine o_makeP D0 hS el_uint32 enc_len_uint32 mz_uint32 (by decide) ?_
   clear hS; intro v3 LX4 w h5 hS
   have hC := (hS.re (.b (.d (.d (.d .hb))) .n)).cb
   refine hb_next (fun _ => hC) ?_
   refine hy0 4 rfl wn (by kernel_rfl) (nq (P := Try.prog) (fn := Try.f34)) (fun _ => hC) (y_build (cl := (cl_State v3 v8 v_0_16 0 (.slice none 0 0) 0 (.slice none 0 0) 0 (.slice none 0 0) 0 0)) bt_api_State rfl (fillS (vs := [v3]) rfl (h5).cell rfl rfl (fillS (vs := [v8]) rfl (h10).cell rfl rfl (fillS (vs := [v_0_16]) rfl (h_0_18).cell rfl rfl fillN)))) ?_
   refine hb1 5 (by kernel_rfl) (hb_op rfl wn (nl (P := Try.prog) (fn := Try.f34)) ?_)
   have hS := hS.re (.b (.d (.d (.d .hb))) (.t .h (.t .h (.t .h .n))))
   refine o_storeW (vs := (cl_State v3 v8 v_0_16 0 (.slice none 0 0) 0 (.slice none 0 0) 0 (.slice none 0 0) 0 0)) hS (by exact rfl) (Upd.here _) (by exact sz_api_State) (one_State (h5).one (h10).one (h_0_18).one rfl rfl rfl) ?_
   clear hS; intro w hS
   refine hb_next (fun h => absurd h (by decide)) ?_
   refine hb_done (by kernel_rfl) ?_
   obtain rfl := osi hF
   refine wp_ret (r_ret (vs := [.agg (cl_State v3 v8 v_0_16 0 (.slice none 0 0) 0 (.slice none 0 0) 0 (.slice none 0 0) 0 0).toArray]) (hS.re (.t (.e .h) (.t (.e (.d .h)) (.t (.e .h) .n)))) (rsC (res_cell (hS.own (mH)) underlying44 rfl (by exact sz_api_State)) rsN) rfl ⟨_, _, rfl, (by first | rfl | simp only [aa, ac, al, an]), ⟨_, _, _, _, _, _, _, _, _, _, _, _, rfl, rfl, h5, h10, h_0_18, OwT.nil _ _ _, OwT.nil _ _ _, OwT.nil _ _ _⟩⟩)
 refine o_call0 hS func49 rfl rfl (hc := (w_r0_CopyWords (a0 := a0) (h0 := h0.plus) (hF := G0))) (h := ?_)
 clear hS; intro v13 I0 w hS B0
 obtain ⟨v_0_16, LX_0_17, rfl, rfl, h_0_18⟩ := B0
 simp only [aa, ac, al] at hS
 refine hb_next (fun _ => (hS.re (.b (.d .hb) .n)).cb) ?_
 refine hb2 0 1 (by kernel_rfl) (hb_op rfl wn (nl (P := Try.prog) (fn := Try.f34)) ?_) (hb_op rfl wn (nl (P := Try.prog) (fn := Try.f34)) ?_)
 · skip
   refine o_makeP D0 hS el_uint32 enc_len_uint32 mz_uint32 (by decide) ?_
   clear hS; intro v3 LX4 w h5 hS
   refine hb_next (fun _ => (hS.re (.b (.d (.d .hb)) .n)).cb) ?_
   refine hb1 1 (by kernel_rfl) (hb_op rfl wn (nl (P := Try.prog) (fn := Try.f34)) ?_)
   refine o_makeP E0 hS el_uint32 enc_len_uint32 mz_uint32 (by decide) ?_
   clear hS; intro v8 LX9 w h10 hS
   have hC := (hS.re (.b (.d (.d (.d .hb))) .n)).cb
   refine hb_next (fun _ => hC) ?_
   refine hy0 4 rfl wn (by kernel_rfl) (nq (P := Try.prog) (fn := Try.f34)) (fun _ => hC) (y_build (cl := (cl_State v3 v8 v_0_16 0 (.slice none 0 0) 0 (.slice none 0 0) 0 (.slice none 0 0) 0 0)) bt_api_State rfl (fillS (vs := [v3]) rfl (h5).cell rfl rfl (fillS (vs := [v8]) rfl (h10).cell rfl rfl (fillS (vs := [v_0_16]) rfl (h_0_18).cell rfl rfl fillN)))) ?_
   refine hb1 5 (by kernel_rfl) (hb_op rfl wn (nl (P := Try.prog) (fn := Try.f34)) ?_)
   have hS := hS.re (.b (.d (.d (.d .hb))) (.t .h (.t .h (.t .h .n))))
   refine o_storeW (vs := (cl_State v3 v8 v_0_16 0 (.slice none 0 0) 0 (.slice none 0 0) 0 (.slice none 0 0) 0 0)) hS (by exact rfl) (Upd.here _) (by exact sz_api_State) (one_State (h5).one (h10).one (h_0_18).one rfl rfl rfl) ?_
   clear hS; intro w hS
   refine hb_next (fun h => absurd h (by decide)) ?_
   refine hb_done (by kernel_rfl) ?_
   obtain rfl := osi hF
   refine wp_ret (r_ret (vs := [.agg (cl_State v3 v8 v_0_16 0 (.slice none 0 0) 0 (.slice none 0 0) 0 (.slice none 0 0) 0 0).toArray]) (hS.re (.t (.e (.d .h)) (.t (.e .h) (.t (.e .h) .n)))) (rsC (res_cell (hS.own (mH)) underlying44 rfl (by exact sz_api_State)) rsN) rfl ⟨_, _, rfl, (by first | rfl | simp only [aa, ac, al, an]), ⟨_, _, _, _, _, _, _, _, _, _, _, _, rfl, rfl, h5, h10, h_0_18, OwT.nil _ _ _, OwT.nil _ _ _, OwT.nil _ _ _⟩⟩)
 refine o_makeP E0 hS el_uint32 enc_len_uint32 mz_uint32 (by decide) ?_
 clear hS; intro v8 LX9 w h10 hS
 refine hb_next (fun _ => (hS.re (.b (.d (.d .hb)) .n)).cb) ?_
 refine hb1 0 (by kernel_rfl) (hb_op rfl wn (nl (P := Try.prog) (fn := Try.f34)) ?_)
 refine o_makeP D0 hS el_uint32 enc_len_uint32 mz_uint32 (by decide) ?_
 clear hS; intro v3 LX4 w h5 hS
 have hC := (hS.re (.b (.d (.d (.d .hb))) .n)).cb
 refine hb_next (fun _ => hC) ?_
 refine hy0 4 rfl wn (by kernel_rfl) (nq (P := Try.prog) (fn := Try.f34)) (fun _ => hC) (y_build (cl := (cl_State v3 v8 v_0_16 0 (.slice none 0 0) 0 (.slice none 0 0) 0 (.slice none 0 0) 0 0)) bt_api_State rfl (fillS (vs := [v3]) rfl (h5).cell rfl rfl (fillS (vs := [v8]) rfl (h10).cell rfl rfl (fillS (vs := [v_0_16]) rfl (h_0_18).cell rfl rfl fillN)))) ?_
 refine hb1 5 (by kernel_rfl) (hb_op rfl wn (nl (P := Try.prog) (fn := Try.f34)) ?_)
 have hS := hS.re (.b (.d (.d (.d .hb))) (.t .h (.t .h (.t .h .n))))
 refine o_storeW (vs := (cl_State v3 v8 v_0_16 0 (.slice none 0 0) 0 (.slice none 0 0) 0 (.slice none 0 0) 0 0)) hS (by exact rfl) (Upd.here _) (by exact sz_api_State) (one_State (h5).one (h10).one (h_0_18).one rfl rfl rfl) ?_
 clear hS; intro w hS
 refine hb_next (fun h => absurd h (by decide)) ?_
 refine hb_done (by kernel_rfl) ?_
 obtain rfl := osi hF
 refine wp_ret (r_ret (vs := [.agg (cl_State v3 v8 v_0_16 0 (.slice none 0 0) 0 (.slice none 0 0) 0 (.slice none 0 0) 0 0).toArray]) (hS.re (.t (.e .h) (.t (.e .h) (.t (.e .h) .n)))) (rsC (res_cell (hS.own (mH)) underlying44 rfl (by exact sz_api_State)) rsN) rfl ⟨_, _, rfl, (by first | rfl | simp only [aa, ac, al, an]), ⟨_, _, _, _, _, _, _, _, _, _, _, _, rfl, rfl, h5, h10, h_0_18, OwT.nil _ _ _, OwT.nil _ _ _, OwT.nil _ _ _⟩⟩)
theorem w_r5_New {g : Frag} {a0 : (List Int)} {v0_ : Value} {r : T_State} (h0 : SlT g enc_uint32 1 a0 v0_) (hF : r5_New a0 = some r) : LC Try.prog 34 #[v0_] g [] (fun v L => ∃ (u0 : Value) (M0 : Own), u0 = v ∧ L = (M0 ++ []) ∧ Ow_State r u0 M0) := w_r5_New_ h0 hF

noncomputable def r19_Load_b2 (a0 : (List Int)) : (Int × (List Int)) → Option (Step (Int × (List Int)) (Step (List Int) T_State)) := fun (B0, D0) => bif decide (B0 < (a0.length : Int)) then (at' a0 B0).bind fun G0 => (set' D0 B0 G0).bind fun E0 => some (.next (IntKind.i64.wrap (B0 + 1), E0)) else some (.done (.next D0))
noncomputable def r19_Load_k1 (r2 : T_State) (a1 : Int) : (List Int) → Option T_State := fun B0 => some (⟨r2.Regs, B0, r2.In_, r2.Taken, r2.Out, a1, r2.Stack, r2.Stop, r2.Fly, r2.Jump, r2.Delay⟩ : T_State)
noncomputable def r19_Load (a0 : (List Int)) (a1 : Int) (a2 : (List Int)) : Option T_State :=
  (r5_New a2).bind fun r2 => cut (σ := (List Int)) (loop (σ := (Int × (List Int))) (r19_Load_b2 a0) (0, r2.Mem)) (r19_Load_k1 r2 a1)
theorem w_r19_Load_ {g : Frag} {a0 : (List Int)} {v0_ : Value} {a1 : Int} {a2 : (List Int)} {v2_ : Value} {r : T_State} (h0 : SlT g enc_uint32 1 a0 v0_) (h2 : SlT g enc_uint32 1 a2 v2_) (hF : r19_Load a0 a1 a2 = some r) : LC Try.prog 12 #[v0_, .int .i64 a1, v2_] g [] (fun v L => ∃ (u0 : Value) (M0 : Own), u0 = v ∧ L = (M0 ++ []) ∧ Ow_State r u0 M0) := by
 unfold r19_Load at hF
 refine lc_body (k := 28) (av := [v0_, .int .i64 a1, v2_]) func12 rfl rfl (h := fun W hS => ?_)
 refine c_seq <| c_region ?_
 refine o_allocP (cl := (cl_State (.slice none 0 0) (.slice none 0 0) (.slice none 0 0) 0 (.slice none 0 0) 0 (.slice none 0 0) 0 (.slice none 0 0) 0 0)) zr_api_State rfl hS ?_
 clear hS; intro b1 w hS
 refine n_thenN <| c_seq <| c_region <| oy hS y_move ?_
 obtain ⟨r2, hr2, hF⟩ := ob hF
 refine o_call0 hS func34 rfl rfl (hc := (w_r5_New (a0 := a2) (h0 := h2.plus) (hF := hr2))) (h := ?_)
 clear hS; intro v3 LY4 w hS hr5
 obtain ⟨v_0_6, LX_0_7, rfl, rfl, h_0_8⟩ := hr5
 obtain ⟨J0, B0, D0, E0, G0, I0, K0, J1, N0, R0, T0, U0, rfl, rfl, V0, E1, X0, Y0, Z0, B1⟩ := h_0_8
 simp only [aa, ac, al] at hS
 refine o_allocP (cl := (cl_State (.slice none 0 0) (.slice none 0 0) (.slice none 0 0) 0 (.slice none 0 0) 0 (.slice none 0 0) 0 (.slice none 0 0) 0 0)) zr_api_State rfl hS ?_
 clear hS; intro b33 w hS
 refine o_storeW (vs := (cl_State J0 B0 D0 r2.Taken E0 r2.PC G0 r2.Stop I0 r2.Jump r2.Delay)) hS (by exact rfl) (Upd.here _) (by exact sz_api_State) (one_State (V0).one (E1).one (X0).one (Y0).one (Z0).one (B1).one) ?_
 clear hS; intro w hS
 refine n_thenN ?_
 obtain ⟨N2, hF, V1⟩ := cut_step hF
 refine c_cutP (fun a w' => ∃ (M1 : (List Int)) (I1 : Own), r19_Load_k1 r2 a1 M1 = some r ∧ OwT 38 enc_uint32 1 M1 B0 I1 ∧ (∃ s : Nat → Value, a = Ac ((((Fm.dead 28 s).upd 1 (.int .i64 a1)).upd 6 (.pointer (some ⟨b1, 0, none⟩))).upd 7 (.pointer (some ⟨b33, 0, none⟩)))) ∧ St W g [] ((b1, blk (cl_State (.slice none 0 0) (.slice none 0 0) (.slice none 0 0) 0 (.slice none 0 0) 0 (.slice none 0 0) 0 (.slice none 0 0) 0 0) 44) :: ((b33, blk (cl_State J0 B0 D0 r2.Taken E0 r2.PC G0 r2.Stop I0 r2.Jump r2.Delay) 44) :: (K0 ++ (I1 ++ (N0 ++ (R0 ++ (T0 ++ (U0 ++ [])))))))) w') ?_ ?_
 · skip
   refine c_seq <| c_region <| oy hS y_assign <| n_thenN <| c_block ?_
   refine c_loopP hF (fun (q : (Int × (List Int))) a w' => ∃ (D1 : Own), OwT 38 enc_uint32 1 q.2 B0 D1 ∧ (∃ s : Nat → Value, a = Ac ((((((Fm.dead 28 s).upd 0 v0_).upd 1 (.int .i64 a1)).upd 6 (.pointer (some ⟨b1, 0, none⟩))).upd 7 (.pointer (some ⟨b33, 0, none⟩))).upd 8 (.int .i64 q.1))) ∧ St W g [] ((b1, blk (cl_State (.slice none 0 0) (.slice none 0 0) (.slice none 0 0) 0 (.slice none 0 0) 0 (.slice none 0 0) 0 (.slice none 0 0) 0 0) 44) :: ((b33, blk (cl_State J0 B0 D0 r2.Taken E0 r2.PC G0 r2.Stop I0 r2.Jump r2.Delay) 44) :: (K0 ++ (D1 ++ (N0 ++ (R0 ++ (T0 ++ (U0 ++ [])))))))) w') ⟨J1, E1, mk_exF, (hS.re (.b (.e (.d (.d (.d (.d (.d (.d .hb))))))) (.b .hb (.t .h (.t .h (.t .h (.t .h (.t .h (.t .h .n)))))))))⟩ ?_
   clear hS hF
   intro Y2 q a w hI hq
   obtain ⟨Z2, T1⟩ := q
   obtain ⟨D1, G1, ⟨B3, rfl⟩, hS⟩ := hq
   replace G1 : OwT 38 enc_uint32 1 T1 B0 D1 := G1
   obtain ⟨D3, hF, R1⟩ := iter_step hI
   clear hI
   dsimp only [r19_Load_b2] at hF
   iterate 2 (refine c_seq ?_)
   refine c_region ?_
   iterate 2 (refine oy hS y_move ?_)
   refine oy hS (y_len h0 underlying31) <| oy hS y_bin <| n_thenN ?_
   refine c_if (ht := fun N1 => ?_) (hf := fun N1 => ?_)
   · replace hF := bt N1 hF
     refine wp_skip <| c_seq <| c_block ?_
     refine c_heldL 8 9 (by kernel_rfl) rfl hS ?_
     clear hS; intro w hS
     refine hy0 0 rfl wn (by kernel_rfl) (nq (P := Try.prog) (fn := Try.f12)) (fun _ => hS.cb) (y_field fa_api_State_1) ?_
     refine hy 1 rfl wn (by kernel_rfl) (nq (P := Try.prog) (fn := Try.f12)) hS.cb (y_load (fun w hS => hS.own (mC (mH))) underlying31 rfl rfl) ?_
     refine hy0 2 rfl wn (by kernel_rfl) (nq (P := Try.prog) (fn := Try.f12)) (fun _ => hS.cb) y_move ?_
     refine hy0 3 rfl wn (by kernel_rfl) (nq (P := Try.prog) (fn := Try.f12)) (fun _ => hS.cb) y_move ?_
     refine hy0 4 rfl wn (by kernel_rfl) (nq (P := Try.prog) (fn := Try.f12)) (fun _ => hS.cb) y_move ?_
     obtain ⟨E3, X1, hF⟩ := ob hF
     obtain ⟨G3, I3, J3, T2, K3, U2, Y1, Z1, B2, D2, E2⟩ := SlT.at X1 h0 enc_len_uint32
     refine hy0 5 rfl wn (by kernel_rfl) (nq (P := Try.prog) (fn := Try.f12)) (fun _ => hS.cb) (y_index Y1 Z1 B2 underlying31 el_uint32.size) ?_
     refine hy 6 rfl wn (by kernel_rfl) (nq (P := Try.prog) (fn := Try.f12)) hS.cb (y_load (fun w hS => hS.block D2) underlying38 rfl (E2 0 _ rfl)) ?_
     obtain ⟨V2, K1, hF⟩ := ob hF
     obtain ⟨M3, N3, X2, G2, I2, J2, K2⟩ := OwT.at_set K1 G1 enc_len_uint32
     refine hy0 7 rfl wn (by kernel_rfl) (nq (P := Try.prog) (fn := Try.f12)) (fun _ => hS.cb) (y_index G2 I2 J2 underlying31 el_uint32.size) ?_
     refine hb1 8 (by kernel_rfl) (hb_op rfl wn (nl (P := Try.prog) (fn := Try.f12)) ?_)
     refine o_storeO (L' := fun X => ((b1, blk (cl_State (.slice none 0 0) (.slice none 0 0) (.slice none 0 0) 0 (.slice none 0 0) 0 (.slice none 0 0) 0 (.slice none 0 0) 0 0) 44) :: ((b33, blk (cl_State J0 B0 D0 r2.Taken E0 r2.PC G0 r2.Stop I0 r2.Jump r2.Delay) 44) :: (K0 ++ (X ++ (N0 ++ (R0 ++ (T0 ++ (U0 ++ []))))))))) K1 hS G1 K2 (fun X => .thereb _ (.thereb _ (.there _ (.here _)))) enc_len_uint32 rfl (by exact sz_uint32) rfl rfl ?_
     clear hS; intro M2 w R2 hS
     refine hb_next (fun h => absurd h (by decide)) ?_
     refine hb_done (by kernel_rfl) ?_
     refine c_region <| oy hS y_move <| oy hS y_bin <| oy hS y_assign <| n_thenN ?_
     obtain rfl := osi hF
     exact ⟨_, R1, M2, R2, mk_exF, (hS.re (.b .hb (.b .hb (.t .h (.t .h (.t .h (.t .h (.t .h (.t .h .n)))))))))⟩
   replace hF := bf N1 hF
   refine wp_exit ?_
   obtain rfl := osi hF
   obtain rfl : _ = N2 := R1
   change ∃ _, _
   exact ⟨T1, D1, V1, G1, mk_exF, (hS.re (.b .hb (.b .hb (.t .h (.t .h (.t .h (.t .h (.t .h (.t .h .n)))))))))⟩
 rintro a w ⟨M1, I1, hF, U1, ⟨R3, rfl⟩, hS⟩
 dsimp only [r19_Load_k1] at hF
 refine c_seq <| c_region <| oy hS y_move <| oy hS (y_field fa_api_State_5) ?_
 refine o_storeA1 (o := 5) (cl' := (cl_State J0 B0 D0 r2.Taken E0 a1 G0 r2.Stop I0 r2.Jump r2.Delay)) hS (by kernel_rfl) (by exact Nat.le_of_ble_eq_true rfl) (Upd.there _ (Upd.here _)) (by exact sz_int) rfl rfl ?_
 clear hS; intro w hS
 refine n_thenN <| c_seq <| c_region ?_
 refine oy hS (y_loadW (fun w hS => hS.own (mC (mH))) underlying44 rfl (by exact sz_api_State)) ?_
 refine o_storeW (vs := (cl_State J0 B0 D0 r2.Taken E0 a1 G0 r2.Stop I0 r2.Jump r2.Delay)) hS (by exact rfl) (Upd.here _) (by exact sz_api_State) (one_State (V0).one (U1).one (X0).one (Y0).one (Z0).one (B1).one) ?_
 clear hS; intro w hS
 refine n_thenN ?_
 obtain rfl := osi hF
 refine wp_ret (r_ret (vs := [.agg (cl_State J0 B0 D0 r2.Taken E0 a1 G0 r2.Stop I0 r2.Jump r2.Delay).toArray]) (hS.re (.t (.e (.e .h)) (.t (.e (.e .h)) (.t (.e (.e .h)) (.t (.e (.e .h)) (.t (.e (.e .h)) (.t (.e (.e .h)) .n))))))) (rsC (res_cell (hS.own (mH)) underlying44 rfl (by exact sz_api_State)) rsN) rfl ⟨_, _, rfl, (by first | rfl | simp only [aa, ac, al, an]), ⟨_, _, _, _, _, _, _, _, _, _, _, _, rfl, rfl, V0, U1, X0, Y0, Z0, B1⟩⟩)
theorem w_r19_Load {g : Frag} {a0 : (List Int)} {v0_ : Value} {a1 : Int} {a2 : (List Int)} {v2_ : Value} {r : T_State} (h0 : SlT g enc_uint32 1 a0 v0_) (h2 : SlT g enc_uint32 1 a2 v2_) (hF : r19_Load a0 a1 a2 = some r) : LC Try.prog 12 #[v0_, .int .i64 a1, v2_] g [] (fun v L => ∃ (u0 : Value) (M0 : Own), u0 = v ∧ L = (M0 ++ []) ∧ Ow_State r u0 M0) := w_r19_Load_ h0 h2 hF

noncomputable def r0_EqNumbers_b1 (a0 : (List Int)) (a1 : (List Int)) : Int → Option (Step Int Bool) := fun x28 => bif decide (x28 < (a0.length : Int)) then (at' a0 x28).bind fun x60 => (at' a1 x28).bind fun x72 => bif decide (x60 ≠ x72) then some (.done (false)) else some (.next (IntKind.i64.wrap (x28 + 1))) else some (.done (true))
noncomputable def r0_EqNumbers (a0 : (List Int)) (a1 : (List Int)) : Option Bool :=
  bif decide ((a0.length : Int) ≠ (a1.length : Int)) then some (false) else loop (σ := Int) (r0_EqNumbers_b1 a0 a1) 0
theorem w_r0_EqNumbers_ {g : Frag} {a0 : (List Int)} {v0_ : Value} {a1 : (List Int)} {v1_ : Value} {r : Bool} (h0 : SlT g enc_int 1 a0 v0_) (h1 : SlT g enc_int 1 a1 v1_) (hF : r0_EqNumbers a0 a1 = some r) : LCs Try.prog 32 #[v0_, v1_] g (.bool r) := by
 unfold r0_EqNumbers at hF
 refine lc_body (k := 26) (av := [v0_, v1_]) func32 rfl rfl (h := fun W hS => ?_)
 refine c_seq <| c_region <| oy hS y_assign <| n_thenN ?_
 iterate 2 (refine c_seq ?_)
 refine c_region <| oy hS y_move <| oy hS (y_len h0 underlying35) <| oy hS y_move <| oy hS (y_len h1 underlying35) <| oy hS y_bin <| n_thenN ?_
 refine c_if (ht := fun c1 => ?_) (hf := fun c1 => ?_)
 · replace hF := bt c1 hF
   refine c_seq <| c_region <| oy hS y_assign <| n_thenN ?_
   obtain rfl := osi hF
   exact wp_ret (wr1 hS)
 replace hF := bf c1 hF
 refine wp_skip ?_
 iterate 2 (refine c_seq ?_)
 refine c_region <| oy hS y_assign <| n_thenN <| c_block ?_
 refine c_loopP hF (fun (q : Int) a w' => (∃ s : Nat → Value, a = Ac ((((Fm.dead 26 s).upd 0 v0_).upd 1 v1_).upd 5 (.int .i64 q))) ∧ St W g [] [] w') ⟨mk_exF, (hS.re (.n))⟩ ?_
 clear hS hF
 intro n57 q a w hI hq
 revert hq hI; revert q; intro x28 hI hq
 obtain ⟨⟨s58, rfl⟩, hS⟩ := hq
 obtain ⟨z55, hF, B0⟩ := iter_step hI
 clear hI
 dsimp only [r0_EqNumbers_b1] at hF
 iterate 2 (refine c_seq ?_)
 refine c_region ?_
 iterate 2 (refine oy hS y_move ?_)
 refine oy hS (y_len h0 underlying35) <| oy hS y_bin <| n_thenN ?_
 refine c_if (ht := fun c59 => ?_) (hf := fun c59 => ?_)
 · replace hF := bt c59 hF
   refine wp_skip <| c_seq <| c_block <| c_seq ?_
   refine c_quiet (by kernel_rfl) (by kernel_rfl) hS ?_
   iterate 2 (refine qy y_move ?_)
   obtain ⟨x60, D0, hF⟩ := ob hF
   obtain ⟨b61, o62, c63, X0, e65, Y0, E0, G0, I0, J0, K0⟩ := SlT.at D0 h0 enc_len_int
   refine qy (y_index E0 G0 I0 underlying35 el_int.size) <| qy (y_load (fun w hS => hS.block J0) underlying3 rfl (K0 0 _ rfl)) ?_
   iterate 2 (refine qy y_move ?_)
   obtain ⟨x72, M0, hF⟩ := ob hF
   obtain ⟨b73, o74, c75, Z0, e77, B1, N0, R0, T0, U0, V0⟩ := SlT.at M0 h1 enc_len_int
   refine qy (y_index N0 R0 T0 underlying35 el_int.size) <| qy (y_load (fun w hS => hS.block U0) underlying3 rfl (V0 0 _ rfl)) <| qy y_bin ?_
   refine q_nilN (h := ?_)
   clear hS; intro w hS
   refine c_if (ht := fun c84 => ?_) (hf := fun c84 => ?_)
   · replace hF := bt c84 hF
     refine c_seq <| c_region <| oy hS y_assign <| n_thenN ?_
     obtain rfl := osi hF
     obtain rfl : _ = r := B0
     exact wp_ret (wr1 hS)
   replace hF := bf c84 hF
   refine wp_skip <| c_region <| oy hS y_move <| oy hS y_bin <| oy hS y_assign <| n_thenN ?_
   obtain rfl := osi hF
   exact ⟨_, B0, mk_exF, (hS.re (.n))⟩
 replace hF := bf c59 hF
 refine wp_exit ?_
 refine c_seq <| c_region <| oy hS y_assign <| n_thenN ?_
 obtain rfl := osi hF
 obtain rfl : _ = r := B0
 exact wp_ret (wr1 hS)
theorem w_r0_EqNumbers {g : Frag} {a0 : (List Int)} {v0_ : Value} {a1 : (List Int)} {v1_ : Value} {r : Bool} (h0 : SlT g enc_int 1 a0 v0_) (h1 : SlT g enc_int 1 a1 v1_) (hF : r0_EqNumbers a0 a1 = some r) : LCs Try.prog 32 #[v0_, v1_] g (.bool r) := w_r0_EqNumbers_ h0 h1 hF

noncomputable def r0_EqFlies_b1 (a0 : (List T_Write)) (a1 : (List T_Write)) : Int → Option (Step Int Bool) := fun x28 => bif decide (x28 < (a0.length : Int)) then (at' a0 x28).bind fun x60 => (at' a1 x28).bind fun x72 => bif !(eqb_Write x60 x72) then some (.done (false)) else some (.next (IntKind.i64.wrap (x28 + 1))) else some (.done (true))
noncomputable def r0_EqFlies (a0 : (List T_Write)) (a1 : (List T_Write)) : Option Bool :=
  bif decide ((a0.length : Int) ≠ (a1.length : Int)) then some (false) else loop (σ := Int) (r0_EqFlies_b1 a0 a1) 0
theorem w_r0_EqFlies_ {g : Frag} {a0 : (List T_Write)} {v0_ : Value} {a1 : (List T_Write)} {v1_ : Value} {r : Bool} (h0 : SlT g enc_Write 3 a0 v0_) (h1 : SlT g enc_Write 3 a1 v1_) (hF : r0_EqFlies a0 a1 = some r) : LCs Try.prog 33 #[v0_, v1_] g (.bool r) := by
 unfold r0_EqFlies at hF
 refine lc_body (k := 26) (av := [v0_, v1_]) func33 rfl rfl (h := fun W hS => ?_)
 refine c_seq <| c_region <| oy hS y_assign <| n_thenN ?_
 iterate 2 (refine c_seq ?_)
 refine c_region <| oy hS y_move <| oy hS (y_len h0 underlying42) <| oy hS y_move <| oy hS (y_len h1 underlying42) <| oy hS y_bin <| n_thenN ?_
 refine c_if (ht := fun c1 => ?_) (hf := fun c1 => ?_)
 · replace hF := bt c1 hF
   refine c_seq <| c_region <| oy hS y_assign <| n_thenN ?_
   obtain rfl := osi hF
   exact wp_ret (wr1 hS)
 replace hF := bf c1 hF
 refine wp_skip ?_
 iterate 2 (refine c_seq ?_)
 refine c_region <| oy hS y_assign <| n_thenN <| c_block ?_
 refine c_loopP hF (fun (q : Int) a w' => (∃ s : Nat → Value, a = Ac ((((Fm.dead 26 s).upd 0 v0_).upd 1 v1_).upd 5 (.int .i64 q))) ∧ St W g [] [] w') ⟨mk_exF, (hS.re (.n))⟩ ?_
 clear hS hF
 intro n57 q a w hI hq
 revert hq hI; revert q; intro x28 hI hq
 obtain ⟨⟨s58, rfl⟩, hS⟩ := hq
 obtain ⟨z55, hF, B0⟩ := iter_step hI
 clear hI
 dsimp only [r0_EqFlies_b1] at hF
 iterate 2 (refine c_seq ?_)
 refine c_region ?_
 iterate 2 (refine oy hS y_move ?_)
 refine oy hS (y_len h0 underlying42) <| oy hS y_bin <| n_thenN ?_
 refine c_if (ht := fun c59 => ?_) (hf := fun c59 => ?_)
 · replace hF := bt c59 hF
   refine wp_skip <| c_seq <| c_block <| c_seq ?_
   refine c_quiet (by kernel_rfl) (by kernel_rfl) hS ?_
   iterate 2 (refine qy y_move ?_)
   obtain ⟨x60, D0, hF⟩ := ob hF
   obtain ⟨b61, o62, c63, X0, e65, Y0, E0, G0, I0, J0, K0⟩ := SlT.at D0 h0 enc_len_Write
   refine qy (y_index E0 G0 I0 underlying42 el_api_Write.size) ?_
   refine qy (y_loadN (vs := (enc_Write x60)) (fun w hS => hS.block J0) underlying102 rfl (by exact sz_api_Write) (fun j u hj => K0 j u hj)) ?_
   iterate 2 (refine qy y_move ?_)
   obtain ⟨x72, M0, hF⟩ := ob hF
   obtain ⟨b73, o74, c75, Z0, e77, B1, N0, R0, T0, U0, V0⟩ := SlT.at M0 h1 enc_len_Write
   refine qy (y_index N0 R0 T0 underlying42 el_api_Write.size) ?_
   refine qy (y_loadN (vs := (enc_Write x72)) (fun w hS => hS.block U0) underlying102 rfl (by exact sz_api_Write) (fun j u hj => V0 j u hj)) ?_
   refine qy (y_neq_Write) ?_
   refine q_nilN (h := ?_)
   clear hS; intro w hS
   refine c_if (ht := fun c84 => ?_) (hf := fun c84 => ?_)
   · replace hF := bt c84 hF
     refine c_seq <| c_region <| oy hS y_assign <| n_thenN ?_
     obtain rfl := osi hF
     obtain rfl : _ = r := B0
     exact wp_ret (wr1 hS)
   replace hF := bf c84 hF
   refine wp_skip <| c_region <| oy hS y_move <| oy hS y_bin <| oy hS y_assign <| n_thenN ?_
   obtain rfl := osi hF
   exact ⟨_, B0, mk_exF, (hS.re (.n))⟩
 replace hF := bf c59 hF
 refine wp_exit ?_
 refine c_seq <| c_region <| oy hS y_assign <| n_thenN ?_
 obtain rfl := osi hF
 obtain rfl : _ = r := B0
 exact wp_ret (wr1 hS)
theorem w_r0_EqFlies {g : Frag} {a0 : (List T_Write)} {v0_ : Value} {a1 : (List T_Write)} {v1_ : Value} {r : Bool} (h0 : SlT g enc_Write 3 a0 v0_) (h1 : SlT g enc_Write 3 a1 v1_) (hF : r0_EqFlies a0 a1 = some r) : LCs Try.prog 33 #[v0_, v1_] g (.bool r) := w_r0_EqFlies_ h0 h1 hF

noncomputable def r0_EqState (a0 : T_State) (a1 : T_State) : Option Bool :=
  (r0_EqWords a0.Regs a1.Regs).bind fun r3 => bif r3 then (r0_EqWords a0.Mem a1.Mem).bind fun r5 => bif r5 then (r0_EqWords a0.In_ a1.In_).bind fun r7 => bif r7 then bif decide (a0.Taken = a1.Taken) then (r0_EqWords a0.Out a1.Out).bind fun r10 => bif r10 then bif decide (a0.PC = a1.PC) then (r0_EqNumbers a0.Stack a1.Stack).bind fun r13 => bif r13 then bif decide (a0.Stop = a1.Stop) then (r0_EqFlies a0.Fly a1.Fly).bind fun r16 => bif r16 then bif decide (a0.Jump = a1.Jump) then some (decide (a0.Delay = a1.Delay)) else some (false) else some (false) else some (false) else some (false) else some (false) else some (false) else some (false) else some (false) else some (false) else some (false)
theorem w_r0_EqState_ {g : Frag} {a0 : T_State} {v0_ : Value} {a1 : T_State} {v1_ : Value} {r : Bool} (h0 : Rd_State g a0 v0_) (h1 : Rd_State g a1 v1_) (hF : r0_EqState a0 a1 = some r) : LCs Try.prog 11 #[v0_, v1_] g (.bool r) := by
 obtain ⟨B0, D0, E0, G0, I0, J0, rfl, V0, X0, Y0, Z0, B1, D1⟩ := h0
 obtain ⟨K0, M0, N0, R0, T0, U0, rfl, E1, G1, I1, J1, K1, M1⟩ := h1
 unfold r0_EqState at hF
 refine lc_body (k := 80) (av := [.agg (cl_State B0 D0 E0 a0.Taken G0 a0.PC I0 a0.Stop J0 a0.Jump a0.Delay).toArray, .agg (cl_State K0 M0 N0 a1.Taken R0 a1.PC T0 a1.Stop U0 a1.Jump a1.Delay).toArray]) func11 rfl rfl (h := fun W hS => ?_)
 refine c_seq <| c_region ?_
 refine o_boxP (cl := (cl_State B0 D0 E0 a0.Taken G0 a0.PC I0 a0.Stop J0 a0.Jump a0.Delay)) rfl hS ?_
 clear hS; intro b1 w hS
 refine o_boxP (cl := (cl_State K0 M0 N0 a1.Taken R0 a1.PC T0 a1.Stop U0 a1.Jump a1.Delay)) rfl hS ?_
 clear hS; intro b2 w hS
 refine oy hS y_assign <| n_thenN <| c_seq <| c_region <| oy hS (y_field fa_api_State_0) <| oy hS (y_load (fun w hS => hS.own (mC (mH))) underlying31 rfl rfl) <| oy hS (y_field fa_api_State_0) <| oy hS (y_load oH underlying31 rfl rfl) ?_
 obtain ⟨r3, hr3, hF⟩ := ob hF
 refine o_callS hS func31 rfl rfl (hc := (w_r0_EqWords (a0 := a0.Regs) (a1 := a1.Regs) (h0 := V0.plus) (h1 := E1.plus) (hF := hr3))) (h := ?_)
 clear hS; intro w hS
 refine o_split (ht := fun c4 => ?_) (hf := fun c4 => ?_)
 · replace hF := bt c4 hF
   refine o_gu rfl rfl rfl <| oy hS (y_field fa_api_State_1) <| o_gu rfl rfl rfl <| oy hS (y_load (fun w hS => hS.own (mC (mH))) underlying31 rfl rfl) <| o_gu rfl rfl rfl <| oy hS (y_field fa_api_State_1) <| o_gu rfl rfl rfl <| oy hS (y_load oH underlying31 rfl rfl) ?_
   refine o_gu rfl rfl rfl ?_
   obtain ⟨r5, hr5, hF⟩ := ob hF
   refine o_callS hS func31 rfl rfl (hc := (w_r0_EqWords (a0 := a0.Mem) (a1 := a1.Mem) (h0 := X0.plus) (h1 := G1.plus) (hF := hr5))) (h := ?_)
   clear hS; intro w hS
   refine oy hS y_pickT ?_
   refine o_split (ht := fun c6 => ?_) (hf := fun c6 => ?_)
   · replace hF := bt c6 hF
     refine o_gu rfl rfl rfl <| oy hS (y_field fa_api_State_2) <| o_gu rfl rfl rfl <| oy hS (y_load (fun w hS => hS.own (mC (mH))) underlying31 rfl rfl) <| o_gu rfl rfl rfl <| oy hS (y_field fa_api_State_2) <| o_gu rfl rfl rfl <| oy hS (y_load oH underlying31 rfl rfl) ?_
     refine o_gu rfl rfl rfl ?_
     obtain ⟨r7, hr7, hF⟩ := ob hF
     refine o_callS hS func31 rfl rfl (hc := (w_r0_EqWords (a0 := a0.In_) (a1 := a1.In_) (h0 := Y0.plus) (h1 := I1.plus) (hF := hr7))) (h := ?_)
     clear hS; intro w hS
     refine oy hS y_pickT ?_
     refine o_split (ht := fun c8 => ?_) (hf := fun c8 => ?_)
     · replace hF := bt c8 hF
       refine o_gu rfl rfl rfl <| oy hS (y_field fa_api_State_3) <| o_gu rfl rfl rfl <| oy hS (y_load (fun w hS => hS.own (mC (mH))) underlying3 rfl rfl) <| o_gu rfl rfl rfl <| oy hS (y_field fa_api_State_3) <| o_gu rfl rfl rfl <| oy hS (y_load oH underlying3 rfl rfl) ?_
       refine o_gu rfl rfl rfl <| oy hS y_bin <| oy hS y_pickT ?_
       refine o_split (ht := fun c9 => ?_) (hf := fun c9 => ?_)
       · replace hF := bt c9 hF
         refine o_gu rfl rfl rfl <| oy hS (y_field fa_api_State_4) <| o_gu rfl rfl rfl <| oy hS (y_load (fun w hS => hS.own (mC (mH))) underlying31 rfl rfl) <| o_gu rfl rfl rfl <| oy hS (y_field fa_api_State_4) <| o_gu rfl rfl rfl <| oy hS (y_load oH underlying31 rfl rfl) ?_
         refine o_gu rfl rfl rfl ?_
         obtain ⟨r10, N1, hF⟩ := ob hF
         refine o_callS hS func31 rfl rfl (hc := (w_r0_EqWords (a0 := a0.Out) (a1 := a1.Out) (h0 := Z0.plus) (h1 := J1.plus) (hF := N1))) (h := ?_)
         clear hS; intro w hS
         refine oy hS y_pickT ?_
         refine o_split (ht := fun c11 => ?_) (hf := fun c11 => ?_)
         · replace hF := bt c11 hF
           refine o_gu rfl rfl rfl <| oy hS (y_field fa_api_State_5) <| o_gu rfl rfl rfl <| oy hS (y_load (fun w hS => hS.own (mC (mH))) underlying3 rfl rfl) <| o_gu rfl rfl rfl <| oy hS (y_field fa_api_State_5) <| o_gu rfl rfl rfl <| oy hS (y_load oH underlying3 rfl rfl) ?_
           refine o_gu rfl rfl rfl <| oy hS y_bin <| oy hS y_pickT ?_
           refine o_split (ht := fun c12 => ?_) (hf := fun c12 => ?_)
           · replace hF := bt c12 hF
             refine o_gu rfl rfl rfl <| oy hS (y_field fa_api_State_6) <| o_gu rfl rfl rfl <| oy hS (y_load (fun w hS => hS.own (mC (mH))) underlying35 rfl rfl) <| o_gu rfl rfl rfl <| oy hS (y_field fa_api_State_6) <| o_gu rfl rfl rfl <| oy hS (y_load oH underlying35 rfl rfl) ?_
             refine o_gu rfl rfl rfl ?_
             obtain ⟨r13, R1, hF⟩ := ob hF
             refine o_callS hS func32 rfl rfl (hc := (w_r0_EqNumbers (a0 := a0.Stack) (a1 := a1.Stack) (h0 := B1.plus) (h1 := K1.plus) (hF := R1))) (h := ?_)
             clear hS; intro w hS
             refine oy hS y_pickT ?_
             refine o_split (ht := fun c14 => ?_) (hf := fun c14 => ?_)
             · replace hF := bt c14 hF
               refine o_gu rfl rfl rfl <| oy hS (y_field fa_api_State_7) <| o_gu rfl rfl rfl <| oy hS (y_load (fun w hS => hS.own (mC (mH))) underlying3 rfl rfl) <| o_gu rfl rfl rfl <| oy hS (y_field fa_api_State_7) <| o_gu rfl rfl rfl <| oy hS (y_load oH underlying3 rfl rfl) ?_
               refine o_gu rfl rfl rfl <| oy hS y_bin <| oy hS y_pickT ?_
               refine o_split (ht := fun c15 => ?_) (hf := fun c15 => ?_)
               · replace hF := bt c15 hF
                 refine o_gu rfl rfl rfl <| oy hS (y_field fa_api_State_8) <| o_gu rfl rfl rfl <| oy hS (y_load (fun w hS => hS.own (mC (mH))) underlying42 rfl rfl) <| o_gu rfl rfl rfl <| oy hS (y_field fa_api_State_8) <| o_gu rfl rfl rfl <| oy hS (y_load oH underlying42 rfl rfl) ?_
                 refine o_gu rfl rfl rfl ?_
                 obtain ⟨r16, T1, hF⟩ := ob hF
                 refine o_callS hS func33 rfl rfl (hc := (w_r0_EqFlies (a0 := a0.Fly) (a1 := a1.Fly) (h0 := D1.plus) (h1 := M1.plus) (hF := T1))) (h := ?_)
                 clear hS; intro w hS
                 refine oy hS y_pickT ?_
                 refine o_split (ht := fun c17 => ?_) (hf := fun c17 => ?_)
                 · replace hF := bt c17 hF
                   refine o_gu rfl rfl rfl <| oy hS (y_field fa_api_State_9) <| o_gu rfl rfl rfl <| oy hS (y_load (fun w hS => hS.own (mC (mH))) underlying3 rfl rfl) <| o_gu rfl rfl rfl <| oy hS (y_field fa_api_State_9) <| o_gu rfl rfl rfl <| oy hS (y_load oH underlying3 rfl rfl) ?_
                   refine o_gu rfl rfl rfl <| oy hS y_bin <| oy hS y_pickT ?_
                   refine o_split (ht := fun c18 => ?_) (hf := fun c18 => ?_)
                   · replace hF := bt c18 hF
                     refine o_gu rfl rfl rfl <| oy hS (y_field fa_api_State_10) <| o_gu rfl rfl rfl <| oy hS (y_load (fun w hS => hS.own (mC (mH))) underlying3 rfl rfl) <| o_gu rfl rfl rfl <| oy hS (y_field fa_api_State_10) <| o_gu rfl rfl rfl <| oy hS (y_load oH underlying3 rfl rfl) ?_
                     refine o_gu rfl rfl rfl <| oy hS y_bin <| oy hS y_pickT <| oy hS y_assign <| n_thenN ?_
                     obtain rfl := osi hF
                     exact wp_ret (wr1 hS)
                   replace hF := bf c18 hF
                   iterate 5 (refine o_sk rfl rfl ?_)
                   refine oy hS y_pickF <| oy hS y_assign <| n_thenN ?_
                   obtain rfl := osi hF
                   exact wp_ret (wr1 hS)
                 replace hF := bf c17 hF
                 iterate 5 (refine o_sk rfl rfl ?_)
                 refine oy hS y_pickF <| oy hS y_move ?_
                 iterate 5 (refine o_sk rfl rfl ?_)
                 refine oy hS y_pickF <| oy hS y_assign <| n_thenN ?_
                 obtain rfl := osi hF
                 exact wp_ret (wr1 hS)
               replace hF := bf c15 hF
               iterate 5 (refine o_sk rfl rfl ?_)
               refine oy hS y_pickF <| oy hS y_move ?_
               iterate 5 (refine o_sk rfl rfl ?_)
               refine oy hS y_pickF <| oy hS y_move ?_
               iterate 5 (refine o_sk rfl rfl ?_)
               refine oy hS y_pickF <| oy hS y_assign <| n_thenN ?_
               obtain rfl := osi hF
               exact wp_ret (wr1 hS)
             replace hF := bf c14 hF
             iterate 5 (refine o_sk rfl rfl ?_)
             refine oy hS y_pickF <| oy hS y_move ?_
             iterate 5 (refine o_sk rfl rfl ?_)
             refine oy hS y_pickF <| oy hS y_move ?_
             iterate 5 (refine o_sk rfl rfl ?_)
             refine oy hS y_pickF <| oy hS y_move ?_
             iterate 5 (refine o_sk rfl rfl ?_)
             refine oy hS y_pickF <| oy hS y_assign <| n_thenN ?_
             obtain rfl := osi hF
             exact wp_ret (wr1 hS)
           replace hF := bf c12 hF
           iterate 5 (refine o_sk rfl rfl ?_)
           refine oy hS y_pickF <| oy hS y_move ?_
           iterate 5 (refine o_sk rfl rfl ?_)
           refine oy hS y_pickF <| oy hS y_move ?_
           iterate 5 (refine o_sk rfl rfl ?_)
           refine oy hS y_pickF <| oy hS y_move ?_
           iterate 5 (refine o_sk rfl rfl ?_)
           refine oy hS y_pickF <| oy hS y_move ?_
           iterate 5 (refine o_sk rfl rfl ?_)
           refine oy hS y_pickF <| oy hS y_assign <| n_thenN ?_
           obtain rfl := osi hF
           exact wp_ret (wr1 hS)
         replace hF := bf c11 hF
         iterate 5 (refine o_sk rfl rfl ?_)
         refine oy hS y_pickF <| oy hS y_move ?_
         iterate 5 (refine o_sk rfl rfl ?_)
         refine oy hS y_pickF <| oy hS y_move ?_
         iterate 5 (refine o_sk rfl rfl ?_)
         refine oy hS y_pickF <| oy hS y_move ?_
         iterate 5 (refine o_sk rfl rfl ?_)
         refine oy hS y_pickF <| oy hS y_move ?_
         iterate 5 (refine o_sk rfl rfl ?_)
         refine oy hS y_pickF <| oy hS y_move ?_
         iterate 5 (refine o_sk rfl rfl ?_)
         refine oy hS y_pickF <| oy hS y_assign <| n_thenN ?_
         obtain rfl := osi hF
         exact wp_ret (wr1 hS)
       replace hF := bf c9 hF
       iterate 5 (refine o_sk rfl rfl ?_)
       refine oy hS y_pickF <| oy hS y_move ?_
       iterate 5 (refine o_sk rfl rfl ?_)
       refine oy hS y_pickF <| oy hS y_move ?_
       iterate 5 (refine o_sk rfl rfl ?_)
       refine oy hS y_pickF <| oy hS y_move ?_
       iterate 5 (refine o_sk rfl rfl ?_)
       refine oy hS y_pickF <| oy hS y_move ?_
       iterate 5 (refine o_sk rfl rfl ?_)
       refine oy hS y_pickF <| oy hS y_move ?_
       iterate 5 (refine o_sk rfl rfl ?_)
       refine oy hS y_pickF <| oy hS y_move ?_
       iterate 5 (refine o_sk rfl rfl ?_)
       refine oy hS y_pickF <| oy hS y_assign <| n_thenN ?_
       obtain rfl := osi hF
       exact wp_ret (wr1 hS)
     replace hF := bf c8 hF
     iterate 5 (refine o_sk rfl rfl ?_)
     refine oy hS y_pickF <| oy hS y_move ?_
     iterate 5 (refine o_sk rfl rfl ?_)
     refine oy hS y_pickF <| oy hS y_move ?_
     iterate 5 (refine o_sk rfl rfl ?_)
     refine oy hS y_pickF <| oy hS y_move ?_
     iterate 5 (refine o_sk rfl rfl ?_)
     refine oy hS y_pickF <| oy hS y_move ?_
     iterate 5 (refine o_sk rfl rfl ?_)
     refine oy hS y_pickF <| oy hS y_move ?_
     iterate 5 (refine o_sk rfl rfl ?_)
     refine oy hS y_pickF <| oy hS y_move ?_
     iterate 5 (refine o_sk rfl rfl ?_)
     refine oy hS y_pickF <| oy hS y_move ?_
     iterate 5 (refine o_sk rfl rfl ?_)
     refine oy hS y_pickF <| oy hS y_assign <| n_thenN ?_
     obtain rfl := osi hF
     exact wp_ret (wr1 hS)
   replace hF := bf c6 hF
   iterate 5 (refine o_sk rfl rfl ?_)
   refine oy hS y_pickF <| oy hS y_move ?_
   iterate 5 (refine o_sk rfl rfl ?_)
   refine oy hS y_pickF <| oy hS y_move ?_
   iterate 5 (refine o_sk rfl rfl ?_)
   refine oy hS y_pickF <| oy hS y_move ?_
   iterate 5 (refine o_sk rfl rfl ?_)
   refine oy hS y_pickF <| oy hS y_move ?_
   iterate 5 (refine o_sk rfl rfl ?_)
   refine oy hS y_pickF <| oy hS y_move ?_
   iterate 5 (refine o_sk rfl rfl ?_)
   refine oy hS y_pickF <| oy hS y_move ?_
   iterate 5 (refine o_sk rfl rfl ?_)
   refine oy hS y_pickF <| oy hS y_move ?_
   iterate 5 (refine o_sk rfl rfl ?_)
   refine oy hS y_pickF <| oy hS y_move ?_
   iterate 5 (refine o_sk rfl rfl ?_)
   refine oy hS y_pickF <| oy hS y_assign <| n_thenN ?_
   obtain rfl := osi hF
   exact wp_ret (wr1 hS)
 replace hF := bf c4 hF
 iterate 5 (refine o_sk rfl rfl ?_)
 refine oy hS y_pickF <| oy hS y_move ?_
 iterate 5 (refine o_sk rfl rfl ?_)
 refine oy hS y_pickF <| oy hS y_move ?_
 iterate 5 (refine o_sk rfl rfl ?_)
 refine oy hS y_pickF <| oy hS y_move ?_
 iterate 5 (refine o_sk rfl rfl ?_)
 refine oy hS y_pickF <| oy hS y_move ?_
 iterate 5 (refine o_sk rfl rfl ?_)
 refine oy hS y_pickF <| oy hS y_move ?_
 iterate 5 (refine o_sk rfl rfl ?_)
 refine oy hS y_pickF <| oy hS y_move ?_
 iterate 5 (refine o_sk rfl rfl ?_)
 refine oy hS y_pickF <| oy hS y_move ?_
 iterate 5 (refine o_sk rfl rfl ?_)
 refine oy hS y_pickF <| oy hS y_move ?_
 iterate 5 (refine o_sk rfl rfl ?_)
 refine oy hS y_pickF <| oy hS y_move ?_
 iterate 5 (refine o_sk rfl rfl ?_)
 refine oy hS y_pickF <| oy hS y_assign <| n_thenN ?_
 obtain rfl := osi hF
 exact wp_ret (wr1 hS)
theorem w_r0_EqState {g : Frag} {a0 : T_State} {v0_ : Value} {a1 : T_State} {v1_ : Value} {r : Bool} (h0 : Rd_State g a0 v0_) (h1 : Rd_State g a1 v1_) (hF : r0_EqState a0 a1 = some r) : LCs Try.prog 11 #[v0_, v1_] g (.bool r) := w_r0_EqState_ h0 h1 hF
end Go.Proofs.Ytjmmkbehdbpklaa
