/- Functions, lifted. Printed by lift.py. -/
import Derived.Test.YthbpicnbkdbbmaaGreatProg
import Derived.Test.YthbpicnbkdbbmaaGreatP10
import Derived.KernelRfl
namespace Go.Proofs.YthbpicnbkdbbmaaGreat
open Go Go.RowKit Fr
set_option linter.unusedVariables false
set_option linter.unusedSimpArgs false
set_option maxRecDepth 20000
open Tryz
set_option maxHeartbeats 2000000
noncomputable def slices_IndexFunc_api_Write_api_Write_hazard_first_1_1_b1 (a0 : (List T_Write)) (a1_0 : Int) : Int → Option (Step Int Int) := fun x15 => bif decide (x15 < (a0.length : Int)) then (at' a0 x15).bind fun x35 => bif (hazard_first_1_1 x35 a1_0) then some (.done (x15)) else some (.next (IntKind.i64.wrap (x15 + 1))) else some (.done ((-1)))
noncomputable def slices_IndexFunc_api_Write_api_Write_hazard_first_1_1 (a0 : (List T_Write)) (a1_0 : Int) : Option Int :=
  loop (σ := Int) (slices_IndexFunc_api_Write_api_Write_hazard_first_1_1_b1 a0 a1_0) 0
theorem w_slices_IndexFunc_api_Write_api_Write_hazard_first_1_1_ {g : Frag} {a0 : (List T_Write)} {v0_ : Value} {a1_0 : Int} {c1_0 : Nat} {r : Int} (h0 : SlT g enc_Write 3 a0 v0_) (h1_0 : g c1_0 = some (blk [.int .i64 a1_0] 3)) (hF : slices_IndexFunc_api_Write_api_Write_hazard_first_1_1 a0 a1_0 = some r) : LCs Tryz.prog 112 #[v0_, .func (.func 88) #[] #[.pointer (some ⟨c1_0, 0, none⟩)]] g (.int .i64 r) := by
 unfold slices_IndexFunc_api_Write_api_Write_hazard_first_1_1 at hF
 refine lc_body (k := 19) (av := [v0_, .func (.func 88) #[] #[.pointer (some ⟨c1_0, 0, none⟩)]]) func112 rfl rfl (h := fun W hS => ?_)
 refine c_seq <| c_region <| oy hS y_assign <| n_thenN ?_
 iterate 2 (refine c_seq ?_)
 refine c_region <| oy hS y_move <| oy hS (y_len h0 underlying25) <| oy hS y_move <| n_thenN <| c_block ?_
 refine c_loopP hF (fun (q : Int) a w' => (∃ s : Nat → Value, a = Ac (((((Fm.dead 19 s).upd 0 v0_).upd 1 (.func (.func 88) #[] #[.pointer (some ⟨c1_0, 0, none⟩)])).upd 7 (.int .i64 (a0.length : Int))).upd 8 (.int .i64 q))) ∧ St W g [] [] w') ⟨mk_exF, (hS.re (.n))⟩ ?_
 clear hS hF
 intro n32 q a w hI hq
 revert hq hI; revert q; intro x15 hI hq
 obtain ⟨⟨s33, rfl⟩, hS⟩ := hq
 obtain ⟨z30, hF, hK31⟩ := iter_step hI
 clear hI
 dsimp only [slices_IndexFunc_api_Write_api_Write_hazard_first_1_1_b1] at hF
 refine c_seq <| c_region <| oy hS y_bin <| n_thenN <| c_seq ?_
 refine c_if (ht := fun c34 => ?_) (hf := fun c34 => ?_)
 · replace hF := bt c34 hF
   refine wp_skip <| c_seq <| c_block <| c_seq <| c_region <| oy hS y_move <| oy hS y_assign <| n_thenN ?_
   refine c_seq <| c_region ?_
   iterate 3 (refine oy hS y_move ?_)
   obtain ⟨x35, hx35, hF⟩ := ob hF
   obtain ⟨b36, o37, c38, cs39, e40, fz41, hv42, ha43, hb44, hd45, hc46⟩ := SlT.at hx35 h0 enc_len_Write
   refine oy hS (y_index hv42 ha43 hb44 underlying25 el_api_Write.size) ?_
   refine oy hS (y_loadN (vs := (enc_Write x35)) (fun w hS => hS.block hd45) underlying73 rfl (by exact sz_api_Write) (fun j u hj => hc46 j u hj)) ?_
   refine o_callVS2 hS func88 rfl rfl (hc := (w_hazard_first_1_1 (a0 := x35) (a1 := a1_0) (h1 := (Frag.le_plus _ _ _ _ h1_0)))) (h := ?_)
   clear hS; intro w hS
   refine n_thenN ?_
   refine c_if (ht := fun c47 => ?_) (hf := fun c47 => ?_)
   · replace hF := bt c47 hF
     refine c_seq <| c_region <| oy hS y_move <| oy hS y_assign <| n_thenN ?_
     obtain rfl := osi hF
     obtain rfl : _ = r := hK31
     exact wp_ret (wr1 hS)
   replace hF := bf c47 hF
   refine wp_skip <| c_region <| oy hS y_bin <| oy hS y_move <| n_thenN ?_
   obtain rfl := osi hF
   exact ⟨_, hK31, mk_exF, (hS.re (.n))⟩
 replace hF := bf c34 hF
 refine wp_exit ?_
 refine c_seq <| c_region <| oy hS y_assign <| n_thenN ?_
 obtain rfl := osi hF
 obtain rfl : _ = r := hK31
 exact wp_ret (wr1 hS)
theorem w_slices_IndexFunc_api_Write_api_Write_hazard_first_1_1 {g : Frag} {a0 : (List T_Write)} {v0_ : Value} {a1_0 : Int} {c1_0 : Nat} {r : Int} (h0 : SlT g enc_Write 3 a0 v0_) (h1_0 : g c1_0 = some (blk [.int .i64 a1_0] 3)) (hF : slices_IndexFunc_api_Write_api_Write_hazard_first_1_1 a0 a1_0 = some r) : LCs Tryz.prog 112 #[v0_, .func (.func 88) #[] #[.pointer (some ⟨c1_0, 0, none⟩)]] g (.int .i64 r) := w_slices_IndexFunc_api_Write_api_Write_hazard_first_1_1_ h0 h1_0 hF

noncomputable def slices_ContainsFunc_api_Write_api_Write_hazard_first_1_1 (a0 : (List T_Write)) (a1_0 : Int) : Option Bool :=
  (slices_IndexFunc_api_Write_api_Write_hazard_first_1_1 a0 a1_0).bind fun r1 => some (decide (0 ≤ r1))
theorem w_slices_ContainsFunc_api_Write_api_Write_hazard_first_1_1_ {g : Frag} {a0 : (List T_Write)} {v0_ : Value} {a1_0 : Int} {c1_0 : Nat} {r : Bool} (h0 : SlT g enc_Write 3 a0 v0_) (h1_0 : g c1_0 = some (blk [.int .i64 a1_0] 3)) (hF : slices_ContainsFunc_api_Write_api_Write_hazard_first_1_1 a0 a1_0 = some r) : LCs Tryz.prog 87 #[v0_, .func (.func 88) #[] #[.pointer (some ⟨c1_0, 0, none⟩)]] g (.bool r) := by
 unfold slices_ContainsFunc_api_Write_api_Write_hazard_first_1_1 at hF
 refine lc_body (k := 9) (av := [v0_, .func (.func 88) #[] #[.pointer (some ⟨c1_0, 0, none⟩)]]) func87 rfl rfl (h := fun W hS => ?_)
 refine c_seq <| c_region <| oy hS y_assign <| n_thenN <| c_seq <| c_region ?_
 iterate 2 (refine oy hS y_move ?_)
 obtain ⟨r1, hr1, hF⟩ := ob hF
 refine o_callS hS func112 rfl rfl (hc := (w_slices_IndexFunc_api_Write_api_Write_hazard_first_1_1 (a0 := a0) (a1_0 := a1_0) (h0 := h0.plus) (h1_0 := (Frag.le_plus _ _ _ _ h1_0)) (hF := hr1))) (h := ?_)
 clear hS; intro w hS
 refine oy hS y_bin <| oy hS y_assign <| n_thenN ?_
 obtain rfl := osi hF
 exact wp_ret (wr1 hS)
theorem w_slices_ContainsFunc_api_Write_api_Write_hazard_first_1_1 {g : Frag} {a0 : (List T_Write)} {v0_ : Value} {a1_0 : Int} {c1_0 : Nat} {r : Bool} (h0 : SlT g enc_Write 3 a0 v0_) (h1_0 : g c1_0 = some (blk [.int .i64 a1_0] 3)) (hF : slices_ContainsFunc_api_Write_api_Write_hazard_first_1_1 a0 a1_0 = some r) : LCs Tryz.prog 87 #[v0_, .func (.func 88) #[] #[.pointer (some ⟨c1_0, 0, none⟩)]] g (.bool r) := w_slices_ContainsFunc_api_Write_api_Write_hazard_first_1_1_ h0 h1_0 hF

noncomputable def hazard_first_1 (a0 : Int) (a1 : T_State) : Option Bool :=
  (slices_ContainsFunc_api_Write_api_Write_hazard_first_1_1 a1.Fly a0).bind fun r2 => some (r2)
theorem w_hazard_first_1_ {g : Frag} {a0 : Int} {a1 : T_State} {v1_0_ : Value} {v1_1_ : Value} {v1_2_ : Value} {v1_4_ : Value} {v1_6_ : Value} {v1_8_ : Value} {c1_ : Nat} {r : Bool} (h1 : g c1_ = some (blk (cl_State v1_0_ v1_1_ v1_2_ a1.Taken v1_4_ a1.PC v1_6_ a1.Stop v1_8_ a1.Jump a1.Delay) 27)) (h1_0_ : SlT g enc_uint32 1 a1.Regs v1_0_) (h1_1_ : SlT g enc_uint32 1 a1.Mem v1_1_) (h1_2_ : SlT g enc_uint32 1 a1.In_ v1_2_) (h1_4_ : SlT g enc_uint32 1 a1.Out v1_4_) (h1_6_ : SlT g enc_int 1 a1.Stack v1_6_) (h1_8_ : SlT g enc_Write 3 a1.Fly v1_8_) (hF : hazard_first_1 a0 a1 = some r) : LCs Tryz.prog 86 #[.int .i64 a0, .pointer (some ⟨c1_, 0, none⟩)] g (.bool r) := by
 unfold hazard_first_1 at hF
 refine lc_body (k := 8) (av := [.int .i64 a0, .pointer (some ⟨c1_, 0, none⟩)]) func86 rfl rfl (h := fun W hS => ?_)
 refine c_seq <| c_region ?_
 refine o_boxP (cl := [.int .i64 a0]) rfl hS ?_
 clear hS; intro b1 w hS
 refine oy hS y_assign <| n_thenN <| c_seq <| c_region <| oy hS (y_field fa_api_State_8) <| oy hS (y_load (fun w hS => hS.block h1) underlying25 rfl rfl) ?_
 refine oy hS (y_makeFunc av0 (av1 (by (conv => lhs; whnf) <;> exact rfl))) ?_
 obtain ⟨r2, hr2, hF⟩ := ob hF
 refine o_callS hS func87 rfl rfl (hc := (w_slices_ContainsFunc_api_Write_api_Write_hazard_first_1_1 (a0 := a1.Fly) (a1_0 := a0) (h0 := h1_8_.plus) (h1_0 := (St.plus hS (mH))) (hF := hr2))) (h := ?_)
 clear hS; intro w hS
 refine oy hS y_assign <| n_thenN ?_
 obtain rfl := osi hF
 exact wp_ret (wr1 hS)
theorem w_hazard_first_1 {g : Frag} {a0 : Int} {a1 : T_State} {v1_0_ : Value} {v1_1_ : Value} {v1_2_ : Value} {v1_4_ : Value} {v1_6_ : Value} {v1_8_ : Value} {c1_ : Nat} {r : Bool} (h1 : g c1_ = some (blk (cl_State v1_0_ v1_1_ v1_2_ a1.Taken v1_4_ a1.PC v1_6_ a1.Stop v1_8_ a1.Jump a1.Delay) 27)) (h1_0_ : SlT g enc_uint32 1 a1.Regs v1_0_) (h1_1_ : SlT g enc_uint32 1 a1.Mem v1_1_) (h1_2_ : SlT g enc_uint32 1 a1.In_ v1_2_) (h1_4_ : SlT g enc_uint32 1 a1.Out v1_4_) (h1_6_ : SlT g enc_int 1 a1.Stack v1_6_) (h1_8_ : SlT g enc_Write 3 a1.Fly v1_8_) (hF : hazard_first_1 a0 a1 = some r) : LCs Tryz.prog 86 #[.int .i64 a0, .pointer (some ⟨c1_, 0, none⟩)] g (.bool r) := w_hazard_first_1_ h1 h1_0_ h1_1_ h1_2_ h1_4_ h1_6_ h1_8_ hF

noncomputable def slices_IndexFunc_int_int_hazard_first_1_b1 (a0 : (List Int)) (a1_0 : T_State) : Int → Option (Step Int Int) := fun x16 => bif decide (x16 < (a0.length : Int)) then (at' a0 x16).bind fun x37 => (hazard_first_1 x37 a1_0).bind fun r49 => bif r49 then some (.done (x16)) else some (.next (IntKind.i64.wrap (x16 + 1))) else some (.done ((-1)))
noncomputable def slices_IndexFunc_int_int_hazard_first_1 (a0 : (List Int)) (a1_0 : T_State) : Option Int :=
  loop (σ := Int) (slices_IndexFunc_int_int_hazard_first_1_b1 a0 a1_0) 0
theorem w_slices_IndexFunc_int_int_hazard_first_1_ {g : Frag} {a0 : (List Int)} {v0_ : Value} {a1_0 : T_State} {v1_0_0_ : Value} {v1_0_1_ : Value} {v1_0_2_ : Value} {v1_0_4_ : Value} {v1_0_6_ : Value} {v1_0_8_ : Value} {c1_0 : Nat} {r : Int} (h0 : SlT g enc_int 1 a0 v0_) (h1_0 : g c1_0 = some (blk (cl_State v1_0_0_ v1_0_1_ v1_0_2_ a1_0.Taken v1_0_4_ a1_0.PC v1_0_6_ a1_0.Stop v1_0_8_ a1_0.Jump a1_0.Delay) 27)) (h1_0_0_ : SlT g enc_uint32 1 a1_0.Regs v1_0_0_) (h1_0_1_ : SlT g enc_uint32 1 a1_0.Mem v1_0_1_) (h1_0_2_ : SlT g enc_uint32 1 a1_0.In_ v1_0_2_) (h1_0_4_ : SlT g enc_uint32 1 a1_0.Out v1_0_4_) (h1_0_6_ : SlT g enc_int 1 a1_0.Stack v1_0_6_) (h1_0_8_ : SlT g enc_Write 3 a1_0.Fly v1_0_8_) (hF : slices_IndexFunc_int_int_hazard_first_1 a0 a1_0 = some r) : LCs Tryz.prog 113 #[v0_, .func (.func 86) #[] #[.pointer (some ⟨c1_0, 0, none⟩)]] g (.int .i64 r) := by
 unfold slices_IndexFunc_int_int_hazard_first_1 at hF
 refine lc_body (k := 19) (av := [v0_, .func (.func 86) #[] #[.pointer (some ⟨c1_0, 0, none⟩)]]) func113 rfl rfl (h := fun W hS => ?_)
 refine c_seq <| c_region <| oy hS y_assign <| n_thenN ?_
 iterate 2 (refine c_seq ?_)
 refine c_region <| oy hS y_move <| oy hS (y_len h0 underlying24) <| oy hS y_move <| n_thenN <| c_block ?_
 refine c_loopP hF (fun (q : Int) a w' => (∃ s : Nat → Value, a = Ac (((((Fm.dead 19 s).upd 0 v0_).upd 1 (.func (.func 86) #[] #[.pointer (some ⟨c1_0, 0, none⟩)])).upd 7 (.int .i64 (a0.length : Int))).upd 8 (.int .i64 q))) ∧ St W g [] [] w') ⟨mk_exF, (hS.re (.n))⟩ ?_
 clear hS hF
 intro n34 q a w hI hq
 revert hq hI; revert q; intro x16 hI hq
 obtain ⟨⟨s35, rfl⟩, hS⟩ := hq
 obtain ⟨z32, hF, hK33⟩ := iter_step hI
 clear hI
 dsimp only [slices_IndexFunc_int_int_hazard_first_1_b1] at hF
 refine c_seq <| c_region <| oy hS y_bin <| n_thenN <| c_seq ?_
 refine c_if (ht := fun c36 => ?_) (hf := fun c36 => ?_)
 · replace hF := bt c36 hF
   refine wp_skip <| c_seq <| c_block <| c_seq <| c_region <| oy hS y_move <| oy hS y_assign <| n_thenN ?_
   refine c_seq <| c_region ?_
   iterate 3 (refine oy hS y_move ?_)
   obtain ⟨x37, hx37, hF⟩ := ob hF
   obtain ⟨b38, o39, c40, cs41, e42, fz43, hv44, ha45, hb46, hd47, hc48⟩ := SlT.at hx37 h0 enc_len_int
   refine oy hS (y_index hv44 ha45 hb46 underlying24 el_int.size) <| oy hS (y_load (fun w hS => hS.block hd47) underlying3 rfl (hc48 0 _ rfl)) ?_
   obtain ⟨r49, hr49, hF⟩ := ob hF
   refine o_callVS2 hS func86 rfl rfl (hc := (w_hazard_first_1 (a0 := x37) (a1 := a1_0) (h1 := (Frag.le_plus _ _ _ _ h1_0)) (h1_0_ := h1_0_0_.plus) (h1_1_ := h1_0_1_.plus) (h1_2_ := h1_0_2_.plus) (h1_4_ := h1_0_4_.plus) (h1_6_ := h1_0_6_.plus) (h1_8_ := h1_0_8_.plus) (hF := hr49))) (h := ?_)
   clear hS; intro w hS
   refine n_thenN ?_
   refine c_if (ht := fun c50 => ?_) (hf := fun c50 => ?_)
   · replace hF := bt c50 hF
     refine c_seq <| c_region <| oy hS y_move <| oy hS y_assign <| n_thenN ?_
     obtain rfl := osi hF
     obtain rfl : _ = r := hK33
     exact wp_ret (wr1 hS)
   replace hF := bf c50 hF
   refine wp_skip <| c_region <| oy hS y_bin <| oy hS y_move <| n_thenN ?_
   obtain rfl := osi hF
   exact ⟨_, hK33, mk_exF, (hS.re (.n))⟩
 replace hF := bf c36 hF
 refine wp_exit ?_
 refine c_seq <| c_region <| oy hS y_assign <| n_thenN ?_
 obtain rfl := osi hF
 obtain rfl : _ = r := hK33
 exact wp_ret (wr1 hS)
theorem w_slices_IndexFunc_int_int_hazard_first_1 {g : Frag} {a0 : (List Int)} {v0_ : Value} {a1_0 : T_State} {v1_0_0_ : Value} {v1_0_1_ : Value} {v1_0_2_ : Value} {v1_0_4_ : Value} {v1_0_6_ : Value} {v1_0_8_ : Value} {c1_0 : Nat} {r : Int} (h0 : SlT g enc_int 1 a0 v0_) (h1_0 : g c1_0 = some (blk (cl_State v1_0_0_ v1_0_1_ v1_0_2_ a1_0.Taken v1_0_4_ a1_0.PC v1_0_6_ a1_0.Stop v1_0_8_ a1_0.Jump a1_0.Delay) 27)) (h1_0_0_ : SlT g enc_uint32 1 a1_0.Regs v1_0_0_) (h1_0_1_ : SlT g enc_uint32 1 a1_0.Mem v1_0_1_) (h1_0_2_ : SlT g enc_uint32 1 a1_0.In_ v1_0_2_) (h1_0_4_ : SlT g enc_uint32 1 a1_0.Out v1_0_4_) (h1_0_6_ : SlT g enc_int 1 a1_0.Stack v1_0_6_) (h1_0_8_ : SlT g enc_Write 3 a1_0.Fly v1_0_8_) (hF : slices_IndexFunc_int_int_hazard_first_1 a0 a1_0 = some r) : LCs Tryz.prog 113 #[v0_, .func (.func 86) #[] #[.pointer (some ⟨c1_0, 0, none⟩)]] g (.int .i64 r) := w_slices_IndexFunc_int_int_hazard_first_1_ h0 h1_0 h1_0_0_ h1_0_1_ h1_0_2_ h1_0_4_ h1_0_6_ h1_0_8_ hF

noncomputable def slices_ContainsFunc_int_int_hazard_first_1 (a0 : (List Int)) (a1_0 : T_State) : Option Bool :=
  (slices_IndexFunc_int_int_hazard_first_1 a0 a1_0).bind fun r1 => some (decide (0 ≤ r1))
theorem w_slices_ContainsFunc_int_int_hazard_first_1_ {g : Frag} {a0 : (List Int)} {v0_ : Value} {a1_0 : T_State} {v1_0_0_ : Value} {v1_0_1_ : Value} {v1_0_2_ : Value} {v1_0_4_ : Value} {v1_0_6_ : Value} {v1_0_8_ : Value} {c1_0 : Nat} {r : Bool} (h0 : SlT g enc_int 1 a0 v0_) (h1_0 : g c1_0 = some (blk (cl_State v1_0_0_ v1_0_1_ v1_0_2_ a1_0.Taken v1_0_4_ a1_0.PC v1_0_6_ a1_0.Stop v1_0_8_ a1_0.Jump a1_0.Delay) 27)) (h1_0_0_ : SlT g enc_uint32 1 a1_0.Regs v1_0_0_) (h1_0_1_ : SlT g enc_uint32 1 a1_0.Mem v1_0_1_) (h1_0_2_ : SlT g enc_uint32 1 a1_0.In_ v1_0_2_) (h1_0_4_ : SlT g enc_uint32 1 a1_0.Out v1_0_4_) (h1_0_6_ : SlT g enc_int 1 a1_0.Stack v1_0_6_) (h1_0_8_ : SlT g enc_Write 3 a1_0.Fly v1_0_8_) (hF : slices_ContainsFunc_int_int_hazard_first_1 a0 a1_0 = some r) : LCs Tryz.prog 90 #[v0_, .func (.func 86) #[] #[.pointer (some ⟨c1_0, 0, none⟩)]] g (.bool r) := by
 unfold slices_ContainsFunc_int_int_hazard_first_1 at hF
 refine lc_body (k := 9) (av := [v0_, .func (.func 86) #[] #[.pointer (some ⟨c1_0, 0, none⟩)]]) func90 rfl rfl (h := fun W hS => ?_)
 refine c_seq <| c_region <| oy hS y_assign <| n_thenN <| c_seq <| c_region ?_
 iterate 2 (refine oy hS y_move ?_)
 obtain ⟨r1, hr1, hF⟩ := ob hF
 refine o_callS hS func113 rfl rfl (hc := (w_slices_IndexFunc_int_int_hazard_first_1 (a0 := a0) (a1_0 := a1_0) (h0 := h0.plus) (h1_0 := (Frag.le_plus _ _ _ _ h1_0)) (h1_0_0_ := h1_0_0_.plus) (h1_0_1_ := h1_0_1_.plus) (h1_0_2_ := h1_0_2_.plus) (h1_0_4_ := h1_0_4_.plus) (h1_0_6_ := h1_0_6_.plus) (h1_0_8_ := h1_0_8_.plus) (hF := hr1))) (h := ?_)
 clear hS; intro w hS
 refine oy hS y_bin <| oy hS y_assign <| n_thenN ?_
 obtain rfl := osi hF
 exact wp_ret (wr1 hS)
theorem w_slices_ContainsFunc_int_int_hazard_first_1 {g : Frag} {a0 : (List Int)} {v0_ : Value} {a1_0 : T_State} {v1_0_0_ : Value} {v1_0_1_ : Value} {v1_0_2_ : Value} {v1_0_4_ : Value} {v1_0_6_ : Value} {v1_0_8_ : Value} {c1_0 : Nat} {r : Bool} (h0 : SlT g enc_int 1 a0 v0_) (h1_0 : g c1_0 = some (blk (cl_State v1_0_0_ v1_0_1_ v1_0_2_ a1_0.Taken v1_0_4_ a1_0.PC v1_0_6_ a1_0.Stop v1_0_8_ a1_0.Jump a1_0.Delay) 27)) (h1_0_0_ : SlT g enc_uint32 1 a1_0.Regs v1_0_0_) (h1_0_1_ : SlT g enc_uint32 1 a1_0.Mem v1_0_1_) (h1_0_2_ : SlT g enc_uint32 1 a1_0.In_ v1_0_2_) (h1_0_4_ : SlT g enc_uint32 1 a1_0.Out v1_0_4_) (h1_0_6_ : SlT g enc_int 1 a1_0.Stack v1_0_6_) (h1_0_8_ : SlT g enc_Write 3 a1_0.Fly v1_0_8_) (hF : slices_ContainsFunc_int_int_hazard_first_1 a0 a1_0 = some r) : LCs Tryz.prog 90 #[v0_, .func (.func 86) #[] #[.pointer (some ⟨c1_0, 0, none⟩)]] g (.bool r) := w_slices_ContainsFunc_int_int_hazard_first_1_ h0 h1_0 h1_0_0_ h1_0_1_ h1_0_2_ h1_0_4_ h1_0_6_ h1_0_8_ hF

noncomputable def slices_Index_int_int_b1 (a0 : (List Int)) (a1 : Int) : Int → Option (Step Int Int) := fun x15 => bif decide (x15 < (a0.length : Int)) then (at' a0 x15).bind fun x35 => bif decide (a1 = x35) then some (.done (x15)) else some (.next (IntKind.i64.wrap (x15 + 1))) else some (.done ((-1)))
noncomputable def slices_Index_int_int (a0 : (List Int)) (a1 : Int) : Option Int :=
  loop (σ := Int) (slices_Index_int_int_b1 a0 a1) 0
theorem w_slices_Index_int_int_ {g : Frag} {a0 : (List Int)} {v0_ : Value} {a1 : Int} {r : Int} (h0 : SlT g enc_int 1 a0 v0_) (hF : slices_Index_int_int a0 a1 = some r) : LCs Tryz.prog 116 #[v0_, .int .i64 a1] g (.int .i64 r) := by
 unfold slices_Index_int_int at hF
 refine lc_body (k := 19) (av := [v0_, .int .i64 a1]) func116 rfl rfl (h := fun W hS => ?_)
 refine c_seq <| c_region <| oy hS y_assign <| n_thenN ?_
 iterate 2 (refine c_seq ?_)
 refine c_region <| oy hS y_move <| oy hS (y_len h0 underlying24) <| oy hS y_move <| n_thenN <| c_block ?_
 refine c_loopP hF (fun (q : Int) a w' => (∃ s : Nat → Value, a = Ac (((((Fm.dead 19 s).upd 0 v0_).upd 1 (.int .i64 a1)).upd 7 (.int .i64 (a0.length : Int))).upd 8 (.int .i64 q))) ∧ St W g [] [] w') ⟨mk_exF, (hS.re (.n))⟩ ?_
 clear hS hF
 intro n32 q a w hI hq
 revert hq hI; revert q; intro x15 hI hq
 obtain ⟨⟨s33, rfl⟩, hS⟩ := hq
 obtain ⟨z30, hF, hK31⟩ := iter_step hI
 clear hI
 dsimp only [slices_Index_int_int_b1] at hF
 refine c_seq <| c_region <| oy hS y_bin <| n_thenN <| c_seq ?_
 refine c_if (ht := fun c34 => ?_) (hf := fun c34 => ?_)
 · replace hF := bt c34 hF
   refine wp_skip <| c_seq <| c_block <| c_seq <| c_region <| oy hS y_move <| oy hS y_assign <| n_thenN ?_
   refine c_seq <| c_region ?_
   iterate 3 (refine oy hS y_move ?_)
   obtain ⟨x35, hx35, hF⟩ := ob hF
   obtain ⟨b36, o37, c38, cs39, e40, fz41, hv42, ha43, hb44, hd45, hc46⟩ := SlT.at hx35 h0 enc_len_int
   refine oy hS (y_index hv42 ha43 hb44 underlying24 el_int.size) <| oy hS (y_load (fun w hS => hS.block hd45) underlying3 rfl (hc46 0 _ rfl)) <| oy hS y_bin <| n_thenN ?_
   refine c_if (ht := fun c47 => ?_) (hf := fun c47 => ?_)
   · replace hF := bt c47 hF
     refine c_seq <| c_region <| oy hS y_move <| oy hS y_assign <| n_thenN ?_
     obtain rfl := osi hF
     obtain rfl : _ = r := hK31
     exact wp_ret (wr1 hS)
   replace hF := bf c47 hF
   refine wp_skip <| c_region <| oy hS y_bin <| oy hS y_move <| n_thenN ?_
   obtain rfl := osi hF
   exact ⟨_, hK31, mk_exF, (hS.re (.n))⟩
 replace hF := bf c34 hF
 refine wp_exit ?_
 refine c_seq <| c_region <| oy hS y_assign <| n_thenN ?_
 obtain rfl := osi hF
 obtain rfl : _ = r := hK31
 exact wp_ret (wr1 hS)
theorem w_slices_Index_int_int {g : Frag} {a0 : (List Int)} {v0_ : Value} {a1 : Int} {r : Int} (h0 : SlT g enc_int 1 a0 v0_) (hF : slices_Index_int_int a0 a1 = some r) : LCs Tryz.prog 116 #[v0_, .int .i64 a1] g (.int .i64 r) := w_slices_Index_int_int_ h0 hF

noncomputable def slices_Contains_int_int (a0 : (List Int)) (a1 : Int) : Option Bool :=
  (slices_Index_int_int a0 a1).bind fun r1 => some (decide (0 ≤ r1))
theorem w_slices_Contains_int_int_ {g : Frag} {a0 : (List Int)} {v0_ : Value} {a1 : Int} {r : Bool} (h0 : SlT g enc_int 1 a0 v0_) (hF : slices_Contains_int_int a0 a1 = some r) : LCs Tryz.prog 94 #[v0_, .int .i64 a1] g (.bool r) := by
 unfold slices_Contains_int_int at hF
 refine lc_body (k := 9) (av := [v0_, .int .i64 a1]) func94 rfl rfl (h := fun W hS => ?_)
 refine c_seq <| c_region <| oy hS y_assign <| n_thenN <| c_seq <| c_region ?_
 iterate 2 (refine oy hS y_move ?_)
 obtain ⟨r1, hr1, hF⟩ := ob hF
 refine o_callS hS func116 rfl rfl (hc := (w_slices_Index_int_int (a0 := a0) (a1 := a1) (h0 := h0.plus) (hF := hr1))) (h := ?_)
 clear hS; intro w hS
 refine oy hS y_bin <| oy hS y_assign <| n_thenN ?_
 obtain rfl := osi hF
 exact wp_ret (wr1 hS)
theorem w_slices_Contains_int_int {g : Frag} {a0 : (List Int)} {v0_ : Value} {a1 : Int} {r : Bool} (h0 : SlT g enc_int 1 a0 v0_) (hF : slices_Contains_int_int a0 a1 = some r) : LCs Tryz.prog 94 #[v0_, .int .i64 a1] g (.bool r) := w_slices_Contains_int_int_ h0 hF

noncomputable def hazard_first_k3 (x131 : T_Ins) (x70 : (List Int)) (x75 : Int) (a1 : T_State) : Unit → Option (Step ((List Int) × Int) Int) := fun _ => bif !(isa_HasD (isa_Shape x131.Op)) then some (.next (x70, IntKind.i64.wrap (x75 + 1))) else (hazard_first_1 x131.D a1).bind fun r167 => bif r167 then some (.done (x75)) else (slices_Contains_int_int x70 x131.D).bind fun r169 => bif r169 then some (.done (x75)) else (app' x70 ([x131.D] : List Int)).bind fun zs178 => some (.next (zs178, IntKind.i64.wrap (x75 + 1)))
noncomputable def hazard_first_b2 (x9 : (A4 T_Ins)) (a1 : T_State) : ((List Int) × Int) → Option (Step ((List Int) × Int) Int) := fun (x70, x75) => bif decide (x75 < 4) then (at' [x9.x0, x9.x1, x9.x2, x9.x3] x75).bind fun x131 => cut (σ := Unit) (bif (isa_Ends x131.Op) then bif decide (0 < a1.Delay) then some (.done (.done (x75))) else (isa_Read x131).bind fun r152 => (slices_ContainsFunc_int_int_hazard_first_1 r152 a1).bind fun r160 => bif r160 then some (.done (.done (x75))) else some (.next ()) else (isa_Read x131).bind fun r162 => (slices_ContainsFunc_int_int_hazard_first_1 r162 a1).bind fun r163 => bif r163 then some (.done (.done (x75))) else some (.next ())) (hazard_first_k3 x131 x70 x75 a1) else some (.done ((-1)))
noncomputable def hazard_first_k1 (a0 : (List (A4 T_Ins))) (a1 : T_State) : Unit → Option Int := fun _ => (at' a0 a1.PC).bind fun x9 => loop (σ := ((List Int) × Int)) (hazard_first_b2 x9 a1) ([], 0)
noncomputable def hazard_first (a0 : (List (A4 T_Ins))) (a1 : T_State) : Option Int :=
  cut (σ := Unit) (bif decide (a1.Stop ≠ 0) then some (.done ((-1))) else bif decide ((a0.length : Int) ≤ a1.PC) then some (.done ((-1))) else some (.next ())) (hazard_first_k1 a0 a1)
theorem w_hazard_first_ {g : Frag} {a0 : (List (A4 T_Ins))} {v0_ : Value} {a1 : T_State} {v1_ : Value} {r : Int} (h0 : SlT g enc_Bundle 24 a0 v0_) (h1 : Rd_State g a1 v1_) (hF : hazard_first a0 a1 = some r) : LCs Tryz.prog 68 #[v0_, v1_] g (.int .i64 r) := by
 obtain ⟨v1_0_, v1_1_, v1_2_, v1_4_, v1_6_, v1_8_, rfl, h1_0_, h1_1_, h1_2_, h1_4_, h1_6_, h1_8_⟩ := h1
 unfold hazard_first at hF
 refine lc_body (k := 66) (av := [v0_, .agg (cl_State v1_0_ v1_1_ v1_2_ a1.Taken v1_4_ a1.PC v1_6_ a1.Stop v1_8_ a1.Jump a1.Delay).toArray]) func68 rfl rfl (h := fun W hS => ?_)
 refine c_seq <| c_region ?_
 refine o_boxP (cl := (cl_State v1_0_ v1_1_ v1_2_ a1.Taken v1_4_ a1.PC v1_6_ a1.Stop v1_8_ a1.Jump a1.Delay)) rfl hS ?_
 clear hS; intro b1 w hS
 refine oy hS y_assign <| n_thenN ?_
 obtain ⟨z4, hF, hK5⟩ := cut_step hF
 refine c_cutP (fun a w' => hazard_first_k1 a0 a1 () = some r ∧ (∃ s : Nat → Value, a = Ac (((Fm.dead 66 s).upd 0 v0_).upd 3 (.pointer (some ⟨b1, 0, none⟩)))) ∧ St W g [] ((b1, blk (cl_State v1_0_ v1_1_ v1_2_ a1.Taken v1_4_ a1.PC v1_6_ a1.Stop v1_8_ a1.Jump a1.Delay) 27) :: []) w') ?_ ?_
 · skip
   refine c_seq <| c_region <| oy hS (y_field fa_api_State_7) <| oy hS (y_load (fun w hS => hS.own (mH)) underlying3 rfl rfl) <| oy hS y_bin ?_
   refine o_split (ht := fun c6 => ?_) (hf := fun c6 => ?_)
   · replace hF := bt c6 hF
     iterate 5 (refine o_sk rfl rfl ?_)
     refine oy hS y_pickT <| n_thenN ?_
     refine c_if_true (h := ?_)
     refine c_seq <| c_region <| oy hS y_assign <| n_thenN ?_
     obtain rfl := osi hF
     obtain rfl : _ = r := hK5
     exact wp_ret (wr1 hS)
   replace hF := bf c6 hF
   refine o_gu rfl rfl rfl <| oy hS (y_field fa_api_State_5) <| o_gu rfl rfl rfl <| oy hS (y_load (fun w hS => hS.own (mH)) underlying3 rfl rfl) <| o_gu rfl rfl rfl <| oy hS y_move <| o_gu rfl rfl rfl <| oy hS (y_len h0 underlying22) ?_
   refine o_gu rfl rfl rfl <| oy hS y_bin <| oy hS y_pickF <| n_thenN ?_
   refine c_if (ht := fun c7 => ?_) (hf := fun c7 => ?_)
   · replace hF := bt c7 hF
     refine c_seq <| c_region <| oy hS y_assign <| n_thenN ?_
     obtain rfl := osi hF
     obtain rfl : _ = r := hK5
     exact wp_ret (wr1 hS)
   replace hF := bf c7 hF
   refine wp_skip ?_
   obtain rfl := osi hF
   change _ ∧ _
   exact ⟨hK5, mk_exF, (hS.re (.b .hb .n))⟩
 rintro a w ⟨hF, ⟨s8, rfl⟩, hS⟩
 dsimp only [hazard_first_k1] at hF
 refine c_seq <| c_region ?_
 refine oy hS (y_makeFunc av0 (av1 (by (conv => lhs; whnf) <;> exact rfl))) ?_
 refine oy hS y_assign <| n_thenN <| c_seq <| c_region <| oy hS y_assign <| n_thenN ?_
 iterate 2 (refine c_seq ?_)
 refine c_region <| oy hS y_move <| oy hS (y_field fa_api_State_5) <| oy hS (y_load (fun w hS => hS.own (mH)) underlying3 rfl rfl) ?_
 obtain ⟨x9, hx9, hF⟩ := ob hF
 obtain ⟨b10, o11, c12, cs13, e14, fz15, hv16, ha17, hb18, hd19, hc20⟩ := SlT.at hx9 h0 enc_len_Bundle
 refine oy hS (y_index hv16 ha17 hb18 underlying22 el_api_Bundle.size) ?_
 refine oy hS (y_loadN (vs := (enc_Bundle x9)) (fun w hS => hS.block hd19) underlying34 rfl (by exact sz_api_Bundle) (fun j u hj => hc20 j u hj)) ?_
 refine oy hS y_move <| n_thenN <| c_block ?_
 refine c_loopP hF (fun (q : ((List Int) × Int)) a w' => ∃ (v71 : Value) (LX73 : Own), OwT 3 enc_int 1 q.1 v71 LX73 ∧ (∃ s : Nat → Value, a = Ac ((((((Fm.dead 66 s).upd 3 (.pointer (some ⟨b1, 0, none⟩))).upd 5 (.func (.func 86) #[] #[.pointer (some ⟨b1, 0, none⟩)])).upd 6 v71).upd 24 (.agg (enc_Bundle x9).toArray)).upd 25 (.int .i64 q.2))) ∧ St W g [] ((b1, blk (cl_State v1_0_ v1_1_ v1_2_ a1.Taken v1_4_ a1.PC v1_6_ a1.Stop v1_8_ a1.Jump a1.Delay) 27) :: (LX73 ++ [])) w') ⟨(.slice none 0 0), [], (OwT.nil _ _ _), mk_exF, (hS.re (.b .hb (.take (X := []) (.here [] _) .n)))⟩ ?_
 clear hS hF
 intro n128 q a w hI hq
 obtain ⟨x70, x75⟩ := q
 obtain ⟨v71, LX73, h72, ⟨s129, rfl⟩, hS⟩ := hq
 replace h72 : OwT 3 enc_int 1 x70 v71 LX73 := h72
 obtain ⟨z125, hF, hK126⟩ := iter_step hI
 clear hI
 dsimp only [hazard_first_b2] at hF
 refine c_seq <| c_region <| oy hS y_bin <| n_thenN <| c_seq ?_
 refine c_if (ht := fun c130 => ?_) (hf := fun c130 => ?_)
 · replace hF := bt c130 hF
   refine wp_skip <| c_seq <| c_block <| c_seq <| c_region <| oy hS y_move ?_
   obtain ⟨x131, hx131, hF⟩ := ob hF
   refine oy hS (y_ixA (enc := enc_Ins) hx131 enc_len_Ins underlying34 rfl underlying31 rfl (by exact sz_api_Ins)) ?_
   refine o_allocP (cl := (enc_Ins ⟨0, 0, 0, 0, 0, ByteArray.empty⟩)) zr_api_Ins rfl hS ?_
   clear hS; intro b132 w hS
   refine oy hS y_assign ?_
   refine o_storeW (vs := (enc_Ins x131)) hS (by exact rfl) (Upd.here _) (by exact sz_api_Ins) (enc_one_Ins _) ?_
   clear hS; intro w hS
   refine n_thenN ?_
   obtain ⟨z148, hF, hK149⟩ := cut_step hF
   refine c_cutP (fun a w' => hazard_first_k3 x131 x70 x75 a1 () = some z125 ∧ (∃ s : Nat → Value, a = Ac ((((((((Fm.dead 66 s).upd 3 (.pointer (some ⟨b1, 0, none⟩))).upd 5 (.func (.func 86) #[] #[.pointer (some ⟨b1, 0, none⟩)])).upd 6 v71).upd 7 (.int .i64 x75)).upd 8 (.pointer (some ⟨b132, 0, none⟩))).upd 24 (.agg (enc_Bundle x9).toArray)).upd 25 (.int .i64 x75))) ∧ St W g [] ((b1, blk (cl_State v1_0_ v1_1_ v1_2_ a1.Taken v1_4_ a1.PC v1_6_ a1.Stop v1_8_ a1.Jump a1.Delay) 27) :: ((b132, blk (enc_Ins x131) 31) :: (LX73 ++ []))) w') ?_ ?_
   · skip
     refine c_seq <| c_region <| oy hS (y_field fa_api_Ins_0) <| oy hS (y_load (fun w hS => hS.own (mH)) underlying3 rfl rfl) ?_
     refine o_callS hS func89 rfl rfl (hc := (w_isa_Ends (a0 := x131.Op))) (h := ?_)
     clear hS; intro w hS
     refine o_split (ht := fun c150 => ?_) (hf := fun c150 => ?_)
     · replace hF := bt c150 hF
       refine o_gu rfl rfl rfl <| oy hS (y_field fa_api_State_10) <| o_gu rfl rfl rfl <| oy hS (y_load (fun w hS => hS.own (mC (mH))) underlying3 rfl rfl) <| o_gu rfl rfl rfl <| oy hS y_bin <| oy hS y_pickT ?_
       refine o_split (ht := fun c151 => ?_) (hf := fun c151 => ?_)
       · replace hF := bt c151 hF
         iterate 4 (refine o_sk rfl rfl ?_)
         refine oy hS y_pickT <| n_thenN ?_
         refine c_if_true (h := ?_)
         refine c_seq <| c_region <| oy hS y_move <| oy hS y_assign <| n_thenN ?_
         obtain rfl := osi hF
         obtain rfl : _ = z125 := hK149
         obtain rfl : _ = r := hK126
         exact wp_ret (wr1 hS)
       replace hF := bf c151 hF
       refine o_gu rfl rfl rfl ?_
       refine oy hS (y_loadW (fun w hS => hS.own (mH)) underlying31 rfl (by exact sz_api_Ins)) ?_
       refine o_gu rfl rfl rfl ?_
       obtain ⟨r152, hr152, hF⟩ := ob hF
       refine o_call0 hS func91 rfl rfl (hc := (w_isa_Read (a0 := x131) (hF := hr152))) (h := ?_)
       clear hS; intro v153 LY154 w hS hr155
       obtain ⟨v_0_156, LX_0_157, rfl, rfl, h_0_158⟩ := hr155
       simp only [aa, ac, al] at hS
       refine o_gu rfl rfl rfl <| oy hS y_move <| o_gu rfl rfl rfl ?_
       obtain ⟨r160, hr160, hF⟩ := ob hF
       refine o_callS hS func90 rfl rfl (hc := (w_slices_ContainsFunc_int_int_hazard_first_1 (a0 := r152) (a1_0 := a1) (h0 := (OwT.plus h_0_158 hS (fun p hp => mA (hp)))) (h1_0 := (St.plus hS (mB (mC (mH))))) (h1_0_0_ := h1_0_.plus) (h1_0_1_ := h1_1_.plus) (h1_0_2_ := h1_2_.plus) (h1_0_4_ := h1_4_.plus) (h1_0_6_ := h1_6_.plus) (h1_0_8_ := h1_8_.plus) (hF := hr160))) (h := ?_)
       clear hS; intro w hS
       refine oy hS y_pickF <| n_thenN ?_
       refine c_if (ht := fun c161 => ?_) (hf := fun c161 => ?_)
       · replace hF := bt c161 hF
         refine c_seq <| c_region <| oy hS y_move <| oy hS y_assign <| n_thenN ?_
         obtain rfl := osi hF
         obtain rfl : _ = z125 := hK149
         obtain rfl : _ = r := hK126
         exact wp_ret (wr1 hS)
       replace hF := bf c161 hF
       refine wp_skip ?_
       obtain rfl := osi hF
       change _ ∧ _
       exact ⟨hK149, mk_exF, (hS.re (.b (.there _ (.thereb _ .hb)) (.b (.there _ .hb) (.t (.there _ .h) .n))))⟩
     replace hF := bf c150 hF
     iterate 3 (refine o_sk rfl rfl ?_)
     refine oy hS y_pickF <| oy hS y_move <| o_gu rfl rfl rfl ?_
     refine oy hS (y_loadW (fun w hS => hS.own (mH)) underlying31 rfl (by exact sz_api_Ins)) ?_
     refine o_gu rfl rfl rfl ?_
     obtain ⟨r162, hr162, hF⟩ := ob hF
     refine o_call0 hS func91 rfl rfl (hc := (w_isa_Read (a0 := x131) (hF := hr162))) (h := ?_)
     clear hS; intro v153 LY154 w hS hr155
     obtain ⟨v_0_156, LX_0_157, rfl, rfl, h_0_158⟩ := hr155
     simp only [aa, ac, al] at hS
     refine o_gu rfl rfl rfl <| oy hS y_move <| o_gu rfl rfl rfl ?_
     obtain ⟨r163, hr163, hF⟩ := ob hF
     refine o_callS hS func90 rfl rfl (hc := (w_slices_ContainsFunc_int_int_hazard_first_1 (a0 := r162) (a1_0 := a1) (h0 := (OwT.plus h_0_158 hS (fun p hp => mA (hp)))) (h1_0 := (St.plus hS (mB (mC (mH))))) (h1_0_0_ := h1_0_.plus) (h1_0_1_ := h1_1_.plus) (h1_0_2_ := h1_2_.plus) (h1_0_4_ := h1_4_.plus) (h1_0_6_ := h1_6_.plus) (h1_0_8_ := h1_8_.plus) (hF := hr163))) (h := ?_)
     clear hS; intro w hS
     refine oy hS y_pickF <| n_thenN ?_
     refine c_if (ht := fun c164 => ?_) (hf := fun c164 => ?_)
     · replace hF := bt c164 hF
       refine c_seq <| c_region <| oy hS y_move <| oy hS y_assign <| n_thenN ?_
       obtain rfl := osi hF
       obtain rfl : _ = z125 := hK149
       obtain rfl : _ = r := hK126
       exact wp_ret (wr1 hS)
     replace hF := bf c164 hF
     refine wp_skip ?_
     obtain rfl := osi hF
     change _ ∧ _
     exact ⟨hK149, mk_exF, (hS.re (.b (.there _ (.thereb _ .hb)) (.b (.there _ .hb) (.t (.there _ .h) .n))))⟩
   rintro a w ⟨hF, ⟨s165, rfl⟩, hS⟩
   dsimp only [hazard_first_k3] at hF
   iterate 2 (refine c_seq ?_)
   refine c_region <| oy hS (y_field fa_api_Ins_0) <| oy hS (y_load (fun w hS => hS.own (mC (mH))) underlying3 rfl rfl) ?_
   refine o_callS hS func93 rfl rfl (hc := (w_isa_Shape (a0 := x131.Op))) (h := ?_)
   clear hS; intro w hS
   refine o_callS hS func92 rfl rfl (hc := (w_isa_HasD (a0 := (isa_Shape x131.Op)))) (h := ?_)
   clear hS; intro w hS
   refine oy hS y_not <| n_thenN ?_
   refine c_if (ht := fun c166 => ?_) (hf := fun c166 => ?_)
   · replace hF := bt c166 hF
     refine wp_exit ?_
     refine c_region <| oy hS y_bin <| oy hS y_move <| n_thenN ?_
     obtain rfl := osi hF
     exact ⟨_, hK126, v71, LX73, h72, mk_exF, (hS.re (.b .hb (.t (.thereb _ .h) .n)))⟩
   replace hF := bf c166 hF
   refine wp_skip ?_
   iterate 2 (refine c_seq ?_)
   refine c_region <| oy hS y_move <| oy hS (y_field fa_api_Ins_1) <| oy hS (y_load (fun w hS => hS.own (mC (mH))) underlying3 rfl rfl) ?_
   obtain ⟨r167, hr167, hF⟩ := ob hF
   refine o_callVS2 hS func86 rfl rfl (hc := (w_hazard_first_1 (a0 := x131.D) (a1 := a1) (h1 := (St.plus hS (mH))) (h1_0_ := h1_0_.plus) (h1_1_ := h1_1_.plus) (h1_2_ := h1_2_.plus) (h1_4_ := h1_4_.plus) (h1_6_ := h1_6_.plus) (h1_8_ := h1_8_.plus) (hF := hr167))) (h := ?_)
   clear hS; intro w hS
   refine o_split (ht := fun c168 => ?_) (hf := fun c168 => ?_)
   · replace hF := bt c168 hF
     iterate 4 (refine o_sk rfl rfl ?_)
     refine oy hS y_pickT <| n_thenN ?_
     refine c_if_true (h := ?_)
     refine c_seq <| c_region <| oy hS y_move <| oy hS y_assign <| n_thenN ?_
     obtain rfl := osi hF
     obtain rfl : _ = r := hK126
     exact wp_ret (wr1 hS)
   replace hF := bf c168 hF
   refine o_gu rfl rfl rfl <| oy hS y_move <| o_gu rfl rfl rfl <| oy hS (y_field fa_api_Ins_1) <| o_gu rfl rfl rfl <| oy hS (y_load (fun w hS => hS.own (mC (mH))) underlying3 rfl rfl) <| o_gu rfl rfl rfl ?_
   obtain ⟨r169, hr169, hF⟩ := ob hF
   refine o_callS hS func94 rfl rfl (hc := (w_slices_Contains_int_int (a0 := x70) (a1 := x131.D) (h0 := (OwT.plus h72 hS (fun p hp => mC (mC (mA (hp)))))) (hF := hr169))) (h := ?_)
   clear hS; intro w hS
   refine oy hS y_pickF <| n_thenN ?_
   refine c_if (ht := fun c170 => ?_) (hf := fun c170 => ?_)
   · replace hF := bt c170 hF
     refine c_seq <| c_region <| oy hS y_move <| oy hS y_assign <| n_thenN ?_
     obtain rfl := osi hF
     obtain rfl : _ = r := hK126
     exact wp_ret (wr1 hS)
   replace hF := bf c170 hF
   refine wp_skip <| c_region <| oy hS y_move <| oy hS (y_field fa_api_Ins_1) <| oy hS (y_load (fun w hS => hS.own (mC (mH))) underlying3 rfl rfl) ?_
   refine o_buildT val_int ([x131.D] : List Int) hS el_int (fun _ => rfl) enc_len_int (by decide) rfl (by decide) (hp := rfl) (h := ?_)
   clear hS; intro b171 w hS h172
   have hS : St W g [] ([(b171, blk (([x131.D] : List Int).flatMap enc_int) 3)] ++ ((b1, blk (cl_State v1_0_ v1_1_ v1_2_ a1.Taken v1_4_ a1.PC v1_6_ a1.Stop v1_8_ a1.Jump a1.Delay) 27) :: ((b132, blk (enc_Ins x131) 31) :: (LX73 ++ [])))) w := hS
   obtain ⟨zs178, hzs178, hF⟩ := ob hF
   have hS := hS.re (.t .h (.t (.thereb _ (.thereb _ .h)) (.b .hb (.b .hb .n))))
   refine o_appPn (ys := ([x131.D] : List Int)) (LX := LX73) hzs178 hS el_int h72 rfl enc_len_int (enc_ones_int _) (by decide) ?_
   clear hS; intro v174 LX175 w h176 hS
   refine oy hS y_assign ?_
   refine n_anyN ?_
   refine c_region <| oy hS y_bin <| oy hS y_move <| n_thenN ?_
   obtain rfl := osi hF
   exact ⟨_, hK126, v174, LX175, h176, mk_exF, (hS.re (.b (.there _ .hb) (.t .h .n)))⟩
 replace hF := bf c130 hF
 refine wp_exit ?_
 refine c_seq <| c_region <| oy hS y_assign <| n_thenN ?_
 obtain rfl := osi hF
 obtain rfl : _ = r := hK126
 exact wp_ret (wr1 hS)
theorem w_hazard_first {g : Frag} {a0 : (List (A4 T_Ins))} {v0_ : Value} {a1 : T_State} {v1_ : Value} {r : Int} (h0 : SlT g enc_Bundle 24 a0 v0_) (h1 : Rd_State g a1 v1_) (hF : hazard_first a0 a1 = some r) : LCs Tryz.prog 68 #[v0_, v1_] g (.int .i64 r) := w_hazard_first_ h0 h1 hF

noncomputable def hazard_Go (a0 : (List (A4 T_Ins))) (a1 : T_State) : Option T_State :=
  (pipe_Land a1).bind fun r1 => (hazard_first a0 r1).bind fun r31 => bif decide (0 ≤ r31) then some (⟨r1.Regs, r1.Mem, r1.In_, r1.Taken, r1.Out, r1.PC, r1.Stack, 6, r1.Fly, r1.Jump, r1.Delay⟩ : T_State) else (pipe_Go a0 r1).bind fun r33 => some (r33)
theorem w_hazard_Go_ {g : Frag} {a0 : (List (A4 T_Ins))} {v0_ : Value} {a1 : T_State} {b1_ : Nat} {LB1_ : Own} {r : T_State} (h0 : SlT g enc_Bundle 24 a0 v0_) (h1 : Bx_State b1_ a1 LB1_) (hF : hazard_Go a0 a1 = some r) : LC Tryz.prog 65 #[v0_, .pointer (some ⟨b1_, 0, none⟩)] g LB1_ (fun v L => ∃ (LB' : Own), v = .tuple #[] ∧ L = (LB' ++ []) ∧ Bx_State b1_ r LB') := by
 obtain ⟨vP1_0_1, vP1_1_5, vP1_2_9, vP1_4_13, vP1_6_17, vP1_8_21, LXP1_0_2, LXP1_1_6, LXP1_2_10, LXP1_4_14, LXP1_6_18, LXP1_8_22, hL0_, hP1_0_3, hP1_1_7, hP1_2_11, hP1_4_15, hP1_6_19, hP1_8_23⟩ := h1
 unfold hazard_Go at hF
 refine lc_body (k := 18) (av := [v0_, .pointer (some ⟨b1_, 0, none⟩)]) func65 rfl rfl (h := fun W hS => ?_)
 have hS := hS.own_eq hL0_
 refine c_seq <| c_region <| oy hS y_move ?_
 have hS2 := hS.spl (.cons _ (.app _ (.app _ (.app _ (.app _ (.app _ (.app _ (.nil _))))))))
 obtain ⟨r1, hr1, hF⟩ := ob hF
 refine o_call hS2 func57 rfl rfl (hc := (w_pipe_Land (a0 := a1) (h0 := (⟨_, _, _, _, _, _, _, _, _, _, _, _, rfl, hP1_0_3, hP1_1_7, hP1_2_11, hP1_4_15, hP1_6_19, hP1_8_23⟩ : Bx_State b1_ a1 ((b1_, blk (cl_State vP1_0_1 vP1_1_5 vP1_2_9 a1.Taken vP1_4_13 a1.PC vP1_6_17 a1.Stop vP1_8_21 a1.Jump a1.Delay) 27) :: (LXP1_0_2 ++ (LXP1_1_6 ++ (LXP1_2_10 ++ (LXP1_4_14 ++ (LXP1_6_18 ++ (LXP1_8_22 ++ []))))))))) (hF := hr1))) (h := ?_)
 clear hS; intro v2 LY3 w hS hr4
 clear hS2
 obtain ⟨LB5, rfl, rfl, hb6⟩ := hr4
 obtain ⟨vB_0_7, vB_1_11, vB_2_15, vB_4_19, vB_6_23, vB_8_27, LXB_0_8, LXB_1_12, LXB_2_16, LXB_4_20, LXB_6_24, LXB_8_28, rfl, hB_0_9, hB_1_13, hB_2_17, hB_4_21, hB_6_25, hB_8_29⟩ := hb6
 simp only [aa, ac, al] at hS
 refine n_thenN ?_
 iterate 2 (refine c_seq ?_)
 refine c_region ?_
 iterate 2 (refine oy hS y_move ?_)
 refine oy hS y_nilCheck ?_
 refine oy hS (y_loadW (fun w hS => hS.own (mH)) underlying27 rfl (by exact sz_api_State)) ?_
 obtain ⟨r31, hr31, hF⟩ := ob hF
 refine o_callS hS func68 rfl rfl (hc := (w_hazard_first (a0 := a0) (a1 := r1) (h0 := h0.plus) (h1 := ⟨_, _, _, _, _, _, rfl, (OwT.plus hB_0_9 hS (fun p hp => mC (mA (hp)))), (OwT.plus hB_1_13 hS (fun p hp => mC (mB (mA (hp))))), (OwT.plus hB_2_17 hS (fun p hp => mC (mB (mB (mA (hp)))))), (OwT.plus hB_4_21 hS (fun p hp => mC (mB (mB (mB (mA (hp))))))), (OwT.plus hB_6_25 hS (fun p hp => mC (mB (mB (mB (mB (mA (hp)))))))), (OwT.plus hB_8_29 hS (fun p hp => mC (mB (mB (mB (mB (mB (mA (hp)))))))))⟩) (hF := hr31))) (h := ?_)
 clear hS; intro w hS
 refine oy hS y_bin <| n_thenN ?_
 refine c_if (ht := fun c32 => ?_) (hf := fun c32 => ?_)
 · replace hF := bt c32 hF
   refine c_seq <| c_region <| oy hS y_move <| oy hS y_nilCheck <| oy hS (y_field fa_api_State_7) ?_
   refine o_storeA1 (o := 7) (cl' := (cl_State vB_0_7 vB_1_11 vB_2_15 r1.Taken vB_4_19 r1.PC vB_6_23 6 vB_8_27 r1.Jump r1.Delay)) hS (by kernel_rfl) (by exact Nat.le_of_ble_eq_true rfl) (Upd.here _) (by exact sz_int) rfl rfl ?_
   clear hS; intro w hS
   refine n_thenN ?_
   obtain rfl := osi hF
   refine wp_ret (r_ret (vs := []) (hS.re (.b .hb (.t .h (.t .h (.t .h (.t .h (.t .h (.t .h .n)))))))) rsN rfl ⟨_, rfl, (by first | rfl | simp only [aa, ac, al, an]), ⟨_, _, _, _, _, _, _, _, _, _, _, _, rfl, hB_0_9, hB_1_13, hB_2_17, hB_4_21, hB_6_25, hB_8_29⟩⟩)
 replace hF := bf c32 hF
 refine wp_skip <| c_region ?_
 iterate 2 (refine oy hS y_move ?_)
 have hS2 := hS.spl (.cons _ (.app _ (.app _ (.app _ (.app _ (.app _ (.app _ (.nil _))))))))
 obtain ⟨r33, hr33, hF⟩ := ob hF
 refine o_call hS2 func58 rfl rfl (hc := (w_pipe_Go (a0 := a0) (a1 := r1) (h0 := h0.plus) (h1 := (⟨_, _, _, _, _, _, _, _, _, _, _, _, rfl, hB_0_9, hB_1_13, hB_2_17, hB_4_21, hB_6_25, hB_8_29⟩ : Bx_State b1_ r1 ((b1_, blk (cl_State vB_0_7 vB_1_11 vB_2_15 r1.Taken vB_4_19 r1.PC vB_6_23 r1.Stop vB_8_27 r1.Jump r1.Delay) 27) :: (LXB_0_8 ++ (LXB_1_12 ++ (LXB_2_16 ++ (LXB_4_20 ++ (LXB_6_24 ++ (LXB_8_28 ++ []))))))))) (hF := hr33))) (h := ?_)
 clear hS; intro v34 LY35 w hS hr36
 clear hS2
 obtain ⟨LB37, rfl, rfl, hb38⟩ := hr36
 obtain ⟨vB_0_39, vB_1_43, vB_2_47, vB_4_51, vB_6_55, vB_8_59, LXB_0_40, LXB_1_44, LXB_2_48, LXB_4_52, LXB_6_56, LXB_8_60, rfl, hB_0_41, hB_1_45, hB_2_49, hB_4_53, hB_6_57, hB_8_61⟩ := hb38
 simp only [aa, ac, al] at hS
 refine n_anyN ?_
 obtain rfl := osi hF
 refine (r_end (vs := []) (hS.re (.b .hb (.t .h (.t .h (.t .h (.t .h (.t .h (.t .h .n)))))))) rsN rfl ⟨_, rfl, (by first | rfl | simp only [aa, ac, al, an]), ⟨_, _, _, _, _, _, _, _, _, _, _, _, rfl, hB_0_41, hB_1_45, hB_2_49, hB_4_53, hB_6_57, hB_8_61⟩⟩)
theorem w_hazard_Go {g : Frag} {a0 : (List (A4 T_Ins))} {v0_ : Value} {a1 : T_State} {b1_ : Nat} {LB1_ : Own} {r : T_State} (h0 : SlT g enc_Bundle 24 a0 v0_) (h1 : Bx_State b1_ a1 LB1_) (hF : hazard_Go a0 a1 = some r) : LC Tryz.prog 65 #[v0_, .pointer (some ⟨b1_, 0, none⟩)] g LB1_ (fun v L => ∃ (LB' : Own), v = .tuple #[] ∧ L = (LB' ++ []) ∧ Bx_State b1_ r LB') := w_hazard_Go_ h0 h1 hF

noncomputable def pipe_By_hazard_Go_b2 (a2 : Int) (a0 : (List (A4 T_Ins))) : (Int × (List Int) × (List Int) × (List Int) × Int × (List Int) × Int × (List Int) × Int × (List T_Write) × Int × Int) → Option (Step (Int × (List Int) × (List Int) × (List Int) × Int × (List Int) × Int × (List Int) × Int × (List T_Write) × Int × Int) (T_State × Int × Int)) := fun (x81, x82, x87, x92, x97, x98, x103, x104, x109, x110, x115, x116) => bif decide (x81 < a2) then bif decide (x109 = 0) then (hazard_Go a0 (⟨x82, x87, x92, x97, x98, x103, x104, x109, x110, x115, x116⟩ : T_State)).bind fun r155 => some (.next (IntKind.i64.wrap (x81 + 1), r155.Regs, r155.Mem, r155.In_, r155.Taken, r155.Out, r155.PC, r155.Stack, r155.Stop, r155.Fly, r155.Jump, r155.Delay)) else some (.done (((⟨x82, x87, x92, x97, x98, x103, x104, x109, x110, x115, x116⟩ : T_State), x81, 0))) else some (.done (((⟨x82, x87, x92, x97, x98, x103, x104, x109, x110, x115, x116⟩ : T_State), x81, 0)))
noncomputable def pipe_By_hazard_Go_k1 (a1 : T_State) (a2 : Int) (a0 : (List (A4 T_Ins))) : Unit → Option (T_State × Int × Int) := fun _ => (seq_Own a1).bind fun r18 => loop (σ := (Int × (List Int) × (List Int) × (List Int) × Int × (List Int) × Int × (List Int) × Int × (List T_Write) × Int × Int)) (pipe_By_hazard_Go_b2 a2 a0) (0, r18.Regs, r18.Mem, r18.In_, r18.Taken, r18.Out, r18.PC, r18.Stack, r18.Stop, r18.Fly, r18.Jump, r18.Delay)
noncomputable def pipe_By_hazard_Go (a0 : (List (A4 T_Ins))) (a1 : T_State) (a2 : Int) : Option (T_State × Int × Int) :=
  cut (σ := Unit) ((pipe_Code a0).bind fun r11 => bif !r11 then some (.done (((⟨[], [], [], 0, [], 0, [], 0, [], 0, 0⟩ : T_State), 0, 1))) else (pipe_May a1).bind fun r13 => bif !r13 then some (.done (((⟨[], [], [], 0, [], 0, [], 0, [], 0, 0⟩ : T_State), 0, 1))) else bif decide (a2 < 0) then some (.done (((⟨[], [], [], 0, [], 0, [], 0, [], 0, 0⟩ : T_State), 0, 1))) else bif decide (20000 < a2) then some (.done (((⟨[], [], [], 0, [], 0, [], 0, [], 0, 0⟩ : T_State), 0, 1))) else some (.next ())) (pipe_By_hazard_Go_k1 a1 a2 a0)
theorem w_pipe_By_hazard_Go_ {g : Frag} {a0 : (List (A4 T_Ins))} {v0_ : Value} {a1 : T_State} {v1_ : Value} {a2 : Int} {r : (T_State × Int × Int)} (h0 : SlT g enc_Bundle 24 a0 v0_) (h1 : Rd_State g a1 v1_) (hF : pipe_By_hazard_Go a0 a1 a2 = some r) : LC Tryz.prog 55 #[v0_, v1_, .int .i64 a2, .func (.func 65) #[] #[]] g [] (fun v L => ∃ (u0 : Value) (M0 : Own), v = .tuple #[u0, .int .i64 r.2.1, .int .i64 r.2.2] ∧ L = (M0 ++ []) ∧ Ow_State r.1 u0 M0) := by
 obtain ⟨v1_0_, v1_1_, v1_2_, v1_4_, v1_6_, v1_8_, rfl, h1_0_, h1_1_, h1_2_, h1_4_, h1_6_, h1_8_⟩ := h1
 unfold pipe_By_hazard_Go at hF
 refine lc_body (k := 45) (av := [v0_, .agg (cl_State v1_0_ v1_1_ v1_2_ a1.Taken v1_4_ a1.PC v1_6_ a1.Stop v1_8_ a1.Jump a1.Delay).toArray, .int .i64 a2, .func (.func 65) #[] #[]]) func55 rfl rfl (h := fun W hS => ?_)
 refine c_seq <| c_region ?_
 refine o_boxP (cl := (cl_State v1_0_ v1_1_ v1_2_ a1.Taken v1_4_ a1.PC v1_6_ a1.Stop v1_8_ a1.Jump a1.Delay)) rfl hS ?_
 clear hS; intro b1 w hS
 refine o_allocP (cl := (cl_State (.slice none 0 0) (.slice none 0 0) (.slice none 0 0) 0 (.slice none 0 0) 0 (.slice none 0 0) 0 (.slice none 0 0) 0 0)) zr_api_State rfl hS ?_
 clear hS; intro b2 w hS
 iterate 2 (refine oy hS y_assign ?_)
 refine n_thenN ?_
 obtain ⟨z9, hF, hK10⟩ := cut_step hF
 refine c_cutP (fun a w' => pipe_By_hazard_Go_k1 a1 a2 a0 () = some r ∧ (∃ s : Nat → Value, a = Ac (((((((Fm.dead 45 s).upd 0 v0_).upd 2 (.int .i64 a2)).upd 3 (.func (.func 65) #[] #[])).upd 5 (.pointer (some ⟨b1, 0, none⟩))).upd 8 (.pointer (some ⟨b2, 0, none⟩))).upd 9 (.int .i64 0))) ∧ St W g [] ((b1, blk (cl_State v1_0_ v1_1_ v1_2_ a1.Taken v1_4_ a1.PC v1_6_ a1.Stop v1_8_ a1.Jump a1.Delay) 27) :: ((b2, blk (cl_State (.slice none 0 0) (.slice none 0 0) (.slice none 0 0) 0 (.slice none 0 0) 0 (.slice none 0 0) 0 (.slice none 0 0) 0 0) 27) :: [])) w') ?_ ?_
 · skip
   refine c_seq <| c_region <| oy hS y_move ?_
   obtain ⟨r11, hr11, hF⟩ := ob hF
   refine o_callS hS func66 rfl rfl (hc := (w_pipe_Code (a0 := a0) (h0 := h0.plus) (hF := hr11))) (h := ?_)
   clear hS; intro w hS
   refine oy hS y_not ?_
   refine o_split (ht := fun c12 => ?_) (hf := fun c12 => ?_)
   · replace hF := bt c12 hF
     iterate 3 (refine o_sk rfl rfl ?_)
     refine oy hS y_pickT <| oy hS y_move ?_
     iterate 2 (refine o_sk rfl rfl ?_)
     refine oy hS y_pickT <| oy hS y_move ?_
     iterate 2 (refine o_sk rfl rfl ?_)
     refine oy hS y_pickT <| n_thenN ?_
     refine c_if_true (h := ?_)
     refine c_seq <| c_region ?_
     refine oy hS (y_loadW (fun w hS => hS.own (mH)) underlying27 rfl (by exact sz_api_State)) ?_
     refine o_storeW (vs := (cl_State (.slice none 0 0) (.slice none 0 0) (.slice none 0 0) 0 (.slice none 0 0) 0 (.slice none 0 0) 0 (.slice none 0 0) 0 0)) hS (by exact rfl) (Upd.here _) (by exact sz_api_State) (one_State rfl rfl rfl rfl rfl rfl) ?_
     clear hS; intro w hS
     iterate 2 (refine oy hS y_assign ?_)
     refine n_thenN ?_
     obtain rfl := osi hF
     obtain rfl : _ = r := hK10
     refine wp_ret (r_ret (vs := [.agg (cl_State (.slice none 0 0) (.slice none 0 0) (.slice none 0 0) 0 (.slice none 0 0) 0 (.slice none 0 0) 0 (.slice none 0 0) 0 0).toArray, .int .i64 0, .int .i64 1]) (hS.re (.n)) (rsC (res_cell (hS.own (mH)) underlying27 rfl (by exact sz_api_State)) (rsC res_tmp (rsC res_tmp rsN))) rfl ⟨_, _, rfl, (by first | rfl | simp only [aa, ac, al, an]), ⟨_, _, _, _, _, _, _, _, _, _, _, _, rfl, rfl, OwT.nil _ _ _, OwT.nil _ _ _, OwT.nil _ _ _, OwT.nil _ _ _, OwT.nil _ _ _, OwT.nil _ _ _⟩⟩)
   replace hF := bf c12 hF
   refine o_gu rfl rfl rfl ?_
   refine oy hS (y_loadW (fun w hS => hS.own (mC (mH))) underlying27 rfl (by exact sz_api_State)) ?_
   refine o_gu rfl rfl rfl ?_
   obtain ⟨r13, hr13, hF⟩ := ob hF
   refine o_callS hS func53 rfl rfl (hc := (w_pipe_May (a0 := a1) (h0 := ⟨_, _, _, _, _, _, rfl, h1_0_.plus, h1_1_.plus, h1_2_.plus, h1_4_.plus, h1_6_.plus, h1_8_.plus⟩) (hF := hr13))) (h := ?_)
   clear hS; intro w hS
   refine o_gu rfl rfl rfl <| oy hS y_not <| oy hS y_pickF ?_
   refine o_split (ht := fun c14 => ?_) (hf := fun c14 => ?_)
   · replace hF := bt c14 hF
     iterate 2 (refine o_sk rfl rfl ?_)
     refine oy hS y_pickT <| oy hS y_move ?_
     iterate 2 (refine o_sk rfl rfl ?_)
     refine oy hS y_pickT <| n_thenN ?_
     refine c_if_true (h := ?_)
     refine c_seq <| c_region ?_
     refine oy hS (y_loadW (fun w hS => hS.own (mH)) underlying27 rfl (by exact sz_api_State)) ?_
     refine o_storeW (vs := (cl_State (.slice none 0 0) (.slice none 0 0) (.slice none 0 0) 0 (.slice none 0 0) 0 (.slice none 0 0) 0 (.slice none 0 0) 0 0)) hS (by exact rfl) (Upd.here _) (by exact sz_api_State) (one_State rfl rfl rfl rfl rfl rfl) ?_
     clear hS; intro w hS
     iterate 2 (refine oy hS y_assign ?_)
     refine n_thenN ?_
     obtain rfl := osi hF
     obtain rfl : _ = r := hK10
     refine wp_ret (r_ret (vs := [.agg (cl_State (.slice none 0 0) (.slice none 0 0) (.slice none 0 0) 0 (.slice none 0 0) 0 (.slice none 0 0) 0 (.slice none 0 0) 0 0).toArray, .int .i64 0, .int .i64 1]) (hS.re (.n)) (rsC (res_cell (hS.own (mH)) underlying27 rfl (by exact sz_api_State)) (rsC res_tmp (rsC res_tmp rsN))) rfl ⟨_, _, rfl, (by first | rfl | simp only [aa, ac, al, an]), ⟨_, _, _, _, _, _, _, _, _, _, _, _, rfl, rfl, OwT.nil _ _ _, OwT.nil _ _ _, OwT.nil _ _ _, OwT.nil _ _ _, OwT.nil _ _ _, OwT.nil _ _ _⟩⟩)
   replace hF := bf c14 hF
   refine o_gu rfl rfl rfl <| oy hS y_move <| o_gu rfl rfl rfl <| oy hS y_bin <| oy hS y_pickF ?_
   refine o_split (ht := fun c15 => ?_) (hf := fun c15 => ?_)
   · replace hF := bt c15 hF
     iterate 2 (refine o_sk rfl rfl ?_)
     refine oy hS y_pickT <| n_thenN ?_
     refine c_if_true (h := ?_)
     refine c_seq <| c_region ?_
     refine oy hS (y_loadW (fun w hS => hS.own (mH)) underlying27 rfl (by exact sz_api_State)) ?_
     refine o_storeW (vs := (cl_State (.slice none 0 0) (.slice none 0 0) (.slice none 0 0) 0 (.slice none 0 0) 0 (.slice none 0 0) 0 (.slice none 0 0) 0 0)) hS (by exact rfl) (Upd.here _) (by exact sz_api_State) (one_State rfl rfl rfl rfl rfl rfl) ?_
     clear hS; intro w hS
     iterate 2 (refine oy hS y_assign ?_)
     refine n_thenN ?_
     obtain rfl := osi hF
     obtain rfl : _ = r := hK10
     refine wp_ret (r_ret (vs := [.agg (cl_State (.slice none 0 0) (.slice none 0 0) (.slice none 0 0) 0 (.slice none 0 0) 0 (.slice none 0 0) 0 (.slice none 0 0) 0 0).toArray, .int .i64 0, .int .i64 1]) (hS.re (.n)) (rsC (res_cell (hS.own (mH)) underlying27 rfl (by exact sz_api_State)) (rsC res_tmp (rsC res_tmp rsN))) rfl ⟨_, _, rfl, (by first | rfl | simp only [aa, ac, al, an]), ⟨_, _, _, _, _, _, _, _, _, _, _, _, rfl, rfl, OwT.nil _ _ _, OwT.nil _ _ _, OwT.nil _ _ _, OwT.nil _ _ _, OwT.nil _ _ _, OwT.nil _ _ _⟩⟩)
   replace hF := bf c15 hF
   refine o_gu rfl rfl rfl <| oy hS y_move <| o_gu rfl rfl rfl <| oy hS y_bin <| oy hS y_pickF <| n_thenN ?_
   refine c_if (ht := fun c16 => ?_) (hf := fun c16 => ?_)
   · replace hF := bt c16 hF
     refine c_seq <| c_region ?_
     refine oy hS (y_loadW (fun w hS => hS.own (mH)) underlying27 rfl (by exact sz_api_State)) ?_
     refine o_storeW (vs := (cl_State (.slice none 0 0) (.slice none 0 0) (.slice none 0 0) 0 (.slice none 0 0) 0 (.slice none 0 0) 0 (.slice none 0 0) 0 0)) hS (by exact rfl) (Upd.here _) (by exact sz_api_State) (one_State rfl rfl rfl rfl rfl rfl) ?_
     clear hS; intro w hS
     iterate 2 (refine oy hS y_assign ?_)
     refine n_thenN ?_
     obtain rfl := osi hF
     obtain rfl : _ = r := hK10
     refine wp_ret (r_ret (vs := [.agg (cl_State (.slice none 0 0) (.slice none 0 0) (.slice none 0 0) 0 (.slice none 0 0) 0 (.slice none 0 0) 0 (.slice none 0 0) 0 0).toArray, .int .i64 0, .int .i64 1]) (hS.re (.n)) (rsC (res_cell (hS.own (mH)) underlying27 rfl (by exact sz_api_State)) (rsC res_tmp (rsC res_tmp rsN))) rfl ⟨_, _, rfl, (by first | rfl | simp only [aa, ac, al, an]), ⟨_, _, _, _, _, _, _, _, _, _, _, _, rfl, rfl, OwT.nil _ _ _, OwT.nil _ _ _, OwT.nil _ _ _, OwT.nil _ _ _, OwT.nil _ _ _, OwT.nil _ _ _⟩⟩)
   replace hF := bf c16 hF
   refine wp_skip ?_
   obtain rfl := osi hF
   change _ ∧ _
   exact ⟨hK10, mk_exF, (hS.re (.b (.thereb _ .hb) (.b .hb .n)))⟩
 rintro a w ⟨hF, ⟨s17, rfl⟩, hS⟩
 dsimp only [pipe_By_hazard_Go_k1] at hF
 refine c_seq <| c_region ?_
 refine oy hS (y_loadW (fun w hS => hS.own (mH)) underlying27 rfl (by exact sz_api_State)) ?_
 obtain ⟨r18, hr18, hF⟩ := ob hF
 refine o_call0 hS func67 rfl rfl (hc := (w_seq_Own (a0 := a1) (h0 := ⟨_, _, _, _, _, _, rfl, h1_0_.plus, h1_1_.plus, h1_2_.plus, h1_4_.plus, h1_6_.plus, h1_8_.plus⟩) (hF := hr18))) (h := ?_)
 clear hS; intro v19 LY20 w hS hr21
 obtain ⟨v_0_22, LX_0_23, rfl, rfl, h_0_24⟩ := hr21
 obtain ⟨vR0_0_25, vR0_1_29, vR0_2_33, vR0_4_37, vR0_6_41, vR0_8_45, LXR0_0_26, LXR0_1_30, LXR0_2_34, LXR0_4_38, LXR0_6_42, LXR0_8_46, rfl, rfl, hR0_0_27, hR0_1_31, hR0_2_35, hR0_4_39, hR0_6_43, hR0_8_47⟩ := h_0_24
 simp only [aa, ac, al] at hS
 have hS := hS.re (.b (.there _ (.there _ (.there _ (.there _ (.there _ (.there _ (.thereb _ .hb))))))) (.t .h (.t .h (.t .h (.t .h (.t .h (.t .h (.b .hb .n))))))))
 refine o_storeW (vs := (cl_State vR0_0_25 vR0_1_29 vR0_2_33 r18.Taken vR0_4_37 r18.PC vR0_6_41 r18.Stop vR0_8_45 r18.Jump r18.Delay)) hS (by exact rfl) (Upd.here _) (by exact sz_api_State) (one_State (hR0_0_27).one (hR0_1_31).one (hR0_2_35).one (hR0_4_39).one (hR0_6_43).one (hR0_8_47).one) ?_
 clear hS; intro w hS
 refine n_thenN <| c_seq <| c_block ?_
 refine c_loopP hF (fun (q : (Int × (List Int) × (List Int) × (List Int) × Int × (List Int) × Int × (List Int) × Int × (List T_Write) × Int × Int)) a w' => ∃ (v83 : Value) (v88 : Value) (v93 : Value) (v99 : Value) (v105 : Value) (v111 : Value) (LX85 : Own) (LX90 : Own) (LX95 : Own) (LX101 : Own) (LX107 : Own) (LX113 : Own), OwT 40 enc_uint32 1 q.2.1 v83 LX85 ∧ OwT 40 enc_uint32 1 q.2.2.1 v88 LX90 ∧ OwT 40 enc_uint32 1 q.2.2.2.1 v93 LX95 ∧ OwT 40 enc_uint32 1 q.2.2.2.2.2.1 v99 LX101 ∧ OwT 3 enc_int 1 q.2.2.2.2.2.2.2.1 v105 LX107 ∧ OwT 73 enc_Write 3 q.2.2.2.2.2.2.2.2.2.1 v111 LX113 ∧ (∃ s : Nat → Value, a = Ac ((((((Fm.dead 45 s).upd 0 v0_).upd 2 (.int .i64 a2)).upd 3 (.func (.func 65) #[] #[])).upd 8 (.pointer (some ⟨b2, 0, none⟩))).upd 9 (.int .i64 q.1))) ∧ St W g [] ((b2, blk (cl_State v83 v88 v93 q.2.2.2.2.1 v99 q.2.2.2.2.2.2.1 v105 q.2.2.2.2.2.2.2.2.1 v111 q.2.2.2.2.2.2.2.2.2.2.1 q.2.2.2.2.2.2.2.2.2.2.2) 27) :: (LX85 ++ (LX90 ++ (LX95 ++ (LX101 ++ (LX107 ++ (LX113 ++ []))))))) w') ⟨vR0_0_25, vR0_1_29, vR0_2_33, vR0_4_37, vR0_6_41, vR0_8_45, LXR0_0_26, LXR0_1_30, LXR0_2_34, LXR0_4_38, LXR0_6_42, LXR0_8_46, hR0_0_27, hR0_1_31, hR0_2_35, hR0_4_39, hR0_6_43, hR0_8_47, mk_exF, (hS.re (.b .hb (.t .h (.t .h (.t .h (.t .h (.t .h (.t .h .n))))))))⟩ ?_
 clear hS hF
 intro n151 q a w hI hq
 obtain ⟨x81, x82, x87, x92, x97, x98, x103, x104, x109, x110, x115, x116⟩ := q
 obtain ⟨v83, v88, v93, v99, v105, v111, LX85, LX90, LX95, LX101, LX107, LX113, h84, h89, h94, h100, h106, h112, ⟨s152, rfl⟩, hS⟩ := hq
 replace h84 : OwT 40 enc_uint32 1 x82 v83 LX85 := h84
 replace h89 : OwT 40 enc_uint32 1 x87 v88 LX90 := h89
 replace h94 : OwT 40 enc_uint32 1 x92 v93 LX95 := h94
 replace h100 : OwT 40 enc_uint32 1 x98 v99 LX101 := h100
 replace h106 : OwT 3 enc_int 1 x104 v105 LX107 := h106
 replace h112 : OwT 73 enc_Write 3 x110 v111 LX113 := h112
 obtain ⟨z149, hF, hK150⟩ := iter_step hI
 clear hI
 dsimp only [pipe_By_hazard_Go_b2] at hF
 iterate 2 (refine c_seq ?_)
 refine c_region ?_
 iterate 2 (refine oy hS y_move ?_)
 refine oy hS y_bin ?_
 refine o_split (ht := fun c153 => ?_) (hf := fun c153 => ?_)
 · replace hF := bt c153 hF
   refine o_gu rfl rfl rfl <| oy hS (y_field fa_api_State_7) <| o_gu rfl rfl rfl <| oy hS (y_load (fun w hS => hS.own (mH)) underlying3 rfl rfl) <| o_gu rfl rfl rfl <| oy hS y_bin <| oy hS y_pickT <| n_thenN ?_
   refine c_if (ht := fun c154 => ?_) (hf := fun c154 => ?_)
   · replace hF := bt c154 hF
     refine wp_skip <| c_block <| c_seq <| c_region ?_
     iterate 2 (refine oy hS y_move ?_)
     have hS2 := hS.spl (.cons _ (.app _ (.app _ (.app _ (.app _ (.app _ (.app _ (.nil _))))))))
     obtain ⟨r155, hr155, hF⟩ := ob hF
     refine o_callVG hS2 func65 rfl rfl (hc := (w_hazard_Go (a0 := a0) (a1 := (⟨x82, x87, x92, x97, x98, x103, x104, x109, x110, x115, x116⟩ : T_State)) (h0 := h0.plus) (h1 := (⟨_, _, _, _, _, _, _, _, _, _, _, _, rfl, h84, h89, h94, h100, h106, h112⟩ : Bx_State b2 (⟨x82, x87, x92, x97, x98, x103, x104, x109, x110, x115, x116⟩ : T_State) ((b2, blk (cl_State v83 v88 v93 x97 v99 x103 v105 x109 v111 x115 x116) 27) :: (LX85 ++ (LX90 ++ (LX95 ++ (LX101 ++ (LX107 ++ (LX113 ++ []))))))))) (hF := hr155))) (h := ?_)
     clear hS; intro v156 LY157 w hS hr158
     clear hS2
     obtain ⟨LB159, rfl, rfl, hb160⟩ := hr158
     obtain ⟨vB_0_161, vB_1_165, vB_2_169, vB_4_173, vB_6_177, vB_8_181, LXB_0_162, LXB_1_166, LXB_2_170, LXB_4_174, LXB_6_178, LXB_8_182, rfl, hB_0_163, hB_1_167, hB_2_171, hB_4_175, hB_6_179, hB_8_183⟩ := hb160
     simp only [aa, ac, al] at hS
     refine n_thenN <| c_region <| oy hS y_move <| oy hS y_bin <| oy hS y_assign ?_
     refine n_anyN ?_
     obtain rfl := osi hF
     exact ⟨_, hK150, vB_0_161, vB_1_165, vB_2_169, vB_4_173, vB_6_177, vB_8_181, LXB_0_162, LXB_1_166, LXB_2_170, LXB_4_174, LXB_6_178, LXB_8_182, hB_0_163, hB_1_167, hB_2_171, hB_4_175, hB_6_179, hB_8_183, mk_exF, (hS.re (.b .hb (.t .h (.t .h (.t .h (.t .h (.t .h (.t .h .n))))))))⟩
   replace hF := bf c154 hF
   refine wp_exit ?_
   refine c_seq <| c_region ?_
   refine oy hS (y_loadW (fun w hS => hS.own (mH)) underlying27 rfl (by exact sz_api_State)) ?_
   refine oy hS y_move ?_
   refine o_storeW (vs := (cl_State v83 v88 v93 x97 v99 x103 v105 x109 v111 x115 x116)) hS (by exact rfl) (Upd.here _) (by exact sz_api_State) (one_State (h84).one (h89).one (h94).one (h100).one (h106).one (h112).one) ?_
   clear hS; intro w hS
   iterate 2 (refine oy hS y_assign ?_)
   refine n_thenN ?_
   obtain rfl := osi hF
   obtain rfl : _ = r := hK150
   refine wp_ret (r_ret (vs := [.agg (cl_State v83 v88 v93 x97 v99 x103 v105 x109 v111 x115 x116).toArray, .int .i64 x81, .int .i64 0]) (hS.re (.t (.thereb _ .h) (.t (.thereb _ .h) (.t (.thereb _ .h) (.t (.thereb _ .h) (.t (.thereb _ .h) (.t (.thereb _ .h) .n))))))) (rsC (res_cell (hS.own (mH)) underlying27 rfl (by exact sz_api_State)) (rsC res_tmp (rsC res_tmp rsN))) rfl ⟨_, _, rfl, (by first | rfl | simp only [aa, ac, al, an]), ⟨_, _, _, _, _, _, _, _, _, _, _, _, rfl, rfl, h84, h89, h94, h100, h106, h112⟩⟩)
 replace hF := bf c153 hF
 iterate 3 (refine o_sk rfl rfl ?_)
 refine oy hS y_pickF <| n_thenN ?_
 refine c_if_false (h := ?_)
 refine wp_exit ?_
 refine c_seq <| c_region ?_
 refine oy hS (y_loadW (fun w hS => hS.own (mH)) underlying27 rfl (by exact sz_api_State)) ?_
 refine oy hS y_move ?_
 refine o_storeW (vs := (cl_State v83 v88 v93 x97 v99 x103 v105 x109 v111 x115 x116)) hS (by exact rfl) (Upd.here _) (by exact sz_api_State) (one_State (h84).one (h89).one (h94).one (h100).one (h106).one (h112).one) ?_
 clear hS; intro w hS
 iterate 2 (refine oy hS y_assign ?_)
 refine n_thenN ?_
 obtain rfl := osi hF
 obtain rfl : _ = r := hK150
 refine wp_ret (r_ret (vs := [.agg (cl_State v83 v88 v93 x97 v99 x103 v105 x109 v111 x115 x116).toArray, .int .i64 x81, .int .i64 0]) (hS.re (.t (.thereb _ .h) (.t (.thereb _ .h) (.t (.thereb _ .h) (.t (.thereb _ .h) (.t (.thereb _ .h) (.t (.thereb _ .h) .n))))))) (rsC (res_cell (hS.own (mH)) underlying27 rfl (by exact sz_api_State)) (rsC res_tmp (rsC res_tmp rsN))) rfl ⟨_, _, rfl, (by first | rfl | simp only [aa, ac, al, an]), ⟨_, _, _, _, _, _, _, _, _, _, _, _, rfl, rfl, h84, h89, h94, h100, h106, h112⟩⟩)
theorem w_pipe_By_hazard_Go {g : Frag} {a0 : (List (A4 T_Ins))} {v0_ : Value} {a1 : T_State} {v1_ : Value} {a2 : Int} {r : (T_State × Int × Int)} (h0 : SlT g enc_Bundle 24 a0 v0_) (h1 : Rd_State g a1 v1_) (hF : pipe_By_hazard_Go a0 a1 a2 = some r) : LC Tryz.prog 55 #[v0_, v1_, .int .i64 a2, .func (.func 65) #[] #[]] g [] (fun v L => ∃ (u0 : Value) (M0 : Own), v = .tuple #[u0, .int .i64 r.2.1, .int .i64 r.2.2] ∧ L = (M0 ++ []) ∧ Ow_State r.1 u0 M0) := w_pipe_By_hazard_Go_ h0 h1 hF

noncomputable def hazard_Run (a0 : (List (A4 T_Ins))) (a1 : T_State) (a2 : Int) : Option (T_State × Int × Int) :=
  (pipe_By_hazard_Go a0 a1 a2).bind fun r3 => some (r3.1, r3.2.1, r3.2.2)
theorem w_hazard_Run_ {g : Frag} {a0 : (List (A4 T_Ins))} {v0_ : Value} {a1 : T_State} {v1_ : Value} {a2 : Int} {r : (T_State × Int × Int)} (h0 : SlT g enc_Bundle 24 a0 v0_) (h1 : Rd_State g a1 v1_) (hF : hazard_Run a0 a1 a2 = some r) : LC Tryz.prog 32 #[v0_, v1_, .int .i64 a2] g [] (fun v L => ∃ (u0 : Value) (M0 : Own), v = .tuple #[u0, .int .i64 r.2.1, .int .i64 r.2.2] ∧ L = (M0 ++ []) ∧ Ow_State r.1 u0 M0) := by
 obtain ⟨v1_0_, v1_1_, v1_2_, v1_4_, v1_6_, v1_8_, rfl, h1_0_, h1_1_, h1_2_, h1_4_, h1_6_, h1_8_⟩ := h1
 unfold hazard_Run at hF
 refine lc_body (k := 16) (av := [v0_, .agg (cl_State v1_0_ v1_1_ v1_2_ a1.Taken v1_4_ a1.PC v1_6_ a1.Stop v1_8_ a1.Jump a1.Delay).toArray, .int .i64 a2]) func32 rfl rfl (h := fun W hS => ?_)
 refine c_seq <| c_region ?_
 refine o_boxP (cl := (cl_State v1_0_ v1_1_ v1_2_ a1.Taken v1_4_ a1.PC v1_6_ a1.Stop v1_8_ a1.Jump a1.Delay)) rfl hS ?_
 clear hS; intro b1 w hS
 refine o_allocP (cl := (cl_State (.slice none 0 0) (.slice none 0 0) (.slice none 0 0) 0 (.slice none 0 0) 0 (.slice none 0 0) 0 (.slice none 0 0) 0 0)) zr_api_State rfl hS ?_
 clear hS; intro b2 w hS
 iterate 2 (refine oy hS y_assign ?_)
 refine n_thenN <| c_seq <| c_region <| oy hS y_move ?_
 refine oy hS (y_loadW (fun w hS => hS.own (mC (mH))) underlying27 rfl (by exact sz_api_State)) ?_
 refine oy hS y_move ?_
 obtain ⟨r3, hr3, hF⟩ := ob hF
 refine o_call0 hS func55 rfl rfl (hc := (w_pipe_By_hazard_Go (a0 := a0) (a1 := a1) (a2 := a2) (h0 := h0.plus) (h1 := ⟨_, _, _, _, _, _, rfl, h1_0_.plus, h1_1_.plus, h1_2_.plus, h1_4_.plus, h1_6_.plus, h1_8_.plus⟩) (hF := hr3))) (h := ?_)
 clear hS; intro v4 LY5 w hS hr6
 obtain ⟨v_0_7, LX_0_8, rfl, rfl, h_0_9⟩ := hr6
 obtain ⟨vR0_0_10, vR0_1_14, vR0_2_18, vR0_4_22, vR0_6_26, vR0_8_30, LXR0_0_11, LXR0_1_15, LXR0_2_19, LXR0_4_23, LXR0_6_27, LXR0_8_31, rfl, rfl, hR0_0_12, hR0_1_16, hR0_2_20, hR0_4_24, hR0_6_28, hR0_8_32⟩ := h_0_9
 simp only [aa, ac, al] at hS
 iterate 3 (refine oy hS (y_extract rfl) ?_)
 have hS := hS.re (.b (.there _ (.there _ (.there _ (.there _ (.there _ (.there _ .hb)))))) (.t .h (.t .h (.t .h (.t .h (.t .h (.t .h (.b .hb .n))))))))
 refine o_storeW (vs := (cl_State vR0_0_10 vR0_1_14 vR0_2_18 r3.1.Taken vR0_4_22 r3.1.PC vR0_6_26 r3.1.Stop vR0_8_30 r3.1.Jump r3.1.Delay)) hS (by exact rfl) (Upd.here _) (by exact sz_api_State) (one_State (hR0_0_12).one (hR0_1_16).one (hR0_2_20).one (hR0_4_24).one (hR0_6_28).one (hR0_8_32).one) ?_
 clear hS; intro w hS
 iterate 2 (refine oy hS y_assign ?_)
 refine n_thenN ?_
 obtain rfl := osi hF
 refine wp_ret (r_ret (vs := [.agg (cl_State vR0_0_10 vR0_1_14 vR0_2_18 r3.1.Taken vR0_4_22 r3.1.PC vR0_6_26 r3.1.Stop vR0_8_30 r3.1.Jump r3.1.Delay).toArray, .int .i64 r3.2.1, .int .i64 r3.2.2]) (hS.re (.t (.thereb _ .h) (.t (.thereb _ .h) (.t (.thereb _ .h) (.t (.thereb _ .h) (.t (.thereb _ .h) (.t (.thereb _ .h) .n))))))) (rsC (res_cell (hS.own (mH)) underlying27 rfl (by exact sz_api_State)) (rsC res_tmp (rsC res_tmp rsN))) rfl ⟨_, _, rfl, (by first | rfl | simp only [aa, ac, al, an]), ⟨_, _, _, _, _, _, _, _, _, _, _, _, rfl, rfl, hR0_0_12, hR0_1_16, hR0_2_20, hR0_4_24, hR0_6_28, hR0_8_32⟩⟩)
theorem w_hazard_Run {g : Frag} {a0 : (List (A4 T_Ins))} {v0_ : Value} {a1 : T_State} {v1_ : Value} {a2 : Int} {r : (T_State × Int × Int)} (h0 : SlT g enc_Bundle 24 a0 v0_) (h1 : Rd_State g a1 v1_) (hF : hazard_Run a0 a1 a2 = some r) : LC Tryz.prog 32 #[v0_, v1_, .int .i64 a2] g [] (fun v L => ∃ (u0 : Value) (M0 : Own), v = .tuple #[u0, .int .i64 r.2.1, .int .i64 r.2.2] ∧ L = (M0 ++ []) ∧ Ow_State r.1 u0 M0) := w_hazard_Run_ h0 h1 hF

def l7_num (a0 : Int) : Int :=
  a0
theorem w_l7_num_ {g : Frag} {a0 : Int} {r : Int}  (hF : l7_num a0 = r) : LCs Tryz.prog 33 #[.int .i64 a0] g (.int .i64 r) := by
 unfold l7_num at hF
 refine lc_body (k := 4) (av := [.int .i64 a0]) func33 rfl rfl (h := fun W hS => ?_)
 refine c_seq <| c_region <| oy hS y_assign <| n_thenN <| c_seq <| c_region <| oy hS y_move <| oy hS y_assign ?_
 refine n_thenN ?_
 subst hF
 exact wp_ret (wr1 hS)
theorem w_l7_num {g : Frag} {a0 : Int}  : LCs Tryz.prog 33 #[.int .i64 a0] g (.int .i64 (l7_num a0)) := w_l7_num_  rfl

noncomputable def hazard_Find (a0 : (List (A4 T_Ins))) (a1 : T_State) : Option (Int × Int) :=
  (pipe_Code a0).bind fun r2 => bif !r2 then some (0, 1) else (pipe_May a1).bind fun r4 => bif !r4 then some (0, 1) else (seq_Own a1).bind fun r6 => (pipe_Land r6).bind fun r37 => (hazard_first a0 r37).bind fun r67 => some (r67, 0)
theorem w_hazard_Find_ {g : Frag} {a0 : (List (A4 T_Ins))} {v0_ : Value} {a1 : T_State} {v1_ : Value} {r : (Int × Int)} (h0 : SlT g enc_Bundle 24 a0 v0_) (h1 : Rd_State g a1 v1_) (hF : hazard_Find a0 a1 = some r) : LCs Tryz.prog 34 #[v0_, v1_] g (.tuple #[.int .i64 r.1, .int .i64 r.2]) := by
 obtain ⟨v1_0_, v1_1_, v1_2_, v1_4_, v1_6_, v1_8_, rfl, h1_0_, h1_1_, h1_2_, h1_4_, h1_6_, h1_8_⟩ := h1
 unfold hazard_Find at hF
 refine lc_body (k := 20) (av := [v0_, .agg (cl_State v1_0_ v1_1_ v1_2_ a1.Taken v1_4_ a1.PC v1_6_ a1.Stop v1_8_ a1.Jump a1.Delay).toArray]) func34 rfl rfl (h := fun W hS => ?_)
 refine c_seq <| c_region ?_
 refine o_boxP (cl := (cl_State v1_0_ v1_1_ v1_2_ a1.Taken v1_4_ a1.PC v1_6_ a1.Stop v1_8_ a1.Jump a1.Delay)) rfl hS ?_
 clear hS; intro b1 w hS
 iterate 2 (refine oy hS y_assign ?_)
 refine n_thenN ?_
 iterate 2 (refine c_seq ?_)
 refine c_region <| oy hS y_move ?_
 obtain ⟨r2, hr2, hF⟩ := ob hF
 refine o_callS hS func66 rfl rfl (hc := (w_pipe_Code (a0 := a0) (h0 := h0.plus) (hF := hr2))) (h := ?_)
 clear hS; intro w hS
 refine oy hS y_not ?_
 refine o_split (ht := fun c3 => ?_) (hf := fun c3 => ?_)
 · replace hF := bt c3 hF
   iterate 3 (refine o_sk rfl rfl ?_)
   refine oy hS y_pickT <| n_thenN ?_
   refine c_if_true (h := ?_)
   refine c_seq <| c_region ?_
   iterate 2 (refine oy hS y_assign ?_)
   refine n_thenN ?_
   obtain rfl := osi hF
   exact wp_ret (wr2 hS)
 replace hF := bf c3 hF
 refine o_gu rfl rfl rfl ?_
 refine oy hS (y_loadW (fun w hS => hS.own (mH)) underlying27 rfl (by exact sz_api_State)) ?_
 refine o_gu rfl rfl rfl ?_
 obtain ⟨r4, hr4, hF⟩ := ob hF
 refine o_callS hS func53 rfl rfl (hc := (w_pipe_May (a0 := a1) (h0 := ⟨_, _, _, _, _, _, rfl, h1_0_.plus, h1_1_.plus, h1_2_.plus, h1_4_.plus, h1_6_.plus, h1_8_.plus⟩) (hF := hr4))) (h := ?_)
 clear hS; intro w hS
 refine o_gu rfl rfl rfl <| oy hS y_not <| oy hS y_pickF <| n_thenN ?_
 refine c_if (ht := fun c5 => ?_) (hf := fun c5 => ?_)
 · replace hF := bt c5 hF
   refine c_seq <| c_region ?_
   iterate 2 (refine oy hS y_assign ?_)
   refine n_thenN ?_
   obtain rfl := osi hF
   exact wp_ret (wr2 hS)
 replace hF := bf c5 hF
 refine wp_skip <| c_seq <| c_region ?_
 refine oy hS (y_loadW (fun w hS => hS.own (mH)) underlying27 rfl (by exact sz_api_State)) ?_
 obtain ⟨r6, hr6, hF⟩ := ob hF
 refine o_call0 hS func67 rfl rfl (hc := (w_seq_Own (a0 := a1) (h0 := ⟨_, _, _, _, _, _, rfl, h1_0_.plus, h1_1_.plus, h1_2_.plus, h1_4_.plus, h1_6_.plus, h1_8_.plus⟩) (hF := hr6))) (h := ?_)
 clear hS; intro v7 LY8 w hS hr9
 obtain ⟨v_0_10, LX_0_11, rfl, rfl, h_0_12⟩ := hr9
 obtain ⟨vR0_0_13, vR0_1_17, vR0_2_21, vR0_4_25, vR0_6_29, vR0_8_33, LXR0_0_14, LXR0_1_18, LXR0_2_22, LXR0_4_26, LXR0_6_30, LXR0_8_34, rfl, rfl, hR0_0_15, hR0_1_19, hR0_2_23, hR0_4_27, hR0_6_31, hR0_8_35⟩ := h_0_12
 simp only [aa, ac, al] at hS
 have hS := hS.re (.b (.there _ (.there _ (.there _ (.there _ (.there _ (.there _ .hb)))))) (.t .h (.t .h (.t .h (.t .h (.t .h (.t .h .n)))))))
 refine o_storeW (vs := (cl_State vR0_0_13 vR0_1_17 vR0_2_21 r6.Taken vR0_4_25 r6.PC vR0_6_29 r6.Stop vR0_8_33 r6.Jump r6.Delay)) hS (by exact rfl) (Upd.here _) (by exact sz_api_State) (one_State (hR0_0_15).one (hR0_1_19).one (hR0_2_23).one (hR0_4_27).one (hR0_6_31).one (hR0_8_35).one) ?_
 clear hS; intro w hS
 refine n_thenN <| c_seq <| c_region ?_
 have hS2 := hS.spl (.cons _ (.app _ (.app _ (.app _ (.app _ (.app _ (.app _ (.nil _))))))))
 obtain ⟨r37, hr37, hF⟩ := ob hF
 refine o_call hS2 func57 rfl rfl (hc := (w_pipe_Land (a0 := r6) (h0 := (⟨_, _, _, _, _, _, _, _, _, _, _, _, rfl, hR0_0_15, hR0_1_19, hR0_2_23, hR0_4_27, hR0_6_31, hR0_8_35⟩ : Bx_State b1 r6 ((b1, blk (cl_State vR0_0_13 vR0_1_17 vR0_2_21 r6.Taken vR0_4_25 r6.PC vR0_6_29 r6.Stop vR0_8_33 r6.Jump r6.Delay) 27) :: (LXR0_0_14 ++ (LXR0_1_18 ++ (LXR0_2_22 ++ (LXR0_4_26 ++ (LXR0_6_30 ++ (LXR0_8_34 ++ []))))))))) (hF := hr37))) (h := ?_)
 clear hS; intro v38 LY39 w hS hr40
 clear hS2
 obtain ⟨LB41, rfl, rfl, hb42⟩ := hr40
 obtain ⟨vB_0_43, vB_1_47, vB_2_51, vB_4_55, vB_6_59, vB_8_63, LXB_0_44, LXB_1_48, LXB_2_52, LXB_4_56, LXB_6_60, LXB_8_64, rfl, hB_0_45, hB_1_49, hB_2_53, hB_4_57, hB_6_61, hB_8_65⟩ := hb42
 simp only [aa, ac, al] at hS
 refine n_thenN <| c_seq <| c_region <| oy hS y_move ?_
 refine oy hS (y_loadW (fun w hS => hS.own (mH)) underlying27 rfl (by exact sz_api_State)) ?_
 obtain ⟨r67, hr67, hF⟩ := ob hF
 refine o_callS hS func68 rfl rfl (hc := (w_hazard_first (a0 := a0) (a1 := r37) (h0 := h0.plus) (h1 := ⟨_, _, _, _, _, _, rfl, (OwT.plus hB_0_45 hS (fun p hp => mC (mA (hp)))), (OwT.plus hB_1_49 hS (fun p hp => mC (mB (mA (hp))))), (OwT.plus hB_2_53 hS (fun p hp => mC (mB (mB (mA (hp)))))), (OwT.plus hB_4_57 hS (fun p hp => mC (mB (mB (mB (mA (hp))))))), (OwT.plus hB_6_61 hS (fun p hp => mC (mB (mB (mB (mB (mA (hp)))))))), (OwT.plus hB_8_65 hS (fun p hp => mC (mB (mB (mB (mB (mB (mA (hp)))))))))⟩) (hF := hr67))) (h := ?_)
 clear hS; intro w hS
 iterate 2 (refine oy hS y_assign ?_)
 refine n_thenN ?_
 obtain rfl := osi hF
 exact wp_ret (wr2 hS)
theorem w_hazard_Find {g : Frag} {a0 : (List (A4 T_Ins))} {v0_ : Value} {a1 : T_State} {v1_ : Value} {r : (Int × Int)} (h0 : SlT g enc_Bundle 24 a0 v0_) (h1 : Rd_State g a1 v1_) (hF : hazard_Find a0 a1 = some r) : LCs Tryz.prog 34 #[v0_, v1_] g (.tuple #[.int .i64 r.1, .int .i64 r.2]) := w_hazard_Find_ h0 h1 hF

noncomputable def hazard_Cycle (a0 : (List (A4 T_Ins))) (a1 : T_State) : Option (T_State × Int) :=
  (hazard_Run a0 a1 1).bind fun r3 => some (r3.1, r3.2.2)
theorem w_hazard_Cycle_ {g : Frag} {a0 : (List (A4 T_Ins))} {v0_ : Value} {a1 : T_State} {v1_ : Value} {r : (T_State × Int)} (h0 : SlT g enc_Bundle 24 a0 v0_) (h1 : Rd_State g a1 v1_) (hF : hazard_Cycle a0 a1 = some r) : LC Tryz.prog 35 #[v0_, v1_] g [] (fun v L => ∃ (u0 : Value) (M0 : Own), v = .tuple #[u0, .int .i64 r.2] ∧ L = (M0 ++ []) ∧ Ow_State r.1 u0 M0) := by
 obtain ⟨v1_0_, v1_1_, v1_2_, v1_4_, v1_6_, v1_8_, rfl, h1_0_, h1_1_, h1_2_, h1_4_, h1_6_, h1_8_⟩ := h1
 unfold hazard_Cycle at hF
 refine lc_body (k := 18) (av := [v0_, .agg (cl_State v1_0_ v1_1_ v1_2_ a1.Taken v1_4_ a1.PC v1_6_ a1.Stop v1_8_ a1.Jump a1.Delay).toArray]) func35 rfl rfl (h := fun W hS => ?_)
 refine c_seq <| c_region ?_
 refine o_boxP (cl := (cl_State v1_0_ v1_1_ v1_2_ a1.Taken v1_4_ a1.PC v1_6_ a1.Stop v1_8_ a1.Jump a1.Delay)) rfl hS ?_
 clear hS; intro b1 w hS
 refine o_allocP (cl := (cl_State (.slice none 0 0) (.slice none 0 0) (.slice none 0 0) 0 (.slice none 0 0) 0 (.slice none 0 0) 0 (.slice none 0 0) 0 0)) zr_api_State rfl hS ?_
 clear hS; intro b2 w hS
 refine oy hS y_assign <| n_thenN <| c_seq <| c_region <| oy hS y_move ?_
 refine oy hS (y_loadW (fun w hS => hS.own (mC (mH))) underlying27 rfl (by exact sz_api_State)) ?_
 obtain ⟨r3, hr3, hF⟩ := ob hF
 refine o_call0 hS func32 rfl rfl (hc := (w_hazard_Run (a0 := a0) (a1 := a1) (a2 := 1) (h0 := h0.plus) (h1 := ⟨_, _, _, _, _, _, rfl, h1_0_.plus, h1_1_.plus, h1_2_.plus, h1_4_.plus, h1_6_.plus, h1_8_.plus⟩) (hF := hr3))) (h := ?_)
 clear hS; intro v4 LY5 w hS hr6
 obtain ⟨v_0_7, LX_0_8, rfl, rfl, h_0_9⟩ := hr6
 obtain ⟨vR0_0_10, vR0_1_14, vR0_2_18, vR0_4_22, vR0_6_26, vR0_8_30, LXR0_0_11, LXR0_1_15, LXR0_2_19, LXR0_4_23, LXR0_6_27, LXR0_8_31, rfl, rfl, hR0_0_12, hR0_1_16, hR0_2_20, hR0_4_24, hR0_6_28, hR0_8_32⟩ := h_0_9
 simp only [aa, ac, al] at hS
 refine oy hS y_move ?_
 iterate 3 (refine oy hS (y_extract rfl) ?_)
 refine o_allocP (cl := (cl_State (.slice none 0 0) (.slice none 0 0) (.slice none 0 0) 0 (.slice none 0 0) 0 (.slice none 0 0) 0 (.slice none 0 0) 0 0)) zr_api_State rfl hS ?_
 clear hS; intro b34 w hS
 refine o_storeW (vs := (cl_State vR0_0_10 vR0_1_14 vR0_2_18 r3.1.Taken vR0_4_22 r3.1.PC vR0_6_26 r3.1.Stop vR0_8_30 r3.1.Jump r3.1.Delay)) hS (by exact rfl) (Upd.here _) (by exact sz_api_State) (one_State (hR0_0_12).one (hR0_1_16).one (hR0_2_20).one (hR0_4_24).one (hR0_6_28).one (hR0_8_32).one) ?_
 clear hS; intro w hS
 iterate 2 (refine oy hS y_assign ?_)
 refine n_thenN <| c_seq <| c_region ?_
 refine oy hS (y_loadW (fun w hS => hS.own (mH)) underlying27 rfl (by exact sz_api_State)) ?_
 refine oy hS y_move ?_
 have hS := hS.re (.b (.thereb _ (.there _ (.there _ (.there _ (.there _ (.there _ (.there _ .hb))))))) (.b .hb (.t .h (.t .h (.t .h (.t .h (.t .h (.t .h (.b .hb .n)))))))))
 refine o_storeW (vs := (cl_State vR0_0_10 vR0_1_14 vR0_2_18 r3.1.Taken vR0_4_22 r3.1.PC vR0_6_26 r3.1.Stop vR0_8_30 r3.1.Jump r3.1.Delay)) hS (by exact rfl) (Upd.here _) (by exact sz_api_State) (one_State (hR0_0_12).one (hR0_1_16).one (hR0_2_20).one (hR0_4_24).one (hR0_6_28).one (hR0_8_32).one) ?_
 clear hS; intro w hS
 refine oy hS y_assign <| n_thenN ?_
 obtain rfl := osi hF
 refine wp_ret (r_ret (vs := [.agg (cl_State vR0_0_10 vR0_1_14 vR0_2_18 r3.1.Taken vR0_4_22 r3.1.PC vR0_6_26 r3.1.Stop vR0_8_30 r3.1.Jump r3.1.Delay).toArray, .int .i64 r3.2.2]) (hS.re (.t (.thereb _ (.thereb _ .h)) (.t (.thereb _ (.thereb _ .h)) (.t (.thereb _ (.thereb _ .h)) (.t (.thereb _ (.thereb _ .h)) (.t (.thereb _ (.thereb _ .h)) (.t (.thereb _ (.thereb _ .h)) .n))))))) (rsC (res_cell (hS.own (mH)) underlying27 rfl (by exact sz_api_State)) (rsC res_tmp rsN)) rfl ⟨_, _, rfl, (by first | rfl | simp only [aa, ac, al, an]), ⟨_, _, _, _, _, _, _, _, _, _, _, _, rfl, rfl, hR0_0_12, hR0_1_16, hR0_2_20, hR0_4_24, hR0_6_28, hR0_8_32⟩⟩)
theorem w_hazard_Cycle {g : Frag} {a0 : (List (A4 T_Ins))} {v0_ : Value} {a1 : T_State} {v1_ : Value} {r : (T_State × Int)} (h0 : SlT g enc_Bundle 24 a0 v0_) (h1 : Rd_State g a1 v1_) (hF : hazard_Cycle a0 a1 = some r) : LC Tryz.prog 35 #[v0_, v1_] g [] (fun v L => ∃ (u0 : Value) (M0 : Own), v = .tuple #[u0, .int .i64 r.2] ∧ L = (M0 ++ []) ∧ Ow_State r.1 u0 M0) := w_hazard_Cycle_ h0 h1 hF

noncomputable def l7_wakes  : Option Bool :=
  (r5_New ([])).bind fun r4 => (hazard_Find ([(⟨(⟨23, 1, 0, 0, 0, ByteArray.empty⟩ : T_Ins), (⟨23, 1, 0, 0, 0, ByteArray.empty⟩ : T_Ins), (⟨0, 0, 0, 0, 0, ByteArray.empty⟩ : T_Ins), (⟨0, 0, 0, 0, 0, ByteArray.empty⟩ : T_Ins)⟩ : (A4 T_Ins))] : List (A4 T_Ins)) r4).bind fun r35 => (r5_New ([])).bind fun r36 => (hazard_Run ([(⟨(⟨23, 1, 0, 0, 0, ByteArray.empty⟩ : T_Ins), (⟨23, 1, 0, 0, 0, ByteArray.empty⟩ : T_Ins), (⟨0, 0, 0, 0, 0, ByteArray.empty⟩ : T_Ins), (⟨0, 0, 0, 0, 0, ByteArray.empty⟩ : T_Ins)⟩ : (A4 T_Ins))] : List (A4 T_Ins)) r36 5).bind fun r67 => bif decide ((l7_num r35.2) = 0) then bif decide ((l7_num r67.2.2) = 0) then bif decide (r35.1 = 1) then bif decide (r67.2.1 = 1) then some (decide (r67.1.Stop = 6)) else some (false) else some (false) else some (false) else some (false)
theorem w_l7_wakes_ {g : Frag}  {r : Bool}  (hF : l7_wakes = some r) : LCs Tryz.prog 36 #[] g (.bool r) := by
 unfold l7_wakes at hF
 refine lc_body (k := 45) (av := []) func36 rfl rfl (h := fun W hS => ?_)
 refine c_seq <| c_region <| oy hS y_assign <| n_thenN <| c_seq <| c_region ?_
 iterate 2 (refine oy hS (y_build (cl := (enc_Ins ⟨23, 1, 0, 0, 0, ByteArray.empty⟩)) bt_api_Ins rfl (by kernel_rfl)) ?_)
 refine oy hS (y_buildA (cl := (enc_Bundle ⟨(⟨23, 1, 0, 0, 0, ByteArray.empty⟩ : T_Ins), (⟨23, 1, 0, 0, 0, ByteArray.empty⟩ : T_Ins), (⟨0, 0, 0, 0, 0, ByteArray.empty⟩ : T_Ins), (⟨0, 0, 0, 0, 0, ByteArray.empty⟩ : T_Ins)⟩)) bta_api_Bundle rfl (by kernel_rfl)) ?_
 refine o_buildT val_Bundle ([(⟨(⟨23, 1, 0, 0, 0, ByteArray.empty⟩ : T_Ins), (⟨23, 1, 0, 0, 0, ByteArray.empty⟩ : T_Ins), (⟨0, 0, 0, 0, 0, ByteArray.empty⟩ : T_Ins), (⟨0, 0, 0, 0, 0, ByteArray.empty⟩ : T_Ins)⟩ : (A4 T_Ins))] : List (A4 T_Ins)) hS el_api_Bundle (fun _ => rfl) enc_len_Bundle (by decide) rfl (by decide) (hp := rfl) (h := ?_)
 clear hS; intro b1 w hS h2
 have hS : St W g [] ([(b1, blk (([(⟨(⟨23, 1, 0, 0, 0, ByteArray.empty⟩ : T_Ins), (⟨23, 1, 0, 0, 0, ByteArray.empty⟩ : T_Ins), (⟨0, 0, 0, 0, 0, ByteArray.empty⟩ : T_Ins), (⟨0, 0, 0, 0, 0, ByteArray.empty⟩ : T_Ins)⟩ : (A4 T_Ins))] : List (A4 T_Ins)).flatMap enc_Bundle) 34)] ++ []) w := hS
 refine oy hS y_assign <| n_thenN <| c_seq <| c_region <| oy hS y_move ?_
 obtain ⟨r4, hr4, hF⟩ := ob hF
 refine o_call0 hS func43 rfl rfl (hc := (w_r5_New (a0 := ([])) (h0 := (SlR.nil _ _)) (hF := hr4))) (h := ?_)
 clear hS; intro v5 LY6 w hS hr7
 obtain ⟨v_0_8, LX_0_9, rfl, rfl, h_0_10⟩ := hr7
 obtain ⟨vR0_0_11, vR0_1_15, vR0_2_19, vR0_4_23, vR0_6_27, vR0_8_31, LXR0_0_12, LXR0_1_16, LXR0_2_20, LXR0_4_24, LXR0_6_28, LXR0_8_32, rfl, rfl, hR0_0_13, hR0_1_17, hR0_2_21, hR0_4_25, hR0_6_29, hR0_8_33⟩ := h_0_10
 simp only [aa, ac, al] at hS
 obtain ⟨r35, hr35, hF⟩ := ob hF
 refine o_callS hS func34 rfl rfl (hc := (w_hazard_Find (a0 := ([(⟨(⟨23, 1, 0, 0, 0, ByteArray.empty⟩ : T_Ins), (⟨23, 1, 0, 0, 0, ByteArray.empty⟩ : T_Ins), (⟨0, 0, 0, 0, 0, ByteArray.empty⟩ : T_Ins), (⟨0, 0, 0, 0, 0, ByteArray.empty⟩ : T_Ins)⟩ : (A4 T_Ins))] : List (A4 T_Ins))) (a1 := r4) (h0 := (OwT.plus h2 hS (fun p hp => mB (mB (mB (mB (mB (mB (mA (hp)))))))))) (h1 := ⟨_, _, _, _, _, _, rfl, (OwT.plus hR0_0_13 hS (fun p hp => mA (hp))), (OwT.plus hR0_1_17 hS (fun p hp => mB (mA (hp)))), (OwT.plus hR0_2_21 hS (fun p hp => mB (mB (mA (hp))))), (OwT.plus hR0_4_25 hS (fun p hp => mB (mB (mB (mA (hp)))))), (OwT.plus hR0_6_29 hS (fun p hp => mB (mB (mB (mB (mA (hp))))))), (OwT.plus hR0_8_33 hS (fun p hp => mB (mB (mB (mB (mB (mA (hp))))))))⟩) (hF := hr35))) (h := ?_)
 clear hS; intro w hS
 refine oy hS y_move ?_
 iterate 2 (refine oy hS (y_extract rfl) ?_)
 iterate 2 (refine oy hS y_assign ?_)
 refine n_thenN <| c_seq <| c_region <| oy hS y_move ?_
 obtain ⟨r36, hr36, hF⟩ := ob hF
 refine o_call0 hS func43 rfl rfl (hc := (w_r5_New (a0 := ([])) (h0 := (SlR.nil _ _)) (hF := hr36))) (h := ?_)
 clear hS; intro v37 LY38 w hS hr39
 obtain ⟨v_0_40, LX_0_41, rfl, rfl, h_0_42⟩ := hr39
 obtain ⟨vR0_0_43, vR0_1_47, vR0_2_51, vR0_4_55, vR0_6_59, vR0_8_63, LXR0_0_44, LXR0_1_48, LXR0_2_52, LXR0_4_56, LXR0_6_60, LXR0_8_64, rfl, rfl, hR0_0_45, hR0_1_49, hR0_2_53, hR0_4_57, hR0_6_61, hR0_8_65⟩ := h_0_42
 simp only [aa, ac, al] at hS
 obtain ⟨r67, hr67, hF⟩ := ob hF
 refine o_call0 hS func32 rfl rfl (hc := (w_hazard_Run (a0 := ([(⟨(⟨23, 1, 0, 0, 0, ByteArray.empty⟩ : T_Ins), (⟨23, 1, 0, 0, 0, ByteArray.empty⟩ : T_Ins), (⟨0, 0, 0, 0, 0, ByteArray.empty⟩ : T_Ins), (⟨0, 0, 0, 0, 0, ByteArray.empty⟩ : T_Ins)⟩ : (A4 T_Ins))] : List (A4 T_Ins))) (a1 := r36) (a2 := 5) (h0 := (OwT.plus h2 hS (fun p hp => mB (mB (mB (mB (mB (mB (mB (mB (mB (mB (mB (mB (mA (hp)))))))))))))))) (h1 := ⟨_, _, _, _, _, _, rfl, (OwT.plus hR0_0_45 hS (fun p hp => mA (hp))), (OwT.plus hR0_1_49 hS (fun p hp => mB (mA (hp)))), (OwT.plus hR0_2_53 hS (fun p hp => mB (mB (mA (hp))))), (OwT.plus hR0_4_57 hS (fun p hp => mB (mB (mB (mA (hp)))))), (OwT.plus hR0_6_61 hS (fun p hp => mB (mB (mB (mB (mA (hp))))))), (OwT.plus hR0_8_65 hS (fun p hp => mB (mB (mB (mB (mB (mA (hp))))))))⟩) (hF := hr67))) (h := ?_)
 clear hS; intro v68 LY69 w hS hr70
 obtain ⟨v_0_71, LX_0_72, rfl, rfl, h_0_73⟩ := hr70
 obtain ⟨vR0_0_74, vR0_1_78, vR0_2_82, vR0_4_86, vR0_6_90, vR0_8_94, LXR0_0_75, LXR0_1_79, LXR0_2_83, LXR0_4_87, LXR0_6_91, LXR0_8_95, rfl, rfl, hR0_0_76, hR0_1_80, hR0_2_84, hR0_4_88, hR0_6_92, hR0_8_96⟩ := h_0_73
 simp only [aa, ac, al] at hS
 refine oy hS y_move ?_
 iterate 3 (refine oy hS (y_extract rfl) ?_)
 refine o_allocP (cl := (cl_State (.slice none 0 0) (.slice none 0 0) (.slice none 0 0) 0 (.slice none 0 0) 0 (.slice none 0 0) 0 (.slice none 0 0) 0 0)) zr_api_State rfl hS ?_
 clear hS; intro b98 w hS
 refine o_storeW (vs := (cl_State vR0_0_74 vR0_1_78 vR0_2_82 r67.1.Taken vR0_4_86 r67.1.PC vR0_6_90 r67.1.Stop vR0_8_94 r67.1.Jump r67.1.Delay)) hS (by exact rfl) (Upd.here _) (by exact sz_api_State) (one_State (hR0_0_76).one (hR0_1_80).one (hR0_2_84).one (hR0_4_88).one (hR0_6_92).one (hR0_8_96).one) ?_
 clear hS; intro w hS
 iterate 2 (refine oy hS y_assign ?_)
 refine n_thenN <| c_seq <| c_region <| oy hS y_move ?_
 refine o_callS hS func33 rfl rfl (hc := (w_l7_num (a0 := r35.2))) (h := ?_)
 clear hS; intro w hS
 refine oy hS y_bin ?_
 refine o_split (ht := fun c99 => ?_) (hf := fun c99 => ?_)
 · replace hF := bt c99 hF
   refine o_gu rfl rfl rfl <| oy hS y_move <| o_gu rfl rfl rfl ?_
   refine o_callS hS func33 rfl rfl (hc := (w_l7_num (a0 := r67.2.2))) (h := ?_)
   clear hS; intro w hS
   refine o_gu rfl rfl rfl <| oy hS y_bin <| oy hS y_pickT ?_
   refine o_split (ht := fun c100 => ?_) (hf := fun c100 => ?_)
   · replace hF := bt c100 hF
     refine o_gu rfl rfl rfl <| oy hS y_move <| o_gu rfl rfl rfl <| oy hS y_bin <| oy hS y_pickT ?_
     refine o_split (ht := fun c101 => ?_) (hf := fun c101 => ?_)
     · replace hF := bt c101 hF
       refine o_gu rfl rfl rfl <| oy hS y_move <| o_gu rfl rfl rfl <| oy hS y_bin <| oy hS y_pickT ?_
       refine o_split (ht := fun c102 => ?_) (hf := fun c102 => ?_)
       · replace hF := bt c102 hF
         refine o_gu rfl rfl rfl <| oy hS (y_field fa_api_State_7) <| o_gu rfl rfl rfl <| oy hS (y_load (fun w hS => hS.own (mH)) underlying3 rfl rfl) <| o_gu rfl rfl rfl <| oy hS y_bin <| oy hS y_pickT <| oy hS y_assign ?_
         refine n_thenN ?_
         obtain rfl := osi hF
         exact wp_ret (wr1 hS)
       replace hF := bf c102 hF
       iterate 3 (refine o_sk rfl rfl ?_)
       refine oy hS y_pickF <| oy hS y_assign <| n_thenN ?_
       obtain rfl := osi hF
       exact wp_ret (wr1 hS)
     replace hF := bf c101 hF
     iterate 2 (refine o_sk rfl rfl ?_)
     refine oy hS y_pickF <| oy hS y_move ?_
     iterate 3 (refine o_sk rfl rfl ?_)
     refine oy hS y_pickF <| oy hS y_assign <| n_thenN ?_
     obtain rfl := osi hF
     exact wp_ret (wr1 hS)
   replace hF := bf c100 hF
   iterate 2 (refine o_sk rfl rfl ?_)
   refine oy hS y_pickF <| oy hS y_move ?_
   iterate 2 (refine o_sk rfl rfl ?_)
   refine oy hS y_pickF <| oy hS y_move ?_
   iterate 3 (refine o_sk rfl rfl ?_)
   refine oy hS y_pickF <| oy hS y_assign <| n_thenN ?_
   obtain rfl := osi hF
   exact wp_ret (wr1 hS)
 replace hF := bf c99 hF
 iterate 3 (refine o_sk rfl rfl ?_)
 refine oy hS y_pickF <| oy hS y_move ?_
 iterate 2 (refine o_sk rfl rfl ?_)
 refine oy hS y_pickF <| oy hS y_move ?_
 iterate 2 (refine o_sk rfl rfl ?_)
 refine oy hS y_pickF <| oy hS y_move ?_
 iterate 3 (refine o_sk rfl rfl ?_)
 refine oy hS y_pickF <| oy hS y_assign <| n_thenN ?_
 obtain rfl := osi hF
 exact wp_ret (wr1 hS)
theorem w_l7_wakes {g : Frag}  {r : Bool}  (hF : l7_wakes = some r) : LCs Tryz.prog 36 #[] g (.bool r) := w_l7_wakes_  hF
end Go.Proofs.YthbpicnbkdbbmaaGreat
