/- Functions, lifted. Printed by lift.py. -/
import Derived.Test.YtfnmihhcopkkbaaGreatProg
import Derived.Test.YtfnmihhcopkkbaaGreatP1
import Derived.KernelRfl
namespace Go.Proofs.YtfnmihhcopkkbaaGreat
open Go Go.RowKit Fr
set_option linter.unusedVariables false
set_option linter.unusedSimpArgs false
set_option maxRecDepth 20000
open Tryz
set_option maxHeartbeats 2000000
noncomputable def image_Load (a0 : T_Image) (a1 : (List Int)) : Option (T_State × Int) :=
  (link_May a0).bind fun r3 => bif !r3 then some ((⟨[], [], [], 0, [], 0, [], 0, [], 0, 0⟩ : T_State), 1) else (image_loaded a0.Data a0.Entry a1).bind fun r5 => some (r5.1, r5.2)
theorem w_image_Load_ {g : Frag} {a0 : T_Image} {v0_ : Value} {a1 : (List Int)} {v1_ : Value} {r : (T_State × Int)} (h0 : Rd_Image g a0 v0_) (h1 : SlT g enc_uint32 1 a1 v1_) (hF : image_Load a0 a1 = some r) : LC Tryz.prog 16 #[v0_, v1_] g [] (fun v L => ∃ (u0 : Value) (M0 : Own), v = .tuple #[u0, .int .i64 r.2] ∧ L = (M0 ++ []) ∧ Ow_State r.1 u0 M0) := by
 obtain ⟨X0, Y0, rfl, B1, Z0⟩ := h0
 unfold image_Load at hF
 refine lc_body (k := 18) (av := [.agg (cl_Image X0 Y0 a0.Entry).toArray, v1_]) func16 rfl rfl (h := fun W hS => ?_)
 refine c_seq <| c_region ?_
 refine o_boxP (cl := (cl_Image X0 Y0 a0.Entry)) rfl hS ?_
 clear hS; intro b1 w hS
 refine o_allocP (cl := (cl_State (.slice none 0 0) (.slice none 0 0) (.slice none 0 0) 0 (.slice none 0 0) 0 (.slice none 0 0) 0 (.slice none 0 0) 0 0)) zr_api_State rfl hS ?_
 clear hS; intro b2 w hS
 refine oy hS y_assign <| n_thenN ?_
 iterate 2 (refine c_seq ?_)
 refine c_region ?_
 refine oy hS (y_loadW (fun w hS => hS.own (mC (mH))) underlying40 rfl (by exact sz_api_Image)) ?_
 obtain ⟨r3, hr3, hF⟩ := ob hF
 refine o_callS hS func33 rfl rfl (hc := (w_link_May (a0 := a0) (h0 := ⟨_, _, rfl, B1.plus, Z0.plus⟩) (hF := hr3))) (h := ?_)
 clear hS; intro w hS
 refine oy hS y_not <| n_thenN ?_
 refine c_if (ht := fun c4 => ?_) (hf := fun c4 => ?_)
 · replace hF := bt c4 hF
   refine c_seq <| c_region <| oy hS (y_build (cl := (cl_State (.slice none 0 0) (.slice none 0 0) (.slice none 0 0) 0 (.slice none 0 0) 0 (.slice none 0 0) 0 (.slice none 0 0) 0 0)) bt_api_State rfl fillN) ?_
   refine o_storeW (vs := (cl_State (.slice none 0 0) (.slice none 0 0) (.slice none 0 0) 0 (.slice none 0 0) 0 (.slice none 0 0) 0 (.slice none 0 0) 0 0)) hS (by exact rfl) (Upd.here _) (by exact sz_api_State) (one_State rfl rfl rfl rfl rfl rfl) ?_
   clear hS; intro w hS
   refine oy hS y_assign <| n_thenN ?_
   obtain rfl := osi hF
   refine wp_ret (r_ret (vs := [.agg (cl_State (.slice none 0 0) (.slice none 0 0) (.slice none 0 0) 0 (.slice none 0 0) 0 (.slice none 0 0) 0 (.slice none 0 0) 0 0).toArray, .int .i64 1]) (hS.re (.n)) (rsC (res_cell (hS.own (mH)) underlying62 rfl (by exact sz_api_State)) (rsC res_tmp rsN)) rfl ⟨_, _, rfl, (by first | rfl | simp only [aa, ac, al, an]), ⟨_, _, _, _, _, _, _, _, _, _, _, _, rfl, rfl, OwT.nil _ _ _, OwT.nil _ _ _, OwT.nil _ _ _, OwT.nil _ _ _, OwT.nil _ _ _, OwT.nil _ _ _⟩⟩)
 replace hF := bf c4 hF
 refine wp_skip <| c_seq <| c_region <| oy hS (y_field fa_api_Image_1) <| oy hS (y_load (fun w hS => hS.own (mC (mH))) underlying31 rfl rfl) <| oy hS (y_field fa_api_Image_2) <| oy hS (y_load (fun w hS => hS.own (mC (mH))) underlying3 rfl rfl) <| oy hS y_move ?_
 obtain ⟨r5, hr5, hF⟩ := ob hF
 refine o_call0 hS func34 rfl rfl (hc := (w_image_loaded (a0 := a0.Data) (a1 := a0.Entry) (a2 := a1) (h0 := Z0.plus) (h2 := h1.plus) (hF := hr5))) (h := ?_)
 clear hS; intro v6 LY7 w hS hr8
 obtain ⟨v_0_9, LX_0_10, rfl, rfl, h_0_11⟩ := hr8
 obtain ⟨B0, D0, E0, G0, I0, J0, D1, E1, G1, I1, J1, K1, rfl, rfl, K0, N0, R0, T0, U0, V0⟩ := h_0_11
 simp only [aa, ac, al] at hS
 iterate 2 (refine oy hS (y_extract rfl) ?_)
 have hS := hS.re (.b (.d (.d (.d (.d (.d (.d .hb)))))) (.t .h (.t .h (.t .h (.t .h (.t .h (.t .h (.b .hb .n))))))))
 refine o_storeW (vs := (cl_State B0 D0 E0 r5.1.Taken G0 r5.1.PC I0 r5.1.Stop J0 r5.1.Jump r5.1.Delay)) hS (by exact rfl) (Upd.here _) (by exact sz_api_State) (one_State (K0).one (N0).one (R0).one (T0).one (U0).one (V0).one) ?_
 clear hS; intro w hS
 refine oy hS y_assign <| n_thenN ?_
 obtain rfl := osi hF
 refine wp_ret (r_ret (vs := [.agg (cl_State B0 D0 E0 r5.1.Taken G0 r5.1.PC I0 r5.1.Stop J0 r5.1.Jump r5.1.Delay).toArray, .int .i64 r5.2]) (hS.re (.t (.e .h) (.t (.e .h) (.t (.e .h) (.t (.e .h) (.t (.e .h) (.t (.e .h) .n))))))) (rsC (res_cell (hS.own (mH)) underlying62 rfl (by exact sz_api_State)) (rsC res_tmp rsN)) rfl ⟨_, _, rfl, (by first | rfl | simp only [aa, ac, al, an]), ⟨_, _, _, _, _, _, _, _, _, _, _, _, rfl, rfl, K0, N0, R0, T0, U0, V0⟩⟩)
theorem w_image_Load {g : Frag} {a0 : T_Image} {v0_ : Value} {a1 : (List Int)} {v1_ : Value} {r : (T_State × Int)} (h0 : Rd_Image g a0 v0_) (h1 : SlT g enc_uint32 1 a1 v1_) (hF : image_Load a0 a1 = some r) : LC Tryz.prog 16 #[v0_, v1_] g [] (fun v L => ∃ (u0 : Value) (M0 : Own), v = .tuple #[u0, .int .i64 r.2] ∧ L = (M0 ++ []) ∧ Ow_State r.1 u0 M0) := w_image_Load_ h0 h1 hF

noncomputable def seq_Program_1 (a0 : T_Ins) : Option Bool :=
  (isa_IsIns a0).bind fun r2 => bif !r2 then some (true) else some (!(decide (a0.Sym = (ByteArray.mk #[]))))
theorem w_seq_Program_1_ {g : Frag} {a0 : T_Ins} {r : Bool}  (hF : seq_Program_1 a0 = some r) : LCs Tryz.prog 76 #[.agg (enc_Ins a0).toArray] g (.bool r) := by
 unfold seq_Program_1 at hF
 refine lc_body (k := 11) (av := [.agg (enc_Ins a0).toArray]) func76 rfl rfl (h := fun W hS => ?_)
 refine c_seq <| c_region ?_
 refine o_boxP (cl := (enc_Ins a0)) rfl hS ?_
 clear hS; intro b1 w hS
 refine oy hS y_assign <| n_thenN <| c_seq <| c_region ?_
 refine oy hS (y_loadW oH underlying81 rfl (by exact sz_api_Ins)) ?_
 obtain ⟨r2, hr2, hF⟩ := ob hF
 refine o_callS hS func77 rfl rfl (hc := (w_isa_IsIns (a0 := a0) (hF := hr2))) (h := ?_)
 clear hS; intro w hS
 refine oy hS y_not ?_
 refine o_split (ht := fun c3 => ?_) (hf := fun c3 => ?_)
 · replace hF := bt c3 hF
   iterate 3 (refine o_sk rfl rfl ?_)
   refine oy hS y_pickT <| oy hS y_assign <| n_thenN ?_
   obtain rfl := osi hF
   exact wp_ret (wr1 hS)
 replace hF := bf c3 hF
 refine o_gu rfl rfl rfl <| oy hS (y_field fa_api_Ins_5) <| o_gu rfl rfl rfl <| oy hS (y_load oH underlying9 rfl rfl) <| o_gu rfl rfl rfl <| oy hS y_sneq <| oy hS y_pickF <| oy hS y_assign ?_
 refine n_thenN ?_
 obtain rfl := osi hF
 exact wp_ret (wr1 hS)
theorem w_seq_Program_1 {g : Frag} {a0 : T_Ins} {r : Bool}  (hF : seq_Program_1 a0 = some r) : LCs Tryz.prog 76 #[.agg (enc_Ins a0).toArray] g (.bool r) := w_seq_Program_1_  hF

noncomputable def slices_IndexFunc_api_Ins_api_Ins_seq_Program_1_b1 (a0 : (List T_Ins)) : Int → Option (Step Int Int) := fun x16 => bif decide (x16 < (a0.length : Int)) then (at' a0 x16).bind fun x37 => (seq_Program_1 x37).bind fun r49 => bif r49 then some (.done (x16)) else some (.next (IntKind.i64.wrap (x16 + 1))) else some (.done ((-1)))
noncomputable def slices_IndexFunc_api_Ins_api_Ins_seq_Program_1 (a0 : (List T_Ins)) : Option Int :=
  loop (σ := Int) (slices_IndexFunc_api_Ins_api_Ins_seq_Program_1_b1 a0) 0
theorem w_slices_IndexFunc_api_Ins_api_Ins_seq_Program_1_ {g : Frag} {a0 : (List T_Ins)} {v0_ : Value} {r : Int} (h0 : SlT g enc_Ins 6 a0 v0_) (hF : slices_IndexFunc_api_Ins_api_Ins_seq_Program_1 a0 = some r) : LCs Tryz.prog 119 #[v0_, .func (.func 76) #[] #[]] g (.int .i64 r) := by
 unfold slices_IndexFunc_api_Ins_api_Ins_seq_Program_1 at hF
 refine lc_body (k := 19) (av := [v0_, .func (.func 76) #[] #[]]) func119 rfl rfl (h := fun W hS => ?_)
 refine c_seq <| c_region <| oy hS y_assign <| n_thenN ?_
 iterate 2 (refine c_seq ?_)
 refine c_region <| oy hS y_move <| oy hS (y_len h0 underlying53) <| oy hS y_move <| n_thenN <| c_block ?_
 refine c_loopP hF (fun (q : Int) a w' => (∃ s : Nat → Value, a = Ac (((((Fm.dead 19 s).upd 0 v0_).upd 1 (.func (.func 76) #[] #[])).upd 7 (.int .i64 (a0.length : Int))).upd 8 (.int .i64 q))) ∧ St W g [] [] w') ⟨mk_exF, (hS.re (.n))⟩ ?_
 clear hS hF
 intro n34 q a w hI hq
 revert hq hI; revert q; intro x16 hI hq
 obtain ⟨⟨s35, rfl⟩, hS⟩ := hq
 obtain ⟨z32, hF, B0⟩ := iter_step hI
 clear hI
 dsimp only [slices_IndexFunc_api_Ins_api_Ins_seq_Program_1_b1] at hF
 refine c_seq <| c_region <| oy hS y_bin <| n_thenN <| c_seq ?_
 refine c_if (ht := fun c36 => ?_) (hf := fun c36 => ?_)
 · replace hF := bt c36 hF
   refine wp_skip <| c_seq <| c_block <| c_seq <| c_region <| oy hS y_move <| oy hS y_assign <| n_thenN ?_
   refine c_seq <| c_region ?_
   iterate 3 (refine oy hS y_move ?_)
   obtain ⟨x37, D0, hF⟩ := ob hF
   obtain ⟨b38, o39, c40, N0, e42, R0, E0, G0, I0, J0, K0⟩ := SlT.at D0 h0 enc_len_Ins
   refine oy hS (y_index E0 G0 I0 underlying53 el_api_Ins.size) ?_
   refine oy hS (y_loadN (vs := (enc_Ins x37)) (fun w hS => hS.block J0) underlying81 rfl (by exact sz_api_Ins) (fun j u hj => K0 j u hj)) ?_
   obtain ⟨r49, M0, hF⟩ := ob hF
   refine o_callVS2 hS func76 rfl rfl (hc := (w_seq_Program_1 (a0 := x37) (hF := M0))) (h := ?_)
   clear hS; intro w hS
   refine n_thenN ?_
   refine c_if (ht := fun c50 => ?_) (hf := fun c50 => ?_)
   · replace hF := bt c50 hF
     refine c_seq <| c_region <| oy hS y_move <| oy hS y_assign <| n_thenN ?_
     obtain rfl := osi hF
     obtain rfl : _ = r := B0
     exact wp_ret (wr1 hS)
   replace hF := bf c50 hF
   refine wp_skip <| c_region <| oy hS y_bin <| oy hS y_move <| n_thenN ?_
   obtain rfl := osi hF
   exact ⟨_, B0, mk_exF, (hS.re (.n))⟩
 replace hF := bf c36 hF
 refine wp_exit ?_
 refine c_seq <| c_region <| oy hS y_assign <| n_thenN ?_
 obtain rfl := osi hF
 obtain rfl : _ = r := B0
 exact wp_ret (wr1 hS)
theorem w_slices_IndexFunc_api_Ins_api_Ins_seq_Program_1 {g : Frag} {a0 : (List T_Ins)} {v0_ : Value} {r : Int} (h0 : SlT g enc_Ins 6 a0 v0_) (hF : slices_IndexFunc_api_Ins_api_Ins_seq_Program_1 a0 = some r) : LCs Tryz.prog 119 #[v0_, .func (.func 76) #[] #[]] g (.int .i64 r) := w_slices_IndexFunc_api_Ins_api_Ins_seq_Program_1_ h0 hF

noncomputable def slices_ContainsFunc_api_Ins_api_Ins_seq_Program_1 (a0 : (List T_Ins)) : Option Bool :=
  (slices_IndexFunc_api_Ins_api_Ins_seq_Program_1 a0).bind fun r1 => some (decide (0 ≤ r1))
theorem w_slices_ContainsFunc_api_Ins_api_Ins_seq_Program_1_ {g : Frag} {a0 : (List T_Ins)} {v0_ : Value} {r : Bool} (h0 : SlT g enc_Ins 6 a0 v0_) (hF : slices_ContainsFunc_api_Ins_api_Ins_seq_Program_1 a0 = some r) : LCs Tryz.prog 78 #[v0_, .func (.func 76) #[] #[]] g (.bool r) := by
 unfold slices_ContainsFunc_api_Ins_api_Ins_seq_Program_1 at hF
 refine lc_body (k := 9) (av := [v0_, .func (.func 76) #[] #[]]) func78 rfl rfl (h := fun W hS => ?_)
 refine c_seq <| c_region <| oy hS y_assign <| n_thenN <| c_seq <| c_region ?_
 iterate 2 (refine oy hS y_move ?_)
 obtain ⟨r1, hr1, hF⟩ := ob hF
 refine o_callS hS func119 rfl rfl (hc := (w_slices_IndexFunc_api_Ins_api_Ins_seq_Program_1 (a0 := a0) (h0 := h0.plus) (hF := hr1))) (h := ?_)
 clear hS; intro w hS
 refine oy hS y_bin <| oy hS y_assign <| n_thenN ?_
 obtain rfl := osi hF
 exact wp_ret (wr1 hS)
theorem w_slices_ContainsFunc_api_Ins_api_Ins_seq_Program_1 {g : Frag} {a0 : (List T_Ins)} {v0_ : Value} {r : Bool} (h0 : SlT g enc_Ins 6 a0 v0_) (hF : slices_ContainsFunc_api_Ins_api_Ins_seq_Program_1 a0 = some r) : LCs Tryz.prog 78 #[v0_, .func (.func 76) #[] #[]] g (.bool r) := w_slices_ContainsFunc_api_Ins_api_Ins_seq_Program_1_ h0 hF

noncomputable def seq_Program (a0 : (List T_Ins)) : Option Bool :=
  bif decide ((a0.length : Int) ≤ 1024) then (slices_ContainsFunc_api_Ins_api_Ins_seq_Program_1 a0).bind fun r2 => some (!r2) else some (false)
theorem w_seq_Program_ {g : Frag} {a0 : (List T_Ins)} {v0_ : Value} {r : Bool} (h0 : SlT g enc_Ins 6 a0 v0_) (hF : seq_Program a0 = some r) : LCs Tryz.prog 44 #[v0_] g (.bool r) := by
 unfold seq_Program at hF
 refine lc_body (k := 13) (av := [v0_]) func44 rfl rfl (h := fun W hS => ?_)
 refine c_seq <| c_region <| oy hS y_assign <| n_thenN <| c_seq <| c_region <| oy hS y_assign <| n_thenN ?_
 refine c_seq <| c_region <| oy hS y_move <| oy hS (y_len h0 underlying53) <| oy hS y_bin ?_
 refine o_split (ht := fun c1 => ?_) (hf := fun c1 => ?_)
 · replace hF := bt c1 hF
   refine o_gu rfl rfl rfl <| oy hS y_move <| o_gu rfl rfl rfl <| oy hS y_move <| o_gu rfl rfl rfl ?_
   obtain ⟨r2, hr2, hF⟩ := ob hF
   refine o_callS hS func78 rfl rfl (hc := (w_slices_ContainsFunc_api_Ins_api_Ins_seq_Program_1 (a0 := a0) (h0 := h0.plus) (hF := hr2))) (h := ?_)
   clear hS; intro w hS
   refine o_gu rfl rfl rfl <| oy hS y_not <| oy hS y_pickT <| oy hS y_assign <| n_thenN ?_
   obtain rfl := osi hF
   exact wp_ret (wr1 hS)
 replace hF := bf c1 hF
 iterate 4 (refine o_sk rfl rfl ?_)
 refine oy hS y_pickF <| oy hS y_assign <| n_thenN ?_
 obtain rfl := osi hF
 exact wp_ret (wr1 hS)
theorem w_seq_Program {g : Frag} {a0 : (List T_Ins)} {v0_ : Value} {r : Bool} (h0 : SlT g enc_Ins 6 a0 v0_) (hF : seq_Program a0 = some r) : LCs Tryz.prog 44 #[v0_] g (.bool r) := w_seq_Program_ h0 hF

noncomputable def image_May (a0 : T_Flat) : Option Bool :=
  (seq_Program a0.Code).bind fun r2 => bif r2 then bif decide ((a0.Data.length : Int) ≤ 256) then bif decide (0 ≤ a0.Entry) then some (decide (a0.Entry ≤ (a0.Code.length : Int))) else some (false) else some (false) else some (false)
theorem w_image_May_ {g : Frag} {a0 : T_Flat} {v0_ : Value} {r : Bool} (h0 : Rd_Flat g a0 v0_) (hF : image_May a0 = some r) : LCs Tryz.prog 43 #[v0_] g (.bool r) := by
 obtain ⟨B0, D0, rfl, E0, G0⟩ := h0
 unfold image_May at hF
 refine lc_body (k := 25) (av := [.agg (cl_Flat B0 D0 a0.Entry).toArray]) func43 rfl rfl (h := fun W hS => ?_)
 refine c_seq <| c_region ?_
 refine o_boxP (cl := (cl_Flat B0 D0 a0.Entry)) rfl hS ?_
 clear hS; intro b1 w hS
 refine oy hS y_assign <| n_thenN <| c_seq <| c_region <| oy hS (y_field fa_api_Flat_0) <| oy hS (y_load oH underlying53 rfl rfl) ?_
 obtain ⟨r2, hr2, hF⟩ := ob hF
 refine o_callS hS func44 rfl rfl (hc := (w_seq_Program (a0 := a0.Code) (h0 := E0.plus) (hF := hr2))) (h := ?_)
 clear hS; intro w hS
 refine o_split (ht := fun c3 => ?_) (hf := fun c3 => ?_)
 · replace hF := bt c3 hF
   refine o_gu rfl rfl rfl <| oy hS (y_field fa_api_Flat_1) <| o_gu rfl rfl rfl <| oy hS (y_load oH underlying31 rfl rfl) <| o_gu rfl rfl rfl <| oy hS (y_len G0 underlying31) <| o_gu rfl rfl rfl <| oy hS y_bin ?_
   refine oy hS y_pickT ?_
   refine o_split (ht := fun c4 => ?_) (hf := fun c4 => ?_)
   · replace hF := bt c4 hF
     refine o_gu rfl rfl rfl <| oy hS (y_field fa_api_Flat_2) <| o_gu rfl rfl rfl <| oy hS (y_load oH underlying3 rfl rfl) <| o_gu rfl rfl rfl <| oy hS y_bin <| oy hS y_pickT ?_
     refine o_split (ht := fun c5 => ?_) (hf := fun c5 => ?_)
     · replace hF := bt c5 hF
       refine o_gu rfl rfl rfl <| oy hS (y_field fa_api_Flat_2) <| o_gu rfl rfl rfl <| oy hS (y_load oH underlying3 rfl rfl) <| o_gu rfl rfl rfl <| oy hS (y_field fa_api_Flat_0) <| o_gu rfl rfl rfl <| oy hS (y_load oH underlying53 rfl rfl) ?_
       refine o_gu rfl rfl rfl <| oy hS (y_len E0 underlying53) <| o_gu rfl rfl rfl <| oy hS y_bin <| oy hS y_pickT <| oy hS y_assign <| n_thenN ?_
       obtain rfl := osi hF
       exact wp_ret (wr1 hS)
     replace hF := bf c5 hF
     iterate 6 (refine o_sk rfl rfl ?_)
     refine oy hS y_pickF <| oy hS y_assign <| n_thenN ?_
     obtain rfl := osi hF
     exact wp_ret (wr1 hS)
   replace hF := bf c4 hF
   iterate 3 (refine o_sk rfl rfl ?_)
   refine oy hS y_pickF <| oy hS y_move ?_
   iterate 6 (refine o_sk rfl rfl ?_)
   refine oy hS y_pickF <| oy hS y_assign <| n_thenN ?_
   obtain rfl := osi hF
   exact wp_ret (wr1 hS)
 replace hF := bf c3 hF
 iterate 4 (refine o_sk rfl rfl ?_)
 refine oy hS y_pickF <| oy hS y_move ?_
 iterate 3 (refine o_sk rfl rfl ?_)
 refine oy hS y_pickF <| oy hS y_move ?_
 iterate 6 (refine o_sk rfl rfl ?_)
 refine oy hS y_pickF <| oy hS y_assign <| n_thenN ?_
 obtain rfl := osi hF
 exact wp_ret (wr1 hS)
theorem w_image_May {g : Frag} {a0 : T_Flat} {v0_ : Value} {r : Bool} (h0 : Rd_Flat g a0 v0_) (hF : image_May a0 = some r) : LCs Tryz.prog 43 #[v0_] g (.bool r) := w_image_May_ h0 hF

noncomputable def image_Flat (a0 : T_Flat) (a1 : (List Int)) : Option (T_State × Int) :=
  (image_May a0).bind fun r3 => bif !r3 then some ((⟨[], [], [], 0, [], 0, [], 0, [], 0, 0⟩ : T_State), 1) else (image_loaded a0.Data a0.Entry a1).bind fun r5 => some (r5.1, r5.2)
theorem w_image_Flat_ {g : Frag} {a0 : T_Flat} {v0_ : Value} {a1 : (List Int)} {v1_ : Value} {r : (T_State × Int)} (h0 : Rd_Flat g a0 v0_) (h1 : SlT g enc_uint32 1 a1 v1_) (hF : image_Flat a0 a1 = some r) : LC Tryz.prog 22 #[v0_, v1_] g [] (fun v L => ∃ (u0 : Value) (M0 : Own), v = .tuple #[u0, .int .i64 r.2] ∧ L = (M0 ++ []) ∧ Ow_State r.1 u0 M0) := by
 obtain ⟨X0, Y0, rfl, B1, Z0⟩ := h0
 unfold image_Flat at hF
 refine lc_body (k := 18) (av := [.agg (cl_Flat X0 Y0 a0.Entry).toArray, v1_]) func22 rfl rfl (h := fun W hS => ?_)
 refine c_seq <| c_region ?_
 refine o_boxP (cl := (cl_Flat X0 Y0 a0.Entry)) rfl hS ?_
 clear hS; intro b1 w hS
 refine o_allocP (cl := (cl_State (.slice none 0 0) (.slice none 0 0) (.slice none 0 0) 0 (.slice none 0 0) 0 (.slice none 0 0) 0 (.slice none 0 0) 0 0)) zr_api_State rfl hS ?_
 clear hS; intro b2 w hS
 refine oy hS y_assign <| n_thenN ?_
 iterate 2 (refine c_seq ?_)
 refine c_region ?_
 refine oy hS (y_loadW (fun w hS => hS.own (mC (mH))) underlying55 rfl (by exact sz_api_Flat)) ?_
 obtain ⟨r3, hr3, hF⟩ := ob hF
 refine o_callS hS func43 rfl rfl (hc := (w_image_May (a0 := a0) (h0 := ⟨_, _, rfl, B1.plus, Z0.plus⟩) (hF := hr3))) (h := ?_)
 clear hS; intro w hS
 refine oy hS y_not <| n_thenN ?_
 refine c_if (ht := fun c4 => ?_) (hf := fun c4 => ?_)
 · replace hF := bt c4 hF
   refine c_seq <| c_region <| oy hS (y_build (cl := (cl_State (.slice none 0 0) (.slice none 0 0) (.slice none 0 0) 0 (.slice none 0 0) 0 (.slice none 0 0) 0 (.slice none 0 0) 0 0)) bt_api_State rfl fillN) ?_
   refine o_storeW (vs := (cl_State (.slice none 0 0) (.slice none 0 0) (.slice none 0 0) 0 (.slice none 0 0) 0 (.slice none 0 0) 0 (.slice none 0 0) 0 0)) hS (by exact rfl) (Upd.here _) (by exact sz_api_State) (one_State rfl rfl rfl rfl rfl rfl) ?_
   clear hS; intro w hS
   refine oy hS y_assign <| n_thenN ?_
   obtain rfl := osi hF
   refine wp_ret (r_ret (vs := [.agg (cl_State (.slice none 0 0) (.slice none 0 0) (.slice none 0 0) 0 (.slice none 0 0) 0 (.slice none 0 0) 0 (.slice none 0 0) 0 0).toArray, .int .i64 1]) (hS.re (.n)) (rsC (res_cell (hS.own (mH)) underlying62 rfl (by exact sz_api_State)) (rsC res_tmp rsN)) rfl ⟨_, _, rfl, (by first | rfl | simp only [aa, ac, al, an]), ⟨_, _, _, _, _, _, _, _, _, _, _, _, rfl, rfl, OwT.nil _ _ _, OwT.nil _ _ _, OwT.nil _ _ _, OwT.nil _ _ _, OwT.nil _ _ _, OwT.nil _ _ _⟩⟩)
 replace hF := bf c4 hF
 refine wp_skip <| c_seq <| c_region <| oy hS (y_field fa_api_Flat_1) <| oy hS (y_load (fun w hS => hS.own (mC (mH))) underlying31 rfl rfl) <| oy hS (y_field fa_api_Flat_2) <| oy hS (y_load (fun w hS => hS.own (mC (mH))) underlying3 rfl rfl) <| oy hS y_move ?_
 obtain ⟨r5, hr5, hF⟩ := ob hF
 refine o_call0 hS func34 rfl rfl (hc := (w_image_loaded (a0 := a0.Data) (a1 := a0.Entry) (a2 := a1) (h0 := Z0.plus) (h2 := h1.plus) (hF := hr5))) (h := ?_)
 clear hS; intro v6 LY7 w hS hr8
 obtain ⟨v_0_9, LX_0_10, rfl, rfl, h_0_11⟩ := hr8
 obtain ⟨B0, D0, E0, G0, I0, J0, D1, E1, G1, I1, J1, K1, rfl, rfl, K0, N0, R0, T0, U0, V0⟩ := h_0_11
 simp only [aa, ac, al] at hS
 iterate 2 (refine oy hS (y_extract rfl) ?_)
 have hS := hS.re (.b (.d (.d (.d (.d (.d (.d .hb)))))) (.t .h (.t .h (.t .h (.t .h (.t .h (.t .h (.b .hb .n))))))))
 refine o_storeW (vs := (cl_State B0 D0 E0 r5.1.Taken G0 r5.1.PC I0 r5.1.Stop J0 r5.1.Jump r5.1.Delay)) hS (by exact rfl) (Upd.here _) (by exact sz_api_State) (one_State (K0).one (N0).one (R0).one (T0).one (U0).one (V0).one) ?_
 clear hS; intro w hS
 refine oy hS y_assign <| n_thenN ?_
 obtain rfl := osi hF
 refine wp_ret (r_ret (vs := [.agg (cl_State B0 D0 E0 r5.1.Taken G0 r5.1.PC I0 r5.1.Stop J0 r5.1.Jump r5.1.Delay).toArray, .int .i64 r5.2]) (hS.re (.t (.e .h) (.t (.e .h) (.t (.e .h) (.t (.e .h) (.t (.e .h) (.t (.e .h) .n))))))) (rsC (res_cell (hS.own (mH)) underlying62 rfl (by exact sz_api_State)) (rsC res_tmp rsN)) rfl ⟨_, _, rfl, (by first | rfl | simp only [aa, ac, al, an]), ⟨_, _, _, _, _, _, _, _, _, _, _, _, rfl, rfl, K0, N0, R0, T0, U0, V0⟩⟩)
theorem w_image_Flat {g : Frag} {a0 : T_Flat} {v0_ : Value} {a1 : (List Int)} {v1_ : Value} {r : (T_State × Int)} (h0 : Rd_Flat g a0 v0_) (h1 : SlT g enc_uint32 1 a1 v1_) (hF : image_Flat a0 a1 = some r) : LC Tryz.prog 22 #[v0_, v1_] g [] (fun v L => ∃ (u0 : Value) (M0 : Own), v = .tuple #[u0, .int .i64 r.2] ∧ L = (M0 ++ []) ∧ Ow_State r.1 u0 M0) := w_image_Flat_ h0 h1 hF

def seq_upto_1 (a0 : Int) (a1 : Int) : Bool :=
  bif decide (a0 < 0) then true else decide (a1 < a0)
theorem w_seq_upto_1_ {g : Frag} {a0 : Int} {a1 : Int} {c1_ : Nat} {r : Bool} (h1 : g c1_ = some (blk [.int .i64 a1] 3)) (hF : seq_upto_1 a0 a1 = r) : LCs Tryz.prog 81 #[.int .i64 a0, .pointer (some ⟨c1_, 0, none⟩)] g (.bool r) := by
 unfold seq_upto_1 at hF
 refine lc_body (k := 11) (av := [.int .i64 a0, .pointer (some ⟨c1_, 0, none⟩)]) func81 rfl rfl (h := fun W hS => ?_)
 refine c_seq <| c_region <| oy hS y_assign <| n_thenN <| c_seq <| c_region <| oy hS y_move <| oy hS y_bin ?_
 refine o_split (ht := fun c1 => ?_) (hf := fun c1 => ?_)
 · replace hF := bt c1 hF
   iterate 3 (refine o_sk rfl rfl ?_)
   refine oy hS y_pickT <| oy hS y_assign <| n_thenN ?_
   subst hF
   exact wp_ret (wr1 hS)
 replace hF := bf c1 hF
 refine o_gu rfl rfl rfl <| oy hS y_move <| o_gu rfl rfl rfl <| oy hS (y_load (fun w hS => hS.block h1) underlying3 rfl rfl) <| o_gu rfl rfl rfl <| oy hS y_bin <| oy hS y_pickF <| oy hS y_assign ?_
 refine n_thenN ?_
 subst hF
 exact wp_ret (wr1 hS)
theorem w_seq_upto_1 {g : Frag} {a0 : Int} {a1 : Int} {c1_ : Nat} (h1 : g c1_ = some (blk [.int .i64 a1] 3)) : LCs Tryz.prog 81 #[.int .i64 a0, .pointer (some ⟨c1_, 0, none⟩)] g (.bool (seq_upto_1 a0 a1)) := w_seq_upto_1_ h1 rfl

noncomputable def slices_IndexFunc_int_int_seq_upto_1_b1 (a0 : (List Int)) (B0 : Int) : Int → Option (Step Int Int) := fun x15 => bif decide (x15 < (a0.length : Int)) then (at' a0 x15).bind fun x35 => bif (seq_upto_1 x35 B0) then some (.done (x15)) else some (.next (IntKind.i64.wrap (x15 + 1))) else some (.done ((-1)))
noncomputable def slices_IndexFunc_int_int_seq_upto_1 (a0 : (List Int)) (B0 : Int) : Option Int :=
  loop (σ := Int) (slices_IndexFunc_int_int_seq_upto_1_b1 a0 B0) 0
theorem w_slices_IndexFunc_int_int_seq_upto_1_ {g : Frag} {a0 : (List Int)} {v0_ : Value} {a1_0 : Int} {c1_0 : Nat} {r : Int} (h0 : SlT g enc_int 1 a0 v0_) (h1_0 : g c1_0 = some (blk [.int .i64 a1_0] 3)) (hF : slices_IndexFunc_int_int_seq_upto_1 a0 a1_0 = some r) : LCs Tryz.prog 120 #[v0_, .func (.func 81) #[] #[.pointer (some ⟨c1_0, 0, none⟩)]] g (.int .i64 r) := by
 unfold slices_IndexFunc_int_int_seq_upto_1 at hF
 refine lc_body (k := 19) (av := [v0_, .func (.func 81) #[] #[.pointer (some ⟨c1_0, 0, none⟩)]]) func120 rfl rfl (h := fun W hS => ?_)
 refine c_seq <| c_region <| oy hS y_assign <| n_thenN ?_
 iterate 2 (refine c_seq ?_)
 refine c_region <| oy hS y_move <| oy hS (y_len h0 underlying37) <| oy hS y_move <| n_thenN <| c_block ?_
 refine c_loopP hF (fun (q : Int) a w' => (∃ s : Nat → Value, a = Ac (((((Fm.dead 19 s).upd 0 v0_).upd 1 (.func (.func 81) #[] #[.pointer (some ⟨c1_0, 0, none⟩)])).upd 7 (.int .i64 (a0.length : Int))).upd 8 (.int .i64 q))) ∧ St W g [] [] w') ⟨mk_exF, (hS.re (.n))⟩ ?_
 clear hS hF
 intro n32 q a w hI hq
 revert hq hI; revert q; intro x15 hI hq
 obtain ⟨⟨s33, rfl⟩, hS⟩ := hq
 obtain ⟨z30, hF, B0⟩ := iter_step hI
 clear hI
 dsimp only [slices_IndexFunc_int_int_seq_upto_1_b1] at hF
 refine c_seq <| c_region <| oy hS y_bin <| n_thenN <| c_seq ?_
 refine c_if (ht := fun c34 => ?_) (hf := fun c34 => ?_)
 · replace hF := bt c34 hF
   refine wp_skip <| c_seq <| c_block <| c_seq <| c_region <| oy hS y_move <| oy hS y_assign <| n_thenN ?_
   refine c_seq <| c_region ?_
   iterate 3 (refine oy hS y_move ?_)
   obtain ⟨x35, D0, hF⟩ := ob hF
   obtain ⟨b36, o37, c38, M0, e40, N0, E0, G0, I0, J0, K0⟩ := SlT.at D0 h0 enc_len_int
   refine oy hS (y_index E0 G0 I0 underlying37 el_int.size) <| oy hS (y_load (fun w hS => hS.block J0) underlying3 rfl (K0 0 _ rfl)) ?_
   refine o_callVS2 hS func81 rfl rfl (hc := (w_seq_upto_1 (a0 := x35) (a1 := a1_0) (h1 := (Frag.le_plus _ _ _ _ h1_0)))) (h := ?_)
   clear hS; intro w hS
   refine n_thenN ?_
   refine c_if (ht := fun c47 => ?_) (hf := fun c47 => ?_)
   · replace hF := bt c47 hF
     refine c_seq <| c_region <| oy hS y_move <| oy hS y_assign <| n_thenN ?_
     obtain rfl := osi hF
     obtain rfl : _ = r := B0
     exact wp_ret (wr1 hS)
   replace hF := bf c47 hF
   refine wp_skip <| c_region <| oy hS y_bin <| oy hS y_move <| n_thenN ?_
   obtain rfl := osi hF
   exact ⟨_, B0, mk_exF, (hS.re (.n))⟩
 replace hF := bf c34 hF
 refine wp_exit ?_
 refine c_seq <| c_region <| oy hS y_assign <| n_thenN ?_
 obtain rfl := osi hF
 obtain rfl : _ = r := B0
 exact wp_ret (wr1 hS)
theorem w_slices_IndexFunc_int_int_seq_upto_1 {g : Frag} {a0 : (List Int)} {v0_ : Value} {a1_0 : Int} {c1_0 : Nat} {r : Int} (h0 : SlT g enc_int 1 a0 v0_) (h1_0 : g c1_0 = some (blk [.int .i64 a1_0] 3)) (hF : slices_IndexFunc_int_int_seq_upto_1 a0 a1_0 = some r) : LCs Tryz.prog 120 #[v0_, .func (.func 81) #[] #[.pointer (some ⟨c1_0, 0, none⟩)]] g (.int .i64 r) := w_slices_IndexFunc_int_int_seq_upto_1_ h0 h1_0 hF

noncomputable def slices_ContainsFunc_int_int_seq_upto_1 (a0 : (List Int)) (B0 : Int) : Option Bool :=
  (slices_IndexFunc_int_int_seq_upto_1 a0 B0).bind fun r1 => some (decide (0 ≤ r1))
theorem w_slices_ContainsFunc_int_int_seq_upto_1_ {g : Frag} {a0 : (List Int)} {v0_ : Value} {a1_0 : Int} {c1_0 : Nat} {r : Bool} (h0 : SlT g enc_int 1 a0 v0_) (h1_0 : g c1_0 = some (blk [.int .i64 a1_0] 3)) (hF : slices_ContainsFunc_int_int_seq_upto_1 a0 a1_0 = some r) : LCs Tryz.prog 80 #[v0_, .func (.func 81) #[] #[.pointer (some ⟨c1_0, 0, none⟩)]] g (.bool r) := by
 unfold slices_ContainsFunc_int_int_seq_upto_1 at hF
 refine lc_body (k := 9) (av := [v0_, .func (.func 81) #[] #[.pointer (some ⟨c1_0, 0, none⟩)]]) func80 rfl rfl (h := fun W hS => ?_)
 refine c_seq <| c_region <| oy hS y_assign <| n_thenN <| c_seq <| c_region ?_
 iterate 2 (refine oy hS y_move ?_)
 obtain ⟨r1, hr1, hF⟩ := ob hF
 refine o_callS hS func120 rfl rfl (hc := (w_slices_IndexFunc_int_int_seq_upto_1 (a0 := a0) (a1_0 := a1_0) (h0 := h0.plus) (h1_0 := (Frag.le_plus _ _ _ _ h1_0)) (hF := hr1))) (h := ?_)
 clear hS; intro w hS
 refine oy hS y_bin <| oy hS y_assign <| n_thenN ?_
 obtain rfl := osi hF
 exact wp_ret (wr1 hS)
theorem w_slices_ContainsFunc_int_int_seq_upto_1 {g : Frag} {a0 : (List Int)} {v0_ : Value} {a1_0 : Int} {c1_0 : Nat} {r : Bool} (h0 : SlT g enc_int 1 a0 v0_) (h1_0 : g c1_0 = some (blk [.int .i64 a1_0] 3)) (hF : slices_ContainsFunc_int_int_seq_upto_1 a0 a1_0 = some r) : LCs Tryz.prog 80 #[v0_, .func (.func 81) #[] #[.pointer (some ⟨c1_0, 0, none⟩)]] g (.bool r) := w_slices_ContainsFunc_int_int_seq_upto_1_ h0 h1_0 hF

noncomputable def seq_upto (a0 : Int) (a1 : (List Int)) : Option Bool :=
  (slices_ContainsFunc_int_int_seq_upto_1 a1 a0).bind fun r2 => some (!r2)
theorem w_seq_upto_ {g : Frag} {a0 : Int} {a1 : (List Int)} {v1_ : Value} {r : Bool} (h1 : SlT g enc_int 1 a1 v1_) (hF : seq_upto a0 a1 = some r) : LCs Tryz.prog 46 #[.int .i64 a0, v1_] g (.bool r) := by
 unfold seq_upto at hF
 refine lc_body (k := 9) (av := [.int .i64 a0, v1_]) func46 rfl rfl (h := fun W hS => ?_)
 refine c_seq <| c_region ?_
 refine o_boxP (cl := [.int .i64 a0]) rfl hS ?_
 clear hS; intro b1 w hS
 refine oy hS y_assign <| n_thenN <| c_seq <| c_region <| oy hS y_move ?_
 refine oy hS (y_makeFunc av0 (av1 (by (conv => lhs; whnf) <;> exact rfl))) ?_
 obtain ⟨r2, hr2, hF⟩ := ob hF
 refine o_callS hS func80 rfl rfl (hc := (w_slices_ContainsFunc_int_int_seq_upto_1 (a0 := a1) (a1_0 := a0) (h0 := h1.plus) (h1_0 := (St.plus hS (mH))) (hF := hr2))) (h := ?_)
 clear hS; intro w hS
 refine oy hS y_not <| oy hS y_assign <| n_thenN ?_
 obtain rfl := osi hF
 exact wp_ret (wr1 hS)
theorem w_seq_upto {g : Frag} {a0 : Int} {a1 : (List Int)} {v1_ : Value} {r : Bool} (h1 : SlT g enc_int 1 a1 v1_) (hF : seq_upto a0 a1 = some r) : LCs Tryz.prog 46 #[.int .i64 a0, v1_] g (.bool r) := w_seq_upto_ h1 hF

noncomputable def seq_Core_k1 (a0 : T_State) : Unit → Option Bool := fun _ => (seq_upto (a0.In_.length : Int) ([a0.Taken] : List Int)).bind fun r16 => bif r16 then (seq_upto 1024 ([a0.PC] : List Int)).bind fun r21 => bif r21 then (seq_upto 1024 a0.Stack).bind fun r23 => some (r23) else some (false) else some (false)
noncomputable def seq_Core (a0 : T_State) : Option Bool :=
  cut (σ := Unit) (bif decide ((a0.Regs.length : Int) ≠ 16) then some (.done (false)) else bif decide ((a0.Mem.length : Int) ≠ 256) then some (.done (false)) else bif decide (100 < (a0.In_.length : Int)) then some (.done (false)) else bif decide (16 < (a0.Stack.length : Int)) then some (.done (false)) else some (.next ())) (seq_Core_k1 a0)
theorem w_seq_Core_ {g : Frag} {a0 : T_State} {v0_ : Value} {r : Bool} (h0 : Rd_State g a0 v0_) (hF : seq_Core a0 = some r) : LCs Tryz.prog 79 #[v0_] g (.bool r) := by
 obtain ⟨B0, D0, E0, G0, I0, J0, rfl, N0, R0, K0, X0, M0, Y0⟩ := h0
 unfold seq_Core at hF
 refine lc_body (k := 43) (av := [.agg (cl_State B0 D0 E0 a0.Taken G0 a0.PC I0 a0.Stop J0 a0.Jump a0.Delay).toArray]) func79 rfl rfl (h := fun W hS => ?_)
 refine c_seq <| c_region ?_
 refine o_boxP (cl := (cl_State B0 D0 E0 a0.Taken G0 a0.PC I0 a0.Stop J0 a0.Jump a0.Delay)) rfl hS ?_
 clear hS; intro b1 w hS
 refine oy hS y_assign <| n_thenN ?_
 obtain ⟨z6, hF, hK7⟩ := cut_step hF
 refine c_cutP (fun a w' => seq_Core_k1 a0 () = some r ∧ (∃ s : Nat → Value, a = Ac ((Fm.dead 43 s).upd 1 (.pointer (some ⟨b1, 0, none⟩)))) ∧ St W g [] ((b1, blk (cl_State B0 D0 E0 a0.Taken G0 a0.PC I0 a0.Stop J0 a0.Jump a0.Delay) 62) :: []) w') ?_ ?_
 · skip
   refine c_seq <| c_region <| oy hS (y_field fa_api_State_0) <| oy hS (y_load oH underlying31 rfl rfl) <| oy hS (y_len N0 underlying31) <| oy hS y_bin ?_
   refine o_split (ht := fun c8 => ?_) (hf := fun c8 => ?_)
   · replace hF := bt c8 hF
     iterate 4 (refine o_sk rfl rfl ?_)
     refine oy hS y_pickT <| oy hS y_move ?_
     iterate 4 (refine o_sk rfl rfl ?_)
     refine oy hS y_pickT <| oy hS y_move ?_
     iterate 4 (refine o_sk rfl rfl ?_)
     refine oy hS y_pickT <| n_thenN ?_
     refine c_if_true (h := ?_)
     refine c_seq <| c_region <| oy hS y_assign <| n_thenN ?_
     obtain rfl := osi hF
     obtain rfl : _ = r := hK7
     exact wp_ret (wr1 hS)
   replace hF := bf c8 hF
   refine o_gu rfl rfl rfl <| oy hS (y_field fa_api_State_1) <| o_gu rfl rfl rfl <| oy hS (y_load oH underlying31 rfl rfl) <| o_gu rfl rfl rfl <| oy hS (y_len R0 underlying31) <| o_gu rfl rfl rfl <| oy hS y_bin ?_
   refine oy hS y_pickF ?_
   refine o_split (ht := fun c9 => ?_) (hf := fun c9 => ?_)
   · replace hF := bt c9 hF
     iterate 4 (refine o_sk rfl rfl ?_)
     refine oy hS y_pickT <| oy hS y_move ?_
     iterate 4 (refine o_sk rfl rfl ?_)
     refine oy hS y_pickT <| n_thenN ?_
     refine c_if_true (h := ?_)
     refine c_seq <| c_region <| oy hS y_assign <| n_thenN ?_
     obtain rfl := osi hF
     obtain rfl : _ = r := hK7
     exact wp_ret (wr1 hS)
   replace hF := bf c9 hF
   refine o_gu rfl rfl rfl <| oy hS (y_field fa_api_State_2) <| o_gu rfl rfl rfl <| oy hS (y_load oH underlying31 rfl rfl) <| o_gu rfl rfl rfl <| oy hS (y_len K0 underlying31) <| o_gu rfl rfl rfl <| oy hS y_bin ?_
   refine oy hS y_pickF ?_
   refine o_split (ht := fun c10 => ?_) (hf := fun c10 => ?_)
   · replace hF := bt c10 hF
     iterate 4 (refine o_sk rfl rfl ?_)
     refine oy hS y_pickT <| n_thenN ?_
     refine c_if_true (h := ?_)
     refine c_seq <| c_region <| oy hS y_assign <| n_thenN ?_
     obtain rfl := osi hF
     obtain rfl : _ = r := hK7
     exact wp_ret (wr1 hS)
   replace hF := bf c10 hF
   refine o_gu rfl rfl rfl <| oy hS (y_field fa_api_State_6) <| o_gu rfl rfl rfl <| oy hS (y_load oH underlying37 rfl rfl) <| o_gu rfl rfl rfl <| oy hS (y_len M0 underlying37) <| o_gu rfl rfl rfl <| oy hS y_bin ?_
   refine oy hS y_pickF <| n_thenN ?_
   refine c_if (ht := fun c11 => ?_) (hf := fun c11 => ?_)
   · replace hF := bt c11 hF
     refine c_seq <| c_region <| oy hS y_assign <| n_thenN ?_
     obtain rfl := osi hF
     obtain rfl : _ = r := hK7
     exact wp_ret (wr1 hS)
   replace hF := bf c11 hF
   refine wp_skip ?_
   obtain rfl := osi hF
   change _ ∧ _
   exact ⟨hK7, mk_exF, (hS.re (.b .hb .n))⟩
 rintro a w ⟨hF, ⟨s12, rfl⟩, hS⟩
 dsimp only [seq_Core_k1] at hF
 refine c_seq <| c_region <| oy hS (y_field fa_api_State_2) <| oy hS (y_load oH underlying31 rfl rfl) <| oy hS (y_len K0 underlying31) <| oy hS (y_field fa_api_State_3) <| oy hS (y_load oH underlying3 rfl rfl) ?_
 refine o_buildT val_int ([a0.Taken] : List Int) hS el_int (fun _ => rfl) enc_len_int (by decide) rfl (by decide) (hp := rfl) (h := ?_)
 clear hS; intro b13 w hS h14
 have hS : St W g [] ([(b13, blk (([a0.Taken] : List Int).flatMap enc_int) 3)] ++ ((b1, blk (cl_State B0 D0 E0 a0.Taken G0 a0.PC I0 a0.Stop J0 a0.Jump a0.Delay) 62) :: [])) w := hS
 obtain ⟨r16, T0, hF⟩ := ob hF
 refine o_callS hS func46 rfl rfl (hc := (w_seq_upto (a0 := (a0.In_.length : Int)) (a1 := ([a0.Taken] : List Int)) (h1 := (OwT.plus h14 hS (fun p hp => mA (hp)))) (hF := T0))) (h := ?_)
 clear hS; intro w hS
 refine o_split (ht := fun c17 => ?_) (hf := fun c17 => ?_)
 · replace hF := bt c17 hF
   refine o_gu rfl rfl rfl <| oy hS (y_field fa_api_State_5) <| o_gu rfl rfl rfl <| oy hS (y_load (fun w hS => hS.own (mB (mH))) underlying3 rfl rfl) <| o_gu rfl rfl rfl ?_
   refine o_buildT val_int ([a0.PC] : List Int) hS el_int (fun _ => rfl) enc_len_int (by decide) rfl (by decide) (hp := rfl) (h := ?_)
   clear hS; intro b18 w hS h19
   have hS : St W g [] ([(b18, blk (([a0.PC] : List Int).flatMap enc_int) 3)] ++ ([(b13, blk (([a0.Taken] : List Int).flatMap enc_int) 3)] ++ ((b1, blk (cl_State B0 D0 E0 a0.Taken G0 a0.PC I0 a0.Stop J0 a0.Jump a0.Delay) 62) :: []))) w := hS
   refine o_gu rfl rfl rfl ?_
   obtain ⟨r21, U0, hF⟩ := ob hF
   refine o_callS hS func46 rfl rfl (hc := (w_seq_upto (a0 := 1024) (a1 := ([a0.PC] : List Int)) (h1 := (OwT.plus h19 hS (fun p hp => mA (hp)))) (hF := U0))) (h := ?_)
   clear hS; intro w hS
   refine oy hS y_pickT ?_
   refine o_split (ht := fun c22 => ?_) (hf := fun c22 => ?_)
   · replace hF := bt c22 hF
     refine o_gu rfl rfl rfl <| oy hS (y_field fa_api_State_6) <| o_gu rfl rfl rfl <| oy hS (y_load (fun w hS => hS.own (mB (mB (mH)))) underlying37 rfl rfl) <| o_gu rfl rfl rfl ?_
     obtain ⟨r23, V0, hF⟩ := ob hF
     refine o_callS hS func46 rfl rfl (hc := (w_seq_upto (a0 := 1024) (a1 := a0.Stack) (h1 := M0.plus) (hF := V0))) (h := ?_)
     clear hS; intro w hS
     refine oy hS y_pickT <| oy hS y_assign <| n_thenN ?_
     obtain rfl := osi hF
     exact wp_ret (wr1 hS)
   replace hF := bf c22 hF
   iterate 3 (refine o_sk rfl rfl ?_)
   refine oy hS y_pickF <| oy hS y_assign <| n_thenN ?_
   obtain rfl := osi hF
   exact wp_ret (wr1 hS)
 replace hF := bf c17 hF
 iterate 4 (refine o_sk rfl rfl ?_)
 refine oy hS y_pickF <| oy hS y_move ?_
 iterate 3 (refine o_sk rfl rfl ?_)
 refine oy hS y_pickF <| oy hS y_assign <| n_thenN ?_
 obtain rfl := osi hF
 exact wp_ret (wr1 hS)
theorem w_seq_Core {g : Frag} {a0 : T_State} {v0_ : Value} {r : Bool} (h0 : Rd_State g a0 v0_) (hF : seq_Core a0 = some r) : LCs Tryz.prog 79 #[v0_] g (.bool r) := w_seq_Core_ h0 hF

noncomputable def seq_May (a0 : T_State) : Option Bool :=
  (seq_Core a0).bind fun r2 => bif r2 then (seq_upto 5 ([a0.Stop] : List Int)).bind fun r7 => bif r7 then bif decide ((a0.Fly.length : Int) = 0) then bif decide (a0.Jump = 0) then some (decide (a0.Delay = 0)) else some (false) else some (false) else some (false) else some (false)
theorem w_seq_May_ {g : Frag} {a0 : T_State} {v0_ : Value} {r : Bool} (h0 : Rd_State g a0 v0_) (hF : seq_May a0 = some r) : LCs Tryz.prog 45 #[v0_] g (.bool r) := by
 obtain ⟨B0, D0, E0, G0, I0, J0, rfl, M0, N0, R0, T0, U0, K0⟩ := h0
 unfold seq_May at hF
 refine lc_body (k := 27) (av := [.agg (cl_State B0 D0 E0 a0.Taken G0 a0.PC I0 a0.Stop J0 a0.Jump a0.Delay).toArray]) func45 rfl rfl (h := fun W hS => ?_)
 refine c_seq <| c_region ?_
 refine o_boxP (cl := (cl_State B0 D0 E0 a0.Taken G0 a0.PC I0 a0.Stop J0 a0.Jump a0.Delay)) rfl hS ?_
 clear hS; intro b1 w hS
 refine oy hS y_assign <| n_thenN <| c_seq <| c_region ?_
 refine oy hS (y_loadW oH underlying62 rfl (by exact sz_api_State)) ?_
 obtain ⟨r2, hr2, hF⟩ := ob hF
 refine o_callS hS func79 rfl rfl (hc := (w_seq_Core (a0 := a0) (h0 := ⟨_, _, _, _, _, _, rfl, M0.plus, N0.plus, R0.plus, T0.plus, U0.plus, K0.plus⟩) (hF := hr2))) (h := ?_)
 clear hS; intro w hS
 refine o_split (ht := fun c3 => ?_) (hf := fun c3 => ?_)
 · replace hF := bt c3 hF
   refine o_gu rfl rfl rfl <| oy hS (y_field fa_api_State_7) <| o_gu rfl rfl rfl <| oy hS (y_load oH underlying3 rfl rfl) <| o_gu rfl rfl rfl ?_
   refine o_buildT val_int ([a0.Stop] : List Int) hS el_int (fun _ => rfl) enc_len_int (by decide) rfl (by decide) (hp := rfl) (h := ?_)
   clear hS; intro b4 w hS h5
   have hS : St W g [] ([(b4, blk (([a0.Stop] : List Int).flatMap enc_int) 3)] ++ ((b1, blk (cl_State B0 D0 E0 a0.Taken G0 a0.PC I0 a0.Stop J0 a0.Jump a0.Delay) 62) :: [])) w := hS
   refine o_gu rfl rfl rfl ?_
   obtain ⟨r7, hr7, hF⟩ := ob hF
   refine o_callS hS func46 rfl rfl (hc := (w_seq_upto (a0 := 5) (a1 := ([a0.Stop] : List Int)) (h1 := (OwT.plus h5 hS (fun p hp => mA (hp)))) (hF := hr7))) (h := ?_)
   clear hS; intro w hS
   refine oy hS y_pickT ?_
   refine o_split (ht := fun c8 => ?_) (hf := fun c8 => ?_)
   · replace hF := bt c8 hF
     refine o_gu rfl rfl rfl <| oy hS (y_field fa_api_State_8) <| o_gu rfl rfl rfl <| oy hS (y_load (fun w hS => hS.own (mB (mH))) underlying60 rfl rfl) <| o_gu rfl rfl rfl <| oy hS (y_len K0 underlying60) <| o_gu rfl rfl rfl <| oy hS y_bin ?_
     refine oy hS y_pickT ?_
     refine o_split (ht := fun c9 => ?_) (hf := fun c9 => ?_)
     · replace hF := bt c9 hF
       refine o_gu rfl rfl rfl <| oy hS (y_field fa_api_State_9) <| o_gu rfl rfl rfl <| oy hS (y_load (fun w hS => hS.own (mB (mH))) underlying3 rfl rfl) <| o_gu rfl rfl rfl <| oy hS y_bin <| oy hS y_pickT ?_
       refine o_split (ht := fun c10 => ?_) (hf := fun c10 => ?_)
       · replace hF := bt c10 hF
         refine o_gu rfl rfl rfl <| oy hS (y_field fa_api_State_10) <| o_gu rfl rfl rfl <| oy hS (y_load (fun w hS => hS.own (mB (mH))) underlying3 rfl rfl) <| o_gu rfl rfl rfl <| oy hS y_bin <| oy hS y_pickT <| oy hS y_assign ?_
         refine n_thenN ?_
         obtain rfl := osi hF
         exact wp_ret (wr1 hS)
       replace hF := bf c10 hF
       iterate 3 (refine o_sk rfl rfl ?_)
       refine oy hS y_pickF <| oy hS y_assign <| n_thenN ?_
       obtain rfl := osi hF
       exact wp_ret (wr1 hS)
     replace hF := bf c9 hF
     iterate 3 (refine o_sk rfl rfl ?_)
     refine oy hS y_pickF <| oy hS y_move ?_
     iterate 3 (refine o_sk rfl rfl ?_)
     refine oy hS y_pickF <| oy hS y_assign <| n_thenN ?_
     obtain rfl := osi hF
     exact wp_ret (wr1 hS)
   replace hF := bf c8 hF
   iterate 4 (refine o_sk rfl rfl ?_)
   refine oy hS y_pickF <| oy hS y_move ?_
   iterate 3 (refine o_sk rfl rfl ?_)
   refine oy hS y_pickF <| oy hS y_move ?_
   iterate 3 (refine o_sk rfl rfl ?_)
   refine oy hS y_pickF <| oy hS y_assign <| n_thenN ?_
   obtain rfl := osi hF
   exact wp_ret (wr1 hS)
 replace hF := bf c3 hF
 iterate 4 (refine o_sk rfl rfl ?_)
 refine oy hS y_pickF <| oy hS y_move ?_
 iterate 4 (refine o_sk rfl rfl ?_)
 refine oy hS y_pickF <| oy hS y_move ?_
 iterate 3 (refine o_sk rfl rfl ?_)
 refine oy hS y_pickF <| oy hS y_move ?_
 iterate 3 (refine o_sk rfl rfl ?_)
 refine oy hS y_pickF <| oy hS y_assign <| n_thenN ?_
 obtain rfl := osi hF
 exact wp_ret (wr1 hS)
theorem w_seq_May {g : Frag} {a0 : T_State} {v0_ : Value} {r : Bool} (h0 : Rd_State g a0 v0_) (hF : seq_May a0 = some r) : LCs Tryz.prog 45 #[v0_] g (.bool r) := w_seq_May_ h0 hF

def slices_Clone_int (a0 : List Int) : Option (List Int) := app' [] a0
theorem w_slices_Clone_int {g : Frag} {a0 : List Int} {v0_ : Value} (h0 : SlT g enc_int 1 a0 v0_) {r : List Int} (hF : slices_Clone_int a0 = some r) : LC Tryz.prog 82 #[v0_] g [] (fun v L => ∃ (u0 : Value) (M0 : Own), u0 = v ∧ L = (M0 ++ []) ∧ OwT 3 enc_int 1 r u0 M0) := by
  unfold slices_Clone_int at hF
  refine lc_body (k := 8) (av := [v0_]) func82 rfl rfl (h := fun W hS => ?_)
  refine c_seq <| c_region <| oy hS y_assign ?_
  refine n_thenN (h := ?_)
  refine c_seq <| c_seq <| c_region <| oy hS y_move <| oy hS (y_nilsl h0 underlying37) ?_
  refine n_thenN (h := ?_)
  refine c_if (ht := fun c1 => ?_) (hf := fun c1 => ?_)
  · obtain rfl := isNil_nil h0 c1
    obtain ⟨_, rfl⟩ := app'_some hF
    refine c_seq <| c_region <| oy hS y_assign ?_
    refine n_thenN (h := ?_)
    refine wp_ret (r_ret (vs := [.slice none 0 0]) (L' := []) hS (show resAll _ _ _ [.tmp 2] _ from ⟨res_tmp, trivial⟩) rfl ⟨_, _, rfl, rfl, OwT.nil _ _ _⟩)
  · refine wp_skip ?_
    try change Code.wp _ _ _ _ _
    refine c_seq <| c_region ?_
    refine o_buildT val_int ([] : List Int) hS el_int (fun _ => rfl) enc_len_int (by decide) rfl (by decide) (hp := rfl) (h := ?_)
    clear hS; intro b5 w hS h6
    refine oy hS y_move ?_
    refine o_appPs (LX := [(b5, blk (([] : List Int).flatMap enc_int) 3)]) hF hS el_int h6 h0.plus (enc_ones_int _) (by decide) ?_
    clear hS; intro v7 LX7 w h7 hS
    refine oy hS y_assign ?_
    refine n_thenN (h := ?_)
    refine wp_ret (r_ret (vs := [v7]) (L' := (LX7 ++ [])) hS (show resAll _ _ _ [.tmp 2] _ from ⟨res_tmp, trivial⟩) rfl ⟨_, _, rfl, rfl, h7⟩)

def slices_Clone_Write (a0 : List T_Write) : Option (List T_Write) := app' [] a0
theorem w_slices_Clone_Write {g : Frag} {a0 : List T_Write} {v0_ : Value} (h0 : SlT g enc_Write 3 a0 v0_) {r : List T_Write} (hF : slices_Clone_Write a0 = some r) : LC Tryz.prog 83 #[v0_] g [] (fun v L => ∃ (u0 : Value) (M0 : Own), u0 = v ∧ L = (M0 ++ []) ∧ OwT 89 enc_Write 3 r u0 M0) := by
  unfold slices_Clone_Write at hF
  refine lc_body (k := 8) (av := [v0_]) func83 rfl rfl (h := fun W hS => ?_)
  refine c_seq <| c_region <| oy hS y_assign ?_
  refine n_thenN (h := ?_)
  refine c_seq <| c_seq <| c_region <| oy hS y_move <| oy hS (y_nilsl h0 underlying60) ?_
  refine n_thenN (h := ?_)
  refine c_if (ht := fun c1 => ?_) (hf := fun c1 => ?_)
  · obtain rfl := isNil_nil h0 c1
    obtain ⟨_, rfl⟩ := app'_some hF
    refine c_seq <| c_region <| oy hS y_assign ?_
    refine n_thenN (h := ?_)
    refine wp_ret (r_ret (vs := [.slice none 0 0]) (L' := []) hS (show resAll _ _ _ [.tmp 2] _ from ⟨res_tmp, trivial⟩) rfl ⟨_, _, rfl, rfl, OwT.nil _ _ _⟩)
  · refine wp_skip ?_
    try change Code.wp _ _ _ _ _
    refine c_seq <| c_region ?_
    refine o_buildT val_Write ([] : List T_Write) hS el_api_Write (fun _ => rfl) enc_len_Write (by decide) rfl (by decide) (hp := rfl) (h := ?_)
    clear hS; intro b5 w hS h6
    refine oy hS y_move ?_
    refine o_appPs (LX := [(b5, blk (([] : List T_Write).flatMap enc_Write) 89)]) hF hS el_api_Write h6 h0.plus (enc_ones_Write _) (by decide) ?_
    clear hS; intro v7 LX7 w h7 hS
    refine oy hS y_assign ?_
    refine n_thenN (h := ?_)
    refine wp_ret (r_ret (vs := [v7]) (L' := (LX7 ++ [])) hS (show resAll _ _ _ [.tmp 2] _ from ⟨res_tmp, trivial⟩) rfl ⟨_, _, rfl, rfl, h7⟩)

noncomputable def seq_Own (a0 : T_State) : Option T_State :=
  (slices_Clone_uint32 a0.Regs).bind fun r3 => (slices_Clone_uint32 a0.Mem).bind fun r11 => (slices_Clone_uint32 a0.In_).bind fun r19 => (slices_Clone_uint32 a0.Out).bind fun r27 => (slices_Clone_int a0.Stack).bind fun r35 => (slices_Clone_Write a0.Fly).bind fun r43 => some (⟨r3, r11, r19, a0.Taken, r27, a0.PC, r35, a0.Stop, r43, a0.Jump, a0.Delay⟩ : T_State)
theorem w_seq_Own_ {g : Frag} {a0 : T_State} {v0_ : Value} {r : T_State} (h0 : Rd_State g a0 v0_) (hF : seq_Own a0 = some r) : LC Tryz.prog 47 #[v0_] g [] (fun v L => ∃ (u0 : Value) (M0 : Own), u0 = v ∧ L = (M0 ++ []) ∧ Ow_State r u0 M0) := by
 obtain ⟨J0, I0, G0, E0, D0, B0, rfl, K0, N0, R0, T0, U0, V0⟩ := h0
 unfold seq_Own at hF
 refine lc_body (k := 28) (av := [.agg (cl_State J0 I0 G0 a0.Taken E0 a0.PC D0 a0.Stop B0 a0.Jump a0.Delay).toArray]) func47 rfl rfl (h := fun W hS => ?_)
 refine c_seq <| c_region ?_
 refine o_boxP (cl := (cl_State J0 I0 G0 a0.Taken E0 a0.PC D0 a0.Stop B0 a0.Jump a0.Delay)) rfl hS ?_
 clear hS; intro b1 w hS
 refine o_allocP (cl := (cl_State (.slice none 0 0) (.slice none 0 0) (.slice none 0 0) 0 (.slice none 0 0) 0 (.slice none 0 0) 0 (.slice none 0 0) 0 0)) zr_api_State rfl hS ?_
 clear hS; intro b2 w hS
 refine n_thenN <| c_seq ?_
 refine c_heldL 13 20 (by kernel_rfl) rfl hS ?_
 clear hS; intro w hS
 refine hy0 0 rfl wn (by kernel_rfl) (nq (P := Tryz.prog) (fn := Tryz.f47)) (fun _ => hS.cb) (y_field fa_api_State_0) ?_
 refine hy 1 rfl wn (by kernel_rfl) (nq (P := Tryz.prog) (fn := Tryz.f47)) hS.cb (y_load (fun w hS => hS.own (mC (mH))) underlying31 rfl rfl) ?_
 refine hy0 3 rfl wn (by kernel_rfl) (nq (P := Tryz.prog) (fn := Tryz.f47)) (fun _ => hS.cb) (y_field fa_api_State_1) ?_
 refine hy 4 rfl wn (by kernel_rfl) (nq (P := Tryz.prog) (fn := Tryz.f47)) hS.cb (y_load (fun w hS => hS.own (mC (mH))) underlying31 rfl rfl) ?_
 refine hy0 6 rfl wn (by kernel_rfl) (nq (P := Tryz.prog) (fn := Tryz.f47)) (fun _ => hS.cb) (y_field fa_api_State_2) ?_
 refine hy 7 rfl wn (by kernel_rfl) (nq (P := Tryz.prog) (fn := Tryz.f47)) hS.cb (y_load (fun w hS => hS.own (mC (mH))) underlying31 rfl rfl) ?_
 refine hy0 9 rfl wn (by kernel_rfl) (nq (P := Tryz.prog) (fn := Tryz.f47)) (fun _ => hS.cb) (y_field fa_api_State_4) ?_
 refine hy 10 rfl wn (by kernel_rfl) (nq (P := Tryz.prog) (fn := Tryz.f47)) hS.cb (y_load (fun w hS => hS.own (mC (mH))) underlying31 rfl rfl) ?_
 refine hb1 2 (by kernel_rfl) (hb_op rfl wn (nl (P := Tryz.prog) (fn := Tryz.f47)) ?_)
 obtain ⟨r3, hr3, hF⟩ := ob hF
 refine o_call0 hS func58 rfl rfl (hc := (w_slices_Clone_uint32 (a0 := a0.Regs) (h0 := K0.plus) (hF := hr3))) (h := ?_)
 clear hS; intro v4 LY5 w hS hr6
 obtain ⟨v_0_7, LX_0_8, rfl, rfl, h_0_9⟩ := hr6
 simp only [aa, ac, al] at hS
 have hC := (hS.re (.b (.d .hb) (.b (.d .hb) .n))).cb
 refine hb_next (fun _ => hC) ?_
 refine hy0 12 rfl wn (by kernel_rfl) (nq (P := Tryz.prog) (fn := Tryz.f47)) (fun _ => hC) (y_field fa_api_State_0) ?_
 refine hb1 5 (by kernel_rfl) (hb_op rfl wn (nl (P := Tryz.prog) (fn := Tryz.f47)) ?_)
 obtain ⟨r11, X0, hF⟩ := ob hF
 refine o_call0 hS func58 rfl rfl (hc := (w_slices_Clone_uint32 (a0 := a0.Mem) (h0 := N0.plus) (hF := X0))) (h := ?_)
 clear hS; intro v12 M1 w hS Y0
 obtain ⟨v_0_15, LX_0_16, rfl, rfl, h_0_17⟩ := Y0
 simp only [aa, ac, al] at hS
 refine hb_next (fun _ => (hS.re (.b (.d (.d .hb)) (.b (.d (.d .hb)) .n))).cb) ?_
 refine hb1 8 (by kernel_rfl) (hb_op rfl wn (nl (P := Tryz.prog) (fn := Tryz.f47)) ?_)
 obtain ⟨r19, Z0, hF⟩ := ob hF
 refine o_call0 hS func58 rfl rfl (hc := (w_slices_Clone_uint32 (a0 := a0.In_) (h0 := R0.plus) (hF := Z0))) (h := ?_)
 clear hS; intro v20 N1 w hS B1
 obtain ⟨v_0_23, LX_0_24, rfl, rfl, h_0_25⟩ := B1
 simp only [aa, ac, al] at hS
 refine hb_next (fun _ => (hS.re (.b (.d (.d (.d .hb))) (.b (.d (.d (.d .hb))) .n))).cb) ?_
 refine hb1 11 (by kernel_rfl) (hb_op rfl wn (nl (P := Tryz.prog) (fn := Tryz.f47)) ?_)
 obtain ⟨r27, D1, hF⟩ := ob hF
 refine o_call0 hS func58 rfl rfl (hc := (w_slices_Clone_uint32 (a0 := a0.Out) (h0 := T0.plus) (hF := D1))) (h := ?_)
 clear hS; intro v28 R1 w hS E1
 obtain ⟨v_0_31, LX_0_32, rfl, rfl, h_0_33⟩ := E1
 simp only [aa, ac, al] at hS
 refine hb_next (fun _ => (hS.re (.b (.d (.d (.d (.d .hb)))) (.b (.d (.d (.d (.d .hb)))) .n))).cb) ?_
 refine hb1 13 (by kernel_rfl) (hb_op rfl wn (nl (P := Tryz.prog) (fn := Tryz.f47)) ?_)
 have hS := hS.re (.b (.d (.d (.d (.d (.e .hb))))) (.t .h (.t .h (.t .h (.t .h (.b .hb .n))))))
 refine o_storeA1 (o := 0) (cl' := (cl_State v_0_7 I0 G0 a0.Taken E0 a0.PC D0 a0.Stop B0 a0.Jump a0.Delay)) hS (by kernel_rfl) (by exact Nat.le_of_ble_eq_true rfl) (Upd.here _) (by exact sz_S_uint32) (h_0_9).one (h_0_9).cell ?_
 clear hS; intro w hS
 refine hb_next (fun h => absurd h (by decide)) ?_
 refine hy0 14 rfl wn (by kernel_rfl) (nq (P := Tryz.prog) (fn := Tryz.f47)) (fun h => absurd h (by decide)) (y_field fa_api_State_1) ?_
 refine hb1 15 (by kernel_rfl) (hb_op rfl wn (nl (P := Tryz.prog) (fn := Tryz.f47)) ?_)
 refine o_storeA1 (o := 1) (cl' := (cl_State v_0_7 v_0_15 G0 a0.Taken E0 a0.PC D0 a0.Stop B0 a0.Jump a0.Delay)) hS (by kernel_rfl) (by exact Nat.le_of_ble_eq_true rfl) (Upd.here _) (by exact sz_S_uint32) (h_0_17).one (h_0_17).cell ?_
 clear hS; intro w hS
 refine hb_next (fun h => absurd h (by decide)) ?_
 refine hy0 16 rfl wn (by kernel_rfl) (nq (P := Tryz.prog) (fn := Tryz.f47)) (fun h => absurd h (by decide)) (y_field fa_api_State_2) ?_
 refine hb1 17 (by kernel_rfl) (hb_op rfl wn (nl (P := Tryz.prog) (fn := Tryz.f47)) ?_)
 refine o_storeA1 (o := 2) (cl' := (cl_State v_0_7 v_0_15 v_0_23 a0.Taken E0 a0.PC D0 a0.Stop B0 a0.Jump a0.Delay)) hS (by kernel_rfl) (by exact Nat.le_of_ble_eq_true rfl) (Upd.here _) (by exact sz_S_uint32) (h_0_25).one (h_0_25).cell ?_
 clear hS; intro w hS
 refine hb_next (fun h => absurd h (by decide)) ?_
 refine hy0 18 rfl wn (by kernel_rfl) (nq (P := Tryz.prog) (fn := Tryz.f47)) (fun h => absurd h (by decide)) (y_field fa_api_State_4) ?_
 refine hb1 19 (by kernel_rfl) (hb_op rfl wn (nl (P := Tryz.prog) (fn := Tryz.f47)) ?_)
 refine o_storeA1 (o := 4) (cl' := (cl_State v_0_7 v_0_15 v_0_23 a0.Taken v_0_31 a0.PC D0 a0.Stop B0 a0.Jump a0.Delay)) hS (by kernel_rfl) (by exact Nat.le_of_ble_eq_true rfl) (Upd.here _) (by exact sz_S_uint32) (h_0_33).one (h_0_33).cell ?_
 clear hS; intro w hS
 refine hb_next (fun h => absurd h (by decide)) ?_
 refine hb_done (by kernel_rfl) ?_
 refine c_seq ?_
 refine c_heldL 7 10 (by kernel_rfl) rfl hS ?_
 clear hS; intro w hS
 refine hy0 0 rfl wn (by kernel_rfl) (nq (P := Tryz.prog) (fn := Tryz.f47)) (fun _ => hS.cb) (y_field fa_api_State_6) ?_
 refine hy 1 rfl wn (by kernel_rfl) (nq (P := Tryz.prog) (fn := Tryz.f47)) hS.cb (y_load (fun w hS => hS.own (mH)) underlying37 rfl rfl) ?_
 refine hy0 3 rfl wn (by kernel_rfl) (nq (P := Tryz.prog) (fn := Tryz.f47)) (fun _ => hS.cb) (y_field fa_api_State_8) ?_
 refine hy 4 rfl wn (by kernel_rfl) (nq (P := Tryz.prog) (fn := Tryz.f47)) hS.cb (y_load (fun w hS => hS.own (mH)) underlying60 rfl rfl) ?_
 refine hb1 2 (by kernel_rfl) (hb_op rfl wn (nl (P := Tryz.prog) (fn := Tryz.f47)) ?_)
 obtain ⟨r35, G1, hF⟩ := ob hF
 refine o_call0 hS func82 rfl rfl (hc := (w_slices_Clone_int (a0 := a0.Stack) (h0 := U0.plus) (hF := G1))) (h := ?_)
 clear hS; intro v36 T1 w hS I1
 obtain ⟨v_0_39, LX_0_40, rfl, rfl, h_0_41⟩ := I1
 simp only [aa, ac, al] at hS
 have hC := (hS.re (.b (.d .hb) (.t (.d .h) (.t (.d .h) (.t (.d .h) (.t (.d .h) (.b (.d .hb) .n))))))).cb
 refine hb_next (fun _ => hC) ?_
 refine hy0 6 rfl wn (by kernel_rfl) (nq (P := Tryz.prog) (fn := Tryz.f47)) (fun _ => hC) (y_field fa_api_State_6) ?_
 refine hb1 5 (by kernel_rfl) (hb_op rfl wn (nl (P := Tryz.prog) (fn := Tryz.f47)) ?_)
 obtain ⟨r43, J1, hF⟩ := ob hF
 refine o_call0 hS func83 rfl rfl (hc := (w_slices_Clone_Write (a0 := a0.Fly) (h0 := V0.plus) (hF := J1))) (h := ?_)
 clear hS; intro v44 U1 w hS K1
 obtain ⟨v_0_47, LX_0_48, rfl, rfl, h_0_49⟩ := K1
 simp only [aa, ac, al] at hS
 refine hb_next (fun _ => (hS.re (.b (.d (.d .hb)) (.t (.d (.d .h)) (.t (.d (.d .h)) (.t (.d (.d .h)) (.t (.d (.d .h)) (.b (.d (.d .hb)) .n))))))).cb) ?_
 refine hb1 7 (by kernel_rfl) (hb_op rfl wn (nl (P := Tryz.prog) (fn := Tryz.f47)) ?_)
 have hS := hS.re (.b (.d (.d .hb)) (.t .h (.t .h (.t .h (.t .h (.t .h (.t .h (.b .hb .n))))))))
 refine o_storeA1 (o := 6) (cl' := (cl_State v_0_7 v_0_15 v_0_23 a0.Taken v_0_31 a0.PC v_0_39 a0.Stop B0 a0.Jump a0.Delay)) hS (by kernel_rfl) (by exact Nat.le_of_ble_eq_true rfl) (Upd.here _) (by exact sz_S_int) (h_0_41).one (h_0_41).cell ?_
 clear hS; intro w hS
 refine hb_next (fun h => absurd h (by decide)) ?_
 refine hy0 8 rfl wn (by kernel_rfl) (nq (P := Tryz.prog) (fn := Tryz.f47)) (fun h => absurd h (by decide)) (y_field fa_api_State_8) ?_
 refine hb1 9 (by kernel_rfl) (hb_op rfl wn (nl (P := Tryz.prog) (fn := Tryz.f47)) ?_)
 refine o_storeA1 (o := 8) (cl' := (cl_State v_0_7 v_0_15 v_0_23 a0.Taken v_0_31 a0.PC v_0_39 a0.Stop v_0_47 a0.Jump a0.Delay)) hS (by kernel_rfl) (by exact Nat.le_of_ble_eq_true rfl) (Upd.here _) (by exact sz_S_api_Write) (h_0_49).one (h_0_49).cell ?_
 clear hS; intro w hS
 refine hb_next (fun h => absurd h (by decide)) ?_
 refine hb_done (by kernel_rfl) ?_
 refine c_seq <| c_region ?_
 refine oy hS (y_loadW oH underlying62 rfl (by exact sz_api_State)) ?_
 have hS := hS.re (.b (.e (.d (.d (.d (.d (.d (.d .hb))))))) (.b .hb (.t .h (.t .h (.t .h (.t .h (.t .h (.t .h .n))))))))
 refine o_storeW (vs := (cl_State v_0_7 v_0_15 v_0_23 a0.Taken v_0_31 a0.PC v_0_39 a0.Stop v_0_47 a0.Jump a0.Delay)) hS (by exact rfl) (Upd.here _) (by exact sz_api_State) (one_State (h_0_9).one (h_0_17).one (h_0_25).one (h_0_33).one (h_0_41).one (h_0_49).one) ?_
 clear hS; intro w hS
 refine n_thenN ?_
 obtain rfl := osi hF
 refine wp_ret (r_ret (vs := [.agg (cl_State v_0_7 v_0_15 v_0_23 a0.Taken v_0_31 a0.PC v_0_39 a0.Stop v_0_47 a0.Jump a0.Delay).toArray]) (hS.re (.t (.e (.e (.d (.d (.d (.d (.d .h))))))) (.t (.e (.e (.d (.d (.d (.d .h)))))) (.t (.e (.e (.d (.d (.d .h))))) (.t (.e (.e (.d (.d .h)))) (.t (.e (.e (.d .h))) (.t (.e (.e .h)) .n))))))) (rsC (res_cell (hS.own (mH)) underlying62 rfl (by exact sz_api_State)) rsN) rfl ⟨_, _, rfl, (by first | rfl | simp only [aa, ac, al, an]), ⟨_, _, _, _, _, _, _, _, _, _, _, _, rfl, rfl, h_0_9, h_0_17, h_0_25, h_0_33, h_0_41, h_0_49⟩⟩)
theorem w_seq_Own {g : Frag} {a0 : T_State} {v0_ : Value} {r : T_State} (h0 : Rd_State g a0 v0_) (hF : seq_Own a0 = some r) : LC Tryz.prog 47 #[v0_] g [] (fun v L => ∃ (u0 : Value) (M0 : Own), u0 = v ∧ L = (M0 ++ []) ∧ Ow_State r u0 M0) := w_seq_Own_ h0 hF

def pair_Has (a0 : Int) : Bool :=
  bif decide (18 ≤ a0) then decide (a0 ≤ 21) else false
theorem w_pair_Has_ {g : Frag} {a0 : Int} {r : Bool}  (hF : pair_Has a0 = r) : LCs Tryz.prog 102 #[.int .i64 a0] g (.bool r) := by
 unfold pair_Has at hF
 refine lc_body (k := 9) (av := [.int .i64 a0]) func102 rfl rfl (h := fun W hS => ?_)
 refine c_seq <| c_region <| oy hS y_assign <| n_thenN <| c_seq <| c_region <| oy hS y_move <| oy hS y_bin ?_
 refine o_split (ht := fun c1 => ?_) (hf := fun c1 => ?_)
 · replace hF := bt c1 hF
   refine o_gu rfl rfl rfl <| oy hS y_move <| o_gu rfl rfl rfl <| oy hS y_bin <| oy hS y_pickT <| oy hS y_assign <| n_thenN ?_
   subst hF
   exact wp_ret (wr1 hS)
 replace hF := bf c1 hF
 iterate 2 (refine o_sk rfl rfl ?_)
 refine oy hS y_pickF <| oy hS y_assign <| n_thenN ?_
 subst hF
 exact wp_ret (wr1 hS)
theorem w_pair_Has {g : Frag} {a0 : Int}  : LCs Tryz.prog 102 #[.int .i64 a0] g (.bool (pair_Has a0)) := w_pair_Has_  rfl

noncomputable def pair_Parts (a0 : Int) : Option (Int × Int) :=
  (shr' .u32 a0 16).bind fun x1 => some (IntKind.i64.wrap (IntKind.i16.wrap a0), IntKind.i64.wrap (IntKind.i16.wrap x1))
theorem w_pair_Parts_ {g : Frag} {a0 : Int} {r : (Int × Int)}  (hF : pair_Parts a0 = some r) : LCs Tryz.prog 147 #[.int .u32 a0] g (.tuple #[.int .i64 r.1, .int .i64 r.2]) := by
 unfold pair_Parts at hF
 refine lc_body (k := 11) (av := [.int .u32 a0]) func147 rfl rfl (h := fun W hS => ?_)
 refine c_seq <| c_region ?_
 iterate 2 (refine oy hS y_assign ?_)
 refine n_thenN <| c_seq <| c_region <| oy hS y_move <| oy hS (y_conv underlying87 underlying175) <| oy hS (y_conv underlying175 underlying3) <| oy hS y_move ?_
 obtain ⟨x1, hx1, hF⟩ := ob hF
 refine oy hS (y_shr hx1) <| oy hS (y_conv underlying87 underlying175) <| oy hS (y_conv underlying175 underlying3) ?_
 iterate 2 (refine oy hS y_assign ?_)
 refine n_thenN ?_
 obtain rfl := osi hF
 exact wp_ret (wr2 hS)
theorem w_pair_Parts {g : Frag} {a0 : Int} {r : (Int × Int)}  (hF : pair_Parts a0 = some r) : LCs Tryz.prog 147 #[.int .u32 a0] g (.tuple #[.int .i64 r.1, .int .i64 r.2]) := w_pair_Parts_  hF

noncomputable def pair_number (a0 : Int) : Option (Nat × Nat) :=
  (pair_Parts a0).bind fun r1 => some (FloatKind.f64.nearest r1.1, FloatKind.f64.nearest r1.2)
theorem w_pair_number_ {g : Frag} {a0 : Int} {r : (Nat × Nat)}  (hF : pair_number a0 = some r) : LCs Tryz.prog 130 #[.int .u32 a0] g (.complex .f64 r.1 r.2) := by
 unfold pair_number at hF
 refine lc_body (k := 15) (av := [.int .u32 a0]) func130 rfl rfl (h := fun W hS => ?_)
 refine c_seq <| c_region <| oy hS y_assign <| n_thenN <| c_seq <| c_region <| oy hS y_move ?_
 obtain ⟨r1, hr1, hF⟩ := ob hF
 refine o_callS hS func147 rfl rfl (hc := (w_pair_Parts (a0 := a0) (hF := hr1))) (h := ?_)
 clear hS; intro w hS
 refine oy hS y_move ?_
 iterate 2 (refine oy hS (y_extract rfl) ?_)
 iterate 2 (refine oy hS y_assign ?_)
 refine n_thenN <| c_seq <| c_region <| oy hS y_move <| oy hS (y_i2f underlying3 underlying174) <| oy hS y_move <| oy hS (y_i2f underlying3 underlying174) <| oy hS y_complex ?_
 refine oy hS y_assign <| n_thenN ?_
 obtain rfl := osi hF
 exact wp_ret (wr1 hS)
theorem w_pair_number {g : Frag} {a0 : Int} {r : (Nat × Nat)}  (hF : pair_number a0 = some r) : LCs Tryz.prog 130 #[.int .u32 a0] g (.complex .f64 r.1 r.2) := w_pair_number_  hF

noncomputable def pair_Make (a0 : Int) (a1 : Int) : Option Int :=
  (shl' .u32 (IntKind.u32.wrap (IntKind.u16.wrap a1)) 16).bind fun x1 => some (bits .or .u32 (IntKind.u32.wrap (IntKind.u16.wrap a0)) x1)
theorem w_pair_Make_ {g : Frag} {a0 : Int} {a1 : Int} {r : Int}  (hF : pair_Make a0 a1 = some r) : LCs Tryz.prog 148 #[.int .i64 a0, .int .i64 a1] g (.int .u32 r) := by
 unfold pair_Make at hF
 refine lc_body (k := 13) (av := [.int .i64 a0, .int .i64 a1]) func148 rfl rfl (h := fun W hS => ?_)
 refine c_seq <| c_region <| oy hS y_assign <| n_thenN <| c_seq <| c_region <| oy hS y_move <| oy hS (y_conv underlying3 underlying177) ?_
 refine oy hS (y_conv underlying177 underlying87) <| oy hS y_move <| oy hS (y_conv underlying3 underlying177) <| oy hS (y_conv underlying177 underlying87) ?_
 obtain ⟨x1, hx1, hF⟩ := ob hF
 refine oy hS (y_shl hx1) <| oy hS y_bin <| oy hS y_assign <| n_thenN ?_
 obtain rfl := osi hF
 exact wp_ret (wr1 hS)
theorem w_pair_Make {g : Frag} {a0 : Int} {a1 : Int} {r : Int}  (hF : pair_Make a0 a1 = some r) : LCs Tryz.prog 148 #[.int .i64 a0, .int .i64 a1] g (.int .u32 r) := w_pair_Make_  hF

noncomputable def pair_packed (a0 : (Nat × Nat)) : Option Int :=
  (floatToIntVal .f64 a0.1 .i64).bind fun x1 => (floatToIntVal .f64 a0.2 .i64).bind fun x2 => (pair_Make x1 x2).bind fun r3 => some (r3)
theorem w_pair_packed_ {g : Frag} {a0 : (Nat × Nat)} {r : Int}  (hF : pair_packed a0 = some r) : LCs Tryz.prog 131 #[.complex .f64 a0.1 a0.2] g (.int .u32 r) := by
 unfold pair_packed at hF
 refine lc_body (k := 10) (av := [.complex .f64 a0.1 a0.2]) func131 rfl rfl (h := fun W hS => ?_)
 refine c_seq <| c_region <| oy hS y_assign <| n_thenN <| c_seq <| c_region <| oy hS y_move <| oy hS y_real ?_
 obtain ⟨x1, hx1, hF⟩ := ob hF
 refine oy hS (y_f2i hx1 (by rw [underlying174]; rfl) underlying3) ?_
 refine oy hS y_move <| oy hS y_imag ?_
 obtain ⟨x2, hx2, hF⟩ := ob hF
 refine oy hS (y_f2i hx2 (by rw [underlying174]; rfl) underlying3) ?_
 obtain ⟨r3, hr3, hF⟩ := ob hF
 refine o_callS hS func148 rfl rfl (hc := (w_pair_Make (a0 := x1) (a1 := x2) (hF := hr3))) (h := ?_)
 clear hS; intro w hS
 refine oy hS y_assign <| n_thenN ?_
 obtain rfl := osi hF
 exact wp_ret (wr1 hS)
theorem w_pair_packed {g : Frag} {a0 : (Nat × Nat)} {r : Int}  (hF : pair_packed a0 = some r) : LCs Tryz.prog 131 #[.complex .f64 a0.1 a0.2] g (.int .u32 r) := w_pair_packed_  hF

def pair_turned (a0 : (Nat × Nat)) : (Nat × Nat) :=
  (a0.1, Op.negFloat .f64 a0.2)
theorem w_pair_turned_ {g : Frag} {a0 : (Nat × Nat)} {r : (Nat × Nat)}  (hF : pair_turned a0 = r) : LCs Tryz.prog 132 #[.complex .f64 a0.1 a0.2] g (.complex .f64 r.1 r.2) := by
 unfold pair_turned at hF
 refine lc_body (k := 9) (av := [.complex .f64 a0.1 a0.2]) func132 rfl rfl (h := fun W hS => ?_)
 refine c_seq <| c_region <| oy hS y_assign <| n_thenN <| c_seq <| c_region <| oy hS y_move <| oy hS y_real ?_
 refine oy hS y_move <| oy hS y_imag <| oy hS y_fneg <| oy hS y_complex <| oy hS y_assign <| n_thenN ?_
 subst hF
 exact wp_ret (wr1 hS)
theorem w_pair_turned {g : Frag} {a0 : (Nat × Nat)}  : LCs Tryz.prog 132 #[.complex .f64 a0.1 a0.2] g (.complex .f64 (pair_turned a0).1 (pair_turned a0).2) := w_pair_turned_  rfl

noncomputable def pair_Of (a0 : Int) (a1 : Int) (a2 : Int) : Option (Int × Int) :=
  (pair_number a1).bind fun r1 => (pair_number a2).bind fun r2 => bif decide (a0 = 18) then (cSumBits .add .f64 r1.1 r1.2 r2.1 r2.2).bind fun x4 => (pair_packed x4).bind fun r5 => some (r5, 0) else bif decide (a0 = 19) then (cSumBits .sub .f64 r1.1 r1.2 r2.1 r2.2).bind fun x7 => (pair_packed x7).bind fun r8 => some (r8, 0) else bif decide (a0 = 20) then (cMulBits r1.1 r1.2 r2.1 r2.2).bind fun x10 => (pair_packed x10).bind fun r11 => some (r11, 0) else bif decide (a0 = 21) then (pair_packed ((pair_turned r1).1, (pair_turned r1).2)).bind fun r13 => some (r13, 0) else some (0, 1)
theorem w_pair_Of_ {g : Frag} {a0 : Int} {a1 : Int} {a2 : Int} {r : (Int × Int)}  (hF : pair_Of a0 a1 a2 = some r) : LCs Tryz.prog 103 #[.int .i64 a0, .int .u32 a1, .int .u32 a2] g (.tuple #[.int .u32 r.1, .int .i64 r.2]) := by
 unfold pair_Of at hF
 refine lc_body (k := 38) (av := [.int .i64 a0, .int .u32 a1, .int .u32 a2]) func103 rfl rfl (h := fun W hS => ?_)
 refine c_seq <| c_region ?_
 iterate 2 (refine oy hS y_assign ?_)
 refine n_thenN <| c_seq <| c_region <| oy hS y_move ?_
 obtain ⟨r1, hr1, hF⟩ := ob hF
 refine o_callS hS func130 rfl rfl (hc := (w_pair_number (a0 := a1) (hF := hr1))) (h := ?_)
 clear hS; intro w hS
 refine oy hS y_move ?_
 obtain ⟨r2, hr2, hF⟩ := ob hF
 refine o_callS hS func130 rfl rfl (hc := (w_pair_number (a0 := a2) (hF := hr2))) (h := ?_)
 clear hS; intro w hS
 iterate 2 (refine oy hS y_assign ?_)
 refine n_thenN ?_
 iterate 2 (refine c_seq ?_)
 refine c_region <| oy hS y_move <| n_thenN <| c_block <| c_seq <| c_region <| oy hS y_bin <| oy hS y_assign ?_
 refine n_thenN ?_
 refine c_if (ht := fun c3 => ?_) (hf := fun c3 => ?_)
 · replace hF := bt c3 hF
   refine c_seq <| c_region ?_
   iterate 2 (refine oy hS y_move ?_)
   obtain ⟨x4, hx4, hF⟩ := ob hF
   refine oy hS (y_cadd hx4) ?_
   obtain ⟨r5, hr5, hF⟩ := ob hF
   refine o_callS hS func131 rfl rfl (hc := (w_pair_packed (a0 := x4) (hF := hr5))) (h := ?_)
   clear hS; intro w hS
   iterate 2 (refine oy hS y_assign ?_)
   refine n_thenN ?_
   obtain rfl := osi hF
   exact wp_ret (wr2 hS)
 replace hF := bf c3 hF
 refine c_seq <| c_region <| oy hS y_bin <| oy hS y_assign <| n_thenN ?_
 refine c_if (ht := fun c6 => ?_) (hf := fun c6 => ?_)
 · replace hF := bt c6 hF
   refine c_seq <| c_region ?_
   iterate 2 (refine oy hS y_move ?_)
   obtain ⟨x7, hx7, hF⟩ := ob hF
   refine oy hS (y_csub hx7) ?_
   obtain ⟨r8, hr8, hF⟩ := ob hF
   refine o_callS hS func131 rfl rfl (hc := (w_pair_packed (a0 := x7) (hF := hr8))) (h := ?_)
   clear hS; intro w hS
   iterate 2 (refine oy hS y_assign ?_)
   refine n_thenN ?_
   obtain rfl := osi hF
   exact wp_ret (wr2 hS)
 replace hF := bf c6 hF
 refine c_seq <| c_region <| oy hS y_bin <| oy hS y_assign <| n_thenN ?_
 refine c_if (ht := fun c9 => ?_) (hf := fun c9 => ?_)
 · replace hF := bt c9 hF
   refine c_seq <| c_region ?_
   iterate 2 (refine oy hS y_move ?_)
   obtain ⟨x10, B0, hF⟩ := ob hF
   refine oy hS (y_cmul B0) ?_
   obtain ⟨r11, D0, hF⟩ := ob hF
   refine o_callS hS func131 rfl rfl (hc := (w_pair_packed (a0 := x10) (hF := D0))) (h := ?_)
   clear hS; intro w hS
   iterate 2 (refine oy hS y_assign ?_)
   refine n_thenN ?_
   obtain rfl := osi hF
   exact wp_ret (wr2 hS)
 replace hF := bf c9 hF
 refine c_seq <| c_region <| oy hS y_bin <| oy hS y_assign <| n_thenN ?_
 refine c_if (ht := fun c12 => ?_) (hf := fun c12 => ?_)
 · replace hF := bt c12 hF
   refine c_seq <| c_region <| oy hS y_move ?_
   refine o_callS hS func132 rfl rfl (hc := (w_pair_turned (a0 := r1))) (h := ?_)
   clear hS; intro w hS
   obtain ⟨r13, E0, hF⟩ := ob hF
   refine o_callS hS func131 rfl rfl (hc := (w_pair_packed (a0 := ((pair_turned r1).1, (pair_turned r1).2)) (hF := E0))) (h := ?_)
   clear hS; intro w hS
   iterate 2 (refine oy hS y_assign ?_)
   refine n_thenN ?_
   obtain rfl := osi hF
   exact wp_ret (wr2 hS)
 replace hF := bf c12 hF
 refine wp_skip <| c_seq <| c_region ?_
 iterate 2 (refine oy hS y_assign ?_)
 refine n_thenN ?_
 obtain rfl := osi hF
 exact wp_ret (wr2 hS)
theorem w_pair_Of {g : Frag} {a0 : Int} {a1 : Int} {a2 : Int} {r : (Int × Int)}  (hF : pair_Of a0 a1 a2 = some r) : LCs Tryz.prog 103 #[.int .i64 a0, .int .u32 a1, .int .u32 a2] g (.tuple #[.int .u32 r.1, .int .i64 r.2]) := w_pair_Of_  hF

def word_Has (a0 : Int) : Bool :=
  bif decide (1 ≤ a0) then decide (a0 ≤ 17) else false
theorem w_word_Has_ {g : Frag} {a0 : Int} {r : Bool}  (hF : word_Has a0 = r) : LCs Tryz.prog 104 #[.int .i64 a0] g (.bool r) := by
 unfold word_Has at hF
 refine lc_body (k := 9) (av := [.int .i64 a0]) func104 rfl rfl (h := fun W hS => ?_)
 refine c_seq <| c_region <| oy hS y_assign <| n_thenN <| c_seq <| c_region <| oy hS y_move <| oy hS y_bin ?_
 refine o_split (ht := fun c1 => ?_) (hf := fun c1 => ?_)
 · replace hF := bt c1 hF
   refine o_gu rfl rfl rfl <| oy hS y_move <| o_gu rfl rfl rfl <| oy hS y_bin <| oy hS y_pickT <| oy hS y_assign <| n_thenN ?_
   subst hF
   exact wp_ret (wr1 hS)
 replace hF := bf c1 hF
 iterate 2 (refine o_sk rfl rfl ?_)
 refine oy hS y_pickF <| oy hS y_assign <| n_thenN ?_
 subst hF
 exact wp_ret (wr1 hS)
theorem w_word_Has {g : Frag} {a0 : Int}  : LCs Tryz.prog 104 #[.int .i64 a0] g (.bool (word_Has a0)) := w_word_Has_  rfl

noncomputable def word_logic (a0 : Int) (a1 : Int) (a2 : Int) : Option Int :=
  bif decide (a0 = 1) then some (IntKind.u32.wrap (a1 + a2)) else bif decide (a0 = 2) then some (IntKind.u32.wrap (a1 - a2)) else bif decide (a0 = 3) then some (bits .and .u32 a1 a2) else bif decide (a0 = 4) then some (bits .or .u32 a1 a2) else bif decide (a0 = 5) then some (bits .xor .u32 a1 a2) else bif decide (a0 = 6) then (rem' a2 32).bind fun x7 => (shl' .u32 a1 x7).bind fun x8 => some (x8) else bif decide (a0 = 7) then (rem' a2 32).bind fun x10 => (shr' .u32 a1 x10).bind fun x11 => some (x11) else (rem' a2 32).bind fun x12 => (shr' .i32 (IntKind.i32.wrap a1) x12).bind fun x13 => some (IntKind.u32.wrap x13)
theorem w_word_logic_ {g : Frag} {a0 : Int} {a1 : Int} {a2 : Int} {r : Int}  (hF : word_logic a0 a1 a2 = some r) : LCs Tryz.prog 133 #[.int .i64 a0, .int .u32 a1, .int .u32 a2] g (.int .u32 r) := by
 unfold word_logic at hF
 refine lc_body (k := 51) (av := [.int .i64 a0, .int .u32 a1, .int .u32 a2]) func133 rfl rfl (h := fun W hS => ?_)
 refine c_seq <| c_region <| oy hS y_assign <| n_thenN ?_
 iterate 2 (refine c_seq ?_)
 refine c_region <| oy hS y_move <| n_thenN <| c_block <| c_seq <| c_region <| oy hS y_bin <| oy hS y_assign ?_
 refine n_thenN ?_
 refine c_if (ht := fun c1 => ?_) (hf := fun c1 => ?_)
 · replace hF := bt c1 hF
   refine c_seq <| c_region ?_
   iterate 2 (refine oy hS y_move ?_)
   refine oy hS y_bin <| oy hS y_assign <| n_thenN ?_
   obtain rfl := osi hF
   exact wp_ret (wr1 hS)
 replace hF := bf c1 hF
 refine c_seq <| c_region <| oy hS y_bin <| oy hS y_assign <| n_thenN ?_
 refine c_if (ht := fun c2 => ?_) (hf := fun c2 => ?_)
 · replace hF := bt c2 hF
   refine c_seq <| c_region ?_
   iterate 2 (refine oy hS y_move ?_)
   refine oy hS y_bin <| oy hS y_assign <| n_thenN ?_
   obtain rfl := osi hF
   exact wp_ret (wr1 hS)
 replace hF := bf c2 hF
 refine c_seq <| c_region <| oy hS y_bin <| oy hS y_assign <| n_thenN ?_
 refine c_if (ht := fun c3 => ?_) (hf := fun c3 => ?_)
 · replace hF := bt c3 hF
   refine c_seq <| c_region ?_
   iterate 2 (refine oy hS y_move ?_)
   refine oy hS y_bin <| oy hS y_assign <| n_thenN ?_
   obtain rfl := osi hF
   exact wp_ret (wr1 hS)
 replace hF := bf c3 hF
 refine c_seq <| c_region <| oy hS y_bin <| oy hS y_assign <| n_thenN ?_
 refine c_if (ht := fun c4 => ?_) (hf := fun c4 => ?_)
 · replace hF := bt c4 hF
   refine c_seq <| c_region ?_
   iterate 2 (refine oy hS y_move ?_)
   refine oy hS y_bin <| oy hS y_assign <| n_thenN ?_
   obtain rfl := osi hF
   exact wp_ret (wr1 hS)
 replace hF := bf c4 hF
 refine c_seq <| c_region <| oy hS y_bin <| oy hS y_assign <| n_thenN ?_
 refine c_if (ht := fun c5 => ?_) (hf := fun c5 => ?_)
 · replace hF := bt c5 hF
   refine c_seq <| c_region ?_
   iterate 2 (refine oy hS y_move ?_)
   refine oy hS y_bin <| oy hS y_assign <| n_thenN ?_
   obtain rfl := osi hF
   exact wp_ret (wr1 hS)
 replace hF := bf c5 hF
 refine c_seq <| c_region <| oy hS y_bin <| oy hS y_assign <| n_thenN ?_
 refine c_if (ht := fun c6 => ?_) (hf := fun c6 => ?_)
 · replace hF := bt c6 hF
   refine c_seq <| c_region ?_
   iterate 2 (refine oy hS y_move ?_)
   obtain ⟨x7, hx7, hF⟩ := ob hF
   refine oy hS (y_rem hx7) ?_
   obtain ⟨x8, hx8, hF⟩ := ob hF
   refine oy hS (y_shl hx8) <| oy hS y_assign <| n_thenN ?_
   obtain rfl := osi hF
   exact wp_ret (wr1 hS)
 replace hF := bf c6 hF
 refine c_seq <| c_region <| oy hS y_bin <| oy hS y_assign <| n_thenN ?_
 refine c_if (ht := fun c9 => ?_) (hf := fun c9 => ?_)
 · replace hF := bt c9 hF
   refine c_seq <| c_region ?_
   iterate 2 (refine oy hS y_move ?_)
   obtain ⟨x10, B0, hF⟩ := ob hF
   refine oy hS (y_rem B0) ?_
   obtain ⟨x11, D0, hF⟩ := ob hF
   refine oy hS (y_shr D0) <| oy hS y_assign <| n_thenN ?_
   obtain rfl := osi hF
   exact wp_ret (wr1 hS)
 replace hF := bf c9 hF
 refine wp_skip <| c_seq <| c_region <| oy hS y_move <| oy hS (y_conv underlying87 underlying21) <| oy hS y_move ?_
 obtain ⟨x12, E0, hF⟩ := ob hF
 refine oy hS (y_rem E0) ?_
 obtain ⟨x13, G0, hF⟩ := ob hF
 refine oy hS (y_shr G0) <| oy hS (y_conv underlying21 underlying87) <| oy hS y_assign <| n_thenN ?_
 obtain rfl := osi hF
 exact wp_ret (wr1 hS)
theorem w_word_logic {g : Frag} {a0 : Int} {a1 : Int} {a2 : Int} {r : Int}  (hF : word_logic a0 a1 a2 = some r) : LCs Tryz.prog 133 #[.int .i64 a0, .int .u32 a1, .int .u32 a2] g (.int .u32 r) := w_word_logic_  hF

def word_flag (a0 : Bool) : Int :=
  bif a0 then 1 else 0
theorem w_word_flag_ {g : Frag} {a0 : Bool} {r : Int}  (hF : word_flag a0 = r) : LCs Tryz.prog 149 #[.bool a0] g (.int .u32 r) := by
 unfold word_flag at hF
 refine lc_body (k := 4) (av := [.bool a0]) func149 rfl rfl (h := fun W hS => ?_)
 refine c_seq <| c_region <| oy hS y_assign <| n_thenN ?_
 iterate 2 (refine c_seq ?_)
 refine c_region <| oy hS y_move <| n_thenN ?_
 refine c_if (ht := fun c1 => ?_) (hf := fun c1 => ?_)
 · replace hF := bt c1 hF
   refine c_seq <| c_region <| oy hS y_assign <| n_thenN ?_
   subst hF
   exact wp_ret (wr1 hS)
 replace hF := bf c1 hF
 refine wp_skip <| c_seq <| c_region <| oy hS y_assign <| n_thenN ?_
 subst hF
 exact wp_ret (wr1 hS)
theorem w_word_flag {g : Frag} {a0 : Bool}  : LCs Tryz.prog 149 #[.bool a0] g (.int .u32 (word_flag a0)) := w_word_flag_  rfl

def word_compared (a0 : Int) (a1 : Int) (a2 : Int) : Int :=
  bif decide (a0 = 9) then (word_flag (decide ((IntKind.i32.wrap a1) < (IntKind.i32.wrap a2)))) else bif decide (a0 = 10) then (word_flag (decide (a1 < a2))) else bif decide (a0 = 11) then (word_flag (decide (a1 = a2))) else bif decide (a0 = 12) then IntKind.u32.wrap (imin (IntKind.i32.wrap a1) (IntKind.i32.wrap a2)) else IntKind.u32.wrap (imax (IntKind.i32.wrap a1) (IntKind.i32.wrap a2))
theorem w_word_compared_ {g : Frag} {a0 : Int} {a1 : Int} {a2 : Int} {r : Int}  (hF : word_compared a0 a1 a2 = r) : LCs Tryz.prog 134 #[.int .i64 a0, .int .u32 a1, .int .u32 a2] g (.int .u32 r) := by
 unfold word_compared at hF
 refine lc_body (k := 42) (av := [.int .i64 a0, .int .u32 a1, .int .u32 a2]) func134 rfl rfl (h := fun W hS => ?_)
 refine c_seq <| c_region <| oy hS y_assign <| n_thenN <| c_seq <| c_region <| oy hS y_move <| oy hS (y_conv underlying87 underlying21) ?_
 refine oy hS y_move <| oy hS (y_conv underlying87 underlying21) ?_
 iterate 2 (refine oy hS y_assign ?_)
 refine n_thenN ?_
 iterate 2 (refine c_seq ?_)
 refine c_region <| oy hS y_move <| n_thenN <| c_block <| c_seq <| c_region <| oy hS y_bin <| oy hS y_assign ?_
 refine n_thenN ?_
 refine c_if (ht := fun c1 => ?_) (hf := fun c1 => ?_)
 · replace hF := bt c1 hF
   refine c_seq <| c_region ?_
   iterate 2 (refine oy hS y_move ?_)
   refine oy hS y_bin ?_
   refine o_callS hS func149 rfl rfl (hc := (w_word_flag (a0 := (decide ((IntKind.i32.wrap a1) < (IntKind.i32.wrap a2)))))) (h := ?_)
   clear hS; intro w hS
   refine oy hS y_assign <| n_thenN ?_
   subst hF
   exact wp_ret (wr1 hS)
 replace hF := bf c1 hF
 refine c_seq <| c_region <| oy hS y_bin <| oy hS y_assign <| n_thenN ?_
 refine c_if (ht := fun c2 => ?_) (hf := fun c2 => ?_)
 · replace hF := bt c2 hF
   refine c_seq <| c_region ?_
   iterate 2 (refine oy hS y_move ?_)
   refine oy hS y_bin ?_
   refine o_callS hS func149 rfl rfl (hc := (w_word_flag (a0 := (decide (a1 < a2))))) (h := ?_)
   clear hS; intro w hS
   refine oy hS y_assign <| n_thenN ?_
   subst hF
   exact wp_ret (wr1 hS)
 replace hF := bf c2 hF
 refine c_seq <| c_region <| oy hS y_bin <| oy hS y_assign <| n_thenN ?_
 refine c_if (ht := fun c3 => ?_) (hf := fun c3 => ?_)
 · replace hF := bt c3 hF
   refine c_seq <| c_region ?_
   iterate 2 (refine oy hS y_move ?_)
   refine oy hS y_bin ?_
   refine o_callS hS func149 rfl rfl (hc := (w_word_flag (a0 := (decide (a1 = a2))))) (h := ?_)
   clear hS; intro w hS
   refine oy hS y_assign <| n_thenN ?_
   subst hF
   exact wp_ret (wr1 hS)
 replace hF := bf c3 hF
 refine c_seq <| c_region <| oy hS y_bin <| oy hS y_assign <| n_thenN ?_
 refine c_if (ht := fun c4 => ?_) (hf := fun c4 => ?_)
 · replace hF := bt c4 hF
   refine c_seq <| c_region ?_
   iterate 2 (refine oy hS y_move ?_)
   refine oy hS y_min <| oy hS (y_conv underlying21 underlying87) <| oy hS y_assign <| n_thenN ?_
   subst hF
   exact wp_ret (wr1 hS)
 replace hF := bf c4 hF
 refine wp_skip <| c_seq <| c_region ?_
 iterate 2 (refine oy hS y_move ?_)
 refine oy hS y_max <| oy hS (y_conv underlying21 underlying87) <| oy hS y_assign <| n_thenN ?_
 subst hF
 exact wp_ret (wr1 hS)
theorem w_word_compared {g : Frag} {a0 : Int} {a1 : Int} {a2 : Int}  : LCs Tryz.prog 134 #[.int .i64 a0, .int .u32 a1, .int .u32 a2] g (.int .u32 (word_compared a0 a1 a2)) := w_word_compared_  rfl
end Go.Proofs.YtfnmihhcopkkbaaGreat
