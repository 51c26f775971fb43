/- Functions, lifted. Printed by lift.py. -/
import Derived.Test.YtfnmihhcopkkbaaGreatProg
import Derived.Test.YtfnmihhcopkkbaaGreatP7
import Derived.KernelRfl
namespace Go.Proofs.YtfnmihhcopkkbaaGreat
open Go Go.RowKit Fr
set_option linter.unusedVariables false
set_option linter.unusedSimpArgs false
set_option maxRecDepth 20000
open Tryz
set_option maxHeartbeats 2000000
noncomputable def r3_May (a0 : Int) (a1 : Int) : Option Bool :=
  bif (r3_Valid a0) then (r0_In (r3_Slots a0) a1).bind fun r9 => some (decide (0 ≤ r9)) else some (false)
theorem w_r3_May_ {g : Frag} {a0 : Int} {a1 : Int} {r : Bool}  (hF : r3_May a0 a1 = some r) : LCs Tryz.prog 66 #[.int .i64 a0, .int .i64 a1] g (.bool r) := by
 unfold r3_May at hF
 refine lc_body (k := 14) (av := [.int .i64 a0, .int .i64 a1]) func66 rfl rfl (h := fun W hS => ?_)
 refine c_seq <| c_region <| oy hS y_assign <| n_thenN <| c_seq <| c_region <| oy hS y_move ?_
 refine o_callS hS func86 rfl rfl (hc := (w_r3_Valid (a0 := a0))) (h := ?_)
 clear hS; intro w hS
 refine o_split (ht := fun c1 => ?_) (hf := fun c1 => ?_)
 · replace hF := bt c1 hF
   refine o_gu rfl rfl rfl <| oy hS y_move <| o_gu rfl rfl rfl ?_
   refine o_call0 hS func108 rfl rfl (hc := (w_r3_Slots (a0 := a0))) (h := ?_)
   clear hS; intro v2 LY3 w hS hr4
   obtain ⟨v_0_5, LX_0_6, rfl, rfl, h_0_7⟩ := hr4
   simp only [aa, ac, al] at hS
   refine o_gu rfl rfl rfl <| oy hS y_move <| o_gu rfl rfl rfl ?_
   obtain ⟨r9, hr9, hF⟩ := ob hF
   refine o_callS hS func71 rfl rfl (hc := (w_r0_In (a0 := (r3_Slots a0)) (a1 := a1) (h0 := (OwT.plus h_0_7 hS (fun p hp => mA (hp)))) (hF := hr9))) (h := ?_)
   clear hS; intro w hS
   refine o_gu rfl rfl rfl <| oy hS y_bin <| oy hS y_pickT <| oy hS y_assign <| n_thenN ?_
   obtain rfl := osi hF
   exact wp_ret (wr1 hS)
 replace hF := bf c1 hF
 iterate 5 (refine o_sk rfl rfl ?_)
 refine oy hS y_pickF <| oy hS y_assign <| n_thenN ?_
 obtain rfl := osi hF
 exact wp_ret (wr1 hS)
theorem w_r3_May {g : Frag} {a0 : Int} {a1 : Int} {r : Bool}  (hF : r3_May a0 a1 = some r) : LCs Tryz.prog 66 #[.int .i64 a0, .int .i64 a1] g (.bool r) := w_r3_May_  hF

noncomputable def r3_Bundle_b1 (a0 : (A4 T_Ins)) (a1 : Bool) : Int → Option (Step Int Bool) := fun x9 => bif decide (x9 < 4) then (at' [a0.x0, a0.x1, a0.x2, a0.x3] x9).bind fun x25 => (r3_Ins x25).bind fun r26 => bif !r26 then some (.done (false)) else (at' [a0.x0, a0.x1, a0.x2, a0.x3] x9).bind fun x28 => (r3_May x28.Op x9).bind fun r29 => bif !r29 then some (.done (false)) else bif a1 then (at' [a0.x0, a0.x1, a0.x2, a0.x3] x9).bind fun x32 => bif !(decide (x32.Sym = (ByteArray.mk #[]))) then some (.done (false)) else some (.next (IntKind.i64.wrap (x9 + 1))) else some (.next (IntKind.i64.wrap (x9 + 1))) else some (.done (true))
noncomputable def r3_Bundle (a0 : (A4 T_Ins)) (a1 : Bool) : Option Bool :=
  loop (σ := Int) (r3_Bundle_b1 a0 a1) 0
theorem w_r3_Bundle_ {g : Frag} {a0 : (A4 T_Ins)} {a1 : Bool} {r : Bool}  (hF : r3_Bundle a0 a1 = some r) : LCs Tryz.prog 37 #[.agg (enc_Bundle a0).toArray, .bool a1] g (.bool r) := by
 unfold r3_Bundle at hF
 refine lc_body (k := 34) (av := [.agg (enc_Bundle a0).toArray, .bool a1]) func37 rfl rfl (h := fun W hS => ?_)
 refine c_seq <| c_region ?_
 refine o_boxP (cl := (enc_Bundle a0)) rfl hS ?_
 clear hS; intro b1 w hS
 refine oy hS y_assign <| n_thenN ?_
 iterate 2 (refine c_seq ?_)
 refine c_region <| oy hS y_assign <| n_thenN <| c_block ?_
 refine c_loopP hF (fun (q : Int) a w' => (∃ s : Nat → Value, a = Ac ((((Fm.dead 34 s).upd 1 (.bool a1)).upd 2 (.pointer (some ⟨b1, 0, none⟩))).upd 5 (.int .i64 q))) ∧ St W g [] ((b1, blk (enc_Bundle a0) 83) :: []) w') ⟨mk_exF, (hS.re (.b .hb .n))⟩ ?_
 clear hS hF
 intro n22 q a w hI hq
 revert hq hI; revert q; intro x9 hI hq
 obtain ⟨⟨s23, rfl⟩, hS⟩ := hq
 obtain ⟨z20, hF, B0⟩ := iter_step hI
 clear hI
 dsimp only [r3_Bundle_b1] at hF
 iterate 2 (refine c_seq ?_)
 refine c_region <| oy hS y_move <| oy hS y_bin <| n_thenN ?_
 refine c_if (ht := fun c24 => ?_) (hf := fun c24 => ?_)
 · replace hF := bt c24 hF
   refine wp_skip <| c_seq <| c_block <| c_seq <| c_region <| oy hS y_move ?_
   obtain ⟨x25, D0, hF⟩ := ob hF
   refine oy hS (y_indexA (at'_bnd D0 rfl).1 (at'_bnd D0 (n := 4) rfl).2 underlying83 (by exact sz_api_Ins)) ?_
   refine oy hS (y_loadN (vs := (enc_Ins x25)) (fun w hS => hS.own (mH)) underlying81 rfl (by exact sz_api_Ins) (arr_box (o := 0) (xs := [a0.x0, a0.x1, a0.x2, a0.x3]) (pre := []) (post := []) D0 enc_len_Ins (by exact rfl) rfl)) ?_
   obtain ⟨r26, I0, hF⟩ := ob hF
   refine o_callS hS func52 rfl rfl (hc := (w_r3_Ins (a0 := x25) (hF := I0))) (h := ?_)
   clear hS; intro w hS
   refine oy hS y_not ?_
   refine o_split (ht := fun c27 => ?_) (hf := fun c27 => ?_)
   · replace hF := bt c27 hF
     iterate 7 (refine o_sk rfl rfl ?_)
     refine oy hS y_pickT <| oy hS y_move ?_
     iterate 2 (refine o_sk rfl rfl ?_)
     iterate 5 (refine o_sku rfl rfl ?_)
     refine o_sk rfl rfl ?_
     refine oy hS y_pickT <| n_thenN ?_
     refine c_if_true (h := ?_)
     refine c_seq <| c_region <| oy hS y_assign <| n_thenN ?_
     obtain rfl := osi hF
     obtain rfl : _ = r := B0
     exact wp_ret (wr1 hS)
   replace hF := bf c27 hF
   refine o_gu rfl rfl rfl <| oy hS y_move <| o_gu rfl rfl rfl ?_
   obtain ⟨x28, E0, hF⟩ := ob hF
   refine oy hS (y_indexA (at'_bnd E0 rfl).1 (at'_bnd E0 (n := 4) rfl).2 underlying83 (by exact sz_api_Ins)) ?_
   refine o_gu rfl rfl rfl <| oy hS (y_field fa_api_Ins_0) <| o_gu rfl rfl rfl ?_
   refine oy hS (y_load oH underlying3 rfl ((arr_box (o := 0) (xs := [a0.x0, a0.x1, a0.x2, a0.x3]) (pre := []) (post := []) E0 enc_len_Ins (by exact rfl) rfl) 0 _ rfl)) ?_
   refine o_gu rfl rfl rfl <| oy hS y_move <| o_gu rfl rfl rfl ?_
   obtain ⟨r29, J0, hF⟩ := ob hF
   refine o_callS hS func66 rfl rfl (hc := (w_r3_May (a0 := x28.Op) (a1 := x9) (hF := J0))) (h := ?_)
   clear hS; intro w hS
   refine o_gu rfl rfl rfl <| oy hS y_not <| oy hS y_pickF ?_
   refine o_split (ht := fun c30 => ?_) (hf := fun c30 => ?_)
   · replace hF := bt c30 hF
     iterate 2 (refine o_sk rfl rfl ?_)
     iterate 5 (refine o_sku rfl rfl ?_)
     refine o_sk rfl rfl ?_
     refine oy hS y_pickT <| n_thenN ?_
     refine c_if_true (h := ?_)
     refine c_seq <| c_region <| oy hS y_assign <| n_thenN ?_
     obtain rfl := osi hF
     obtain rfl : _ = r := B0
     exact wp_ret (wr1 hS)
   replace hF := bf c30 hF
   refine o_gu rfl rfl rfl <| oy hS y_move <| o_gu rfl rfl rfl ?_
   refine o_split (ht := fun c31 => ?_) (hf := fun c31 => ?_)
   · replace hF := bt c31 hF
     refine o_gu rfl rfl rfl <| oy hS y_move <| o_gu rfl rfl rfl ?_
     obtain ⟨x32, G0, hF⟩ := ob hF
     refine oy hS (y_indexA (at'_bnd G0 rfl).1 (at'_bnd G0 (n := 4) rfl).2 underlying83 (by exact sz_api_Ins)) ?_
     refine o_gu rfl rfl rfl <| oy hS (y_field fa_api_Ins_5) <| o_gu rfl rfl rfl ?_
     refine oy hS (y_load oH underlying9 rfl ((arr_box (o := 0) (xs := [a0.x0, a0.x1, a0.x2, a0.x3]) (pre := []) (post := []) G0 enc_len_Ins (by exact rfl) rfl) 5 _ rfl)) ?_
     refine o_gu rfl rfl rfl <| oy hS y_sneq <| o_gu rfl rfl rfl <| oy hS y_pickT <| oy hS y_pickF <| n_thenN ?_
     refine c_if (ht := fun c33 => ?_) (hf := fun c33 => ?_)
     · replace hF := bt c33 hF
       refine c_seq <| c_region <| oy hS y_assign <| n_thenN ?_
       obtain rfl := osi hF
       obtain rfl : _ = r := B0
       exact wp_ret (wr1 hS)
     replace hF := bf c33 hF
     refine wp_skip <| c_region <| oy hS y_move <| oy hS y_bin <| oy hS y_assign <| n_thenN ?_
     obtain rfl := osi hF
     exact ⟨_, B0, mk_exF, (hS.re (.b .hb .n))⟩
   replace hF := bf c31 hF
   iterate 5 (refine o_sk rfl rfl ?_)
   refine o_gu rfl rfl rfl ?_
   iterate 2 (refine oy hS y_pickF ?_)
   refine n_thenN ?_
   refine c_if_false (h := ?_)
   refine wp_skip <| c_region <| oy hS y_move <| oy hS y_bin <| oy hS y_assign <| n_thenN ?_
   obtain rfl := osi hF
   exact ⟨_, B0, mk_exF, (hS.re (.b .hb .n))⟩
 replace hF := bf c24 hF
 refine wp_exit ?_
 refine c_seq <| c_region <| oy hS y_assign <| n_thenN ?_
 obtain rfl := osi hF
 obtain rfl : _ = r := B0
 exact wp_ret (wr1 hS)
theorem w_r3_Bundle {g : Frag} {a0 : (A4 T_Ins)} {a1 : Bool} {r : Bool}  (hF : r3_Bundle a0 a1 = some r) : LCs Tryz.prog 37 #[.agg (enc_Bundle a0).toArray, .bool a1] g (.bool r) := w_r3_Bundle_  hF

noncomputable def r3_Code_b1 (a0 : (List (A4 T_Ins))) : Int → Option (Step Int Bool) := fun x17 => bif decide (x17 < (a0.length : Int)) then bif decide (x17 ≤ 1024) then (at' a0 x17).bind fun x40 => (r3_Bundle x40 true).bind fun r52 => bif !r52 then some (.done (false)) else some (.next (IntKind.i64.wrap (x17 + 1))) else some (.done (decide ((a0.length : Int) ≤ 1024))) else some (.done (decide ((a0.length : Int) ≤ 1024)))
noncomputable def r3_Code (a0 : (List (A4 T_Ins))) : Option Bool :=
  loop (σ := Int) (r3_Code_b1 a0) 0
theorem w_r3_Code_ {g : Frag} {a0 : (List (A4 T_Ins))} {v0_ : Value} {r : Bool} (h0 : SlT g enc_Bundle 24 a0 v0_) (hF : r3_Code a0 = some r) : LCs Tryz.prog 19 #[v0_] g (.bool r) := by
 unfold r3_Code at hF
 refine lc_body (k := 23) (av := [v0_]) func19 rfl rfl (h := fun W hS => ?_)
 refine c_seq <| c_region <| oy hS y_assign <| n_thenN ?_
 iterate 2 (refine c_seq ?_)
 refine c_region <| oy hS y_assign <| n_thenN <| c_block ?_
 refine c_loopP hF (fun (q : Int) a w' => (∃ s : Nat → Value, a = Ac (((Fm.dead 23 s).upd 0 v0_).upd 3 (.int .i64 q))) ∧ St W g [] [] w') ⟨mk_exF, (hS.re (.n))⟩ ?_
 clear hS hF
 intro n36 q a w hI hq
 revert hq hI; revert q; intro x17 hI hq
 obtain ⟨⟨s37, rfl⟩, hS⟩ := hq
 obtain ⟨z34, hF, B0⟩ := iter_step hI
 clear hI
 dsimp only [r3_Code_b1] at hF
 iterate 2 (refine c_seq ?_)
 refine c_region ?_
 iterate 2 (refine oy hS y_move ?_)
 refine oy hS (y_len h0 underlying38) <| oy hS y_bin ?_
 refine o_split (ht := fun c38 => ?_) (hf := fun c38 => ?_)
 · replace hF := bt c38 hF
   refine o_gu rfl rfl rfl <| oy hS y_move <| o_gu rfl rfl rfl <| oy hS y_bin <| oy hS y_pickT <| n_thenN ?_
   refine c_if (ht := fun c39 => ?_) (hf := fun c39 => ?_)
   · replace hF := bt c39 hF
     refine wp_skip <| c_seq <| c_block <| c_seq <| c_region ?_
     iterate 2 (refine oy hS y_move ?_)
     obtain ⟨x40, D0, hF⟩ := ob hF
     obtain ⟨b41, o42, c43, N0, e45, R0, E0, G0, I0, J0, K0⟩ := SlT.at D0 h0 enc_len_Bundle
     refine oy hS (y_index E0 G0 I0 underlying38 el_api_Bundle.size) ?_
     refine oy hS (y_loadN (vs := (enc_Bundle x40)) (fun w hS => hS.block J0) underlying83 rfl (by exact sz_api_Bundle) (fun j u hj => K0 j u hj)) ?_
     obtain ⟨r52, M0, hF⟩ := ob hF
     refine o_callS hS func37 rfl rfl (hc := (w_r3_Bundle (a0 := x40) (a1 := true) (hF := M0))) (h := ?_)
     clear hS; intro w hS
     refine oy hS y_not <| n_thenN ?_
     refine c_if (ht := fun c53 => ?_) (hf := fun c53 => ?_)
     · replace hF := bt c53 hF
       refine c_seq <| c_region <| oy hS y_assign <| n_thenN ?_
       obtain rfl := osi hF
       obtain rfl : _ = r := B0
       exact wp_ret (wr1 hS)
     replace hF := bf c53 hF
     refine wp_skip <| c_region <| oy hS y_move <| oy hS y_bin <| oy hS y_assign <| n_thenN ?_
     obtain rfl := osi hF
     exact ⟨_, B0, mk_exF, (hS.re (.n))⟩
   replace hF := bf c39 hF
   refine wp_exit ?_
   refine c_seq <| c_region <| oy hS y_move <| oy hS (y_len h0 underlying38) <| oy hS y_bin <| oy hS y_assign <| n_thenN ?_
   obtain rfl := osi hF
   obtain rfl : _ = r := B0
   exact wp_ret (wr1 hS)
 replace hF := bf c38 hF
 iterate 2 (refine o_sk rfl rfl ?_)
 refine oy hS y_pickF <| n_thenN ?_
 refine c_if_false (h := ?_)
 refine wp_exit ?_
 refine c_seq <| c_region <| oy hS y_move <| oy hS (y_len h0 underlying38) <| oy hS y_bin <| oy hS y_assign <| n_thenN ?_
 obtain rfl := osi hF
 obtain rfl : _ = r := B0
 exact wp_ret (wr1 hS)
theorem w_r3_Code {g : Frag} {a0 : (List (A4 T_Ins))} {v0_ : Value} {r : Bool} (h0 : SlT g enc_Bundle 24 a0 v0_) (hF : r3_Code a0 = some r) : LCs Tryz.prog 19 #[v0_] g (.bool r) := w_r3_Code_ h0 hF

noncomputable def r19_Image (a0 : T_Image) : Option Bool :=
  (r3_Code a0.Code).bind fun r2 => bif r2 then bif decide ((a0.Data.length : Int) ≤ 256) then some (r0_Num a0.Entry (a0.Code.length : Int)) else some (false) else some (false)
theorem w_r19_Image_ {g : Frag} {a0 : T_Image} {v0_ : Value} {r : Bool} (h0 : Rd_Image g a0 v0_) (hF : r19_Image a0 = some r) : LCs Tryz.prog 6 #[v0_] g (.bool r) := by
 obtain ⟨B0, D0, rfl, E0, G0⟩ := h0
 unfold r19_Image at hF
 refine lc_body (k := 20) (av := [.agg (cl_Image B0 D0 a0.Entry).toArray]) func6 rfl rfl (h := fun W hS => ?_)
 refine c_seq <| c_region ?_
 refine o_boxP (cl := (cl_Image B0 D0 a0.Entry)) rfl hS ?_
 clear hS; intro b1 w hS
 refine oy hS y_assign <| n_thenN <| c_seq <| c_region <| oy hS (y_field fa_api_Image_0) <| oy hS (y_load oH underlying38 rfl rfl) ?_
 obtain ⟨r2, hr2, hF⟩ := ob hF
 refine o_callS hS func19 rfl rfl (hc := (w_r3_Code (a0 := a0.Code) (h0 := E0.plus) (hF := hr2))) (h := ?_)
 clear hS; intro w hS
 refine o_split (ht := fun c3 => ?_) (hf := fun c3 => ?_)
 · replace hF := bt c3 hF
   refine o_gu rfl rfl rfl <| oy hS (y_field fa_api_Image_1) <| o_gu rfl rfl rfl <| oy hS (y_load oH underlying31 rfl rfl) <| o_gu rfl rfl rfl <| oy hS (y_len G0 underlying31) <| o_gu rfl rfl rfl <| oy hS y_bin ?_
   refine oy hS y_pickT ?_
   refine o_split (ht := fun c4 => ?_) (hf := fun c4 => ?_)
   · replace hF := bt c4 hF
     refine o_gu rfl rfl rfl <| oy hS (y_field fa_api_Image_2) <| o_gu rfl rfl rfl <| oy hS (y_load oH underlying3 rfl rfl) <| o_gu rfl rfl rfl <| oy hS (y_field fa_api_Image_0) <| o_gu rfl rfl rfl <| oy hS (y_load oH underlying38 rfl rfl) ?_
     refine o_gu rfl rfl rfl <| oy hS (y_len E0 underlying38) <| o_gu rfl rfl rfl ?_
     refine o_callS hS func7 rfl rfl (hc := (w_r0_Num (a0 := a0.Entry) (a1 := (a0.Code.length : Int)))) (h := ?_)
     clear hS; intro w hS
     refine oy hS y_pickT <| oy hS y_assign <| n_thenN ?_
     obtain rfl := osi hF
     exact wp_ret (wr1 hS)
   replace hF := bf c4 hF
   iterate 6 (refine o_sk rfl rfl ?_)
   refine oy hS y_pickF <| oy hS y_assign <| n_thenN ?_
   obtain rfl := osi hF
   exact wp_ret (wr1 hS)
 replace hF := bf c3 hF
 iterate 4 (refine o_sk rfl rfl ?_)
 refine oy hS y_pickF <| oy hS y_move ?_
 iterate 6 (refine o_sk rfl rfl ?_)
 refine oy hS y_pickF <| oy hS y_assign <| n_thenN ?_
 obtain rfl := osi hF
 exact wp_ret (wr1 hS)
theorem w_r19_Image {g : Frag} {a0 : T_Image} {v0_ : Value} {r : Bool} (h0 : Rd_Image g a0 v0_) (hF : r19_Image a0 = some r) : LCs Tryz.prog 6 #[v0_] g (.bool r) := w_r19_Image_ h0 hF

noncomputable def r0_CopyWords_b1 (a0 : (List Int)) : ((List Int) × Int) → Option (Step ((List Int) × Int) (List Int)) := fun (x24, x29) => bif decide (x29 < (a0.length : Int)) then (at' a0 x29).bind fun x57 => (app' x24 ([x57] : List Int)).bind fun B0 => some (.next (B0, IntKind.i64.wrap (x29 + 1))) else some (.done (x24))
noncomputable def r0_CopyWords (a0 : (List Int)) : Option (List Int) :=
  loop (σ := ((List Int) × Int)) (r0_CopyWords_b1 a0) ([], 0)
theorem w_r0_CopyWords_ {g : Frag} {a0 : (List Int)} {v0_ : Value} {r : (List Int)} (h0 : SlT g enc_uint32 1 a0 v0_) (hF : r0_CopyWords a0 = some r) : LC Tryz.prog 67 #[v0_] g [] (fun v L => ∃ (u0 : Value) (M0 : Own), u0 = v ∧ L = (M0 ++ []) ∧ OwT 87 enc_uint32 1 r u0 M0) := by
 unfold r0_CopyWords at hF
 refine lc_body (k := 19) (av := [v0_]) func67 rfl rfl (h := fun W hS => ?_)
 refine c_seq <| c_region <| oy hS y_assign <| n_thenN <| c_seq <| c_region <| oy hS y_assign <| n_thenN ?_
 iterate 2 (refine c_seq ?_)
 refine c_region <| oy hS y_assign <| n_thenN <| c_block ?_
 refine c_loopP hF (fun (q : ((List Int) × Int)) a w' => ∃ (v25 : Value) (B0 : Own), OwT 87 enc_uint32 1 q.1 v25 B0 ∧ (∃ s : Nat → Value, a = Ac ((((Fm.dead 19 s).upd 0 v0_).upd 3 v25).upd 4 (.int .i64 q.2))) ∧ St W g [] (B0 ++ []) w') ⟨(.slice none 0 0), [], (OwT.nil _ _ _), mk_exF, (hS.re (.take (X := []) (.here [] _) .n))⟩ ?_
 clear hS hF
 intro n54 q a w hI hq
 obtain ⟨x24, x29⟩ := q
 obtain ⟨v25, B0, h26, ⟨s55, rfl⟩, hS⟩ := hq
 replace h26 : OwT 87 enc_uint32 1 x24 v25 B0 := h26
 obtain ⟨z51, hF, D0⟩ := iter_step hI
 clear hI
 dsimp only [r0_CopyWords_b1] at hF
 iterate 2 (refine c_seq ?_)
 refine c_region ?_
 iterate 2 (refine oy hS y_move ?_)
 refine oy hS (y_len h0 underlying31) <| oy hS y_bin <| n_thenN ?_
 refine c_if (ht := fun c56 => ?_) (hf := fun c56 => ?_)
 · replace hF := bt c56 hF
   refine wp_skip <| c_seq <| c_block <| c_region ?_
   iterate 3 (refine oy hS y_move ?_)
   obtain ⟨x57, G0, hF⟩ := ob hF
   obtain ⟨b58, o59, c60, U0, e62, V0, I0, J0, K0, N0, R0⟩ := SlT.at G0 h0 enc_len_uint32
   refine oy hS (y_index I0 J0 K0 underlying31 el_uint32.size) <| oy hS (y_load (fun w hS => hS.block N0) underlying87 rfl (R0 0 _ rfl)) ?_
   refine o_buildT val_uint32 ([x57] : List Int) hS el_uint32 (fun _ => rfl) enc_len_uint32 (by decide) rfl (by decide) (hp := rfl) (h := ?_)
   clear hS; intro b69 w hS h70
   have hS : St W g [] ([(b69, blk (([x57] : List Int).flatMap enc_uint32) 87)] ++ (B0 ++ [])) w := hS
   obtain ⟨X0, E0, hF⟩ := ob hF
   refine o_appPn (ys := ([x57] : List Int)) (LX := B0) E0 hS el_uint32 h26 rfl enc_len_uint32 (enc_ones_uint32 _) (by decide) ?_
   clear hS; intro v72 T0 w h74 hS
   refine oy hS y_assign ?_
   refine n_anyN ?_
   refine c_region <| oy hS y_move <| oy hS y_bin <| oy hS y_assign <| n_thenN ?_
   obtain rfl := osi hF
   exact ⟨_, D0, v72, T0, h74, mk_exF, (hS.re (.t .h .n))⟩
 replace hF := bf c56 hF
 refine wp_exit ?_
 refine c_seq <| c_region <| oy hS y_move <| oy hS y_assign <| n_thenN ?_
 obtain rfl := osi hF
 obtain rfl : _ = r := D0
 refine wp_ret (r_ret (vs := [v25]) (hS.re (.t .h .n)) (rsC res_tmp rsN) rfl ⟨_, _, rfl, (by first | rfl | simp only [aa, ac, al, an]), h26⟩)
theorem w_r0_CopyWords {g : Frag} {a0 : (List Int)} {v0_ : Value} {r : (List Int)} (h0 : SlT g enc_uint32 1 a0 v0_) (hF : r0_CopyWords a0 = some r) : LC Tryz.prog 67 #[v0_] g [] (fun v L => ∃ (u0 : Value) (M0 : Own), u0 = v ∧ L = (M0 ++ []) ∧ OwT 87 enc_uint32 1 r u0 M0) := w_r0_CopyWords_ h0 hF

noncomputable def r5_New (a0 : (List Int)) : Option T_State :=
  (make' 16 (0 : Int)).bind fun zs2 => (make' 256 (0 : Int)).bind fun zs7 => (r0_CopyWords a0).bind fun r12 => some (⟨zs2, zs7, r12, 0, [], 0, [], 0, [], 0, 0⟩ : T_State)
theorem w_r5_New_ {g : Frag} {a0 : (List Int)} {v0_ : Value} {r : T_State} (h0 : SlT g enc_uint32 1 a0 v0_) (hF : r5_New a0 = some r) : LC Tryz.prog 38 #[v0_] g [] (fun v L => ∃ (u0 : Value) (M0 : Own), u0 = v ∧ L = (M0 ++ []) ∧ Ow_State r u0 M0) := by
 unfold r5_New at hF
 refine lc_body (k := 8) (av := [v0_]) func38 rfl rfl (h := fun W hS => ?_)
 refine c_seq <| c_region ?_
 refine o_allocP (cl := (cl_State (.slice none 0 0) (.slice none 0 0) (.slice none 0 0) 0 (.slice none 0 0) 0 (.slice none 0 0) 0 (.slice none 0 0) 0 0)) zr_api_State rfl hS ?_
 clear hS; intro b1 w hS
 refine n_thenN <| c_seq ?_
 obtain ⟨zs2, D0, hF⟩ := ob hF
 obtain ⟨zs7, E0, hF⟩ := ob hF
 obtain ⟨r12, G0, hF⟩ := ob hF
 refine c_heldL 5 6 (by kernel_rfl) rfl hS ?_
 clear hS; intro w hS
 refine hy0 2 rfl wn (by kernel_rfl) (nq (P := Tryz.prog) (fn := Tryz.f38)) (fun _ => hS.cb) y_move ?_
 refine hb3 0 1 3 (by kernel_rfl) (hb_op rfl wn (nl (P := Tryz.prog) (fn := Tryz.f38)) ?_) (hb_op rfl wn (nl (P := Tryz.prog) (fn := Tryz.f38)) ?_) (hb_op rfl wn (nl (P := Tryz.prog) (fn := Tryz.f38)) ?_)
 · skip
   refine o_makeP D0 hS el_uint32 enc_len_uint32 mz_uint32 (by decide) ?_
   clear hS; intro v3 LX4 w h5 hS
   refine hb_next (fun _ => (hS.re (.b (.d .hb) .n)).cb) ?_
   refine hb2 1 3 (by kernel_rfl) (hb_op rfl wn (nl (P := Tryz.prog) (fn := Tryz.f38)) ?_) (hb_op rfl wn (nl (P := Tryz.prog) (fn := Tryz.f38)) ?_)
   · skip
     refine o_makeP E0 hS el_uint32 enc_len_uint32 mz_uint32 (by decide) ?_
     clear hS; intro v8 LX9 w h10 hS
     refine hb_next (fun _ => (hS.re (.b (.d (.d .hb)) .n)).cb) ?_
     refine hb1 3 (by kernel_rfl) (hb_op rfl wn (nl (P := Tryz.prog) (fn := Tryz.f38)) ?_)
     refine o_call0 hS func67 rfl rfl (hc := (w_r0_CopyWords (a0 := a0) (h0 := h0.plus) (hF := G0))) (h := ?_)
     clear hS; intro v13 I0 w hS B0
     obtain ⟨v_0_16, LX_0_17, rfl, rfl, h_0_18⟩ := B0
     simp only [aa, ac, al] at hS
     have hC := (hS.re (.b (.d (.d (.d .hb))) .n)).cb
     refine hb_next (fun _ => hC) ?_
     refine hy0 4 rfl wn (by kernel_rfl) (nq (P := Tryz.prog) (fn := Tryz.f38)) (fun _ => hC) (y_build (cl := (cl_State v3 v8 v_0_16 0 (.slice none 0 0) 0 (.slice none 0 0) 0 (.slice none 0 0) 0 0)) bt_api_State rfl (fillS (vs := [v3]) rfl (h5).cell rfl rfl (fillS (vs := [v8]) rfl (h10).cell rfl rfl (fillS (vs := [v_0_16]) rfl (h_0_18).cell rfl rfl fillN)))) ?_
     refine hb1 5 (by kernel_rfl) (hb_op rfl wn (nl (P := Tryz.prog) (fn := Tryz.f38)) ?_)
     have hS := hS.re (.b (.d (.d (.d .hb))) (.t .h (.t .h (.t .h .n))))
     refine o_storeW (vs := (cl_State v3 v8 v_0_16 0 (.slice none 0 0) 0 (.slice none 0 0) 0 (.slice none 0 0) 0 0)) hS (by exact rfl) (Upd.here _) (by exact sz_api_State) (one_State (h5).one (h10).one (h_0_18).one rfl rfl rfl) ?_
     clear hS; intro w hS
     refine hb_next (fun h => absurd h (by decide)) ?_
     refine hb_done (by kernel_rfl) ?_
     obtain rfl := osi hF
     refine wp_ret (r_ret (vs := [.agg (cl_State v3 v8 v_0_16 0 (.slice none 0 0) 0 (.slice none 0 0) 0 (.slice none 0 0) 0 0).toArray]) (hS.re (.t (.e (.d (.d .h))) (.t (.e (.d .h)) (.t (.e .h) .n)))) (rsC (res_cell (hS.own (mH)) underlying62 rfl (by exact sz_api_State)) rsN) rfl ⟨_, _, rfl, (by first | rfl | simp only [aa, ac, al, an]), ⟨_, _, _, _, _, _, _, _, _, _, _, _, rfl, rfl, h5, h10, h_0_18, OwT.nil _ _ _, OwT.nil _ _ _, OwT.nil _ _ _⟩⟩)
   refine o_call0 hS func67 rfl rfl (hc := (w_r0_CopyWords (a0 := a0) (h0 := h0.plus) (hF := G0))) (h := ?_)
   clear hS; intro v13 I0 w hS B0
   obtain ⟨v_0_16, LX_0_17, rfl, rfl, h_0_18⟩ := B0
   simp only [aa, ac, al] at hS
   refine hb_next (fun _ => (hS.re (.b (.d (.d .hb)) .n)).cb) ?_
   refine hb1 1 (by kernel_rfl) (hb_op rfl wn (nl (P := Tryz.prog) (fn := Tryz.f38)) ?_)
   refine o_makeP E0 hS el_uint32 enc_len_uint32 mz_uint32 (by decide) ?_
   clear hS; intro v8 LX9 w h10 hS
   have hC := (hS.re (.b (.d (.d (.d .hb))) .n)).cb
   refine hb_next (fun _ => hC) ?_
   refine hy0 4 rfl wn (by kernel_rfl) (nq (P := Tryz.prog) (fn := Tryz.f38)) (fun _ => hC) (y_build (cl := (cl_State v3 v8 v_0_16 0 (.slice none 0 0) 0 (.slice none 0 0) 0 (.slice none 0 0) 0 0)) bt_api_State rfl (fillS (vs := [v3]) rfl (h5).cell rfl rfl (fillS (vs := [v8]) rfl (h10).cell rfl rfl (fillS (vs := [v_0_16]) rfl (h_0_18).cell rfl rfl fillN)))) ?_
   refine hb1 5 (by kernel_rfl) (hb_op rfl wn (nl (P := Tryz.prog) (fn := Tryz.f38)) ?_)
   have hS := hS.re (.b (.d (.d (.d .hb))) (.t .h (.t .h (.t .h .n))))
   refine o_storeW (vs := (cl_State v3 v8 v_0_16 0 (.slice none 0 0) 0 (.slice none 0 0) 0 (.slice none 0 0) 0 0)) hS (by exact rfl) (Upd.here _) (by exact sz_api_State) (one_State (h5).one (h10).one (h_0_18).one rfl rfl rfl) ?_
   clear hS; intro w hS
   refine hb_next (fun h => absurd h (by decide)) ?_
   refine hb_done (by kernel_rfl) ?_
   obtain rfl := osi hF
   refine wp_ret (r_ret (vs := [.agg (cl_State v3 v8 v_0_16 0 (.slice none 0 0) 0 (.slice none 0 0) 0 (.slice none 0 0) 0 0).toArray]) (hS.re (.t (.e (.d (.d .h))) (.t (.e .h) (.t (.e .h) .n)))) (rsC (res_cell (hS.own (mH)) underlying62 rfl (by exact sz_api_State)) rsN) rfl ⟨_, _, rfl, (by first | rfl | simp only [aa, ac, al, an]), ⟨_, _, _, _, _, _, _, _, _, _, _, _, rfl, rfl, h5, h10, h_0_18, OwT.nil _ _ _, OwT.nil _ _ _, OwT.nil _ _ _⟩⟩)
 · skip
   refine o_makeP E0 hS el_uint32 enc_len_uint32 mz_uint32 (by decide) ?_
   clear hS; intro v8 LX9 w h10 hS
   refine hb_next (fun _ => (hS.re (.b (.d .hb) .n)).cb) ?_
   refine hb2 0 3 (by kernel_rfl) (hb_op rfl wn (nl (P := Tryz.prog) (fn := Tryz.f38)) ?_) (hb_op rfl wn (nl (P := Tryz.prog) (fn := Tryz.f38)) ?_)
   · skip
     refine o_makeP D0 hS el_uint32 enc_len_uint32 mz_uint32 (by decide) ?_
     clear hS; intro v3 LX4 w h5 hS
     refine hb_next (fun _ => (hS.re (.b (.d (.d .hb)) .n)).cb) ?_
     refine hb1 3 (by kernel_rfl) (hb_op rfl wn (nl (P := Tryz.prog) (fn := Tryz.f38)) ?_)
     refine o_call0 hS func67 rfl rfl (hc := (w_r0_CopyWords (a0 := a0) (h0 := h0.plus) (hF := G0))) (h := ?_)
     clear hS; intro v13 I0 w hS B0
     obtain ⟨v_0_16, LX_0_17, rfl, rfl, h_0_18⟩ := B0
     simp only [aa, ac, al] at hS
     have hC := (hS.re (.b (.d (.d (.d .hb))) .n)).cb
     refine hb_next (fun _ => hC) ?_
     refine hy0 4 rfl wn (by kernel_rfl) (nq (P := Tryz.prog) (fn := Tryz.f38)) (fun _ => hC) (y_build (cl := (cl_State v3 v8 v_0_16 0 (.slice none 0 0) 0 (.slice none 0 0) 0 (.slice none 0 0) 0 0)) bt_api_State rfl (fillS (vs := [v3]) rfl (h5).cell rfl rfl (fillS (vs := [v8]) rfl (h10).cell rfl rfl (fillS (vs := [v_0_16]) rfl (h_0_18).cell rfl rfl fillN)))) ?_
     refine hb1 5 (by kernel_rfl) (hb_op rfl wn (nl (P := Tryz.prog) (fn := Tryz.f38)) ?_)
     have hS := hS.re (.b (.d (.d (.d .hb))) (.t .h (.t .h (.t .h .n))))
     refine o_storeW (vs := (cl_State v3 v8 v_0_16 0 (.slice none 0 0) 0 (.slice none 0 0) 0 (.slice none 0 0) 0 0)) hS (by exact rfl) (Upd.here _) (by exact sz_api_State) (one_State (h5).one (h10).one (h_0_18).one rfl rfl rfl) ?_
     clear hS; intro w hS
     refine hb_next (fun h => absurd h (by decide)) ?_
     refine hb_done (by kernel_rfl) ?_
     obtain rfl := osi hF
     refine wp_ret (r_ret (vs := [.agg (cl_State v3 v8 v_0_16 0 (.slice none 0 0) 0 (.slice none 0 0) 0 (.slice none 0 0) 0 0).toArray]) (hS.re (.t (.e (.d .h)) (.t (.e (.d .h)) (.t (.e .h) .n)))) (rsC (res_cell (hS.own (mH)) underlying62 rfl (by exact sz_api_State)) rsN) rfl ⟨_, _, rfl, (by first | rfl | simp only [aa, ac, al, an]), ⟨_, _, _, _, _, _, _, _, _, _, _, _, rfl, rfl, h5, h10, h_0_18, OwT.nil _ _ _, OwT.nil _ _ _, OwT.nil _ _ _⟩⟩)
   refine o_call0 hS func67 rfl rfl (hc := (w_r0_CopyWords (a0 := a0) (h0 := h0.plus) (hF := G0))) (h := ?_)
   clear hS; intro v13 I0 w hS B0
   obtain ⟨v_0_16, LX_0_17, rfl, rfl, h_0_18⟩ := B0
   simp only [aa, ac, al] at hS
   refine hb_next (fun _ => (hS.re (.b (.d (.d .hb)) .n)).cb) ?_
   refine hb1 0 (by kernel_rfl) (hb_op rfl wn (nl (P := Tryz.prog) (fn := Tryz.f38)) ?_)
   refine o_makeP D0 hS el_uint32 enc_len_uint32 mz_uint32 (by decide) ?_
   clear hS; intro v3 LX4 w h5 hS
   have hC := (hS.re (.b (.d (.d (.d .hb))) .n)).cb
   refine hb_next (fun _ => hC) ?_
   refine hy0 4 rfl wn (by kernel_rfl) (nq (P := Tryz.prog) (fn := Tryz.f38)) (fun _ => hC) (y_build (cl := (cl_State v3 v8 v_0_16 0 (.slice none 0 0) 0 (.slice none 0 0) 0 (.slice none 0 0) 0 0)) bt_api_State rfl (fillS (vs := [v3]) rfl (h5).cell rfl rfl (fillS (vs := [v8]) rfl (h10).cell rfl rfl (fillS (vs := [v_0_16]) rfl (h_0_18).cell rfl rfl fillN)))) ?_
   refine hb1 5 (by kernel_rfl) (hb_op rfl wn (nl (P := Tryz.prog) (fn := Tryz.f38)) ?_)
   have hS := hS.re (.b (.d (.d (.d .hb))) (.t .h (.t .h (.t .h .n))))
   refine o_storeW (vs := (cl_State v3 v8 v_0_16 0 (.slice none 0 0) 0 (.slice none 0 0) 0 (.slice none 0 0) 0 0)) hS (by exact rfl) (Upd.here _) (by exact sz_api_State) (one_State (h5).one (h10).one (h_0_18).one rfl rfl rfl) ?_
   clear hS; intro w hS
   refine hb_next (fun h => absurd h (by decide)) ?_
   refine hb_done (by kernel_rfl) ?_
   obtain rfl := osi hF
   refine wp_ret (r_ret (vs := [.agg (cl_State v3 v8 v_0_16 0 (.slice none 0 0) 0 (.slice none 0 0) 0 (.slice none 0 0) 0 0).toArray]) (hS.re (.t (.e .h) (.t (.e (.d .h)) (.t (.e .h) .n)))) (rsC (res_cell (hS.own (mH)) underlying62 rfl (by exact sz_api_State)) rsN) rfl ⟨_, _, rfl, (by first | rfl | simp only [aa, ac, al, an]), ⟨_, _, _, _, _, _, _, _, _, _, _, _, rfl, rfl, h5, h10, h_0_18, OwT.nil _ _ _, OwT.nil _ _ _, OwT.nil _ _ _⟩⟩)
 refine o_call0 hS func67 rfl rfl (hc := (w_r0_CopyWords (a0 := a0) (h0 := h0.plus) (hF := G0))) (h := ?_)
 clear hS; intro v13 I0 w hS B0
 obtain ⟨v_0_16, LX_0_17, rfl, rfl, h_0_18⟩ := B0
 simp only [aa, ac, al] at hS
 refine hb_next (fun _ => (hS.re (.b (.d .hb) .n)).cb) ?_
 refine hb2 0 1 (by kernel_rfl) (hb_op rfl wn (nl (P := Tryz.prog) (fn := Tryz.f38)) ?_) (hb_op rfl wn (nl (P := Tryz.prog) (fn := Tryz.f38)) ?_)
 · skip
   refine o_makeP D0 hS el_uint32 enc_len_uint32 mz_uint32 (by decide) ?_
   clear hS; intro v3 LX4 w h5 hS
   refine hb_next (fun _ => (hS.re (.b (.d (.d .hb)) .n)).cb) ?_
   refine hb1 1 (by kernel_rfl) (hb_op rfl wn (nl (P := Tryz.prog) (fn := Tryz.f38)) ?_)
   refine o_makeP E0 hS el_uint32 enc_len_uint32 mz_uint32 (by decide) ?_
   clear hS; intro v8 LX9 w h10 hS
   have hC := (hS.re (.b (.d (.d (.d .hb))) .n)).cb
   refine hb_next (fun _ => hC) ?_
   refine hy0 4 rfl wn (by kernel_rfl) (nq (P := Tryz.prog) (fn := Tryz.f38)) (fun _ => hC) (y_build (cl := (cl_State v3 v8 v_0_16 0 (.slice none 0 0) 0 (.slice none 0 0) 0 (.slice none 0 0) 0 0)) bt_api_State rfl (fillS (vs := [v3]) rfl (h5).cell rfl rfl (fillS (vs := [v8]) rfl (h10).cell rfl rfl (fillS (vs := [v_0_16]) rfl (h_0_18).cell rfl rfl fillN)))) ?_
   refine hb1 5 (by kernel_rfl) (hb_op rfl wn (nl (P := Tryz.prog) (fn := Tryz.f38)) ?_)
   have hS := hS.re (.b (.d (.d (.d .hb))) (.t .h (.t .h (.t .h .n))))
   refine o_storeW (vs := (cl_State v3 v8 v_0_16 0 (.slice none 0 0) 0 (.slice none 0 0) 0 (.slice none 0 0) 0 0)) hS (by exact rfl) (Upd.here _) (by exact sz_api_State) (one_State (h5).one (h10).one (h_0_18).one rfl rfl rfl) ?_
   clear hS; intro w hS
   refine hb_next (fun h => absurd h (by decide)) ?_
   refine hb_done (by kernel_rfl) ?_
   obtain rfl := osi hF
   refine wp_ret (r_ret (vs := [.agg (cl_State v3 v8 v_0_16 0 (.slice none 0 0) 0 (.slice none 0 0) 0 (.slice none 0 0) 0 0).toArray]) (hS.re (.t (.e (.d .h)) (.t (.e .h) (.t (.e .h) .n)))) (rsC (res_cell (hS.own (mH)) underlying62 rfl (by exact sz_api_State)) rsN) rfl ⟨_, _, rfl, (by first | rfl | simp only [aa, ac, al, an]), ⟨_, _, _, _, _, _, _, _, _, _, _, _, rfl, rfl, h5, h10, h_0_18, OwT.nil _ _ _, OwT.nil _ _ _, OwT.nil _ _ _⟩⟩)
 refine o_makeP E0 hS el_uint32 enc_len_uint32 mz_uint32 (by decide) ?_
 clear hS; intro v8 LX9 w h10 hS
 refine hb_next (fun _ => (hS.re (.b (.d (.d .hb)) .n)).cb) ?_
 refine hb1 0 (by kernel_rfl) (hb_op rfl wn (nl (P := Tryz.prog) (fn := Tryz.f38)) ?_)
 refine o_makeP D0 hS el_uint32 enc_len_uint32 mz_uint32 (by decide) ?_
 clear hS; intro v3 LX4 w h5 hS
 have hC := (hS.re (.b (.d (.d (.d .hb))) .n)).cb
 refine hb_next (fun _ => hC) ?_
 refine hy0 4 rfl wn (by kernel_rfl) (nq (P := Tryz.prog) (fn := Tryz.f38)) (fun _ => hC) (y_build (cl := (cl_State v3 v8 v_0_16 0 (.slice none 0 0) 0 (.slice none 0 0) 0 (.slice none 0 0) 0 0)) bt_api_State rfl (fillS (vs := [v3]) rfl (h5).cell rfl rfl (fillS (vs := [v8]) rfl (h10).cell rfl rfl (fillS (vs := [v_0_16]) rfl (h_0_18).cell rfl rfl fillN)))) ?_
 refine hb1 5 (by kernel_rfl) (hb_op rfl wn (nl (P := Tryz.prog) (fn := Tryz.f38)) ?_)
 have hS := hS.re (.b (.d (.d (.d .hb))) (.t .h (.t .h (.t .h .n))))
 refine o_storeW (vs := (cl_State v3 v8 v_0_16 0 (.slice none 0 0) 0 (.slice none 0 0) 0 (.slice none 0 0) 0 0)) hS (by exact rfl) (Upd.here _) (by exact sz_api_State) (one_State (h5).one (h10).one (h_0_18).one rfl rfl rfl) ?_
 clear hS; intro w hS
 refine hb_next (fun h => absurd h (by decide)) ?_
 refine hb_done (by kernel_rfl) ?_
 obtain rfl := osi hF
 refine wp_ret (r_ret (vs := [.agg (cl_State v3 v8 v_0_16 0 (.slice none 0 0) 0 (.slice none 0 0) 0 (.slice none 0 0) 0 0).toArray]) (hS.re (.t (.e .h) (.t (.e .h) (.t (.e .h) .n)))) (rsC (res_cell (hS.own (mH)) underlying62 rfl (by exact sz_api_State)) rsN) rfl ⟨_, _, rfl, (by first | rfl | simp only [aa, ac, al, an]), ⟨_, _, _, _, _, _, _, _, _, _, _, _, rfl, rfl, h5, h10, h_0_18, OwT.nil _ _ _, OwT.nil _ _ _, OwT.nil _ _ _⟩⟩)
theorem w_r5_New {g : Frag} {a0 : (List Int)} {v0_ : Value} {r : T_State} (h0 : SlT g enc_uint32 1 a0 v0_) (hF : r5_New a0 = some r) : LC Tryz.prog 38 #[v0_] g [] (fun v L => ∃ (u0 : Value) (M0 : Own), u0 = v ∧ L = (M0 ++ []) ∧ Ow_State r u0 M0) := w_r5_New_ h0 hF

noncomputable def r19_Load_b2 (a0 : (List Int)) : (Int × (List Int)) → Option (Step (Int × (List Int)) (Step (List Int) T_State)) := fun (B0, D0) => bif decide (B0 < (a0.length : Int)) then (at' a0 B0).bind fun G0 => (set' D0 B0 G0).bind fun E0 => some (.next (IntKind.i64.wrap (B0 + 1), E0)) else some (.done (.next D0))
noncomputable def r19_Load_k1 (r2 : T_State) (a1 : Int) : (List Int) → Option T_State := fun B0 => some (⟨r2.Regs, B0, r2.In_, r2.Taken, r2.Out, a1, r2.Stack, r2.Stop, r2.Fly, r2.Jump, r2.Delay⟩ : T_State)
noncomputable def r19_Load (a0 : (List Int)) (a1 : Int) (a2 : (List Int)) : Option T_State :=
  (r5_New a2).bind fun r2 => cut (σ := (List Int)) (loop (σ := (Int × (List Int))) (r19_Load_b2 a0) (0, r2.Mem)) (r19_Load_k1 r2 a1)
theorem w_r19_Load_ {g : Frag} {a0 : (List Int)} {v0_ : Value} {a1 : Int} {a2 : (List Int)} {v2_ : Value} {r : T_State} (h0 : SlT g enc_uint32 1 a0 v0_) (h2 : SlT g enc_uint32 1 a2 v2_) (hF : r19_Load a0 a1 a2 = some r) : LC Tryz.prog 20 #[v0_, .int .i64 a1, v2_] g [] (fun v L => ∃ (u0 : Value) (M0 : Own), u0 = v ∧ L = (M0 ++ []) ∧ Ow_State r u0 M0) := by
 unfold r19_Load at hF
 refine lc_body (k := 28) (av := [v0_, .int .i64 a1, v2_]) func20 rfl rfl (h := fun W hS => ?_)
 refine c_seq <| c_region ?_
 refine o_allocP (cl := (cl_State (.slice none 0 0) (.slice none 0 0) (.slice none 0 0) 0 (.slice none 0 0) 0 (.slice none 0 0) 0 (.slice none 0 0) 0 0)) zr_api_State rfl hS ?_
 clear hS; intro b1 w hS
 refine n_thenN <| c_seq <| c_region <| oy hS y_move ?_
 obtain ⟨r2, hr2, hF⟩ := ob hF
 refine o_call0 hS func38 rfl rfl (hc := (w_r5_New (a0 := a2) (h0 := h2.plus) (hF := hr2))) (h := ?_)
 clear hS; intro v3 LY4 w hS hr5
 obtain ⟨v_0_6, LX_0_7, rfl, rfl, h_0_8⟩ := hr5
 obtain ⟨J0, B0, D0, E0, G0, I0, K0, J1, N0, R0, T0, U0, rfl, rfl, V0, E1, X0, Y0, Z0, B1⟩ := h_0_8
 simp only [aa, ac, al] at hS
 refine o_allocP (cl := (cl_State (.slice none 0 0) (.slice none 0 0) (.slice none 0 0) 0 (.slice none 0 0) 0 (.slice none 0 0) 0 (.slice none 0 0) 0 0)) zr_api_State rfl hS ?_
 clear hS; intro b33 w hS
 refine o_storeW (vs := (cl_State J0 B0 D0 r2.Taken E0 r2.PC G0 r2.Stop I0 r2.Jump r2.Delay)) hS (by exact rfl) (Upd.here _) (by exact sz_api_State) (one_State (V0).one (E1).one (X0).one (Y0).one (Z0).one (B1).one) ?_
 clear hS; intro w hS
 refine n_thenN ?_
 obtain ⟨N2, hF, V1⟩ := cut_step hF
 refine c_cutP (fun a w' => ∃ (M1 : (List Int)) (I1 : Own), r19_Load_k1 r2 a1 M1 = some r ∧ OwT 87 enc_uint32 1 M1 B0 I1 ∧ (∃ s : Nat → Value, a = Ac ((((Fm.dead 28 s).upd 1 (.int .i64 a1)).upd 6 (.pointer (some ⟨b1, 0, none⟩))).upd 7 (.pointer (some ⟨b33, 0, none⟩)))) ∧ St W g [] ((b1, blk (cl_State (.slice none 0 0) (.slice none 0 0) (.slice none 0 0) 0 (.slice none 0 0) 0 (.slice none 0 0) 0 (.slice none 0 0) 0 0) 62) :: ((b33, blk (cl_State J0 B0 D0 r2.Taken E0 r2.PC G0 r2.Stop I0 r2.Jump r2.Delay) 62) :: (K0 ++ (I1 ++ (N0 ++ (R0 ++ (T0 ++ (U0 ++ [])))))))) w') ?_ ?_
 · skip
   refine c_seq <| c_region <| oy hS y_assign <| n_thenN <| c_block ?_
   refine c_loopP hF (fun (q : (Int × (List Int))) a w' => ∃ (D1 : Own), OwT 87 enc_uint32 1 q.2 B0 D1 ∧ (∃ s : Nat → Value, a = Ac ((((((Fm.dead 28 s).upd 0 v0_).upd 1 (.int .i64 a1)).upd 6 (.pointer (some ⟨b1, 0, none⟩))).upd 7 (.pointer (some ⟨b33, 0, none⟩))).upd 8 (.int .i64 q.1))) ∧ St W g [] ((b1, blk (cl_State (.slice none 0 0) (.slice none 0 0) (.slice none 0 0) 0 (.slice none 0 0) 0 (.slice none 0 0) 0 (.slice none 0 0) 0 0) 62) :: ((b33, blk (cl_State J0 B0 D0 r2.Taken E0 r2.PC G0 r2.Stop I0 r2.Jump r2.Delay) 62) :: (K0 ++ (D1 ++ (N0 ++ (R0 ++ (T0 ++ (U0 ++ [])))))))) w') ⟨J1, E1, mk_exF, (hS.re (.b (.e (.d (.d (.d (.d (.d (.d .hb))))))) (.b .hb (.t .h (.t .h (.t .h (.t .h (.t .h (.t .h .n)))))))))⟩ ?_
   clear hS hF
   intro Y2 q a w hI hq
   obtain ⟨Z2, T1⟩ := q
   obtain ⟨D1, G1, ⟨B3, rfl⟩, hS⟩ := hq
   replace G1 : OwT 87 enc_uint32 1 T1 B0 D1 := G1
   obtain ⟨D3, hF, R1⟩ := iter_step hI
   clear hI
   dsimp only [r19_Load_b2] at hF
   iterate 2 (refine c_seq ?_)
   refine c_region ?_
   iterate 2 (refine oy hS y_move ?_)
   refine oy hS (y_len h0 underlying31) <| oy hS y_bin <| n_thenN ?_
   refine c_if (ht := fun N1 => ?_) (hf := fun N1 => ?_)
   · replace hF := bt N1 hF
     refine wp_skip <| c_seq <| c_block ?_
     refine c_heldL 8 9 (by kernel_rfl) rfl hS ?_
     clear hS; intro w hS
     refine hy0 0 rfl wn (by kernel_rfl) (nq (P := Tryz.prog) (fn := Tryz.f20)) (fun _ => hS.cb) (y_field fa_api_State_1) ?_
     refine hy 1 rfl wn (by kernel_rfl) (nq (P := Tryz.prog) (fn := Tryz.f20)) hS.cb (y_load (fun w hS => hS.own (mC (mH))) underlying31 rfl rfl) ?_
     refine hy0 2 rfl wn (by kernel_rfl) (nq (P := Tryz.prog) (fn := Tryz.f20)) (fun _ => hS.cb) y_move ?_
     refine hy0 3 rfl wn (by kernel_rfl) (nq (P := Tryz.prog) (fn := Tryz.f20)) (fun _ => hS.cb) y_move ?_
     refine hy0 4 rfl wn (by kernel_rfl) (nq (P := Tryz.prog) (fn := Tryz.f20)) (fun _ => hS.cb) y_move ?_
     obtain ⟨E3, X1, hF⟩ := ob hF
     obtain ⟨G3, I3, J3, T2, K3, U2, Y1, Z1, B2, D2, E2⟩ := SlT.at X1 h0 enc_len_uint32
     refine hy0 5 rfl wn (by kernel_rfl) (nq (P := Tryz.prog) (fn := Tryz.f20)) (fun _ => hS.cb) (y_index Y1 Z1 B2 underlying31 el_uint32.size) ?_
     refine hy 6 rfl wn (by kernel_rfl) (nq (P := Tryz.prog) (fn := Tryz.f20)) hS.cb (y_load (fun w hS => hS.block D2) underlying87 rfl (E2 0 _ rfl)) ?_
     obtain ⟨V2, K1, hF⟩ := ob hF
     obtain ⟨M3, N3, X2, G2, I2, J2, K2⟩ := OwT.at_set K1 G1 enc_len_uint32
     refine hy0 7 rfl wn (by kernel_rfl) (nq (P := Tryz.prog) (fn := Tryz.f20)) (fun _ => hS.cb) (y_index G2 I2 J2 underlying31 el_uint32.size) ?_
     refine hb1 8 (by kernel_rfl) (hb_op rfl wn (nl (P := Tryz.prog) (fn := Tryz.f20)) ?_)
     refine o_storeO (L' := fun X => ((b1, blk (cl_State (.slice none 0 0) (.slice none 0 0) (.slice none 0 0) 0 (.slice none 0 0) 0 (.slice none 0 0) 0 (.slice none 0 0) 0 0) 62) :: ((b33, blk (cl_State J0 B0 D0 r2.Taken E0 r2.PC G0 r2.Stop I0 r2.Jump r2.Delay) 62) :: (K0 ++ (X ++ (N0 ++ (R0 ++ (T0 ++ (U0 ++ []))))))))) K1 hS G1 K2 (fun X => .thereb _ (.thereb _ (.there _ (.here _)))) enc_len_uint32 rfl (by exact sz_uint32) rfl rfl ?_
     clear hS; intro M2 w R2 hS
     refine hb_next (fun h => absurd h (by decide)) ?_
     refine hb_done (by kernel_rfl) ?_
     refine c_region <| oy hS y_move <| oy hS y_bin <| oy hS y_assign <| n_thenN ?_
     obtain rfl := osi hF
     exact ⟨_, R1, M2, R2, mk_exF, (hS.re (.b .hb (.b .hb (.t .h (.t .h (.t .h (.t .h (.t .h (.t .h .n)))))))))⟩
   replace hF := bf N1 hF
   refine wp_exit ?_
   obtain rfl := osi hF
   obtain rfl : _ = N2 := R1
   change ∃ _, _
   exact ⟨T1, D1, V1, G1, mk_exF, (hS.re (.b .hb (.b .hb (.t .h (.t .h (.t .h (.t .h (.t .h (.t .h .n)))))))))⟩
 rintro a w ⟨M1, I1, hF, U1, ⟨R3, rfl⟩, hS⟩
 dsimp only [r19_Load_k1] at hF
 refine c_seq <| c_region <| oy hS y_move <| oy hS (y_field fa_api_State_5) ?_
 refine o_storeA1 (o := 5) (cl' := (cl_State J0 B0 D0 r2.Taken E0 a1 G0 r2.Stop I0 r2.Jump r2.Delay)) hS (by kernel_rfl) (by exact Nat.le_of_ble_eq_true rfl) (Upd.there _ (Upd.here _)) (by exact sz_int) rfl rfl ?_
 clear hS; intro w hS
 refine n_thenN <| c_seq <| c_region ?_
 refine oy hS (y_loadW (fun w hS => hS.own (mC (mH))) underlying62 rfl (by exact sz_api_State)) ?_
 refine o_storeW (vs := (cl_State J0 B0 D0 r2.Taken E0 a1 G0 r2.Stop I0 r2.Jump r2.Delay)) hS (by exact rfl) (Upd.here _) (by exact sz_api_State) (one_State (V0).one (U1).one (X0).one (Y0).one (Z0).one (B1).one) ?_
 clear hS; intro w hS
 refine n_thenN ?_
 obtain rfl := osi hF
 refine wp_ret (r_ret (vs := [.agg (cl_State J0 B0 D0 r2.Taken E0 a1 G0 r2.Stop I0 r2.Jump r2.Delay).toArray]) (hS.re (.t (.e (.e .h)) (.t (.e (.e .h)) (.t (.e (.e .h)) (.t (.e (.e .h)) (.t (.e (.e .h)) (.t (.e (.e .h)) .n))))))) (rsC (res_cell (hS.own (mH)) underlying62 rfl (by exact sz_api_State)) rsN) rfl ⟨_, _, rfl, (by first | rfl | simp only [aa, ac, al, an]), ⟨_, _, _, _, _, _, _, _, _, _, _, _, rfl, rfl, V0, U1, X0, Y0, Z0, B1⟩⟩)
theorem w_r19_Load {g : Frag} {a0 : (List Int)} {v0_ : Value} {a1 : Int} {a2 : (List Int)} {v2_ : Value} {r : T_State} (h0 : SlT g enc_uint32 1 a0 v0_) (h2 : SlT g enc_uint32 1 a2 v2_) (hF : r19_Load a0 a1 a2 = some r) : LC Tryz.prog 20 #[v0_, .int .i64 a1, v2_] g [] (fun v L => ∃ (u0 : Value) (M0 : Own), u0 = v ∧ L = (M0 ++ []) ∧ Ow_State r u0 M0) := w_r19_Load_ h0 h2 hF

noncomputable def r0_CopyNumbers_b1 (a0 : (List Int)) : ((List Int) × Int) → Option (Step ((List Int) × Int) (List Int)) := fun (x24, x29) => bif decide (x29 < (a0.length : Int)) then (at' a0 x29).bind fun x57 => (app' x24 ([x57] : List Int)).bind fun B0 => some (.next (B0, IntKind.i64.wrap (x29 + 1))) else some (.done (x24))
noncomputable def r0_CopyNumbers (a0 : (List Int)) : Option (List Int) :=
  loop (σ := ((List Int) × Int)) (r0_CopyNumbers_b1 a0) ([], 0)
theorem w_r0_CopyNumbers_ {g : Frag} {a0 : (List Int)} {v0_ : Value} {r : (List Int)} (h0 : SlT g enc_int 1 a0 v0_) (hF : r0_CopyNumbers a0 = some r) : LC Tryz.prog 68 #[v0_] g [] (fun v L => ∃ (u0 : Value) (M0 : Own), u0 = v ∧ L = (M0 ++ []) ∧ OwT 3 enc_int 1 r u0 M0) := by
 unfold r0_CopyNumbers at hF
 refine lc_body (k := 19) (av := [v0_]) func68 rfl rfl (h := fun W hS => ?_)
 refine c_seq <| c_region <| oy hS y_assign <| n_thenN <| c_seq <| c_region <| oy hS y_assign <| n_thenN ?_
 iterate 2 (refine c_seq ?_)
 refine c_region <| oy hS y_assign <| n_thenN <| c_block ?_
 refine c_loopP hF (fun (q : ((List Int) × Int)) a w' => ∃ (v25 : Value) (B0 : Own), OwT 3 enc_int 1 q.1 v25 B0 ∧ (∃ s : Nat → Value, a = Ac ((((Fm.dead 19 s).upd 0 v0_).upd 3 v25).upd 4 (.int .i64 q.2))) ∧ St W g [] (B0 ++ []) w') ⟨(.slice none 0 0), [], (OwT.nil _ _ _), mk_exF, (hS.re (.take (X := []) (.here [] _) .n))⟩ ?_
 clear hS hF
 intro n54 q a w hI hq
 obtain ⟨x24, x29⟩ := q
 obtain ⟨v25, B0, h26, ⟨s55, rfl⟩, hS⟩ := hq
 replace h26 : OwT 3 enc_int 1 x24 v25 B0 := h26
 obtain ⟨z51, hF, D0⟩ := iter_step hI
 clear hI
 dsimp only [r0_CopyNumbers_b1] at hF
 iterate 2 (refine c_seq ?_)
 refine c_region ?_
 iterate 2 (refine oy hS y_move ?_)
 refine oy hS (y_len h0 underlying37) <| oy hS y_bin <| n_thenN ?_
 refine c_if (ht := fun c56 => ?_) (hf := fun c56 => ?_)
 · replace hF := bt c56 hF
   refine wp_skip <| c_seq <| c_block <| c_region ?_
   iterate 3 (refine oy hS y_move ?_)
   obtain ⟨x57, G0, hF⟩ := ob hF
   obtain ⟨b58, o59, c60, U0, e62, V0, I0, J0, K0, N0, R0⟩ := SlT.at G0 h0 enc_len_int
   refine oy hS (y_index I0 J0 K0 underlying37 el_int.size) <| oy hS (y_load (fun w hS => hS.block N0) underlying3 rfl (R0 0 _ rfl)) ?_
   refine o_buildT val_int ([x57] : List Int) hS el_int (fun _ => rfl) enc_len_int (by decide) rfl (by decide) (hp := rfl) (h := ?_)
   clear hS; intro b69 w hS h70
   have hS : St W g [] ([(b69, blk (([x57] : List Int).flatMap enc_int) 3)] ++ (B0 ++ [])) w := hS
   obtain ⟨X0, E0, hF⟩ := ob hF
   refine o_appPn (ys := ([x57] : List Int)) (LX := B0) E0 hS el_int h26 rfl enc_len_int (enc_ones_int _) (by decide) ?_
   clear hS; intro v72 T0 w h74 hS
   refine oy hS y_assign ?_
   refine n_anyN ?_
   refine c_region <| oy hS y_move <| oy hS y_bin <| oy hS y_assign <| n_thenN ?_
   obtain rfl := osi hF
   exact ⟨_, D0, v72, T0, h74, mk_exF, (hS.re (.t .h .n))⟩
 replace hF := bf c56 hF
 refine wp_exit ?_
 refine c_seq <| c_region <| oy hS y_move <| oy hS y_assign <| n_thenN ?_
 obtain rfl := osi hF
 obtain rfl : _ = r := D0
 refine wp_ret (r_ret (vs := [v25]) (hS.re (.t .h .n)) (rsC res_tmp rsN) rfl ⟨_, _, rfl, (by first | rfl | simp only [aa, ac, al, an]), h26⟩)
theorem w_r0_CopyNumbers {g : Frag} {a0 : (List Int)} {v0_ : Value} {r : (List Int)} (h0 : SlT g enc_int 1 a0 v0_) (hF : r0_CopyNumbers a0 = some r) : LC Tryz.prog 68 #[v0_] g [] (fun v L => ∃ (u0 : Value) (M0 : Own), u0 = v ∧ L = (M0 ++ []) ∧ OwT 3 enc_int 1 r u0 M0) := w_r0_CopyNumbers_ h0 hF

noncomputable def r0_CopyFlies_b1 (a0 : (List T_Write)) : ((List T_Write) × Int) → Option (Step ((List T_Write) × Int) (List T_Write)) := fun (x24, x29) => bif decide (x29 < (a0.length : Int)) then (at' a0 x29).bind fun x57 => (app' x24 ([x57] : List T_Write)).bind fun B0 => some (.next (B0, IntKind.i64.wrap (x29 + 1))) else some (.done (x24))
noncomputable def r0_CopyFlies (a0 : (List T_Write)) : Option (List T_Write) :=
  loop (σ := ((List T_Write) × Int)) (r0_CopyFlies_b1 a0) ([], 0)
theorem w_r0_CopyFlies_ {g : Frag} {a0 : (List T_Write)} {v0_ : Value} {r : (List T_Write)} (h0 : SlT g enc_Write 3 a0 v0_) (hF : r0_CopyFlies a0 = some r) : LC Tryz.prog 69 #[v0_] g [] (fun v L => ∃ (u0 : Value) (M0 : Own), u0 = v ∧ L = (M0 ++ []) ∧ OwT 89 enc_Write 3 r u0 M0) := by
 unfold r0_CopyFlies at hF
 refine lc_body (k := 19) (av := [v0_]) func69 rfl rfl (h := fun W hS => ?_)
 refine c_seq <| c_region <| oy hS y_assign <| n_thenN <| c_seq <| c_region <| oy hS y_assign <| n_thenN ?_
 iterate 2 (refine c_seq ?_)
 refine c_region <| oy hS y_assign <| n_thenN <| c_block ?_
 refine c_loopP hF (fun (q : ((List T_Write) × Int)) a w' => ∃ (v25 : Value) (B0 : Own), OwT 89 enc_Write 3 q.1 v25 B0 ∧ (∃ s : Nat → Value, a = Ac ((((Fm.dead 19 s).upd 0 v0_).upd 3 v25).upd 4 (.int .i64 q.2))) ∧ St W g [] (B0 ++ []) w') ⟨(.slice none 0 0), [], (OwT.nil _ _ _), mk_exF, (hS.re (.take (X := []) (.here [] _) .n))⟩ ?_
 clear hS hF
 intro n54 q a w hI hq
 obtain ⟨x24, x29⟩ := q
 obtain ⟨v25, B0, h26, ⟨s55, rfl⟩, hS⟩ := hq
 replace h26 : OwT 89 enc_Write 3 x24 v25 B0 := h26
 obtain ⟨z51, hF, D0⟩ := iter_step hI
 clear hI
 dsimp only [r0_CopyFlies_b1] at hF
 iterate 2 (refine c_seq ?_)
 refine c_region ?_
 iterate 2 (refine oy hS y_move ?_)
 refine oy hS (y_len h0 underlying60) <| oy hS y_bin <| n_thenN ?_
 refine c_if (ht := fun c56 => ?_) (hf := fun c56 => ?_)
 · replace hF := bt c56 hF
   refine wp_skip <| c_seq <| c_block <| c_region ?_
   iterate 3 (refine oy hS y_move ?_)
   obtain ⟨x57, G0, hF⟩ := ob hF
   obtain ⟨b58, o59, c60, U0, e62, V0, I0, J0, K0, N0, R0⟩ := SlT.at G0 h0 enc_len_Write
   refine oy hS (y_index I0 J0 K0 underlying60 el_api_Write.size) ?_
   refine oy hS (y_loadN (vs := (enc_Write x57)) (fun w hS => hS.block N0) underlying89 rfl (by exact sz_api_Write) (fun j u hj => R0 j u hj)) ?_
   refine o_buildT val_Write ([x57] : List T_Write) hS el_api_Write (fun _ => rfl) enc_len_Write (by decide) rfl (by decide) (hp := rfl) (h := ?_)
   clear hS; intro b69 w hS h70
   have hS : St W g [] ([(b69, blk (([x57] : List T_Write).flatMap enc_Write) 89)] ++ (B0 ++ [])) w := hS
   obtain ⟨X0, E0, hF⟩ := ob hF
   refine o_appPn (ys := ([x57] : List T_Write)) (LX := B0) E0 hS el_api_Write h26 rfl enc_len_Write (enc_ones_Write _) (by decide) ?_
   clear hS; intro v72 T0 w h74 hS
   refine oy hS y_assign ?_
   refine n_anyN ?_
   refine c_region <| oy hS y_move <| oy hS y_bin <| oy hS y_assign <| n_thenN ?_
   obtain rfl := osi hF
   exact ⟨_, D0, v72, T0, h74, mk_exF, (hS.re (.t .h .n))⟩
 replace hF := bf c56 hF
 refine wp_exit ?_
 refine c_seq <| c_region <| oy hS y_move <| oy hS y_assign <| n_thenN ?_
 obtain rfl := osi hF
 obtain rfl : _ = r := D0
 refine wp_ret (r_ret (vs := [v25]) (hS.re (.t .h .n)) (rsC res_tmp rsN) rfl ⟨_, _, rfl, (by first | rfl | simp only [aa, ac, al, an]), h26⟩)
theorem w_r0_CopyFlies {g : Frag} {a0 : (List T_Write)} {v0_ : Value} {r : (List T_Write)} (h0 : SlT g enc_Write 3 a0 v0_) (hF : r0_CopyFlies a0 = some r) : LC Tryz.prog 69 #[v0_] g [] (fun v L => ∃ (u0 : Value) (M0 : Own), u0 = v ∧ L = (M0 ++ []) ∧ OwT 89 enc_Write 3 r u0 M0) := w_r0_CopyFlies_ h0 hF

noncomputable def r0_CopyState (a0 : T_State) : Option T_State :=
  (r0_CopyWords a0.Regs).bind fun r4 => (r0_CopyWords a0.Mem).bind fun r12 => (r0_CopyWords a0.In_).bind fun r20 => (r0_CopyWords a0.Out).bind fun r28 => (r0_CopyNumbers a0.Stack).bind fun r36 => (r0_CopyFlies a0.Fly).bind fun r44 => some (⟨r4, r12, r20, a0.Taken, r28, a0.PC, r36, a0.Stop, r44, a0.Jump, a0.Delay⟩ : T_State)
theorem w_r0_CopyState_ {g : Frag} {a0 : T_State} {v0_ : Value} {r : T_State} (h0 : Rd_State g a0 v0_) (hF : r0_CopyState a0 = some r) : LC Tryz.prog 39 #[v0_] g [] (fun v L => ∃ (u0 : Value) (M0 : Own), u0 = v ∧ L = (M0 ++ []) ∧ Ow_State r u0 M0) := by
 obtain ⟨J0, I0, G0, E0, D0, B0, rfl, K0, N0, R0, T0, U0, V0⟩ := h0
 unfold r0_CopyState at hF
 refine lc_body (k := 30) (av := [.agg (cl_State J0 I0 G0 a0.Taken E0 a0.PC D0 a0.Stop B0 a0.Jump a0.Delay).toArray]) func39 rfl rfl (h := fun W hS => ?_)
 refine c_seq <| c_region ?_
 refine o_boxP (cl := (cl_State J0 I0 G0 a0.Taken E0 a0.PC D0 a0.Stop B0 a0.Jump a0.Delay)) rfl hS ?_
 clear hS; intro b1 w hS
 refine o_allocP (cl := (cl_State (.slice none 0 0) (.slice none 0 0) (.slice none 0 0) 0 (.slice none 0 0) 0 (.slice none 0 0) 0 (.slice none 0 0) 0 0)) zr_api_State rfl hS ?_
 clear hS; intro b2 w hS
 refine n_thenN <| c_seq <| c_region ?_
 refine oy hS (y_loadW (fun w hS => hS.own (mC (mH))) underlying62 rfl (by exact sz_api_State)) ?_
 refine o_allocP (cl := (cl_State (.slice none 0 0) (.slice none 0 0) (.slice none 0 0) 0 (.slice none 0 0) 0 (.slice none 0 0) 0 (.slice none 0 0) 0 0)) zr_api_State rfl hS ?_
 clear hS; intro b3 w hS
 refine o_storeW (vs := (cl_State J0 I0 G0 a0.Taken E0 a0.PC D0 a0.Stop B0 a0.Jump a0.Delay)) hS (by exact rfl) (Upd.here _) (by exact sz_api_State) (one_State (K0).one (N0).one (R0).one (T0).one (U0).one (V0).one) ?_
 clear hS; intro w hS
 refine n_thenN <| c_seq <| c_region <| oy hS (y_field fa_api_State_0) <| oy hS (y_load (fun w hS => hS.own (mC (mC (mH)))) underlying31 rfl rfl) ?_
 obtain ⟨r4, hr4, hF⟩ := ob hF
 refine o_call0 hS func67 rfl rfl (hc := (w_r0_CopyWords (a0 := a0.Regs) (h0 := K0.plus) (hF := hr4))) (h := ?_)
 clear hS; intro v5 LY6 w hS hr7
 obtain ⟨v_0_8, LX_0_9, rfl, rfl, h_0_10⟩ := hr7
 simp only [aa, ac, al] at hS
 refine oy hS (y_field fa_api_State_0) ?_
 have hS := hS.re (.b (.d .hb) (.t .h (.b .hb (.b .hb .n))))
 refine o_storeA1 (o := 0) (cl' := (cl_State v_0_8 I0 G0 a0.Taken E0 a0.PC D0 a0.Stop B0 a0.Jump a0.Delay)) hS (by kernel_rfl) (by exact Nat.le_of_ble_eq_true rfl) (Upd.here _) (by exact sz_S_uint32) (h_0_10).one (h_0_10).cell ?_
 clear hS; intro w hS
 refine n_thenN <| c_seq <| c_region <| oy hS (y_field fa_api_State_1) <| oy hS (y_load (fun w hS => hS.own (mC (mB (mC (mH))))) underlying31 rfl rfl) ?_
 obtain ⟨r12, X0, hF⟩ := ob hF
 refine o_call0 hS func67 rfl rfl (hc := (w_r0_CopyWords (a0 := a0.Mem) (h0 := N0.plus) (hF := X0))) (h := ?_)
 clear hS; intro v13 M1 w hS Y0
 obtain ⟨v_0_16, LX_0_17, rfl, rfl, h_0_18⟩ := Y0
 simp only [aa, ac, al] at hS
 refine oy hS (y_field fa_api_State_1) ?_
 have hS := hS.re (.b (.d .hb) (.t .h (.t .h (.b .hb (.b .hb .n)))))
 refine o_storeA1 (o := 1) (cl' := (cl_State v_0_8 v_0_16 G0 a0.Taken E0 a0.PC D0 a0.Stop B0 a0.Jump a0.Delay)) hS (by kernel_rfl) (by exact Nat.le_of_ble_eq_true rfl) (Upd.here _) (by exact sz_S_uint32) (h_0_18).one (h_0_18).cell ?_
 clear hS; intro w hS
 refine n_thenN <| c_seq <| c_region <| oy hS (y_field fa_api_State_2) <| oy hS (y_load (fun w hS => hS.own (mC (mB (mB (mC (mH)))))) underlying31 rfl rfl) ?_
 obtain ⟨r20, Z0, hF⟩ := ob hF
 refine o_call0 hS func67 rfl rfl (hc := (w_r0_CopyWords (a0 := a0.In_) (h0 := R0.plus) (hF := Z0))) (h := ?_)
 clear hS; intro v21 N1 w hS B1
 obtain ⟨v_0_24, LX_0_25, rfl, rfl, h_0_26⟩ := B1
 simp only [aa, ac, al] at hS
 refine oy hS (y_field fa_api_State_2) ?_
 have hS := hS.re (.b (.d .hb) (.t .h (.t .h (.t .h (.b .hb (.b .hb .n))))))
 refine o_storeA1 (o := 2) (cl' := (cl_State v_0_8 v_0_16 v_0_24 a0.Taken E0 a0.PC D0 a0.Stop B0 a0.Jump a0.Delay)) hS (by kernel_rfl) (by exact Nat.le_of_ble_eq_true rfl) (Upd.here _) (by exact sz_S_uint32) (h_0_26).one (h_0_26).cell ?_
 clear hS; intro w hS
 refine n_thenN <| c_seq <| c_region <| oy hS (y_field fa_api_State_4) <| oy hS (y_load (fun w hS => hS.own (mC (mB (mB (mB (mC (mH))))))) underlying31 rfl rfl) ?_
 obtain ⟨r28, D1, hF⟩ := ob hF
 refine o_call0 hS func67 rfl rfl (hc := (w_r0_CopyWords (a0 := a0.Out) (h0 := T0.plus) (hF := D1))) (h := ?_)
 clear hS; intro v29 R1 w hS E1
 obtain ⟨v_0_32, LX_0_33, rfl, rfl, h_0_34⟩ := E1
 simp only [aa, ac, al] at hS
 refine oy hS (y_field fa_api_State_4) ?_
 have hS := hS.re (.b (.d .hb) (.t .h (.t .h (.t .h (.t .h (.b .hb (.b .hb .n)))))))
 refine o_storeA1 (o := 4) (cl' := (cl_State v_0_8 v_0_16 v_0_24 a0.Taken v_0_32 a0.PC D0 a0.Stop B0 a0.Jump a0.Delay)) hS (by kernel_rfl) (by exact Nat.le_of_ble_eq_true rfl) (Upd.here _) (by exact sz_S_uint32) (h_0_34).one (h_0_34).cell ?_
 clear hS; intro w hS
 refine n_thenN <| c_seq <| c_region <| oy hS (y_field fa_api_State_6) <| oy hS (y_load (fun w hS => hS.own (mC (mB (mB (mB (mB (mC (mH)))))))) underlying37 rfl rfl) ?_
 obtain ⟨r36, G1, hF⟩ := ob hF
 refine o_call0 hS func68 rfl rfl (hc := (w_r0_CopyNumbers (a0 := a0.Stack) (h0 := U0.plus) (hF := G1))) (h := ?_)
 clear hS; intro v37 T1 w hS I1
 obtain ⟨v_0_40, LX_0_41, rfl, rfl, h_0_42⟩ := I1
 simp only [aa, ac, al] at hS
 refine oy hS (y_field fa_api_State_6) ?_
 have hS := hS.re (.b (.d .hb) (.t .h (.t .h (.t .h (.t .h (.t .h (.b .hb (.b .hb .n))))))))
 refine o_storeA1 (o := 6) (cl' := (cl_State v_0_8 v_0_16 v_0_24 a0.Taken v_0_32 a0.PC v_0_40 a0.Stop B0 a0.Jump a0.Delay)) hS (by kernel_rfl) (by exact Nat.le_of_ble_eq_true rfl) (Upd.here _) (by exact sz_S_int) (h_0_42).one (h_0_42).cell ?_
 clear hS; intro w hS
 refine n_thenN <| c_seq <| c_region <| oy hS (y_field fa_api_State_8) <| oy hS (y_load (fun w hS => hS.own (mC (mB (mB (mB (mB (mB (mC (mH))))))))) underlying60 rfl rfl) ?_
 obtain ⟨r44, J1, hF⟩ := ob hF
 refine o_call0 hS func69 rfl rfl (hc := (w_r0_CopyFlies (a0 := a0.Fly) (h0 := V0.plus) (hF := J1))) (h := ?_)
 clear hS; intro v45 U1 w hS K1
 obtain ⟨v_0_48, LX_0_49, rfl, rfl, h_0_50⟩ := K1
 simp only [aa, ac, al] at hS
 refine oy hS (y_field fa_api_State_8) ?_
 have hS := hS.re (.b (.d .hb) (.t .h (.t .h (.t .h (.t .h (.t .h (.t .h (.b .hb (.b .hb .n)))))))))
 refine o_storeA1 (o := 8) (cl' := (cl_State v_0_8 v_0_16 v_0_24 a0.Taken v_0_32 a0.PC v_0_40 a0.Stop v_0_48 a0.Jump a0.Delay)) hS (by kernel_rfl) (by exact Nat.le_of_ble_eq_true rfl) (Upd.here _) (by exact sz_S_api_Write) (h_0_50).one (h_0_50).cell ?_
 clear hS; intro w hS
 refine n_thenN <| c_seq <| c_region ?_
 refine oy hS (y_loadW oH underlying62 rfl (by exact sz_api_State)) ?_
 have hS := hS.re (.b (.e (.d (.d (.d (.d (.d (.d .hb))))))) (.b .hb (.t .h (.t .h (.t .h (.t .h (.t .h (.t .h (.b .hb .n)))))))))
 refine o_storeW (vs := (cl_State v_0_8 v_0_16 v_0_24 a0.Taken v_0_32 a0.PC v_0_40 a0.Stop v_0_48 a0.Jump a0.Delay)) hS (by exact rfl) (Upd.here _) (by exact sz_api_State) (one_State (h_0_10).one (h_0_18).one (h_0_26).one (h_0_34).one (h_0_42).one (h_0_50).one) ?_
 clear hS; intro w hS
 refine n_thenN ?_
 obtain rfl := osi hF
 refine wp_ret (r_ret (vs := [.agg (cl_State v_0_8 v_0_16 v_0_24 a0.Taken v_0_32 a0.PC v_0_40 a0.Stop v_0_48 a0.Jump a0.Delay).toArray]) (hS.re (.t (.e (.e (.d (.d (.d (.d (.d .h))))))) (.t (.e (.e (.d (.d (.d (.d .h)))))) (.t (.e (.e (.d (.d (.d .h))))) (.t (.e (.e (.d (.d .h)))) (.t (.e (.e (.d .h))) (.t (.e (.e .h)) .n))))))) (rsC (res_cell (hS.own (mH)) underlying62 rfl (by exact sz_api_State)) rsN) rfl ⟨_, _, rfl, (by first | rfl | simp only [aa, ac, al, an]), ⟨_, _, _, _, _, _, _, _, _, _, _, _, rfl, rfl, h_0_10, h_0_18, h_0_26, h_0_34, h_0_42, h_0_50⟩⟩)
theorem w_r0_CopyState {g : Frag} {a0 : T_State} {v0_ : Value} {r : T_State} (h0 : Rd_State g a0 v0_) (hF : r0_CopyState a0 = some r) : LC Tryz.prog 39 #[v0_] g [] (fun v L => ∃ (u0 : Value) (M0 : Own), u0 = v ∧ L = (M0 ++ []) ∧ Ow_State r u0 M0) := w_r0_CopyState_ h0 hF

noncomputable def r5_lands_b2 (a0 : T_State) : ((List T_Write) × Int × (List Int)) → Option (Step ((List T_Write) × Int × (List Int)) (Step ((List T_Write) × (List Int) × (List Int) × (List Int) × (List Int) × (List Int) × (List T_Write)) T_State)) := fun (E0, D0, G0) => bif decide (D0 < (a0.Fly.length : Int)) then (at' a0.Fly D0).bind fun B0 => bif decide (B0.Left = 0) then (set' G0 B0.Reg B0.Value).bind fun I0 => some (.next (E0, IntKind.i64.wrap (D0 + 1), I0)) else (app' E0 ([(⟨B0.Reg, B0.Value, IntKind.i64.wrap (B0.Left - 1)⟩ : T_Write)] : List T_Write)).bind fun J0 => some (.next (J0, IntKind.i64.wrap (D0 + 1), G0)) else some (.done (.next (E0, G0, a0.Mem, a0.In_, a0.Out, a0.Stack, a0.Fly)))
noncomputable def r5_lands_k1 (a0 : T_State) : ((List T_Write) × (List Int) × (List Int) × (List Int) × (List Int) × (List Int) × (List T_Write)) → Option T_State := fun (B0, D0, E0, G0, I0, J0, K0) => some (⟨D0, E0, G0, a0.Taken, I0, a0.PC, J0, a0.Stop, B0, a0.Jump, a0.Delay⟩ : T_State)
noncomputable def r5_lands (a0 : T_State) : Option T_State :=
  cut (σ := ((List T_Write) × (List Int) × (List Int) × (List Int) × (List Int) × (List Int) × (List T_Write))) (loop (σ := ((List T_Write) × Int × (List Int))) (r5_lands_b2 a0) ([], 0, a0.Regs)) (r5_lands_k1 a0)
theorem w_r5_lands_ {g : Frag} {a0 : T_State} {b0_ : Nat} {LB0_ : Own} {r : T_State} (h0 : Bx_State b0_ a0 LB0_) (hF : r5_lands a0 = some r) : LC Tryz.prog 40 #[.pointer (some ⟨b0_, 0, none⟩)] g LB0_ (fun v L => ∃ (LB' : Own), v = .tuple #[] ∧ L = (LB' ++ []) ∧ Bx_State b0_ r LB') := by
 obtain ⟨E0, V0, X0, M0, N0, R0, D2, T0, G0, I0, J0, K0, G4, B3, D3, E2, G2, I2, Y0⟩ := h0
 unfold r5_lands at hF
 refine lc_body (k := 48) (av := [.pointer (some ⟨b0_, 0, none⟩)]) func40 rfl rfl (h := fun W hS => ?_)
 have hS := hS.own_eq G4
 refine c_seq <| c_region <| oy hS y_assign <| n_thenN ?_
 obtain ⟨I4, hF, K3⟩ := cut_step hF
 refine c_cutP (fun a w' => ∃ (J2 : (List T_Write)) (K2 : (List Int)) (M2 : (List Int)) (N2 : (List Int)) (R2 : (List Int)) (T2 : (List Int)) (U2 : (List T_Write)) (E1 : Value) (G1 : Value) (I1 : Value) (J1 : Value) (K1 : Value) (M1 : Value) (V2 : Value) (N1 : Own) (R1 : Own) (T1 : Own) (U1 : Own) (V1 : Own) (X1 : Own) (Y1 : Own), r5_lands_k1 a0 (J2, K2, M2, N2, R2, T2, U2) = some r ∧ OwT 89 enc_Write 3 J2 E1 N1 ∧ OwT 87 enc_uint32 1 K2 G1 R1 ∧ OwT 87 enc_uint32 1 M2 I1 T1 ∧ OwT 87 enc_uint32 1 N2 J1 U1 ∧ OwT 87 enc_uint32 1 R2 K1 V1 ∧ OwT 3 enc_int 1 T2 M1 X1 ∧ OwT 89 enc_Write 3 U2 V2 Y1 ∧ (∃ s : Nat → Value, a = Ac (((Fm.dead 48 s).upd 0 (.pointer (some ⟨b0_, 0, none⟩))).upd 2 E1)) ∧ St W g LB0_ ((b0_, blk (cl_State G1 I1 J1 a0.Taken K1 a0.PC M1 a0.Stop V2 a0.Jump a0.Delay) 62) :: (R1 ++ (T1 ++ (U1 ++ (V1 ++ (X1 ++ (Y1 ++ (N1 ++ [])))))))) w') ?_ ?_
 · skip
   refine c_seq <| c_region <| oy hS y_assign <| n_thenN <| c_block ?_
   refine c_loopP hF (fun (q : ((List T_Write) × Int × (List Int))) a w' => ∃ (Z0 : Value) (D0 : Own) (U0 : Own), OwT 89 enc_Write 3 q.1 Z0 D0 ∧ OwT 87 enc_uint32 1 q.2.2 E0 U0 ∧ (∃ s : Nat → Value, a = Ac ((((Fm.dead 48 s).upd 0 (.pointer (some ⟨b0_, 0, none⟩))).upd 2 Z0).upd 3 (.int .i64 q.2.1))) ∧ St W g LB0_ ((b0_, blk (cl_State E0 V0 X0 a0.Taken M0 a0.PC N0 a0.Stop R0 a0.Jump a0.Delay) 62) :: (U0 ++ (T0 ++ (G0 ++ (I0 ++ (J0 ++ (K0 ++ (D0 ++ [])))))))) w') ⟨(.slice none 0 0), [], D2, (OwT.nil _ _ _), B3, mk_exF, (hS.re (.b .hb (.t .h (.t .h (.t .h (.t .h (.t .h (.t .h (.take (X := []) (.here [] _) .n)))))))))⟩ ?_
   clear hS hF
   intro E5 q a w hI hq
   obtain ⟨E3, G5, G3⟩ := q
   obtain ⟨Z0, D0, U0, D1, B1, ⟨I5, rfl⟩, hS⟩ := hq
   replace D1 : OwT 89 enc_Write 3 E3 Z0 D0 := D1
   replace B1 : OwT 87 enc_uint32 1 G3 E0 U0 := B1
   obtain ⟨J5, hF, Z1⟩ := iter_step hI
   clear hI
   dsimp only [r5_lands_b2] at hF
   iterate 2 (refine c_seq ?_)
   refine c_region ?_
   iterate 2 (refine oy hS y_move ?_)
   refine oy hS y_nilCheck <| oy hS (y_field fa_api_State_8) <| oy hS (y_load oH underlying60 rfl rfl) <| oy hS (y_lenO Y0 underlying60) <| oy hS y_bin <| n_thenN ?_
   refine c_if (ht := fun X2 => ?_) (hf := fun X2 => ?_)
   · replace hF := bt X2 hF
     refine wp_skip <| c_seq <| c_block <| c_seq <| c_region <| oy hS y_move <| oy hS y_nilCheck <| oy hS (y_field fa_api_State_8) ?_
     refine oy hS (y_load oH underlying60 rfl rfl) <| oy hS y_move ?_
     obtain ⟨B0, M3, hF⟩ := ob hF
     obtain ⟨K5, M5, Y4, N3, R3, T3, U3, V3⟩ := OwT.at M3 Y0 enc_len_Write
     refine oy hS (y_index N3 R3 T3 underlying60 el_api_Write.size) ?_
     refine oy hS (y_loadN (vs := (enc_Write B0)) (fun w hS => hS.own (mC (mB (mB (mB (mB (mB (mA (mX U3))))))))) underlying89 rfl (by exact sz_api_Write) (fun j u hj => V3 j u hj)) ?_
     refine o_allocP (cl := (enc_Write ⟨0, 0, 0⟩)) zr_api_Write rfl hS ?_
     clear hS; intro I3 w hS
     refine o_storeW (vs := (enc_Write B0)) hS (by exact rfl) (Upd.here _) (by exact sz_api_Write) (enc_one_Write _) ?_
     clear hS; intro w hS
     refine n_thenN <| c_seq <| c_region <| oy hS (y_field fa_api_Write_2) <| oy hS (y_load oH underlying3 rfl rfl) <| oy hS y_bin <| n_thenN ?_
     refine c_if (ht := fun Y2 => ?_) (hf := fun Y2 => ?_)
     · replace hF := bt Y2 hF
       refine c_heldL 9 10 (by kernel_rfl) rfl hS ?_
       clear hS; intro w hS
       refine hy0 0 rfl wn (by kernel_rfl) (nq (P := Tryz.prog) (fn := Tryz.f40)) (fun _ => hS.cb) y_move ?_
       refine hy0 1 rfl wn (by kernel_rfl) (nq (P := Tryz.prog) (fn := Tryz.f40)) (fun _ => hS.cb) y_nilCheck ?_
       refine hy0 2 rfl wn (by kernel_rfl) (nq (P := Tryz.prog) (fn := Tryz.f40)) (fun _ => hS.cb) (y_field fa_api_State_0) ?_
       refine hy 3 rfl wn (by kernel_rfl) (nq (P := Tryz.prog) (fn := Tryz.f40)) hS.cb (y_load (fun w hS => hS.own (mC (mH))) underlying31 rfl rfl) ?_
       refine hy0 4 rfl wn (by kernel_rfl) (nq (P := Tryz.prog) (fn := Tryz.f40)) (fun _ => hS.cb) (y_field fa_api_Write_0) ?_
       refine hy 5 rfl wn (by kernel_rfl) (nq (P := Tryz.prog) (fn := Tryz.f40)) hS.cb (y_load (fun w hS => hS.own (mH)) underlying3 rfl rfl) ?_
       refine hy0 6 rfl wn (by kernel_rfl) (nq (P := Tryz.prog) (fn := Tryz.f40)) (fun _ => hS.cb) (y_field fa_api_Write_1) ?_
       refine hy 7 rfl wn (by kernel_rfl) (nq (P := Tryz.prog) (fn := Tryz.f40)) hS.cb (y_load (fun w hS => hS.own (mH)) underlying87 rfl rfl) ?_
       obtain ⟨Z4, B2, hF⟩ := ob hF
       obtain ⟨N5, R5, B5, X3, Y3, Z3, B4⟩ := OwT.at_set B2 B1 enc_len_uint32
       refine hy0 8 rfl wn (by kernel_rfl) (nq (P := Tryz.prog) (fn := Tryz.f40)) (fun _ => hS.cb) (y_index X3 Y3 Z3 underlying31 el_uint32.size) ?_
       refine hb1 9 (by kernel_rfl) (hb_op rfl wn (nl (P := Tryz.prog) (fn := Tryz.f40)) ?_)
       refine o_storeO (L' := fun X => ((I3, blk (enc_Write B0) 89) :: ((b0_, blk (cl_State E0 V0 X0 a0.Taken M0 a0.PC N0 a0.Stop R0 a0.Jump a0.Delay) 62) :: (X ++ (T0 ++ (G0 ++ (I0 ++ (J0 ++ (K0 ++ (D0 ++ [])))))))))) B2 hS B1 B4 (fun X => .thereb _ (.thereb _ (.here _))) enc_len_uint32 rfl (by exact sz_uint32) rfl rfl ?_
       clear hS; intro D4 w J4 hS
       refine hb_next (fun h => absurd h (by decide)) ?_
       refine hb_done (by kernel_rfl) ?_
       refine c_region <| oy hS y_move <| oy hS y_bin <| oy hS y_assign <| n_thenN ?_
       obtain rfl := osi hF
       exact ⟨_, Z1, Z0, D0, D4, D1, J4, mk_exF, (hS.re (.b (.e .hb) (.t (.e .h) (.t (.e .h) (.t (.e .h) (.t (.e .h) (.t (.e .h) (.t (.e .h) (.t (.e .h) .n)))))))))⟩
     replace hF := bf Y2 hF
     refine c_region <| oy hS y_move <| oy hS (y_field fa_api_Write_0) <| oy hS (y_load oH underlying3 rfl rfl) <| oy hS (y_field fa_api_Write_1) <| oy hS (y_load oH underlying87 rfl rfl) <| oy hS (y_field fa_api_Write_2) <| oy hS (y_load oH underlying3 rfl rfl) ?_
     refine oy hS y_bin ?_
     refine oy hS (y_build (cl := (enc_Write ⟨B0.Reg, B0.Value, IntKind.i64.wrap (B0.Left - 1)⟩)) bt_api_Write rfl (by kernel_rfl)) ?_
     refine o_buildT val_Write ([(⟨B0.Reg, B0.Value, IntKind.i64.wrap (B0.Left - 1)⟩ : T_Write)] : List T_Write) hS el_api_Write (fun _ => rfl) enc_len_Write (by decide) rfl (by decide) (hp := rfl) (h := ?_)
     clear hS; intro K4 w hS T5
     have hS : St W g LB0_ ([(K4, blk (([(⟨B0.Reg, B0.Value, IntKind.i64.wrap (B0.Left - 1)⟩ : T_Write)] : List T_Write).flatMap enc_Write) 89)] ++ ((I3, blk (enc_Write B0) 89) :: ((b0_, blk (cl_State E0 V0 X0 a0.Taken M0 a0.PC N0 a0.Stop R0 a0.Jump a0.Delay) 62) :: (U0 ++ (T0 ++ (G0 ++ (I0 ++ (J0 ++ (K0 ++ (D0 ++ [])))))))))) w := hS
     obtain ⟨D5, J3, hF⟩ := ob hF
     have hS := hS.re (.t .h (.t (.e (.e (.d (.d (.d (.d (.d (.d .h)))))))) (.b .hb (.b .hb (.t .h (.t .h (.t .h (.t .h (.t .h (.t .h .n))))))))))
     refine o_appPn (ys := ([(⟨B0.Reg, B0.Value, IntKind.i64.wrap (B0.Left - 1)⟩ : T_Write)] : List T_Write)) (LX := D0) J3 hS el_api_Write D1 rfl enc_len_Write (enc_ones_Write _) (by decide) ?_
     clear hS; intro M4 E4 w N4 hS
     refine oy hS y_assign ?_
     refine n_anyN ?_
     refine c_region <| oy hS y_move <| oy hS y_bin <| oy hS y_assign <| n_thenN ?_
     obtain rfl := osi hF
     exact ⟨_, Z1, M4, E4, U0, N4, B1, mk_exF, (hS.re (.b (.d (.e .hb)) (.t (.d (.e .h)) (.t (.d (.e .h)) (.t (.d (.e .h)) (.t (.d (.e .h)) (.t (.d (.e .h)) (.t (.d (.e .h)) (.t .h .n)))))))))⟩
   replace hF := bf X2 hF
   refine wp_exit ?_
   obtain rfl := osi hF
   obtain rfl : _ = I4 := Z1
   change ∃ _, _
   exact ⟨E3, G3, a0.Mem, a0.In_, a0.Out, a0.Stack, a0.Fly, Z0, E0, V0, X0, M0, N0, R0, D0, U0, T0, G0, I0, J0, K0, K3, D1, B1, D3, E2, G2, I2, Y0, mk_exF, (hS.re (.b .hb (.t .h (.t .h (.t .h (.t .h (.t .h (.t .h (.t .h .n)))))))))⟩
 rintro a w ⟨J2, K2, M2, N2, R2, T2, U2, E1, G1, I1, J1, K1, M1, V2, N1, R1, T1, U1, V1, X1, Y1, hF, Z2, R4, T4, U4, V4, X4, U5, ⟨V5, rfl⟩, hS⟩
 dsimp only [r5_lands_k1] at hF
 refine c_region ?_
 iterate 2 (refine oy hS y_move ?_)
 refine oy hS y_nilCheck <| oy hS (y_field fa_api_State_8) ?_
 refine o_storeA1 (o := 8) (cl' := (cl_State G1 I1 J1 a0.Taken K1 a0.PC M1 a0.Stop E1 a0.Jump a0.Delay)) hS (by kernel_rfl) (by exact Nat.le_of_ble_eq_true rfl) (Upd.here _) (by exact sz_S_api_Write) (Z2).one (Z2).cell ?_
 clear hS; intro w hS
 refine n_anyN ?_
 obtain rfl := osi hF
 refine (r_end (vs := []) (hS.re (.b .hb (.t .h (.t .h (.t .h (.t .h (.t .h (.t (.d .h) .n)))))))) rsN rfl ⟨_, rfl, (by first | rfl | simp only [aa, ac, al, an]), ⟨_, _, _, _, _, _, _, _, _, _, _, _, rfl, R4, T4, U4, V4, X4, Z2⟩⟩)
theorem w_r5_lands {g : Frag} {a0 : T_State} {b0_ : Nat} {LB0_ : Own} {r : T_State} (h0 : Bx_State b0_ a0 LB0_) (hF : r5_lands a0 = some r) : LC Tryz.prog 40 #[.pointer (some ⟨b0_, 0, none⟩)] g LB0_ (fun v L => ∃ (LB' : Own), v = .tuple #[] ∧ L = (LB' ++ []) ∧ Bx_State b0_ r LB') := w_r5_lands_ h0 hF

noncomputable def r3_Reads (a0 : T_Ins) : Option (List Int) :=
  (r3_Form a0.Op).bind fun r2 => bif (r3_HasA r2) then (app' ([]) ([a0.A] : List Int)).bind fun B0 => bif (r3_HasB r2) then (app' B0 ([a0.B] : List Int)).bind fun D0 => some (D0) else some (B0) else bif (r3_HasB r2) then (app' ([]) ([a0.B] : List Int)).bind fun E0 => some (E0) else some ([])
theorem w_r3_Reads_ {g : Frag} {a0 : T_Ins} {r : (List Int)}  (hF : r3_Reads a0 = some r) : LC Tryz.prog 70 #[.agg (enc_Ins a0).toArray] g [] (fun v L => ∃ (u0 : Value) (M0 : Own), u0 = v ∧ L = (M0 ++ []) ∧ OwT 3 enc_int 1 r u0 M0) := by
 unfold r3_Reads at hF
 refine lc_body (k := 23) (av := [.agg (enc_Ins a0).toArray]) func70 rfl rfl (h := fun W hS => ?_)
 refine c_seq <| c_region ?_
 refine o_boxP (cl := (enc_Ins a0)) rfl hS ?_
 clear hS; intro b1 w hS
 refine oy hS y_assign <| n_thenN <| c_seq <| c_region <| oy hS y_assign <| n_thenN <| c_seq <| c_region ?_
 refine oy hS (y_field fa_api_Ins_0) <| oy hS (y_load oH underlying3 rfl rfl) ?_
 obtain ⟨r2, hr2, hF⟩ := ob hF
 refine o_callS hS func87 rfl rfl (hc := (w_r3_Form (a0 := a0.Op) (hF := hr2))) (h := ?_)
 clear hS; intro w hS
 refine oy hS y_assign <| n_thenN ?_
 iterate 2 (refine c_seq ?_)
 refine c_region <| oy hS y_move ?_
 refine o_callS hS func90 rfl rfl (hc := (w_r3_HasA (a0 := r2))) (h := ?_)
 clear hS; intro w hS
 refine n_thenN ?_
 refine c_if (ht := fun c3 => ?_) (hf := fun c3 => ?_)
 · replace hF := bt c3 hF
   refine c_region <| oy hS y_move <| oy hS (y_field fa_api_Ins_2) <| oy hS (y_load oH underlying3 rfl rfl) ?_
   refine o_buildT val_int ([a0.A] : List Int) hS el_int (fun _ => rfl) enc_len_int (by decide) rfl (by decide) (hp := rfl) (h := ?_)
   clear hS; intro b4 w hS h5
   have hS : St W g [] ([(b4, blk (([a0.A] : List Int).flatMap enc_int) 3)] ++ ((b1, blk (enc_Ins a0) 81) :: [])) w := hS
   obtain ⟨G0, B0, hF⟩ := ob hF
   refine o_appPn (ys := ([a0.A] : List Int)) (LX := []) B0 hS el_int (OwT.nil _ _ _) rfl enc_len_int (enc_ones_int _) (by decide) ?_
   clear hS; intro v8 LX9 w h10 hS
   refine oy hS y_assign <| n_thenN ?_
   iterate 2 (refine c_seq ?_)
   refine c_region <| oy hS y_move ?_
   refine o_callS hS func91 rfl rfl (hc := (w_r3_HasB (a0 := r2))) (h := ?_)
   clear hS; intro w hS
   refine n_thenN ?_
   refine c_if (ht := fun c13 => ?_) (hf := fun c13 => ?_)
   · replace hF := bt c13 hF
     refine c_region <| oy hS y_move <| oy hS (y_field fa_api_Ins_3) <| oy hS (y_load (fun w hS => hS.own (mB (mH))) underlying3 rfl rfl) ?_
     refine o_buildT val_int ([a0.B] : List Int) hS el_int (fun _ => rfl) enc_len_int (by decide) rfl (by decide) (hp := rfl) (h := ?_)
     clear hS; intro b14 w hS h15
     have hS : St W g [] ([(b14, blk (([a0.B] : List Int).flatMap enc_int) 3)] ++ (LX9 ++ ((b1, blk (enc_Ins a0) 81) :: []))) w := hS
     obtain ⟨I0, D0, hF⟩ := ob hF
     refine o_appPn (ys := ([a0.B] : List Int)) (LX := LX9) D0 hS el_int h10 rfl enc_len_int (enc_ones_int _) (by decide) ?_
     clear hS; intro v17 J0 w h19 hS
     refine oy hS y_assign <| n_thenN <| c_seq <| c_region <| oy hS y_move <| oy hS y_assign <| n_thenN ?_
     obtain rfl := osi hF
     refine wp_ret (r_ret (vs := [v17]) (hS.re (.t .h .n)) (rsC res_tmp rsN) rfl ⟨_, _, rfl, (by first | rfl | simp only [aa, ac, al, an]), h19⟩)
   replace hF := bf c13 hF
   refine wp_skip <| c_seq <| c_region <| oy hS y_move <| oy hS y_assign <| n_thenN ?_
   obtain rfl := osi hF
   refine wp_ret (r_ret (vs := [v8]) (hS.re (.t .h .n)) (rsC res_tmp rsN) rfl ⟨_, _, rfl, (by first | rfl | simp only [aa, ac, al, an]), h10⟩)
 replace hF := bf c3 hF
 refine wp_skip ?_
 iterate 2 (refine c_seq ?_)
 refine c_region <| oy hS y_move ?_
 refine o_callS hS func91 rfl rfl (hc := (w_r3_HasB (a0 := r2))) (h := ?_)
 clear hS; intro w hS
 refine n_thenN ?_
 refine c_if (ht := fun c22 => ?_) (hf := fun c22 => ?_)
 · replace hF := bt c22 hF
   refine c_region <| oy hS y_move <| oy hS (y_field fa_api_Ins_3) <| oy hS (y_load oH underlying3 rfl rfl) ?_
   refine o_buildT val_int ([a0.B] : List Int) hS el_int (fun _ => rfl) enc_len_int (by decide) rfl (by decide) (hp := rfl) (h := ?_)
   clear hS; intro b23 w hS h24
   have hS : St W g [] ([(b23, blk (([a0.B] : List Int).flatMap enc_int) 3)] ++ ((b1, blk (enc_Ins a0) 81) :: [])) w := hS
   obtain ⟨K0, E0, hF⟩ := ob hF
   refine o_appPn (ys := ([a0.B] : List Int)) (LX := []) E0 hS el_int (OwT.nil _ _ _) rfl enc_len_int (enc_ones_int _) (by decide) ?_
   clear hS; intro v27 N0 w h29 hS
   refine oy hS y_assign <| n_thenN <| c_seq <| c_region <| oy hS y_move <| oy hS y_assign <| n_thenN ?_
   obtain rfl := osi hF
   refine wp_ret (r_ret (vs := [v27]) (hS.re (.t .h .n)) (rsC res_tmp rsN) rfl ⟨_, _, rfl, (by first | rfl | simp only [aa, ac, al, an]), h29⟩)
 replace hF := bf c22 hF
 refine wp_skip <| c_seq <| c_region <| oy hS y_move <| oy hS y_assign <| n_thenN ?_
 obtain rfl := osi hF
 refine wp_ret (r_ret (vs := [(.slice none 0 0)]) (hS.re (.n)) (rsC res_tmp rsN) rfl ⟨_, _, rfl, (by first | rfl | simp only [aa, ac, al, an]), (OwT.nil _ _ _)⟩)
theorem w_r3_Reads {g : Frag} {a0 : T_Ins} {r : (List Int)}  (hF : r3_Reads a0 = some r) : LC Tryz.prog 70 #[.agg (enc_Ins a0).toArray] g [] (fun v L => ∃ (u0 : Value) (M0 : Own), u0 = v ∧ L = (M0 ++ []) ∧ OwT 3 enc_int 1 r u0 M0) := w_r3_Reads_  hF

noncomputable def r3_Writes (a0 : T_Ins) : Option Int :=
  (r3_Form a0.Op).bind fun r2 => bif (r3_HasD r2) then some (a0.D) else some (-1)
theorem w_r3_Writes_ {g : Frag} {a0 : T_Ins} {r : Int}  (hF : r3_Writes a0 = some r) : LCs Tryz.prog 72 #[.agg (enc_Ins a0).toArray] g (.int .i64 r) := by
 unfold r3_Writes at hF
 refine lc_body (k := 9) (av := [.agg (enc_Ins a0).toArray]) func72 rfl rfl (h := fun W hS => ?_)
 refine c_seq <| c_region ?_
 refine o_boxP (cl := (enc_Ins a0)) rfl hS ?_
 clear hS; intro b1 w hS
 refine oy hS y_assign <| n_thenN ?_
 iterate 2 (refine c_seq ?_)
 refine c_region <| oy hS (y_field fa_api_Ins_0) <| oy hS (y_load oH underlying3 rfl rfl) ?_
 obtain ⟨r2, hr2, hF⟩ := ob hF
 refine o_callS hS func87 rfl rfl (hc := (w_r3_Form (a0 := a0.Op) (hF := hr2))) (h := ?_)
 clear hS; intro w hS
 refine o_callS hS func89 rfl rfl (hc := (w_r3_HasD (a0 := r2))) (h := ?_)
 clear hS; intro w hS
 refine n_thenN ?_
 refine c_if (ht := fun c3 => ?_) (hf := fun c3 => ?_)
 · replace hF := bt c3 hF
   refine c_seq <| c_region <| oy hS (y_field fa_api_Ins_1) <| oy hS (y_load oH underlying3 rfl rfl) <| oy hS y_assign <| n_thenN ?_
   obtain rfl := osi hF
   exact wp_ret (wr1 hS)
 replace hF := bf c3 hF
 refine wp_skip <| c_seq <| c_region <| oy hS y_assign <| n_thenN ?_
 obtain rfl := osi hF
 exact wp_ret (wr1 hS)
theorem w_r3_Writes {g : Frag} {a0 : T_Ins} {r : Int}  (hF : r3_Writes a0 = some r) : LCs Tryz.prog 72 #[.agg (enc_Ins a0).toArray] g (.int .i64 r) := w_r3_Writes_  hF
end Go.Proofs.YtfnmihhcopkkbaaGreat
