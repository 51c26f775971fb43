/- Functions, lifted. Printed by lift.py. -/
import Derived.Test.YthbpicnbkdbbmaaProg
import Derived.Test.YthbpicnbkdbbmaaTy
import Derived.KernelRfl
namespace Go.Proofs.Ythbpicnbkdbbmaa
open Go Go.RowKit Fr
set_option linter.unusedVariables false
set_option linter.unusedSimpArgs false
set_option maxRecDepth 20000
open Try
set_option maxHeartbeats 2000000
noncomputable def r3_Form (a0 : Int) : Option Int :=
  (at' ([0, 1, 1, 1, 1, 1, 1, 1, 1, 1, 1, 1, 1, 1, 1, 1, 1, 1, 1, 1, 1, 2, 3, 4, 3, 5, 6, 7, 8, 9, 9, 8, 0, 0] : List Int) a0).bind fun x4 => some (x4)
theorem w_r3_Form_ {g : Frag} {a0 : Int} {r : Int}  (hF : r3_Form a0 = some r) : LCs Try.prog 6 #[.int .i64 a0] g (.int .i64 r) := by
 unfold r3_Form at hF
 refine lc_body (k := 7) (av := [.int .i64 a0]) func6 rfl rfl (h := fun W hS => ?_)
 refine c_seq <| c_region <| oy hS y_assign <| n_thenN <| c_seq <| c_region ?_
 refine o_buildT val_int ([0, 1, 1, 1, 1, 1, 1, 1, 1, 1, 1, 1, 1, 1, 1, 1, 1, 1, 1, 1, 1, 2, 3, 4, 3, 5, 6, 7, 8, 9, 9, 8, 0, 0] : List Int) hS el_int (fun _ => rfl) enc_len_int (by decide) rfl (by decide) (hp := rfl) (h := ?_)
 clear hS; intro b1 w hS h2
 have hS : St W g [] ([(b1, blk (([0, 1, 1, 1, 1, 1, 1, 1, 1, 1, 1, 1, 1, 1, 1, 1, 1, 1, 1, 1, 1, 2, 3, 4, 3, 5, 6, 7, 8, 9, 9, 8, 0, 0] : List Int).flatMap enc_int) 3)] ++ []) w := hS
 refine oy hS y_move ?_
 obtain ⟨x4, hx4, hF⟩ := ob hF
 obtain ⟨b5, c6, cl7, hv8, ha9, hb10, hl11, hc12⟩ := OwT.at hx4 h2 enc_len_int
 refine oy hS (y_index hv8 ha9 hb10 underlying24 el_int.size) <| oy hS (y_load (fun w hS => hS.own (mA (mX hl11))) underlying3 rfl (hc12 0 _ rfl)) <| oy hS y_assign <| n_thenN ?_
 obtain rfl := osi hF
 exact wp_ret (wr1 hS)
theorem w_r3_Form {g : Frag} {a0 : Int} {r : Int}  (hF : r3_Form a0 = some r) : LCs Try.prog 6 #[.int .i64 a0] g (.int .i64 r) := w_r3_Form_  hF

def r0_Between (a0 : Int) (a1 : Int) (a2 : Int) : Bool :=
  bif decide (a1 ≤ a0) then decide (a0 ≤ a2) else false
theorem w_r0_Between_ {g : Frag} {a0 : Int} {a1 : Int} {a2 : Int} {r : Bool}  (hF : r0_Between a0 a1 a2 = r) : LCs Try.prog 22 #[.int .i64 a0, .int .i64 a1, .int .i64 a2] g (.bool r) := by
 unfold r0_Between at hF
 refine lc_body (k := 15) (av := [.int .i64 a0, .int .i64 a1, .int .i64 a2]) func22 rfl rfl (h := fun W hS => ?_)
 refine c_seq <| c_region <| oy hS y_assign <| n_thenN <| c_seq <| c_region ?_
 iterate 2 (refine oy hS y_move ?_)
 refine oy hS y_bin ?_
 refine o_split (ht := fun c1 => ?_) (hf := fun c1 => ?_)
 · replace hF := bt c1 hF
   refine o_gu rfl rfl rfl <| oy hS y_move <| o_gu rfl rfl rfl <| oy hS y_move <| o_gu rfl rfl rfl <| oy hS y_bin <| oy hS y_pickT <| oy hS y_assign ?_
   refine n_thenN ?_
   subst hF
   exact wp_ret (wr1 hS)
 replace hF := bf c1 hF
 iterate 3 (refine o_sk rfl rfl ?_)
 refine oy hS y_pickF <| oy hS y_assign <| n_thenN ?_
 subst hF
 exact wp_ret (wr1 hS)
theorem w_r0_Between {g : Frag} {a0 : Int} {a1 : Int} {a2 : Int}  : LCs Try.prog 22 #[.int .i64 a0, .int .i64 a1, .int .i64 a2] g (.bool (r0_Between a0 a1 a2)) := w_r0_Between_  rfl

def r3_HasD (a0 : Int) : Bool :=
  bif (r0_Between a0 1 4) then true else decide (a0 = 6)
theorem w_r3_HasD_ {g : Frag} {a0 : Int} {r : Bool}  (hF : r3_HasD a0 = r) : LCs Try.prog 5 #[.int .i64 a0] g (.bool r) := by
 unfold r3_HasD at hF
 refine lc_body (k := 9) (av := [.int .i64 a0]) func5 rfl rfl (h := fun W hS => ?_)
 refine c_seq <| c_region <| oy hS y_assign <| n_thenN <| c_seq <| c_region <| oy hS y_move ?_
 refine o_callS hS func22 rfl rfl (hc := (w_r0_Between (a0 := a0) (a1 := 1) (a2 := 4))) (h := ?_)
 clear hS; intro w hS
 refine o_split (ht := fun c1 => ?_) (hf := fun c1 => ?_)
 · replace hF := bt c1 hF
   iterate 2 (refine o_sk rfl rfl ?_)
   refine oy hS y_pickT <| oy hS y_assign <| n_thenN ?_
   subst hF
   exact wp_ret (wr1 hS)
 replace hF := bf c1 hF
 refine o_gu rfl rfl rfl <| oy hS y_move <| o_gu rfl rfl rfl <| oy hS y_bin <| oy hS y_pickF <| oy hS y_assign <| n_thenN ?_
 subst hF
 exact wp_ret (wr1 hS)
theorem w_r3_HasD {g : Frag} {a0 : Int}  : LCs Try.prog 5 #[.int .i64 a0] g (.bool (r3_HasD a0)) := w_r3_HasD_  rfl

def r3_HasA (a0 : Int) : Bool :=
  bif (r0_Between a0 1 3) then true else bif decide (a0 = 5) then true else bif decide (a0 = 7) then true else decide (a0 = 9)
theorem w_r3_HasA_ {g : Frag} {a0 : Int} {r : Bool}  (hF : r3_HasA a0 = r) : LCs Try.prog 7 #[.int .i64 a0] g (.bool r) := by
 unfold r3_HasA at hF
 refine lc_body (k := 17) (av := [.int .i64 a0]) func7 rfl rfl (h := fun W hS => ?_)
 refine c_seq <| c_region <| oy hS y_assign <| n_thenN <| c_seq <| c_region <| oy hS y_move ?_
 refine o_callS hS func22 rfl rfl (hc := (w_r0_Between (a0 := a0) (a1 := 1) (a2 := 3))) (h := ?_)
 clear hS; intro w hS
 refine o_split (ht := fun c1 => ?_) (hf := fun c1 => ?_)
 · replace hF := bt c1 hF
   iterate 2 (refine o_sk rfl rfl ?_)
   refine oy hS y_pickT <| oy hS y_move ?_
   iterate 2 (refine o_sk rfl rfl ?_)
   refine oy hS y_pickT <| oy hS y_move ?_
   iterate 2 (refine o_sk rfl rfl ?_)
   refine oy hS y_pickT <| oy hS y_assign <| n_thenN ?_
   subst hF
   exact wp_ret (wr1 hS)
 replace hF := bf c1 hF
 refine o_gu rfl rfl rfl <| oy hS y_move <| o_gu rfl rfl rfl <| oy hS y_bin <| oy hS y_pickF ?_
 refine o_split (ht := fun c2 => ?_) (hf := fun c2 => ?_)
 · replace hF := bt c2 hF
   iterate 2 (refine o_sk rfl rfl ?_)
   refine oy hS y_pickT <| oy hS y_move ?_
   iterate 2 (refine o_sk rfl rfl ?_)
   refine oy hS y_pickT <| oy hS y_assign <| n_thenN ?_
   subst hF
   exact wp_ret (wr1 hS)
 replace hF := bf c2 hF
 refine o_gu rfl rfl rfl <| oy hS y_move <| o_gu rfl rfl rfl <| oy hS y_bin <| oy hS y_pickF ?_
 refine o_split (ht := fun c3 => ?_) (hf := fun c3 => ?_)
 · replace hF := bt c3 hF
   iterate 2 (refine o_sk rfl rfl ?_)
   refine oy hS y_pickT <| oy hS y_assign <| n_thenN ?_
   subst hF
   exact wp_ret (wr1 hS)
 replace hF := bf c3 hF
 refine o_gu rfl rfl rfl <| oy hS y_move <| o_gu rfl rfl rfl <| oy hS y_bin <| oy hS y_pickF <| oy hS y_assign <| n_thenN ?_
 subst hF
 exact wp_ret (wr1 hS)
theorem w_r3_HasA {g : Frag} {a0 : Int}  : LCs Try.prog 7 #[.int .i64 a0] g (.bool (r3_HasA a0)) := w_r3_HasA_  rfl

noncomputable def r0_CopyWords_b1 (a0 : (List Int)) : ((List Int) × Int) → Option (Step ((List Int) × Int) (List Int)) := fun (x24, x29) => bif decide (x29 < (a0.length : Int)) then (at' a0 x29).bind fun x57 => (app' x24 ([x57] : List Int)).bind fun zs76 => some (.next (zs76, IntKind.i64.wrap (x29 + 1))) else some (.done (x24))
noncomputable def r0_CopyWords (a0 : (List Int)) : Option (List Int) :=
  loop (σ := ((List Int) × Int)) (r0_CopyWords_b1 a0) ([], 0)
theorem w_r0_CopyWords_ {g : Frag} {a0 : (List Int)} {v0_ : Value} {r : (List Int)} (h0 : SlT g enc_uint32 1 a0 v0_) (hF : r0_CopyWords a0 = some r) : LC Try.prog 23 #[v0_] g [] (fun v L => ∃ (u0 : Value) (M0 : Own), u0 = v ∧ L = (M0 ++ []) ∧ OwT 35 enc_uint32 1 r u0 M0) := by
 unfold r0_CopyWords at hF
 refine lc_body (k := 19) (av := [v0_]) func23 rfl rfl (h := fun W hS => ?_)
 refine c_seq <| c_region <| oy hS y_assign <| n_thenN <| c_seq <| c_region <| oy hS y_assign <| n_thenN ?_
 iterate 2 (refine c_seq ?_)
 refine c_region <| oy hS y_assign <| n_thenN <| c_block ?_
 refine c_loopP hF (fun (q : ((List Int) × Int)) a w' => ∃ (v25 : Value) (LX27 : Own), OwT 35 enc_uint32 1 q.1 v25 LX27 ∧ (∃ s : Nat → Value, a = Ac ((((Fm.dead 19 s).upd 0 v0_).upd 3 v25).upd 4 (.int .i64 q.2))) ∧ St W g [] (LX27 ++ []) w') ⟨(.slice none 0 0), [], (OwT.nil _ _ _), mk_exF, (hS.re (.take (X := []) (.here [] _) .n))⟩ ?_
 clear hS hF
 intro n54 q a w hI hq
 obtain ⟨x24, x29⟩ := q
 obtain ⟨v25, LX27, h26, ⟨s55, rfl⟩, hS⟩ := hq
 replace h26 : OwT 35 enc_uint32 1 x24 v25 LX27 := h26
 obtain ⟨z51, hF, hK52⟩ := iter_step hI
 clear hI
 dsimp only [r0_CopyWords_b1] at hF
 iterate 2 (refine c_seq ?_)
 refine c_region ?_
 iterate 2 (refine oy hS y_move ?_)
 refine oy hS (y_len h0 underlying23) <| oy hS y_bin <| n_thenN ?_
 refine c_if (ht := fun c56 => ?_) (hf := fun c56 => ?_)
 · replace hF := bt c56 hF
   refine wp_skip <| c_seq <| c_block <| c_region ?_
   iterate 3 (refine oy hS y_move ?_)
   obtain ⟨x57, hx57, hF⟩ := ob hF
   obtain ⟨b58, o59, c60, cs61, e62, fz63, hv64, ha65, hb66, hd67, hc68⟩ := SlT.at hx57 h0 enc_len_uint32
   refine oy hS (y_index hv64 ha65 hb66 underlying23 el_uint32.size) <| oy hS (y_load (fun w hS => hS.block hd67) underlying35 rfl (hc68 0 _ rfl)) ?_
   refine o_buildT val_uint32 ([x57] : List Int) hS el_uint32 (fun _ => rfl) enc_len_uint32 (by decide) rfl (by decide) (hp := rfl) (h := ?_)
   clear hS; intro b69 w hS h70
   have hS : St W g [] ([(b69, blk (([x57] : List Int).flatMap enc_uint32) 35)] ++ (LX27 ++ [])) w := hS
   obtain ⟨zs76, hzs76, hF⟩ := ob hF
   refine o_appPn (ys := ([x57] : List Int)) (LX := LX27) hzs76 hS el_uint32 h26 rfl enc_len_uint32 (enc_ones_uint32 _) (by decide) ?_
   clear hS; intro v72 LX73 w h74 hS
   refine oy hS y_assign ?_
   refine n_anyN ?_
   refine c_region <| oy hS y_move <| oy hS y_bin <| oy hS y_assign <| n_thenN ?_
   obtain rfl := osi hF
   exact ⟨_, hK52, v72, LX73, h74, mk_exF, (hS.re (.t .h .n))⟩
 replace hF := bf c56 hF
 refine wp_exit ?_
 refine c_seq <| c_region <| oy hS y_move <| oy hS y_assign <| n_thenN ?_
 obtain rfl := osi hF
 obtain rfl : _ = r := hK52
 refine wp_ret (r_ret (vs := [v25]) (hS.re (.t .h .n)) (rsC res_tmp rsN) rfl ⟨_, _, rfl, (by first | rfl | simp only [aa, ac, al, an]), h26⟩)
theorem w_r0_CopyWords {g : Frag} {a0 : (List Int)} {v0_ : Value} {r : (List Int)} (h0 : SlT g enc_uint32 1 a0 v0_) (hF : r0_CopyWords a0 = some r) : LC Try.prog 23 #[v0_] g [] (fun v L => ∃ (u0 : Value) (M0 : Own), u0 = v ∧ L = (M0 ++ []) ∧ OwT 35 enc_uint32 1 r u0 M0) := w_r0_CopyWords_ h0 hF

noncomputable def r5_New (a0 : (List Int)) : Option T_State :=
  (make' 16 (0 : Int)).bind fun zs2 => (make' 256 (0 : Int)).bind fun zs7 => (r0_CopyWords a0).bind fun r12 => some (⟨zs2, zs7, r12, 0, [], 0, [], 0, [], 0, 0⟩ : T_State)
theorem w_r5_New_ {g : Frag} {a0 : (List Int)} {v0_ : Value} {r : T_State} (h0 : SlT g enc_uint32 1 a0 v0_) (hF : r5_New a0 = some r) : LC Try.prog 8 #[v0_] g [] (fun v L => ∃ (u0 : Value) (M0 : Own), u0 = v ∧ L = (M0 ++ []) ∧ Ow_State r u0 M0) := by
 unfold r5_New at hF
 refine lc_body (k := 8) (av := [v0_]) func8 rfl rfl (h := fun W hS => ?_)
 refine c_seq <| c_region ?_
 refine o_allocP (cl := (cl_State (.slice none 0 0) (.slice none 0 0) (.slice none 0 0) 0 (.slice none 0 0) 0 (.slice none 0 0) 0 (.slice none 0 0) 0 0)) zr_api_State rfl hS ?_
 clear hS; intro b1 w hS
 refine n_thenN <| c_seq ?_
 obtain ⟨zs2, hzs2, hF⟩ := ob hF
 obtain ⟨zs7, hzs7, hF⟩ := ob hF
 obtain ⟨r12, hr12, hF⟩ := ob hF
 refine c_heldL 5 6 (by kernel_rfl) rfl hS ?_
 clear hS; intro w hS
 refine hy0 2 rfl wn (by kernel_rfl) (nq (P := Try.prog) (fn := Try.f8)) (fun _ => hS.cb) y_move ?_
 refine hb3 0 1 3 (by kernel_rfl) (hb_op rfl wn (nl (P := Try.prog) (fn := Try.f8)) ?_) (hb_op rfl wn (nl (P := Try.prog) (fn := Try.f8)) ?_) (hb_op rfl wn (nl (P := Try.prog) (fn := Try.f8)) ?_)
 · skip
   refine o_makeP hzs2 hS el_uint32 enc_len_uint32 mz_uint32 (by decide) ?_
   clear hS; intro v3 LX4 w h5 hS
   refine hb_next (fun _ => (hS.re (.b (.there _ .hb) .n)).cb) ?_
   refine hb2 1 3 (by kernel_rfl) (hb_op rfl wn (nl (P := Try.prog) (fn := Try.f8)) ?_) (hb_op rfl wn (nl (P := Try.prog) (fn := Try.f8)) ?_)
   · skip
     refine o_makeP hzs7 hS el_uint32 enc_len_uint32 mz_uint32 (by decide) ?_
     clear hS; intro v8 LX9 w h10 hS
     refine hb_next (fun _ => (hS.re (.b (.there _ (.there _ .hb)) .n)).cb) ?_
     refine hb1 3 (by kernel_rfl) (hb_op rfl wn (nl (P := Try.prog) (fn := Try.f8)) ?_)
     refine o_call0 hS func23 rfl rfl (hc := (w_r0_CopyWords (a0 := a0) (h0 := h0.plus) (hF := hr12))) (h := ?_)
     clear hS; intro v13 LY14 w hS hr15
     obtain ⟨v_0_16, LX_0_17, rfl, rfl, h_0_18⟩ := hr15
     simp only [aa, ac, al] at hS
     refine hb_next (fun _ => (hS.re (.b (.there _ (.there _ (.there _ .hb))) .n)).cb) ?_
     refine hy0 4 rfl wn (by kernel_rfl) (nq (P := Try.prog) (fn := Try.f8)) (fun _ => (hS.re (.b (.there _ (.there _ (.there _ .hb))) .n)).cb) (y_build (cl := (cl_State v3 v8 v_0_16 0 (.slice none 0 0) 0 (.slice none 0 0) 0 (.slice none 0 0) 0 0)) bt_api_State rfl (fillS (vs := [v3]) rfl (h5).cell rfl rfl (fillS (vs := [v8]) rfl (h10).cell rfl rfl (fillS (vs := [v_0_16]) rfl (h_0_18).cell rfl rfl fillN)))) ?_
     refine hb1 5 (by kernel_rfl) (hb_op rfl wn (nl (P := Try.prog) (fn := Try.f8)) ?_)
     have hS := hS.re (.b (.there _ (.there _ (.there _ .hb))) (.t .h (.t .h (.t .h .n))))
     refine o_storeW (vs := (cl_State v3 v8 v_0_16 0 (.slice none 0 0) 0 (.slice none 0 0) 0 (.slice none 0 0) 0 0)) hS (by exact rfl) (Upd.here _) (by exact sz_api_State) (one_State (h5).one (h10).one (h_0_18).one rfl rfl rfl) ?_
     clear hS; intro w hS
     refine hb_next (fun h => absurd h (by decide)) ?_
     refine hb_done (by kernel_rfl) ?_
     obtain rfl := osi hF
     refine wp_ret (r_ret (vs := [.agg (cl_State v3 v8 v_0_16 0 (.slice none 0 0) 0 (.slice none 0 0) 0 (.slice none 0 0) 0 0).toArray]) (hS.re (.t (.thereb _ (.there _ (.there _ .h))) (.t (.thereb _ (.there _ .h)) (.t (.thereb _ .h) .n)))) (rsC (res_cell (hS.own (mH)) underlying27 rfl (by exact sz_api_State)) rsN) rfl ⟨_, _, rfl, (by first | rfl | simp only [aa, ac, al, an]), ⟨_, _, _, _, _, _, _, _, _, _, _, _, rfl, rfl, h5, h10, h_0_18, OwT.nil _ _ _, OwT.nil _ _ _, OwT.nil _ _ _⟩⟩)
   refine o_call0 hS func23 rfl rfl (hc := (w_r0_CopyWords (a0 := a0) (h0 := h0.plus) (hF := hr12))) (h := ?_)
   clear hS; intro v13 LY14 w hS hr15
   obtain ⟨v_0_16, LX_0_17, rfl, rfl, h_0_18⟩ := hr15
   simp only [aa, ac, al] at hS
   refine hb_next (fun _ => (hS.re (.b (.there _ (.there _ .hb)) .n)).cb) ?_
   refine hb1 1 (by kernel_rfl) (hb_op rfl wn (nl (P := Try.prog) (fn := Try.f8)) ?_)
   refine o_makeP hzs7 hS el_uint32 enc_len_uint32 mz_uint32 (by decide) ?_
   clear hS; intro v8 LX9 w h10 hS
   refine hb_next (fun _ => (hS.re (.b (.there _ (.there _ (.there _ .hb))) .n)).cb) ?_
   refine hy0 4 rfl wn (by kernel_rfl) (nq (P := Try.prog) (fn := Try.f8)) (fun _ => (hS.re (.b (.there _ (.there _ (.there _ .hb))) .n)).cb) (y_build (cl := (cl_State v3 v8 v_0_16 0 (.slice none 0 0) 0 (.slice none 0 0) 0 (.slice none 0 0) 0 0)) bt_api_State rfl (fillS (vs := [v3]) rfl (h5).cell rfl rfl (fillS (vs := [v8]) rfl (h10).cell rfl rfl (fillS (vs := [v_0_16]) rfl (h_0_18).cell rfl rfl fillN)))) ?_
   refine hb1 5 (by kernel_rfl) (hb_op rfl wn (nl (P := Try.prog) (fn := Try.f8)) ?_)
   have hS := hS.re (.b (.there _ (.there _ (.there _ .hb))) (.t .h (.t .h (.t .h .n))))
   refine o_storeW (vs := (cl_State v3 v8 v_0_16 0 (.slice none 0 0) 0 (.slice none 0 0) 0 (.slice none 0 0) 0 0)) hS (by exact rfl) (Upd.here _) (by exact sz_api_State) (one_State (h5).one (h10).one (h_0_18).one rfl rfl rfl) ?_
   clear hS; intro w hS
   refine hb_next (fun h => absurd h (by decide)) ?_
   refine hb_done (by kernel_rfl) ?_
   obtain rfl := osi hF
   refine wp_ret (r_ret (vs := [.agg (cl_State v3 v8 v_0_16 0 (.slice none 0 0) 0 (.slice none 0 0) 0 (.slice none 0 0) 0 0).toArray]) (hS.re (.t (.thereb _ (.there _ (.there _ .h))) (.t (.thereb _ .h) (.t (.thereb _ .h) .n)))) (rsC (res_cell (hS.own (mH)) underlying27 rfl (by exact sz_api_State)) rsN) rfl ⟨_, _, rfl, (by first | rfl | simp only [aa, ac, al, an]), ⟨_, _, _, _, _, _, _, _, _, _, _, _, rfl, rfl, h5, h10, h_0_18, OwT.nil _ _ _, OwT.nil _ _ _, OwT.nil _ _ _⟩⟩)
 · skip
   refine o_makeP hzs7 hS el_uint32 enc_len_uint32 mz_uint32 (by decide) ?_
   clear hS; intro v8 LX9 w h10 hS
   refine hb_next (fun _ => (hS.re (.b (.there _ .hb) .n)).cb) ?_
   refine hb2 0 3 (by kernel_rfl) (hb_op rfl wn (nl (P := Try.prog) (fn := Try.f8)) ?_) (hb_op rfl wn (nl (P := Try.prog) (fn := Try.f8)) ?_)
   · skip
     refine o_makeP hzs2 hS el_uint32 enc_len_uint32 mz_uint32 (by decide) ?_
     clear hS; intro v3 LX4 w h5 hS
     refine hb_next (fun _ => (hS.re (.b (.there _ (.there _ .hb)) .n)).cb) ?_
     refine hb1 3 (by kernel_rfl) (hb_op rfl wn (nl (P := Try.prog) (fn := Try.f8)) ?_)
     refine o_call0 hS func23 rfl rfl (hc := (w_r0_CopyWords (a0 := a0) (h0 := h0.plus) (hF := hr12))) (h := ?_)
     clear hS; intro v13 LY14 w hS hr15
     obtain ⟨v_0_16, LX_0_17, rfl, rfl, h_0_18⟩ := hr15
     simp only [aa, ac, al] at hS
     refine hb_next (fun _ => (hS.re (.b (.there _ (.there _ (.there _ .hb))) .n)).cb) ?_
     refine hy0 4 rfl wn (by kernel_rfl) (nq (P := Try.prog) (fn := Try.f8)) (fun _ => (hS.re (.b (.there _ (.there _ (.there _ .hb))) .n)).cb) (y_build (cl := (cl_State v3 v8 v_0_16 0 (.slice none 0 0) 0 (.slice none 0 0) 0 (.slice none 0 0) 0 0)) bt_api_State rfl (fillS (vs := [v3]) rfl (h5).cell rfl rfl (fillS (vs := [v8]) rfl (h10).cell rfl rfl (fillS (vs := [v_0_16]) rfl (h_0_18).cell rfl rfl fillN)))) ?_
     refine hb1 5 (by kernel_rfl) (hb_op rfl wn (nl (P := Try.prog) (fn := Try.f8)) ?_)
     have hS := hS.re (.b (.there _ (.there _ (.there _ .hb))) (.t .h (.t .h (.t .h .n))))
     refine o_storeW (vs := (cl_State v3 v8 v_0_16 0 (.slice none 0 0) 0 (.slice none 0 0) 0 (.slice none 0 0) 0 0)) hS (by exact rfl) (Upd.here _) (by exact sz_api_State) (one_State (h5).one (h10).one (h_0_18).one rfl rfl rfl) ?_
     clear hS; intro w hS
     refine hb_next (fun h => absurd h (by decide)) ?_
     refine hb_done (by kernel_rfl) ?_
     obtain rfl := osi hF
     refine wp_ret (r_ret (vs := [.agg (cl_State v3 v8 v_0_16 0 (.slice none 0 0) 0 (.slice none 0 0) 0 (.slice none 0 0) 0 0).toArray]) (hS.re (.t (.thereb _ (.there _ .h)) (.t (.thereb _ (.there _ .h)) (.t (.thereb _ .h) .n)))) (rsC (res_cell (hS.own (mH)) underlying27 rfl (by exact sz_api_State)) rsN) rfl ⟨_, _, rfl, (by first | rfl | simp only [aa, ac, al, an]), ⟨_, _, _, _, _, _, _, _, _, _, _, _, rfl, rfl, h5, h10, h_0_18, OwT.nil _ _ _, OwT.nil _ _ _, OwT.nil _ _ _⟩⟩)
   refine o_call0 hS func23 rfl rfl (hc := (w_r0_CopyWords (a0 := a0) (h0 := h0.plus) (hF := hr12))) (h := ?_)
   clear hS; intro v13 LY14 w hS hr15
   obtain ⟨v_0_16, LX_0_17, rfl, rfl, h_0_18⟩ := hr15
   simp only [aa, ac, al] at hS
   refine hb_next (fun _ => (hS.re (.b (.there _ (.there _ .hb)) .n)).cb) ?_
   refine hb1 0 (by kernel_rfl) (hb_op rfl wn (nl (P := Try.prog) (fn := Try.f8)) ?_)
   refine o_makeP hzs2 hS el_uint32 enc_len_uint32 mz_uint32 (by decide) ?_
   clear hS; intro v3 LX4 w h5 hS
   refine hb_next (fun _ => (hS.re (.b (.there _ (.there _ (.there _ .hb))) .n)).cb) ?_
   refine hy0 4 rfl wn (by kernel_rfl) (nq (P := Try.prog) (fn := Try.f8)) (fun _ => (hS.re (.b (.there _ (.there _ (.there _ .hb))) .n)).cb) (y_build (cl := (cl_State v3 v8 v_0_16 0 (.slice none 0 0) 0 (.slice none 0 0) 0 (.slice none 0 0) 0 0)) bt_api_State rfl (fillS (vs := [v3]) rfl (h5).cell rfl rfl (fillS (vs := [v8]) rfl (h10).cell rfl rfl (fillS (vs := [v_0_16]) rfl (h_0_18).cell rfl rfl fillN)))) ?_
   refine hb1 5 (by kernel_rfl) (hb_op rfl wn (nl (P := Try.prog) (fn := Try.f8)) ?_)
   have hS := hS.re (.b (.there _ (.there _ (.there _ .hb))) (.t .h (.t .h (.t .h .n))))
   refine o_storeW (vs := (cl_State v3 v8 v_0_16 0 (.slice none 0 0) 0 (.slice none 0 0) 0 (.slice none 0 0) 0 0)) hS (by exact rfl) (Upd.here _) (by exact sz_api_State) (one_State (h5).one (h10).one (h_0_18).one rfl rfl rfl) ?_
   clear hS; intro w hS
   refine hb_next (fun h => absurd h (by decide)) ?_
   refine hb_done (by kernel_rfl) ?_
   obtain rfl := osi hF
   refine wp_ret (r_ret (vs := [.agg (cl_State v3 v8 v_0_16 0 (.slice none 0 0) 0 (.slice none 0 0) 0 (.slice none 0 0) 0 0).toArray]) (hS.re (.t (.thereb _ .h) (.t (.thereb _ (.there _ .h)) (.t (.thereb _ .h) .n)))) (rsC (res_cell (hS.own (mH)) underlying27 rfl (by exact sz_api_State)) rsN) rfl ⟨_, _, rfl, (by first | rfl | simp only [aa, ac, al, an]), ⟨_, _, _, _, _, _, _, _, _, _, _, _, rfl, rfl, h5, h10, h_0_18, OwT.nil _ _ _, OwT.nil _ _ _, OwT.nil _ _ _⟩⟩)
 refine o_call0 hS func23 rfl rfl (hc := (w_r0_CopyWords (a0 := a0) (h0 := h0.plus) (hF := hr12))) (h := ?_)
 clear hS; intro v13 LY14 w hS hr15
 obtain ⟨v_0_16, LX_0_17, rfl, rfl, h_0_18⟩ := hr15
 simp only [aa, ac, al] at hS
 refine hb_next (fun _ => (hS.re (.b (.there _ .hb) .n)).cb) ?_
 refine hb2 0 1 (by kernel_rfl) (hb_op rfl wn (nl (P := Try.prog) (fn := Try.f8)) ?_) (hb_op rfl wn (nl (P := Try.prog) (fn := Try.f8)) ?_)
 · skip
   refine o_makeP hzs2 hS el_uint32 enc_len_uint32 mz_uint32 (by decide) ?_
   clear hS; intro v3 LX4 w h5 hS
   refine hb_next (fun _ => (hS.re (.b (.there _ (.there _ .hb)) .n)).cb) ?_
   refine hb1 1 (by kernel_rfl) (hb_op rfl wn (nl (P := Try.prog) (fn := Try.f8)) ?_)
   refine o_makeP hzs7 hS el_uint32 enc_len_uint32 mz_uint32 (by decide) ?_
   clear hS; intro v8 LX9 w h10 hS
   refine hb_next (fun _ => (hS.re (.b (.there _ (.there _ (.there _ .hb))) .n)).cb) ?_
   refine hy0 4 rfl wn (by kernel_rfl) (nq (P := Try.prog) (fn := Try.f8)) (fun _ => (hS.re (.b (.there _ (.there _ (.there _ .hb))) .n)).cb) (y_build (cl := (cl_State v3 v8 v_0_16 0 (.slice none 0 0) 0 (.slice none 0 0) 0 (.slice none 0 0) 0 0)) bt_api_State rfl (fillS (vs := [v3]) rfl (h5).cell rfl rfl (fillS (vs := [v8]) rfl (h10).cell rfl rfl (fillS (vs := [v_0_16]) rfl (h_0_18).cell rfl rfl fillN)))) ?_
   refine hb1 5 (by kernel_rfl) (hb_op rfl wn (nl (P := Try.prog) (fn := Try.f8)) ?_)
   have hS := hS.re (.b (.there _ (.there _ (.there _ .hb))) (.t .h (.t .h (.t .h .n))))
   refine o_storeW (vs := (cl_State v3 v8 v_0_16 0 (.slice none 0 0) 0 (.slice none 0 0) 0 (.slice none 0 0) 0 0)) hS (by exact rfl) (Upd.here _) (by exact sz_api_State) (one_State (h5).one (h10).one (h_0_18).one rfl rfl rfl) ?_
   clear hS; intro w hS
   refine hb_next (fun h => absurd h (by decide)) ?_
   refine hb_done (by kernel_rfl) ?_
   obtain rfl := osi hF
   refine wp_ret (r_ret (vs := [.agg (cl_State v3 v8 v_0_16 0 (.slice none 0 0) 0 (.slice none 0 0) 0 (.slice none 0 0) 0 0).toArray]) (hS.re (.t (.thereb _ (.there _ .h)) (.t (.thereb _ .h) (.t (.thereb _ .h) .n)))) (rsC (res_cell (hS.own (mH)) underlying27 rfl (by exact sz_api_State)) rsN) rfl ⟨_, _, rfl, (by first | rfl | simp only [aa, ac, al, an]), ⟨_, _, _, _, _, _, _, _, _, _, _, _, rfl, rfl, h5, h10, h_0_18, OwT.nil _ _ _, OwT.nil _ _ _, OwT.nil _ _ _⟩⟩)
 refine o_makeP hzs7 hS el_uint32 enc_len_uint32 mz_uint32 (by decide) ?_
 clear hS; intro v8 LX9 w h10 hS
 refine hb_next (fun _ => (hS.re (.b (.there _ (.there _ .hb)) .n)).cb) ?_
 refine hb1 0 (by kernel_rfl) (hb_op rfl wn (nl (P := Try.prog) (fn := Try.f8)) ?_)
 refine o_makeP hzs2 hS el_uint32 enc_len_uint32 mz_uint32 (by decide) ?_
 clear hS; intro v3 LX4 w h5 hS
 refine hb_next (fun _ => (hS.re (.b (.there _ (.there _ (.there _ .hb))) .n)).cb) ?_
 refine hy0 4 rfl wn (by kernel_rfl) (nq (P := Try.prog) (fn := Try.f8)) (fun _ => (hS.re (.b (.there _ (.there _ (.there _ .hb))) .n)).cb) (y_build (cl := (cl_State v3 v8 v_0_16 0 (.slice none 0 0) 0 (.slice none 0 0) 0 (.slice none 0 0) 0 0)) bt_api_State rfl (fillS (vs := [v3]) rfl (h5).cell rfl rfl (fillS (vs := [v8]) rfl (h10).cell rfl rfl (fillS (vs := [v_0_16]) rfl (h_0_18).cell rfl rfl fillN)))) ?_
 refine hb1 5 (by kernel_rfl) (hb_op rfl wn (nl (P := Try.prog) (fn := Try.f8)) ?_)
 have hS := hS.re (.b (.there _ (.there _ (.there _ .hb))) (.t .h (.t .h (.t .h .n))))
 refine o_storeW (vs := (cl_State v3 v8 v_0_16 0 (.slice none 0 0) 0 (.slice none 0 0) 0 (.slice none 0 0) 0 0)) hS (by exact rfl) (Upd.here _) (by exact sz_api_State) (one_State (h5).one (h10).one (h_0_18).one rfl rfl rfl) ?_
 clear hS; intro w hS
 refine hb_next (fun h => absurd h (by decide)) ?_
 refine hb_done (by kernel_rfl) ?_
 obtain rfl := osi hF
 refine wp_ret (r_ret (vs := [.agg (cl_State v3 v8 v_0_16 0 (.slice none 0 0) 0 (.slice none 0 0) 0 (.slice none 0 0) 0 0).toArray]) (hS.re (.t (.thereb _ .h) (.t (.thereb _ .h) (.t (.thereb _ .h) .n)))) (rsC (res_cell (hS.own (mH)) underlying27 rfl (by exact sz_api_State)) rsN) rfl ⟨_, _, rfl, (by first | rfl | simp only [aa, ac, al, an]), ⟨_, _, _, _, _, _, _, _, _, _, _, _, rfl, rfl, h5, h10, h_0_18, OwT.nil _ _ _, OwT.nil _ _ _, OwT.nil _ _ _⟩⟩)
theorem w_r5_New {g : Frag} {a0 : (List Int)} {v0_ : Value} {r : T_State} (h0 : SlT g enc_uint32 1 a0 v0_) (hF : r5_New a0 = some r) : LC Try.prog 8 #[v0_] g [] (fun v L => ∃ (u0 : Value) (M0 : Own), u0 = v ∧ L = (M0 ++ []) ∧ Ow_State r u0 M0) := w_r5_New_ h0 hF

def r3_Ends (a0 : Int) : Bool :=
  (r0_Between a0 28 33)
theorem w_r3_Ends_ {g : Frag} {a0 : Int} {r : Bool}  (hF : r3_Ends a0 = r) : LCs Try.prog 42 #[.int .i64 a0] g (.bool r) := by
 unfold r3_Ends at hF
 refine lc_body (k := 5) (av := [.int .i64 a0]) func42 rfl rfl (h := fun W hS => ?_)
 refine c_seq <| c_region <| oy hS y_assign <| n_thenN <| c_seq <| c_region <| oy hS y_move ?_
 refine o_callS hS func22 rfl rfl (hc := (w_r0_Between (a0 := a0) (a1 := 28) (a2 := 33))) (h := ?_)
 clear hS; intro w hS
 refine oy hS y_assign <| n_thenN ?_
 subst hF
 exact wp_ret (wr1 hS)
theorem w_r3_Ends {g : Frag} {a0 : Int}  : LCs Try.prog 42 #[.int .i64 a0] g (.bool (r3_Ends a0)) := w_r3_Ends_  rfl

def r3_Slots (a0 : Int) : (List Int) :=
  bif decide (a0 = 0) then ([0, 1, 2, 3] : List Int) else bif decide (a0 = 18) then ([1] : List Int) else bif decide (a0 = 19) then ([1] : List Int) else bif decide (a0 = 21) then ([1] : List Int) else bif (r0_Between a0 14 17) then ([3] : List Int) else bif decide (a0 = 20) then ([3] : List Int) else bif (r0_Between a0 24 27) then ([2] : List Int) else bif (r3_Ends a0) then ([0] : List Int) else ([0, 1] : List Int)
theorem w_r3_Slots_ {g : Frag} {a0 : Int} {r : (List Int)}  (hF : r3_Slots a0 = r) : LC Try.prog 24 #[.int .i64 a0] g [] (fun v L => ∃ (u0 : Value) (M0 : Own), u0 = v ∧ L = (M0 ++ []) ∧ OwT 3 enc_int 1 r u0 M0) := by
 unfold r3_Slots at hF
 refine lc_body (k := 36) (av := [.int .i64 a0]) func24 rfl rfl (h := fun W hS => ?_)
 refine c_seq <| c_region <| oy hS y_assign <| n_thenN <| c_seq <| c_block <| c_seq <| c_region ?_
 refine oy hS y_move <| oy hS y_bin <| oy hS y_assign <| n_thenN ?_
 refine c_if (ht := fun c1 => ?_) (hf := fun c1 => ?_)
 · replace hF := bt c1 hF
   refine c_seq <| c_region ?_
   refine o_buildT val_int ([0, 1, 2, 3] : List Int) hS el_int (fun _ => rfl) enc_len_int (by decide) rfl (by decide) (hp := rfl) (h := ?_)
   clear hS; intro b2 w hS h3
   have hS : St W g [] ([(b2, blk (([0, 1, 2, 3] : List Int).flatMap enc_int) 3)] ++ []) w := hS
   refine oy hS y_assign <| n_thenN ?_
   subst hF
   refine wp_ret (r_ret (vs := [(.slice (some ⟨b2, 0, none⟩) 4 4)]) (hS.re (.t .h .n)) (rsC res_tmp rsN) rfl ⟨_, _, rfl, (by first | rfl | simp only [aa, ac, al, an]), h3⟩)
 replace hF := bf c1 hF
 refine c_seq <| c_region <| oy hS y_move <| oy hS y_bin ?_
 refine o_split (ht := fun c5 => ?_) (hf := fun c5 => ?_)
 · replace hF := bt c5 hF
   iterate 2 (refine o_sk rfl rfl ?_)
   refine oy hS y_pickT <| oy hS y_move ?_
   iterate 2 (refine o_sk rfl rfl ?_)
   refine oy hS y_pickT <| oy hS y_assign <| n_thenN ?_
   refine c_if_true (h := ?_)
   refine c_seq <| c_region ?_
   refine o_buildT val_int ([1] : List Int) hS el_int (fun _ => rfl) enc_len_int (by decide) rfl (by decide) (hp := rfl) (h := ?_)
   clear hS; intro b6 w hS h7
   have hS : St W g [] ([(b6, blk (([1] : List Int).flatMap enc_int) 3)] ++ []) w := hS
   refine oy hS y_assign <| n_thenN ?_
   subst hF
   refine wp_ret (r_ret (vs := [(.slice (some ⟨b6, 0, none⟩) 1 1)]) (hS.re (.t .h .n)) (rsC res_tmp rsN) rfl ⟨_, _, rfl, (by first | rfl | simp only [aa, ac, al, an]), h7⟩)
 replace hF := bf c5 hF
 refine o_gu rfl rfl rfl <| oy hS y_move <| o_gu rfl rfl rfl <| oy hS y_bin <| oy hS y_pickF ?_
 refine o_split (ht := fun c9 => ?_) (hf := fun c9 => ?_)
 · replace hF := bt c9 hF
   iterate 2 (refine o_sk rfl rfl ?_)
   refine oy hS y_pickT <| oy hS y_assign <| n_thenN ?_
   refine c_if_true (h := ?_)
   refine c_seq <| c_region ?_
   refine o_buildT val_int ([1] : List Int) hS el_int (fun _ => rfl) enc_len_int (by decide) rfl (by decide) (hp := rfl) (h := ?_)
   clear hS; intro b10 w hS h11
   have hS : St W g [] ([(b10, blk (([1] : List Int).flatMap enc_int) 3)] ++ []) w := hS
   refine oy hS y_assign <| n_thenN ?_
   subst hF
   refine wp_ret (r_ret (vs := [(.slice (some ⟨b10, 0, none⟩) 1 1)]) (hS.re (.t .h .n)) (rsC res_tmp rsN) rfl ⟨_, _, rfl, (by first | rfl | simp only [aa, ac, al, an]), h11⟩)
 replace hF := bf c9 hF
 refine o_gu rfl rfl rfl <| oy hS y_move <| o_gu rfl rfl rfl <| oy hS y_bin <| oy hS y_pickF <| oy hS y_assign <| n_thenN ?_
 refine c_if (ht := fun c13 => ?_) (hf := fun c13 => ?_)
 · replace hF := bt c13 hF
   refine c_seq <| c_region ?_
   refine o_buildT val_int ([1] : List Int) hS el_int (fun _ => rfl) enc_len_int (by decide) rfl (by decide) (hp := rfl) (h := ?_)
   clear hS; intro b14 w hS h15
   have hS : St W g [] ([(b14, blk (([1] : List Int).flatMap enc_int) 3)] ++ []) w := hS
   refine oy hS y_assign <| n_thenN ?_
   subst hF
   refine wp_ret (r_ret (vs := [(.slice (some ⟨b14, 0, none⟩) 1 1)]) (hS.re (.t .h .n)) (rsC res_tmp rsN) rfl ⟨_, _, rfl, (by first | rfl | simp only [aa, ac, al, an]), h15⟩)
 replace hF := bf c13 hF
 refine c_seq <| c_region <| oy hS y_move ?_
 refine o_callS hS func22 rfl rfl (hc := (w_r0_Between (a0 := a0) (a1 := 14) (a2 := 17))) (h := ?_)
 clear hS; intro w hS
 refine o_split (ht := fun c17 => ?_) (hf := fun c17 => ?_)
 · replace hF := bt c17 hF
   iterate 2 (refine o_sk rfl rfl ?_)
   refine oy hS y_pickT <| oy hS y_assign <| n_thenN ?_
   refine c_if_true (h := ?_)
   refine c_seq <| c_region ?_
   refine o_buildT val_int ([3] : List Int) hS el_int (fun _ => rfl) enc_len_int (by decide) rfl (by decide) (hp := rfl) (h := ?_)
   clear hS; intro b18 w hS h19
   have hS : St W g [] ([(b18, blk (([3] : List Int).flatMap enc_int) 3)] ++ []) w := hS
   refine oy hS y_assign <| n_thenN ?_
   subst hF
   refine wp_ret (r_ret (vs := [(.slice (some ⟨b18, 0, none⟩) 1 1)]) (hS.re (.t .h .n)) (rsC res_tmp rsN) rfl ⟨_, _, rfl, (by first | rfl | simp only [aa, ac, al, an]), h19⟩)
 replace hF := bf c17 hF
 refine o_gu rfl rfl rfl <| oy hS y_move <| o_gu rfl rfl rfl <| oy hS y_bin <| oy hS y_pickF <| oy hS y_assign <| n_thenN ?_
 refine c_if (ht := fun c21 => ?_) (hf := fun c21 => ?_)
 · replace hF := bt c21 hF
   refine c_seq <| c_region ?_
   refine o_buildT val_int ([3] : List Int) hS el_int (fun _ => rfl) enc_len_int (by decide) rfl (by decide) (hp := rfl) (h := ?_)
   clear hS; intro b22 w hS h23
   have hS : St W g [] ([(b22, blk (([3] : List Int).flatMap enc_int) 3)] ++ []) w := hS
   refine oy hS y_assign <| n_thenN ?_
   subst hF
   refine wp_ret (r_ret (vs := [(.slice (some ⟨b22, 0, none⟩) 1 1)]) (hS.re (.t .h .n)) (rsC res_tmp rsN) rfl ⟨_, _, rfl, (by first | rfl | simp only [aa, ac, al, an]), h23⟩)
 replace hF := bf c21 hF
 refine c_seq <| c_region <| oy hS y_move ?_
 refine o_callS hS func22 rfl rfl (hc := (w_r0_Between (a0 := a0) (a1 := 24) (a2 := 27))) (h := ?_)
 clear hS; intro w hS
 refine oy hS y_assign <| n_thenN ?_
 refine c_if (ht := fun c25 => ?_) (hf := fun c25 => ?_)
 · replace hF := bt c25 hF
   refine c_seq <| c_region ?_
   refine o_buildT val_int ([2] : List Int) hS el_int (fun _ => rfl) enc_len_int (by decide) rfl (by decide) (hp := rfl) (h := ?_)
   clear hS; intro b26 w hS h27
   have hS : St W g [] ([(b26, blk (([2] : List Int).flatMap enc_int) 3)] ++ []) w := hS
   refine oy hS y_assign <| n_thenN ?_
   subst hF
   refine wp_ret (r_ret (vs := [(.slice (some ⟨b26, 0, none⟩) 1 1)]) (hS.re (.t .h .n)) (rsC res_tmp rsN) rfl ⟨_, _, rfl, (by first | rfl | simp only [aa, ac, al, an]), h27⟩)
 replace hF := bf c25 hF
 refine c_seq <| c_region <| oy hS y_move ?_
 refine o_callS hS func42 rfl rfl (hc := (w_r3_Ends (a0 := a0))) (h := ?_)
 clear hS; intro w hS
 refine oy hS y_assign <| n_thenN ?_
 refine c_if (ht := fun c29 => ?_) (hf := fun c29 => ?_)
 · replace hF := bt c29 hF
   refine c_seq <| c_region ?_
   refine o_buildT val_int ([0] : List Int) hS el_int (fun _ => rfl) enc_len_int (by decide) rfl (by decide) (hp := rfl) (h := ?_)
   clear hS; intro b30 w hS h31
   have hS : St W g [] ([(b30, blk (([0] : List Int).flatMap enc_int) 3)] ++ []) w := hS
   refine oy hS y_assign <| n_thenN ?_
   subst hF
   refine wp_ret (r_ret (vs := [(.slice (some ⟨b30, 0, none⟩) 1 1)]) (hS.re (.t .h .n)) (rsC res_tmp rsN) rfl ⟨_, _, rfl, (by first | rfl | simp only [aa, ac, al, an]), h31⟩)
 replace hF := bf c29 hF
 refine wp_skip <| c_seq <| c_region ?_
 refine o_buildT val_int ([0, 1] : List Int) hS el_int (fun _ => rfl) enc_len_int (by decide) rfl (by decide) (hp := rfl) (h := ?_)
 clear hS; intro b33 w hS h34
 have hS : St W g [] ([(b33, blk (([0, 1] : List Int).flatMap enc_int) 3)] ++ []) w := hS
 refine oy hS y_assign <| n_thenN ?_
 subst hF
 refine wp_ret (r_ret (vs := [(.slice (some ⟨b33, 0, none⟩) 2 2)]) (hS.re (.t .h .n)) (rsC res_tmp rsN) rfl ⟨_, _, rfl, (by first | rfl | simp only [aa, ac, al, an]), h34⟩)
theorem w_r3_Slots {g : Frag} {a0 : Int}  : LC Try.prog 24 #[.int .i64 a0] g [] (fun v L => ∃ (u0 : Value) (M0 : Own), u0 = v ∧ L = (M0 ++ []) ∧ OwT 3 enc_int 1 (r3_Slots a0) u0 M0) := w_r3_Slots_  rfl

def isa_Is (a0 : Int) : Bool :=
  bif decide (0 ≤ a0) then decide (a0 ≤ 33) else false
theorem w_isa_Is_ {g : Frag} {a0 : Int} {r : Bool}  (hF : isa_Is a0 = r) : LCs Try.prog 98 #[.int .i64 a0] g (.bool r) := by
 unfold isa_Is at hF
 refine lc_body (k := 9) (av := [.int .i64 a0]) func98 rfl rfl (h := fun W hS => ?_)
 refine c_seq <| c_region <| oy hS y_assign <| n_thenN <| c_seq <| c_region <| oy hS y_move <| oy hS y_bin ?_
 refine o_split (ht := fun c1 => ?_) (hf := fun c1 => ?_)
 · replace hF := bt c1 hF
   refine o_gu rfl rfl rfl <| oy hS y_move <| o_gu rfl rfl rfl <| oy hS y_bin <| oy hS y_pickT <| oy hS y_assign <| n_thenN ?_
   subst hF
   exact wp_ret (wr1 hS)
 replace hF := bf c1 hF
 iterate 2 (refine o_sk rfl rfl ?_)
 refine oy hS y_pickF <| oy hS y_assign <| n_thenN ?_
 subst hF
 exact wp_ret (wr1 hS)
theorem w_isa_Is {g : Frag} {a0 : Int}  : LCs Try.prog 98 #[.int .i64 a0] g (.bool (isa_Is a0)) := w_isa_Is_  rfl

def isa_Shape (a0 : Int) : Int :=
  bif decide (a0 = 21) then 2 else bif decide (a0 = 22) then 3 else bif decide (a0 = 24) then 3 else bif decide (a0 = 23) then 4 else bif decide (a0 = 25) then 5 else bif decide (a0 = 26) then 6 else bif decide (a0 = 27) then 7 else bif decide (a0 = 28) then 8 else bif decide (a0 = 31) then 8 else bif decide (a0 = 29) then 9 else bif decide (a0 = 30) then 9 else bif decide (a0 = 0) then 0 else bif decide (a0 = 32) then 0 else bif decide (a0 = 33) then 0 else 1
theorem w_isa_Shape_ {g : Frag} {a0 : Int} {r : Int}  (hF : isa_Shape a0 = r) : LCs Try.prog 66 #[.int .i64 a0] g (.int .i64 r) := by
 unfold isa_Shape at hF
 refine lc_body (k := 27) (av := [.int .i64 a0]) func66 rfl rfl (h := fun W hS => ?_)
 refine c_seq <| c_region <| oy hS y_assign <| n_thenN ?_
 iterate 2 (refine c_seq ?_)
 refine c_region <| oy hS y_move <| n_thenN <| c_block <| c_seq <| c_region <| oy hS y_bin <| oy hS y_assign ?_
 refine n_thenN ?_
 refine c_if (ht := fun c1 => ?_) (hf := fun c1 => ?_)
 · replace hF := bt c1 hF
   refine c_seq <| c_region <| oy hS y_assign <| n_thenN ?_
   subst hF
   exact wp_ret (wr1 hS)
 replace hF := bf c1 hF
 iterate 2 (refine c_seq ?_)
 refine c_region <| oy hS y_bin <| oy hS y_assign <| n_thenN ?_
 refine c_if (ht := fun c2 => ?_) (hf := fun c2 => ?_)
 · replace hF := bt c2 hF
   refine wp_skip ?_
   refine c_ifT c2 ?_
   refine c_seq <| c_region <| oy hS y_assign <| n_thenN ?_
   subst hF
   exact wp_ret (wr1 hS)
 replace hF := bf c2 hF
 refine c_region <| oy hS y_bin <| oy hS y_assign <| n_thenN ?_
 refine c_if (ht := fun c3 => ?_) (hf := fun c3 => ?_)
 · replace hF := bt c3 hF
   refine c_seq <| c_region <| oy hS y_assign <| n_thenN ?_
   subst hF
   exact wp_ret (wr1 hS)
 replace hF := bf c3 hF
 refine c_seq <| c_region <| oy hS y_bin <| oy hS y_assign <| n_thenN ?_
 refine c_if (ht := fun c4 => ?_) (hf := fun c4 => ?_)
 · replace hF := bt c4 hF
   refine c_seq <| c_region <| oy hS y_assign <| n_thenN ?_
   subst hF
   exact wp_ret (wr1 hS)
 replace hF := bf c4 hF
 refine c_seq <| c_region <| oy hS y_bin <| oy hS y_assign <| n_thenN ?_
 refine c_if (ht := fun c5 => ?_) (hf := fun c5 => ?_)
 · replace hF := bt c5 hF
   refine c_seq <| c_region <| oy hS y_assign <| n_thenN ?_
   subst hF
   exact wp_ret (wr1 hS)
 replace hF := bf c5 hF
 refine c_seq <| c_region <| oy hS y_bin <| oy hS y_assign <| n_thenN ?_
 refine c_if (ht := fun c6 => ?_) (hf := fun c6 => ?_)
 · replace hF := bt c6 hF
   refine c_seq <| c_region <| oy hS y_assign <| n_thenN ?_
   subst hF
   exact wp_ret (wr1 hS)
 replace hF := bf c6 hF
 refine c_seq <| c_region <| oy hS y_bin <| oy hS y_assign <| n_thenN ?_
 refine c_if (ht := fun c7 => ?_) (hf := fun c7 => ?_)
 · replace hF := bt c7 hF
   refine c_seq <| c_region <| oy hS y_assign <| n_thenN ?_
   subst hF
   exact wp_ret (wr1 hS)
 replace hF := bf c7 hF
 iterate 2 (refine c_seq ?_)
 refine c_region <| oy hS y_bin <| oy hS y_assign <| n_thenN ?_
 refine c_if (ht := fun c8 => ?_) (hf := fun c8 => ?_)
 · replace hF := bt c8 hF
   refine wp_skip ?_
   refine c_ifT c8 ?_
   refine c_seq <| c_region <| oy hS y_assign <| n_thenN ?_
   subst hF
   exact wp_ret (wr1 hS)
 replace hF := bf c8 hF
 refine c_region <| oy hS y_bin <| oy hS y_assign <| n_thenN ?_
 refine c_if (ht := fun c9 => ?_) (hf := fun c9 => ?_)
 · replace hF := bt c9 hF
   refine c_seq <| c_region <| oy hS y_assign <| n_thenN ?_
   subst hF
   exact wp_ret (wr1 hS)
 replace hF := bf c9 hF
 iterate 2 (refine c_seq ?_)
 refine c_region <| oy hS y_bin <| oy hS y_assign <| n_thenN ?_
 refine c_if (ht := fun c10 => ?_) (hf := fun c10 => ?_)
 · replace hF := bt c10 hF
   refine wp_skip ?_
   refine c_ifT c10 ?_
   refine c_seq <| c_region <| oy hS y_assign <| n_thenN ?_
   subst hF
   exact wp_ret (wr1 hS)
 replace hF := bf c10 hF
 refine c_region <| oy hS y_bin <| oy hS y_assign <| n_thenN ?_
 refine c_if (ht := fun c11 => ?_) (hf := fun c11 => ?_)
 · replace hF := bt c11 hF
   refine c_seq <| c_region <| oy hS y_assign <| n_thenN ?_
   subst hF
   exact wp_ret (wr1 hS)
 replace hF := bf c11 hF
 iterate 2 (refine c_seq ?_)
 refine c_region <| oy hS y_bin <| oy hS y_assign <| n_thenN ?_
 refine c_if (ht := fun c12 => ?_) (hf := fun c12 => ?_)
 · replace hF := bt c12 hF
   refine wp_skip ?_
   refine c_ifT c12 ?_
   refine c_seq <| c_region <| oy hS y_assign <| n_thenN ?_
   subst hF
   exact wp_ret (wr1 hS)
 replace hF := bf c12 hF
 refine c_seq <| c_region <| oy hS y_bin <| oy hS y_assign <| n_thenN ?_
 refine c_if (ht := fun c13 => ?_) (hf := fun c13 => ?_)
 · replace hF := bt c13 hF
   refine wp_skip ?_
   refine c_ifT c13 ?_
   refine c_seq <| c_region <| oy hS y_assign <| n_thenN ?_
   subst hF
   exact wp_ret (wr1 hS)
 replace hF := bf c13 hF
 refine c_region <| oy hS y_bin <| oy hS y_assign <| n_thenN ?_
 refine c_if (ht := fun c14 => ?_) (hf := fun c14 => ?_)
 · replace hF := bt c14 hF
   refine c_seq <| c_region <| oy hS y_assign <| n_thenN ?_
   subst hF
   exact wp_ret (wr1 hS)
 replace hF := bf c14 hF
 refine wp_skip <| c_seq <| c_region <| oy hS y_assign <| n_thenN ?_
 subst hF
 exact wp_ret (wr1 hS)
theorem w_isa_Shape {g : Frag} {a0 : Int}  : LCs Try.prog 66 #[.int .i64 a0] g (.int .i64 (isa_Shape a0)) := w_isa_Shape_  rfl

def isa_HasD (a0 : Int) : Bool :=
  bif decide (1 ≤ a0) then bif decide (a0 ≤ 4) then true else decide (a0 = 6) else decide (a0 = 6)
theorem w_isa_HasD_ {g : Frag} {a0 : Int} {r : Bool}  (hF : isa_HasD a0 = r) : LCs Try.prog 65 #[.int .i64 a0] g (.bool r) := by
 unfold isa_HasD at hF
 refine lc_body (k := 13) (av := [.int .i64 a0]) func65 rfl rfl (h := fun W hS => ?_)
 refine c_seq <| c_region <| oy hS y_assign <| n_thenN <| c_seq <| c_region <| oy hS y_move <| oy hS y_bin ?_
 refine o_split (ht := fun c1 => ?_) (hf := fun c1 => ?_)
 · replace hF := bt c1 hF
   refine o_gu rfl rfl rfl <| oy hS y_move <| o_gu rfl rfl rfl <| oy hS y_bin <| oy hS y_pickT ?_
   refine o_split (ht := fun c2 => ?_) (hf := fun c2 => ?_)
   · replace hF := bt c2 hF
     iterate 2 (refine o_sk rfl rfl ?_)
     refine oy hS y_pickT <| oy hS y_assign <| n_thenN ?_
     subst hF
     exact wp_ret (wr1 hS)
   replace hF := bf c2 hF
   refine o_gu rfl rfl rfl <| oy hS y_move <| o_gu rfl rfl rfl <| oy hS y_bin <| oy hS y_pickF <| oy hS y_assign <| n_thenN ?_
   subst hF
   exact wp_ret (wr1 hS)
 replace hF := bf c1 hF
 iterate 2 (refine o_sk rfl rfl ?_)
 refine oy hS y_pickF <| oy hS y_move <| o_gu rfl rfl rfl <| oy hS y_move <| o_gu rfl rfl rfl <| oy hS y_bin <| oy hS y_pickF <| oy hS y_assign ?_
 refine n_thenN ?_
 subst hF
 exact wp_ret (wr1 hS)
theorem w_isa_HasD {g : Frag} {a0 : Int}  : LCs Try.prog 65 #[.int .i64 a0] g (.bool (isa_HasD a0)) := w_isa_HasD_  rfl

def isa_reg (a0 : Bool) (a1 : Int) : Bool :=
  bif decide (a1 = 0) then true else bif a0 then bif decide (0 < a1) then decide (a1 < 16) else false else false
theorem w_isa_reg_ {g : Frag} {a0 : Bool} {a1 : Int} {r : Bool}  (hF : isa_reg a0 a1 = r) : LCs Try.prog 99 #[.bool a0, .int .i64 a1] g (.bool r) := by
 unfold isa_reg at hF
 refine lc_body (k := 18) (av := [.bool a0, .int .i64 a1]) func99 rfl rfl (h := fun W hS => ?_)
 refine c_seq <| c_region <| oy hS y_assign <| n_thenN <| c_seq <| c_region <| oy hS y_move <| oy hS y_bin ?_
 refine o_split (ht := fun c1 => ?_) (hf := fun c1 => ?_)
 · replace hF := bt c1 hF
   iterate 2 (refine o_sk rfl rfl ?_)
   iterate 2 (refine o_sku rfl rfl ?_)
   iterate 2 (refine o_sk rfl rfl ?_)
   iterate 2 (refine o_sku rfl rfl ?_)
   refine o_sk rfl rfl ?_
   refine oy hS y_pickT <| oy hS y_assign <| n_thenN ?_
   subst hF
   exact wp_ret (wr1 hS)
 replace hF := bf c1 hF
 refine o_gu rfl rfl rfl <| oy hS y_move <| o_gu rfl rfl rfl ?_
 refine o_split (ht := fun c2 => ?_) (hf := fun c2 => ?_)
 · replace hF := bt c2 hF
   refine o_gu rfl rfl rfl <| oy hS y_move <| o_gu rfl rfl rfl <| oy hS y_bin <| o_gu rfl rfl rfl <| oy hS y_pickT <| o_gu rfl rfl rfl ?_
   refine o_split (ht := fun c3 => ?_) (hf := fun c3 => ?_)
   · replace hF := bt c3 hF
     refine o_gu rfl rfl rfl <| oy hS y_move <| o_gu rfl rfl rfl <| oy hS y_bin <| o_gu rfl rfl rfl <| oy hS y_pickT <| oy hS y_pickF <| oy hS y_assign ?_
     refine n_thenN ?_
     subst hF
     exact wp_ret (wr1 hS)
   replace hF := bf c3 hF
   iterate 2 (refine o_sk rfl rfl ?_)
   refine o_gu rfl rfl rfl ?_
   iterate 2 (refine oy hS y_pickF ?_)
   refine oy hS y_assign <| n_thenN ?_
   subst hF
   exact wp_ret (wr1 hS)
 replace hF := bf c2 hF
 iterate 2 (refine o_sk rfl rfl ?_)
 refine o_gu rfl rfl rfl <| oy hS y_pickF <| o_gu rfl rfl rfl <| oy hS y_move ?_
 iterate 2 (refine o_sk rfl rfl ?_)
 refine o_gu rfl rfl rfl ?_
 iterate 2 (refine oy hS y_pickF ?_)
 refine oy hS y_assign <| n_thenN ?_
 subst hF
 exact wp_ret (wr1 hS)
theorem w_isa_reg {g : Frag} {a0 : Bool} {a1 : Int}  : LCs Try.prog 99 #[.bool a0, .int .i64 a1] g (.bool (isa_reg a0 a1)) := w_isa_reg_  rfl

def isa_HasA (a0 : Int) : Bool :=
  bif decide (a0 = 1) then true else bif decide (a0 = 2) then true else bif decide (a0 = 3) then true else bif decide (a0 = 5) then true else bif decide (a0 = 7) then true else bif decide (a0 = 9) then true else false
theorem w_isa_HasA_ {g : Frag} {a0 : Int} {r : Bool}  (hF : isa_HasA a0 = r) : LCs Try.prog 100 #[.int .i64 a0] g (.bool r) := by
 unfold isa_HasA at hF
 refine lc_body (k := 11) (av := [.int .i64 a0]) func100 rfl rfl (h := fun W hS => ?_)
 refine c_seq <| c_region <| oy hS y_assign <| n_thenN ?_
 iterate 2 (refine c_seq ?_)
 refine c_region <| oy hS y_move <| n_thenN <| c_block ?_
 iterate 2 (refine c_seq ?_)
 refine c_region <| oy hS y_bin <| oy hS y_assign <| n_thenN ?_
 refine c_if (ht := fun c1 => ?_) (hf := fun c1 => ?_)
 · replace hF := bt c1 hF
   refine wp_skip ?_
   refine c_ifT c1 ?_
   refine c_seq <| c_region <| oy hS y_assign <| n_thenN ?_
   subst hF
   exact wp_ret (wr1 hS)
 replace hF := bf c1 hF
 refine c_seq <| c_region <| oy hS y_bin <| oy hS y_assign <| n_thenN ?_
 refine c_if (ht := fun c2 => ?_) (hf := fun c2 => ?_)
 · replace hF := bt c2 hF
   refine wp_skip ?_
   refine c_ifT c2 ?_
   refine c_seq <| c_region <| oy hS y_assign <| n_thenN ?_
   subst hF
   exact wp_ret (wr1 hS)
 replace hF := bf c2 hF
 refine c_seq <| c_region <| oy hS y_bin <| oy hS y_assign <| n_thenN ?_
 refine c_if (ht := fun c3 => ?_) (hf := fun c3 => ?_)
 · replace hF := bt c3 hF
   refine wp_skip ?_
   refine c_ifT c3 ?_
   refine c_seq <| c_region <| oy hS y_assign <| n_thenN ?_
   subst hF
   exact wp_ret (wr1 hS)
 replace hF := bf c3 hF
 refine c_seq <| c_region <| oy hS y_bin <| oy hS y_assign <| n_thenN ?_
 refine c_if (ht := fun c4 => ?_) (hf := fun c4 => ?_)
 · replace hF := bt c4 hF
   refine wp_skip ?_
   refine c_ifT c4 ?_
   refine c_seq <| c_region <| oy hS y_assign <| n_thenN ?_
   subst hF
   exact wp_ret (wr1 hS)
 replace hF := bf c4 hF
 refine c_seq <| c_region <| oy hS y_bin <| oy hS y_assign <| n_thenN ?_
 refine c_if (ht := fun c5 => ?_) (hf := fun c5 => ?_)
 · replace hF := bt c5 hF
   refine wp_skip ?_
   refine c_ifT c5 ?_
   refine c_seq <| c_region <| oy hS y_assign <| n_thenN ?_
   subst hF
   exact wp_ret (wr1 hS)
 replace hF := bf c5 hF
 refine c_region <| oy hS y_bin <| oy hS y_assign <| n_thenN ?_
 refine c_if (ht := fun c6 => ?_) (hf := fun c6 => ?_)
 · replace hF := bt c6 hF
   refine c_seq <| c_region <| oy hS y_assign <| n_thenN ?_
   subst hF
   exact wp_ret (wr1 hS)
 replace hF := bf c6 hF
 refine wp_skip <| c_seq <| c_region <| oy hS y_assign <| n_thenN ?_
 subst hF
 exact wp_ret (wr1 hS)
theorem w_isa_HasA {g : Frag} {a0 : Int}  : LCs Try.prog 100 #[.int .i64 a0] g (.bool (isa_HasA a0)) := w_isa_HasA_  rfl

def isa_HasB (a0 : Int) : Bool :=
  bif decide (a0 = 1) then true else decide (a0 = 5)
theorem w_isa_HasB_ {g : Frag} {a0 : Int} {r : Bool}  (hF : isa_HasB a0 = r) : LCs Try.prog 101 #[.int .i64 a0] g (.bool r) := by
 unfold isa_HasB at hF
 refine lc_body (k := 9) (av := [.int .i64 a0]) func101 rfl rfl (h := fun W hS => ?_)
 refine c_seq <| c_region <| oy hS y_assign <| n_thenN <| c_seq <| c_region <| oy hS y_move <| oy hS y_bin ?_
 refine o_split (ht := fun c1 => ?_) (hf := fun c1 => ?_)
 · replace hF := bt c1 hF
   iterate 2 (refine o_sk rfl rfl ?_)
   refine oy hS y_pickT <| oy hS y_assign <| n_thenN ?_
   subst hF
   exact wp_ret (wr1 hS)
 replace hF := bf c1 hF
 refine o_gu rfl rfl rfl <| oy hS y_move <| o_gu rfl rfl rfl <| oy hS y_bin <| oy hS y_pickF <| oy hS y_assign <| n_thenN ?_
 subst hF
 exact wp_ret (wr1 hS)
theorem w_isa_HasB {g : Frag} {a0 : Int}  : LCs Try.prog 101 #[.int .i64 a0] g (.bool (isa_HasB a0)) := w_isa_HasB_  rfl

def isa_Target (a0 : Int) : Bool :=
  bif decide (a0 = 8) then true else decide (a0 = 9)
theorem w_isa_Target_ {g : Frag} {a0 : Int} {r : Bool}  (hF : isa_Target a0 = r) : LCs Try.prog 113 #[.int .i64 a0] g (.bool r) := by
 unfold isa_Target at hF
 refine lc_body (k := 9) (av := [.int .i64 a0]) func113 rfl rfl (h := fun W hS => ?_)
 refine c_seq <| c_region <| oy hS y_assign <| n_thenN <| c_seq <| c_region <| oy hS y_move <| oy hS y_bin ?_
 refine o_split (ht := fun c1 => ?_) (hf := fun c1 => ?_)
 · replace hF := bt c1 hF
   iterate 2 (refine o_sk rfl rfl ?_)
   refine oy hS y_pickT <| oy hS y_assign <| n_thenN ?_
   subst hF
   exact wp_ret (wr1 hS)
 replace hF := bf c1 hF
 refine o_gu rfl rfl rfl <| oy hS y_move <| o_gu rfl rfl rfl <| oy hS y_bin <| oy hS y_pickF <| oy hS y_assign <| n_thenN ?_
 subst hF
 exact wp_ret (wr1 hS)
theorem w_isa_Target {g : Frag} {a0 : Int}  : LCs Try.prog 113 #[.int .i64 a0] g (.bool (isa_Target a0)) := w_isa_Target_  rfl

def isa_letter (a0 : Int) : Bool :=
  bif decide (a0 = 95) then true else bif decide (97 ≤ a0) then decide (a0 ≤ 122) else false
theorem w_isa_letter_ {g : Frag} {a0 : Int} {r : Bool}  (hF : isa_letter a0 = r) : LCs Try.prog 121 #[.int .u8 a0] g (.bool r) := by
 unfold isa_letter at hF
 refine lc_body (k := 13) (av := [.int .u8 a0]) func121 rfl rfl (h := fun W hS => ?_)
 refine c_seq <| c_region <| oy hS y_assign <| n_thenN <| c_seq <| c_region <| oy hS y_move <| oy hS y_bin ?_
 refine o_split (ht := fun c1 => ?_) (hf := fun c1 => ?_)
 · replace hF := bt c1 hF
   iterate 3 (refine o_sk rfl rfl ?_)
   iterate 2 (refine o_sku rfl rfl ?_)
   refine o_sk rfl rfl ?_
   refine oy hS y_pickT <| oy hS y_assign <| n_thenN ?_
   subst hF
   exact wp_ret (wr1 hS)
 replace hF := bf c1 hF
 refine o_gu rfl rfl rfl <| oy hS y_move <| o_gu rfl rfl rfl <| oy hS y_bin <| o_gu rfl rfl rfl ?_
 refine o_split (ht := fun c2 => ?_) (hf := fun c2 => ?_)
 · replace hF := bt c2 hF
   refine o_gu rfl rfl rfl <| oy hS y_move <| o_gu rfl rfl rfl <| oy hS y_bin <| o_gu rfl rfl rfl <| oy hS y_pickT <| oy hS y_pickF <| oy hS y_assign ?_
   refine n_thenN ?_
   subst hF
   exact wp_ret (wr1 hS)
 replace hF := bf c2 hF
 iterate 2 (refine o_sk rfl rfl ?_)
 refine o_gu rfl rfl rfl ?_
 iterate 2 (refine oy hS y_pickF ?_)
 refine oy hS y_assign <| n_thenN ?_
 subst hF
 exact wp_ret (wr1 hS)
theorem w_isa_letter {g : Frag} {a0 : Int}  : LCs Try.prog 121 #[.int .u8 a0] g (.bool (isa_letter a0)) := w_isa_letter_  rfl

noncomputable def isa_Name2_b2 (a0 : ByteArray) : Int → Option (Step Int Bool) := fun x17 => bif decide (x17 < (a0.size : Int)) then (byte' a0 x17).bind fun x28 => bif !(isa_letter x28) then bif decide (x28 < 48) then some (.done (false)) else bif decide (57 < x28) then some (.done (false)) else some (.next (IntKind.i64.wrap (x17 + 1))) else some (.next (IntKind.i64.wrap (x17 + 1))) else some (.done (true))
noncomputable def isa_Name2_k1 (a0 : ByteArray) : Unit → Option Bool := fun _ => loop (σ := Int) (isa_Name2_b2 a0) 0
noncomputable def isa_Name2 (a0 : ByteArray) : Option Bool :=
  cut (σ := Unit) (bif decide (a0 = (ByteArray.mk #[])) then some (.done (false)) else bif decide (12 < (a0.size : Int)) then some (.done (false)) else (byte' a0 0).bind fun x9 => bif !(isa_letter x9) then some (.done (false)) else some (.next ())) (isa_Name2_k1 a0)
theorem w_isa_Name2_ {g : Frag} {a0 : ByteArray} {r : Bool}  (hF : isa_Name2 a0 = some r) : LCs Try.prog 114 #[.string a0] g (.bool r) := by
 unfold isa_Name2 at hF
 refine lc_body (k := 38) (av := [.string a0]) func114 rfl rfl (h := fun W hS => ?_)
 refine c_seq <| c_region <| oy hS y_assign <| n_thenN ?_
 obtain ⟨z5, hF, hK6⟩ := cut_step hF
 refine c_cutP (fun a w' => isa_Name2_k1 a0 () = some r ∧ (∃ s : Nat → Value, a = Ac ((Fm.dead 38 s).upd 0 (.string a0))) ∧ St W g [] [] w') ?_ ?_
 · skip
   refine c_seq <| c_region <| oy hS y_move <| oy hS y_seql ?_
   refine o_split (ht := fun c7 => ?_) (hf := fun c7 => ?_)
   · replace hF := bt c7 hF
     iterate 3 (refine o_sk rfl rfl ?_)
     refine oy hS y_pickT <| oy hS y_move ?_
     iterate 4 (refine o_sk rfl rfl ?_)
     refine oy hS y_pickT <| n_thenN ?_
     refine c_if_true (h := ?_)
     refine c_seq <| c_region <| oy hS y_assign <| n_thenN ?_
     obtain rfl := osi hF
     obtain rfl : _ = r := hK6
     exact wp_ret (wr1 hS)
   replace hF := bf c7 hF
   refine o_gu rfl rfl rfl <| oy hS y_move <| o_gu rfl rfl rfl <| oy hS (y_lens underlying9) <| o_gu rfl rfl rfl <| oy hS y_bin <| oy hS y_pickF ?_
   refine o_split (ht := fun c8 => ?_) (hf := fun c8 => ?_)
   · replace hF := bt c8 hF
     iterate 4 (refine o_sk rfl rfl ?_)
     refine oy hS y_pickT <| n_thenN ?_
     refine c_if_true (h := ?_)
     refine c_seq <| c_region <| oy hS y_assign <| n_thenN ?_
     obtain rfl := osi hF
     obtain rfl : _ = r := hK6
     exact wp_ret (wr1 hS)
   replace hF := bf c8 hF
   refine o_gu rfl rfl rfl <| oy hS y_move <| o_gu rfl rfl rfl ?_
   obtain ⟨x9, hx9, hF⟩ := ob hF
   refine oy hS (y_byte hx9 underlying9) <| o_gu rfl rfl rfl ?_
   refine o_callS hS func121 rfl rfl (hc := (w_isa_letter (a0 := x9))) (h := ?_)
   clear hS; intro w hS
   refine o_gu rfl rfl rfl <| oy hS y_not <| oy hS y_pickF <| n_thenN ?_
   refine c_if (ht := fun c10 => ?_) (hf := fun c10 => ?_)
   · replace hF := bt c10 hF
     refine c_seq <| c_region <| oy hS y_assign <| n_thenN ?_
     obtain rfl := osi hF
     obtain rfl : _ = r := hK6
     exact wp_ret (wr1 hS)
   replace hF := bf c10 hF
   refine wp_skip ?_
   obtain rfl := osi hF
   change _ ∧ _
   exact ⟨hK6, mk_exF, (hS.re (.n))⟩
 rintro a w ⟨hF, ⟨s11, rfl⟩, hS⟩
 dsimp only [isa_Name2_k1] at hF
 iterate 2 (refine c_seq ?_)
 refine c_region <| oy hS y_move <| oy hS (y_lens underlying9) <| oy hS y_move <| n_thenN <| c_block ?_
 refine c_loopP hF (fun (q : Int) a w' => (∃ s : Nat → Value, a = Ac ((((Fm.dead 38 s).upd 0 (.string a0)).upd 19 (.int .i64 (a0.size : Int))).upd 20 (.int .i64 q))) ∧ St W g [] [] w') ⟨mk_exF, (hS.re (.n))⟩ ?_
 clear hS hF
 intro n25 q a w hI hq
 revert hq hI; revert q; intro x17 hI hq
 obtain ⟨⟨s26, rfl⟩, hS⟩ := hq
 obtain ⟨z23, hF, hK24⟩ := iter_step hI
 clear hI
 dsimp only [isa_Name2_b2] at hF
 refine c_seq <| c_region <| oy hS y_bin <| n_thenN <| c_seq ?_
 refine c_if (ht := fun c27 => ?_) (hf := fun c27 => ?_)
 · replace hF := bt c27 hF
   refine wp_skip <| c_seq <| c_block <| c_seq <| c_region <| oy hS y_move <| oy hS y_assign <| n_thenN ?_
   refine c_seq <| c_region ?_
   iterate 2 (refine oy hS y_move ?_)
   obtain ⟨x28, hx28, hF⟩ := ob hF
   refine oy hS (y_byte hx28 underlying9) <| oy hS y_assign <| n_thenN <| c_seq <| c_region <| oy hS y_move ?_
   refine o_callS hS func121 rfl rfl (hc := (w_isa_letter (a0 := x28))) (h := ?_)
   clear hS; intro w hS
   refine oy hS y_not ?_
   refine o_split (ht := fun c29 => ?_) (hf := fun c29 => ?_)
   · replace hF := bt c29 hF
     refine o_gu rfl rfl rfl <| oy hS y_move <| o_gu rfl rfl rfl <| oy hS y_bin <| o_gu rfl rfl rfl ?_
     refine o_split (ht := fun c30 => ?_) (hf := fun c30 => ?_)
     · replace hF := bt c30 hF
       iterate 2 (refine o_sk rfl rfl ?_)
       refine o_gu rfl rfl rfl ?_
       iterate 2 (refine oy hS y_pickT ?_)
       refine n_thenN ?_
       refine c_if_true (h := ?_)
       refine c_seq <| c_region <| oy hS y_assign <| n_thenN ?_
       obtain rfl := osi hF
       obtain rfl : _ = r := hK24
       exact wp_ret (wr1 hS)
     replace hF := bf c30 hF
     refine o_gu rfl rfl rfl <| oy hS y_move <| o_gu rfl rfl rfl <| oy hS y_bin <| o_gu rfl rfl rfl <| oy hS y_pickF <| oy hS y_pickT <| n_thenN ?_
     refine c_if (ht := fun c31 => ?_) (hf := fun c31 => ?_)
     · replace hF := bt c31 hF
       refine c_seq <| c_region <| oy hS y_assign <| n_thenN ?_
       obtain rfl := osi hF
       obtain rfl : _ = r := hK24
       exact wp_ret (wr1 hS)
     replace hF := bf c31 hF
     refine wp_skip <| c_region <| oy hS y_bin <| oy hS y_move <| n_thenN ?_
     obtain rfl := osi hF
     exact ⟨_, hK24, mk_exF, (hS.re (.n))⟩
   replace hF := bf c29 hF
   iterate 3 (refine o_sk rfl rfl ?_)
   iterate 2 (refine o_sku rfl rfl ?_)
   refine o_sk rfl rfl ?_
   refine oy hS y_pickF <| n_thenN ?_
   refine c_if_false (h := ?_)
   refine wp_skip <| c_region <| oy hS y_bin <| oy hS y_move <| n_thenN ?_
   obtain rfl := osi hF
   exact ⟨_, hK24, mk_exF, (hS.re (.n))⟩
 replace hF := bf c27 hF
 refine wp_exit ?_
 refine c_seq <| c_region <| oy hS y_assign <| n_thenN ?_
 obtain rfl := osi hF
 obtain rfl : _ = r := hK24
 exact wp_ret (wr1 hS)
theorem w_isa_Name2 {g : Frag} {a0 : ByteArray} {r : Bool}  (hF : isa_Name2 a0 = some r) : LCs Try.prog 114 #[.string a0] g (.bool r) := w_isa_Name2_  hF

def isa_Bits (a0 : Int) : Int :=
  bif decide (a0 = 3) then 14 else bif decide (a0 = 5) then 14 else bif decide (a0 = 9) then 14 else bif decide (a0 = 4) then 18 else bif decide (a0 = 8) then 18 else 0
theorem w_isa_Bits_ {g : Frag} {a0 : Int} {r : Int}  (hF : isa_Bits a0 = r) : LCs Try.prog 115 #[.int .i64 a0] g (.int .i64 r) := by
 unfold isa_Bits at hF
 refine lc_body (k := 11) (av := [.int .i64 a0]) func115 rfl rfl (h := fun W hS => ?_)
 refine c_seq <| c_region <| oy hS y_assign <| n_thenN ?_
 iterate 2 (refine c_seq ?_)
 refine c_region <| oy hS y_move <| n_thenN <| c_block ?_
 iterate 2 (refine c_seq ?_)
 refine c_region <| oy hS y_bin <| oy hS y_assign <| n_thenN ?_
 refine c_if (ht := fun c1 => ?_) (hf := fun c1 => ?_)
 · replace hF := bt c1 hF
   refine wp_skip ?_
   refine c_ifT c1 ?_
   refine c_seq <| c_region <| oy hS y_assign <| n_thenN ?_
   subst hF
   exact wp_ret (wr1 hS)
 replace hF := bf c1 hF
 refine c_seq <| c_region <| oy hS y_bin <| oy hS y_assign <| n_thenN ?_
 refine c_if (ht := fun c2 => ?_) (hf := fun c2 => ?_)
 · replace hF := bt c2 hF
   refine wp_skip ?_
   refine c_ifT c2 ?_
   refine c_seq <| c_region <| oy hS y_assign <| n_thenN ?_
   subst hF
   exact wp_ret (wr1 hS)
 replace hF := bf c2 hF
 refine c_region <| oy hS y_bin <| oy hS y_assign <| n_thenN ?_
 refine c_if (ht := fun c3 => ?_) (hf := fun c3 => ?_)
 · replace hF := bt c3 hF
   refine c_seq <| c_region <| oy hS y_assign <| n_thenN ?_
   subst hF
   exact wp_ret (wr1 hS)
 replace hF := bf c3 hF
 iterate 2 (refine c_seq ?_)
 refine c_region <| oy hS y_bin <| oy hS y_assign <| n_thenN ?_
 refine c_if (ht := fun c4 => ?_) (hf := fun c4 => ?_)
 · replace hF := bt c4 hF
   refine wp_skip ?_
   refine c_ifT c4 ?_
   refine c_seq <| c_region <| oy hS y_assign <| n_thenN ?_
   subst hF
   exact wp_ret (wr1 hS)
 replace hF := bf c4 hF
 refine c_region <| oy hS y_bin <| oy hS y_assign <| n_thenN ?_
 refine c_if (ht := fun c5 => ?_) (hf := fun c5 => ?_)
 · replace hF := bt c5 hF
   refine c_seq <| c_region <| oy hS y_assign <| n_thenN ?_
   subst hF
   exact wp_ret (wr1 hS)
 replace hF := bf c5 hF
 refine wp_skip <| c_seq <| c_region <| oy hS y_assign <| n_thenN ?_
 subst hF
 exact wp_ret (wr1 hS)
theorem w_isa_Bits {g : Frag} {a0 : Int}  : LCs Try.prog 115 #[.int .i64 a0] g (.int .i64 (isa_Bits a0)) := w_isa_Bits_  rfl

noncomputable def word_Within (a0 : Int) (a1 : Int) : Option Bool :=
  (shl' .i64 (-1) (IntKind.i64.wrap (a1 - 1))).bind fun x1 => bif decide (x1 ≤ a0) then (shl' .i64 1 (IntKind.i64.wrap (a1 - 1))).bind fun x3 => some (decide (a0 < x3)) else some (false)
theorem w_word_Within_ {g : Frag} {a0 : Int} {a1 : Int} {r : Bool}  (hF : word_Within a0 a1 = some r) : LCs Try.prog 116 #[.int .i64 a0, .int .i64 a1] g (.bool r) := by
 unfold word_Within at hF
 refine lc_body (k := 17) (av := [.int .i64 a0, .int .i64 a1]) func116 rfl rfl (h := fun W hS => ?_)
 refine c_seq <| c_region <| oy hS y_assign <| n_thenN <| c_seq <| c_region ?_
 iterate 2 (refine oy hS y_move ?_)
 refine oy hS y_bin ?_
 obtain ⟨x1, hx1, hF⟩ := ob hF
 refine oy hS (y_shl hx1) <| oy hS y_bin ?_
 refine o_split (ht := fun c2 => ?_) (hf := fun c2 => ?_)
 · replace hF := bt c2 hF
   refine o_gu rfl rfl rfl <| oy hS y_move <| o_gu rfl rfl rfl <| oy hS y_move <| o_gu rfl rfl rfl <| oy hS y_bin <| o_gu rfl rfl rfl ?_
   obtain ⟨x3, hx3, hF⟩ := ob hF
   refine oy hS (y_shl hx3) <| o_gu rfl rfl rfl <| oy hS y_bin <| oy hS y_pickT <| oy hS y_assign <| n_thenN ?_
   obtain rfl := osi hF
   exact wp_ret (wr1 hS)
 replace hF := bf c2 hF
 iterate 5 (refine o_sk rfl rfl ?_)
 refine oy hS y_pickF <| oy hS y_assign <| n_thenN ?_
 obtain rfl := osi hF
 exact wp_ret (wr1 hS)
theorem w_word_Within {g : Frag} {a0 : Int} {a1 : Int} {r : Bool}  (hF : word_Within a0 a1 = some r) : LCs Try.prog 116 #[.int .i64 a0, .int .i64 a1] g (.bool r) := w_word_Within_  hF

noncomputable def isa_imm (a0 : T_Ins) (a1 : Int) : Option Bool :=
  bif (isa_Target a1) then bif !(decide (a0.Sym = (ByteArray.mk #[]))) then bif decide (a0.Imm = 0) then (isa_Name2 a0.Sym).bind fun r5 => some (r5) else some (false) else bif decide (0 ≤ a0.Imm) then some (decide (a0.Imm < 1024)) else some (false) else bif decide (a1 = 4) then bif !(decide (a0.Sym = (ByteArray.mk #[]))) then (isa_Name2 a0.Sym).bind fun r9 => bif !r9 then some (false) else bif decide (a1 ≠ 4) then some (false) else bif decide ((isa_Bits a1) = 0) then some (decide (a0.Imm = 0)) else (word_Within a0.Imm (isa_Bits a1)).bind fun r13 => some (r13) else bif decide (a1 ≠ 4) then bif decide ((isa_Bits a1) = 0) then some (decide (a0.Imm = 0)) else (word_Within a0.Imm (isa_Bits a1)).bind fun r16 => some (r16) else bif decide ((isa_Bits a1) = 0) then some (decide (a0.Imm = 0)) else (word_Within a0.Imm (isa_Bits a1)).bind fun r18 => some (r18) else bif decide (a1 ≠ 4) then bif !(decide (a0.Sym = (ByteArray.mk #[]))) then some (false) else bif decide ((isa_Bits a1) = 0) then some (decide (a0.Imm = 0)) else (word_Within a0.Imm (isa_Bits a1)).bind fun r22 => some (r22) else bif decide ((isa_Bits a1) = 0) then some (decide (a0.Imm = 0)) else (word_Within a0.Imm (isa_Bits a1)).bind fun r24 => some (r24)
theorem w_isa_imm_ {g : Frag} {a0 : T_Ins} {a1 : Int} {r : Bool}  (hF : isa_imm a0 a1 = some r) : LCs Try.prog 102 #[.agg (enc_Ins a0).toArray, .int .i64 a1] g (.bool r) := by
 unfold isa_imm at hF
 refine lc_body (k := 65) (av := [.agg (enc_Ins a0).toArray, .int .i64 a1]) func102 rfl rfl (h := fun W hS => ?_)
 refine c_seq <| c_region ?_
 refine o_boxP (cl := (enc_Ins a0)) rfl hS ?_
 clear hS; intro b1 w hS
 refine oy hS y_assign <| n_thenN <| c_seq <| c_block <| c_seq <| c_region <| oy hS y_move ?_
 refine o_callS hS func113 rfl rfl (hc := (w_isa_Target (a0 := a1))) (h := ?_)
 clear hS; intro w hS
 refine o_split (ht := fun c2 => ?_) (hf := fun c2 => ?_)
 · replace hF := bt c2 hF
   refine o_gu rfl rfl rfl <| oy hS (y_field fa_api_Ins_5) <| o_gu rfl rfl rfl <| oy hS (y_load (fun w hS => hS.own (mH)) underlying9 rfl rfl) <| o_gu rfl rfl rfl <| oy hS y_sneq <| oy hS y_pickT <| oy hS y_assign ?_
   refine n_thenN ?_
   refine c_if (ht := fun c3 => ?_) (hf := fun c3 => ?_)
   · replace hF := bt c3 hF
     refine c_seq <| c_region <| oy hS (y_field fa_api_Ins_4) <| oy hS (y_load (fun w hS => hS.own (mH)) underlying3 rfl rfl) <| oy hS y_bin ?_
     refine o_split (ht := fun c4 => ?_) (hf := fun c4 => ?_)
     · replace hF := bt c4 hF
       refine o_gu rfl rfl rfl <| oy hS (y_field fa_api_Ins_5) <| o_gu rfl rfl rfl <| oy hS (y_load (fun w hS => hS.own (mH)) underlying9 rfl rfl) <| o_gu rfl rfl rfl ?_
       obtain ⟨r5, hr5, hF⟩ := ob hF
       refine o_callS hS func114 rfl rfl (hc := (w_isa_Name2 (a0 := a0.Sym) (hF := hr5))) (h := ?_)
       clear hS; intro w hS
       refine oy hS y_pickT <| oy hS y_assign <| n_thenN ?_
       obtain rfl := osi hF
       exact wp_ret (wr1 hS)
     replace hF := bf c4 hF
     iterate 3 (refine o_sk rfl rfl ?_)
     refine oy hS y_pickF <| oy hS y_assign <| n_thenN ?_
     obtain rfl := osi hF
     exact wp_ret (wr1 hS)
   replace hF := bf c3 hF
   refine c_seq <| c_region <| oy hS y_move ?_
   refine o_callS hS func113 rfl rfl (hc := (w_isa_Target (a0 := a1))) (h := ?_)
   clear hS; intro w hS
   refine oy hS y_assign <| n_thenN ?_
   refine c_ifT c2 ?_
   refine c_seq <| c_region <| oy hS (y_field fa_api_Ins_4) <| oy hS (y_load (fun w hS => hS.own (mH)) underlying3 rfl rfl) <| oy hS y_bin ?_
   refine o_split (ht := fun c6 => ?_) (hf := fun c6 => ?_)
   · replace hF := bt c6 hF
     refine o_gu rfl rfl rfl <| oy hS (y_field fa_api_Ins_4) <| o_gu rfl rfl rfl <| oy hS (y_load (fun w hS => hS.own (mH)) underlying3 rfl rfl) <| o_gu rfl rfl rfl <| oy hS y_bin <| oy hS y_pickT <| oy hS y_assign ?_
     refine n_thenN ?_
     obtain rfl := osi hF
     exact wp_ret (wr1 hS)
   replace hF := bf c6 hF
   iterate 3 (refine o_sk rfl rfl ?_)
   refine oy hS y_pickF <| oy hS y_assign <| n_thenN ?_
   obtain rfl := osi hF
   exact wp_ret (wr1 hS)
 replace hF := bf c2 hF
 iterate 3 (refine o_sk rfl rfl ?_)
 refine oy hS y_pickF <| oy hS y_assign <| n_thenN ?_
 refine c_if_false (h := ?_)
 refine c_seq <| c_region <| oy hS y_move ?_
 refine o_callS hS func113 rfl rfl (hc := (w_isa_Target (a0 := a1))) (h := ?_)
 clear hS; intro w hS
 refine oy hS y_assign <| n_thenN ?_
 refine c_ifF c2 ?_
 iterate 2 (refine c_seq ?_)
 refine c_region <| oy hS y_move <| oy hS y_bin ?_
 refine o_split (ht := fun c7 => ?_) (hf := fun c7 => ?_)
 · replace hF := bt c7 hF
   refine o_gu rfl rfl rfl <| oy hS (y_field fa_api_Ins_5) <| o_gu rfl rfl rfl <| oy hS (y_load (fun w hS => hS.own (mH)) underlying9 rfl rfl) <| o_gu rfl rfl rfl <| oy hS y_sneq <| oy hS y_pickT ?_
   refine o_split (ht := fun c8 => ?_) (hf := fun c8 => ?_)
   · replace hF := bt c8 hF
     refine o_gu rfl rfl rfl <| oy hS (y_field fa_api_Ins_5) <| o_gu rfl rfl rfl <| oy hS (y_load (fun w hS => hS.own (mH)) underlying9 rfl rfl) <| o_gu rfl rfl rfl ?_
     obtain ⟨r9, hr9, hF⟩ := ob hF
     refine o_callS hS func114 rfl rfl (hc := (w_isa_Name2 (a0 := a0.Sym) (hF := hr9))) (h := ?_)
     clear hS; intro w hS
     refine o_gu rfl rfl rfl <| oy hS y_not <| oy hS y_pickT <| oy hS y_assign <| n_thenN ?_
     refine c_if (ht := fun c10 => ?_) (hf := fun c10 => ?_)
     · replace hF := bt c10 hF
       refine wp_skip ?_
       refine c_ifT c10 ?_
       refine c_seq <| c_region <| oy hS y_assign <| n_thenN ?_
       obtain rfl := osi hF
       exact wp_ret (wr1 hS)
     replace hF := bf c10 hF
     refine c_region <| oy hS y_move <| oy hS y_bin ?_
     refine o_split (ht := fun c11 => ?_) (hf := fun c11 => ?_)
     · replace hF := bt c11 hF
       refine o_gu rfl rfl rfl <| oy hS (y_field fa_api_Ins_5) <| o_gu rfl rfl rfl <| oy hS (y_load (fun w hS => hS.own (mH)) underlying9 rfl rfl) <| o_gu rfl rfl rfl <| oy hS y_sneq <| oy hS y_pickT <| oy hS y_assign ?_
       refine n_thenN ?_
       refine c_ifT c8 ?_
       refine c_seq <| c_region <| oy hS y_assign <| n_thenN ?_
       obtain rfl := osi hF
       exact wp_ret (wr1 hS)
     replace hF := bf c11 hF
     iterate 3 (refine o_sk rfl rfl ?_)
     refine oy hS y_pickF <| oy hS y_assign <| n_thenN ?_
     refine c_if_false (h := ?_)
     refine c_seq <| c_region <| oy hS y_move ?_
     refine o_callS hS func115 rfl rfl (hc := (w_isa_Bits (a0 := a1))) (h := ?_)
     clear hS; intro w hS
     refine oy hS y_bin <| oy hS y_assign <| n_thenN ?_
     refine c_if (ht := fun c12 => ?_) (hf := fun c12 => ?_)
     · replace hF := bt c12 hF
       refine c_seq <| c_region <| oy hS (y_field fa_api_Ins_4) <| oy hS (y_load (fun w hS => hS.own (mH)) underlying3 rfl rfl) <| oy hS y_bin <| oy hS y_assign <| n_thenN ?_
       obtain rfl := osi hF
       exact wp_ret (wr1 hS)
     replace hF := bf c12 hF
     refine wp_skip <| c_seq ?_
     refine c_quiet (by kernel_rfl) (by kernel_rfl) hS ?_
     refine qy (y_field fa_api_Ins_4) <| qy (y_load (fun w hS => hS.own (mH)) underlying3 rfl rfl) <| qy y_move ?_
     refine q_callS func115 rfl rfl (hc := (w_isa_Bits (a0 := a1))) (h := ?_)
     obtain ⟨r13, hr13, hF⟩ := ob hF
     refine q_callS func116 rfl rfl (hc := (w_word_Within (a0 := a0.Imm) (a1 := (isa_Bits a1)) (hF := hr13))) (h := ?_)
     refine qy y_assign ?_
     refine q_nilN (h := ?_)
     clear hS; intro w hS
     obtain rfl := osi hF
     exact wp_ret (wr1 hS)
   replace hF := bf c8 hF
   iterate 4 (refine o_sk rfl rfl ?_)
   refine oy hS y_pickF <| oy hS y_assign <| n_thenN ?_
   refine c_if_false (h := ?_)
   refine c_region <| oy hS y_move <| oy hS y_bin ?_
   refine o_split (ht := fun c14 => ?_) (hf := fun c14 => ?_)
   · replace hF := bt c14 hF
     refine o_gu rfl rfl rfl <| oy hS (y_field fa_api_Ins_5) <| o_gu rfl rfl rfl <| oy hS (y_load (fun w hS => hS.own (mH)) underlying9 rfl rfl) <| o_gu rfl rfl rfl <| oy hS y_sneq <| oy hS y_pickT <| oy hS y_assign ?_
     refine n_thenN ?_
     refine c_ifF c8 ?_
     refine c_seq <| c_region <| oy hS y_move ?_
     refine o_callS hS func115 rfl rfl (hc := (w_isa_Bits (a0 := a1))) (h := ?_)
     clear hS; intro w hS
     refine oy hS y_bin <| oy hS y_assign <| n_thenN ?_
     refine c_if (ht := fun c15 => ?_) (hf := fun c15 => ?_)
     · replace hF := bt c15 hF
       refine c_seq <| c_region <| oy hS (y_field fa_api_Ins_4) <| oy hS (y_load (fun w hS => hS.own (mH)) underlying3 rfl rfl) <| oy hS y_bin <| oy hS y_assign <| n_thenN ?_
       obtain rfl := osi hF
       exact wp_ret (wr1 hS)
     replace hF := bf c15 hF
     refine wp_skip <| c_seq ?_
     refine c_quiet (by kernel_rfl) (by kernel_rfl) hS ?_
     refine qy (y_field fa_api_Ins_4) <| qy (y_load (fun w hS => hS.own (mH)) underlying3 rfl rfl) <| qy y_move ?_
     refine q_callS func115 rfl rfl (hc := (w_isa_Bits (a0 := a1))) (h := ?_)
     obtain ⟨r16, hr16, hF⟩ := ob hF
     refine q_callS func116 rfl rfl (hc := (w_word_Within (a0 := a0.Imm) (a1 := (isa_Bits a1)) (hF := hr16))) (h := ?_)
     refine qy y_assign ?_
     refine q_nilN (h := ?_)
     clear hS; intro w hS
     obtain rfl := osi hF
     exact wp_ret (wr1 hS)
   replace hF := bf c14 hF
   iterate 3 (refine o_sk rfl rfl ?_)
   refine oy hS y_pickF <| oy hS y_assign <| n_thenN ?_
   refine c_if_false (h := ?_)
   refine c_seq <| c_region <| oy hS y_move ?_
   refine o_callS hS func115 rfl rfl (hc := (w_isa_Bits (a0 := a1))) (h := ?_)
   clear hS; intro w hS
   refine oy hS y_bin <| oy hS y_assign <| n_thenN ?_
   refine c_if (ht := fun c17 => ?_) (hf := fun c17 => ?_)
   · replace hF := bt c17 hF
     refine c_seq <| c_region <| oy hS (y_field fa_api_Ins_4) <| oy hS (y_load (fun w hS => hS.own (mH)) underlying3 rfl rfl) <| oy hS y_bin <| oy hS y_assign <| n_thenN ?_
     obtain rfl := osi hF
     exact wp_ret (wr1 hS)
   replace hF := bf c17 hF
   refine wp_skip <| c_seq ?_
   refine c_quiet (by kernel_rfl) (by kernel_rfl) hS ?_
   refine qy (y_field fa_api_Ins_4) <| qy (y_load (fun w hS => hS.own (mH)) underlying3 rfl rfl) <| qy y_move ?_
   refine q_callS func115 rfl rfl (hc := (w_isa_Bits (a0 := a1))) (h := ?_)
   obtain ⟨r18, hr18, hF⟩ := ob hF
   refine q_callS func116 rfl rfl (hc := (w_word_Within (a0 := a0.Imm) (a1 := (isa_Bits a1)) (hF := hr18))) (h := ?_)
   refine qy y_assign ?_
   refine q_nilN (h := ?_)
   clear hS; intro w hS
   obtain rfl := osi hF
   exact wp_ret (wr1 hS)
 replace hF := bf c7 hF
 iterate 3 (refine o_sk rfl rfl ?_)
 refine oy hS y_pickF <| oy hS y_move ?_
 iterate 4 (refine o_sk rfl rfl ?_)
 refine oy hS y_pickF <| oy hS y_assign <| n_thenN ?_
 refine c_if_false (h := ?_)
 refine c_region <| oy hS y_move <| oy hS y_bin ?_
 refine o_split (ht := fun c19 => ?_) (hf := fun c19 => ?_)
 · replace hF := bt c19 hF
   refine o_gu rfl rfl rfl <| oy hS (y_field fa_api_Ins_5) <| o_gu rfl rfl rfl <| oy hS (y_load (fun w hS => hS.own (mH)) underlying9 rfl rfl) <| o_gu rfl rfl rfl <| oy hS y_sneq <| oy hS y_pickT <| oy hS y_assign ?_
   refine n_thenN ?_
   refine c_if (ht := fun c20 => ?_) (hf := fun c20 => ?_)
   · replace hF := bt c20 hF
     refine c_seq <| c_region <| oy hS y_assign <| n_thenN ?_
     obtain rfl := osi hF
     exact wp_ret (wr1 hS)
   replace hF := bf c20 hF
   refine c_seq <| c_region <| oy hS y_move ?_
   refine o_callS hS func115 rfl rfl (hc := (w_isa_Bits (a0 := a1))) (h := ?_)
   clear hS; intro w hS
   refine oy hS y_bin <| oy hS y_assign <| n_thenN ?_
   refine c_if (ht := fun c21 => ?_) (hf := fun c21 => ?_)
   · replace hF := bt c21 hF
     refine c_seq <| c_region <| oy hS (y_field fa_api_Ins_4) <| oy hS (y_load (fun w hS => hS.own (mH)) underlying3 rfl rfl) <| oy hS y_bin <| oy hS y_assign <| n_thenN ?_
     obtain rfl := osi hF
     exact wp_ret (wr1 hS)
   replace hF := bf c21 hF
   refine wp_skip <| c_seq ?_
   refine c_quiet (by kernel_rfl) (by kernel_rfl) hS ?_
   refine qy (y_field fa_api_Ins_4) <| qy (y_load (fun w hS => hS.own (mH)) underlying3 rfl rfl) <| qy y_move ?_
   refine q_callS func115 rfl rfl (hc := (w_isa_Bits (a0 := a1))) (h := ?_)
   obtain ⟨r22, hr22, hF⟩ := ob hF
   refine q_callS func116 rfl rfl (hc := (w_word_Within (a0 := a0.Imm) (a1 := (isa_Bits a1)) (hF := hr22))) (h := ?_)
   refine qy y_assign ?_
   refine q_nilN (h := ?_)
   clear hS; intro w hS
   obtain rfl := osi hF
   exact wp_ret (wr1 hS)
 replace hF := bf c19 hF
 iterate 3 (refine o_sk rfl rfl ?_)
 refine oy hS y_pickF <| oy hS y_assign <| n_thenN ?_
 refine c_if_false (h := ?_)
 refine c_seq <| c_region <| oy hS y_move ?_
 refine o_callS hS func115 rfl rfl (hc := (w_isa_Bits (a0 := a1))) (h := ?_)
 clear hS; intro w hS
 refine oy hS y_bin <| oy hS y_assign <| n_thenN ?_
 refine c_if (ht := fun c23 => ?_) (hf := fun c23 => ?_)
 · replace hF := bt c23 hF
   refine c_seq <| c_region <| oy hS (y_field fa_api_Ins_4) <| oy hS (y_load (fun w hS => hS.own (mH)) underlying3 rfl rfl) <| oy hS y_bin <| oy hS y_assign <| n_thenN ?_
   obtain rfl := osi hF
   exact wp_ret (wr1 hS)
 replace hF := bf c23 hF
 refine wp_skip <| c_seq ?_
 refine c_quiet (by kernel_rfl) (by kernel_rfl) hS ?_
 refine qy (y_field fa_api_Ins_4) <| qy (y_load (fun w hS => hS.own (mH)) underlying3 rfl rfl) <| qy y_move ?_
 refine q_callS func115 rfl rfl (hc := (w_isa_Bits (a0 := a1))) (h := ?_)
 obtain ⟨r24, hr24, hF⟩ := ob hF
 refine q_callS func116 rfl rfl (hc := (w_word_Within (a0 := a0.Imm) (a1 := (isa_Bits a1)) (hF := hr24))) (h := ?_)
 refine qy y_assign ?_
 refine q_nilN (h := ?_)
 clear hS; intro w hS
 obtain rfl := osi hF
 exact wp_ret (wr1 hS)
theorem w_isa_imm {g : Frag} {a0 : T_Ins} {a1 : Int} {r : Bool}  (hF : isa_imm a0 a1 = some r) : LCs Try.prog 102 #[.agg (enc_Ins a0).toArray, .int .i64 a1] g (.bool r) := w_isa_imm_  hF

noncomputable def isa_IsIns (a0 : T_Ins) : Option Bool :=
  bif !(isa_Is a0.Op) then some (false) else bif (isa_reg (isa_HasD (isa_Shape a0.Op)) a0.D) then bif (isa_reg (isa_HasA (isa_Shape a0.Op)) a0.A) then bif (isa_reg (isa_HasB (isa_Shape a0.Op)) a0.B) then (isa_imm a0 (isa_Shape a0.Op)).bind fun r6 => some (r6) else some (false) else some (false) else some (false)
theorem w_isa_IsIns_ {g : Frag} {a0 : T_Ins} {r : Bool}  (hF : isa_IsIns a0 = some r) : LCs Try.prog 78 #[.agg (enc_Ins a0).toArray] g (.bool r) := by
 unfold isa_IsIns at hF
 refine lc_body (k := 35) (av := [.agg (enc_Ins a0).toArray]) func78 rfl rfl (h := fun W hS => ?_)
 refine c_seq <| c_region ?_
 refine o_boxP (cl := (enc_Ins a0)) rfl hS ?_
 clear hS; intro b1 w hS
 refine oy hS y_assign <| n_thenN ?_
 iterate 2 (refine c_seq ?_)
 refine c_region <| oy hS (y_field fa_api_Ins_0) <| oy hS (y_load (fun w hS => hS.own (mH)) underlying3 rfl rfl) ?_
 refine o_callS hS func98 rfl rfl (hc := (w_isa_Is (a0 := a0.Op))) (h := ?_)
 clear hS; intro w hS
 refine oy hS y_not <| n_thenN ?_
 refine c_if (ht := fun c2 => ?_) (hf := fun c2 => ?_)
 · replace hF := bt c2 hF
   refine c_seq <| c_region <| oy hS y_assign <| n_thenN ?_
   obtain rfl := osi hF
   exact wp_ret (wr1 hS)
 replace hF := bf c2 hF
 refine wp_skip <| c_seq <| c_region <| oy hS (y_field fa_api_Ins_0) <| oy hS (y_load (fun w hS => hS.own (mH)) underlying3 rfl rfl) ?_
 refine o_callS hS func66 rfl rfl (hc := (w_isa_Shape (a0 := a0.Op))) (h := ?_)
 clear hS; intro w hS
 refine oy hS y_assign <| n_thenN <| c_seq ?_
 refine c_quiet (by kernel_rfl) (by kernel_rfl) hS ?_
 refine qy y_move ?_
 refine q_callS func65 rfl rfl (hc := (w_isa_HasD (a0 := (isa_Shape a0.Op)))) (h := ?_)
 refine qy (y_field fa_api_Ins_1) <| qy (y_load (fun w hS => hS.own (mH)) underlying3 rfl rfl) ?_
 refine q_callS func99 rfl rfl (hc := (w_isa_reg (a0 := (isa_HasD (isa_Shape a0.Op))) (a1 := a0.D))) (h := ?_)
 refine q_split (ht := fun c3 => ?_) (hf := fun c3 => ?_)
 · replace hF := bt c3 hF
   refine q_gu rfl rfl rfl ?_
   refine qy y_move ?_
   refine q_gu rfl rfl rfl ?_
   refine q_callS func100 rfl rfl (hc := (w_isa_HasA (a0 := (isa_Shape a0.Op)))) (h := ?_)
   refine q_gu rfl rfl rfl ?_
   refine qy (y_field fa_api_Ins_2) ?_
   refine q_gu rfl rfl rfl ?_
   refine qy (y_load (fun w hS => hS.own (mH)) underlying3 rfl rfl) ?_
   refine q_gu rfl rfl rfl ?_
   refine q_callS func99 rfl rfl (hc := (w_isa_reg (a0 := (isa_HasA (isa_Shape a0.Op))) (a1 := a0.A))) (h := ?_)
   refine qy y_pickT ?_
   refine q_split (ht := fun c4 => ?_) (hf := fun c4 => ?_)
   · replace hF := bt c4 hF
     refine q_gu rfl rfl rfl ?_
     refine qy y_move ?_
     refine q_gu rfl rfl rfl ?_
     refine q_callS func101 rfl rfl (hc := (w_isa_HasB (a0 := (isa_Shape a0.Op)))) (h := ?_)
     refine q_gu rfl rfl rfl ?_
     refine qy (y_field fa_api_Ins_3) ?_
     refine q_gu rfl rfl rfl ?_
     refine qy (y_load (fun w hS => hS.own (mH)) underlying3 rfl rfl) ?_
     refine q_gu rfl rfl rfl ?_
     refine q_callS func99 rfl rfl (hc := (w_isa_reg (a0 := (isa_HasB (isa_Shape a0.Op))) (a1 := a0.B))) (h := ?_)
     refine qy y_pickT ?_
     refine q_split (ht := fun c5 => ?_) (hf := fun c5 => ?_)
     · replace hF := bt c5 hF
       refine q_gu rfl rfl rfl ?_
       refine qy (y_loadW (fun w hS => hS.own (mH)) underlying31 rfl (by exact sz_api_Ins)) ?_
       refine q_gu rfl rfl rfl ?_
       refine qy y_move ?_
       refine q_gu rfl rfl rfl ?_
       obtain ⟨r6, hr6, hF⟩ := ob hF
       refine q_callS func102 rfl rfl (hc := (w_isa_imm (a0 := a0) (a1 := (isa_Shape a0.Op)) (hF := hr6))) (h := ?_)
       refine qy y_pickT <| qy y_assign ?_
       refine q_nilN (h := ?_)
       clear hS; intro w hS
       obtain rfl := osi hF
       exact wp_ret (wr1 hS)
     replace hF := bf c5 hF
     iterate 3 (refine q_sk rfl rfl ?_)
     refine qy y_pickF <| qy y_assign ?_
     refine q_nilN (h := ?_)
     clear hS; intro w hS
     obtain rfl := osi hF
     exact wp_ret (wr1 hS)
   replace hF := bf c4 hF
   iterate 5 (refine q_sk rfl rfl ?_)
   refine qy y_pickF <| qy y_move ?_
   iterate 3 (refine q_sk rfl rfl ?_)
   refine qy y_pickF <| qy y_assign ?_
   refine q_nilN (h := ?_)
   clear hS; intro w hS
   obtain rfl := osi hF
   exact wp_ret (wr1 hS)
 replace hF := bf c3 hF
 iterate 5 (refine q_sk rfl rfl ?_)
 refine qy y_pickF <| qy y_move ?_
 iterate 5 (refine q_sk rfl rfl ?_)
 refine qy y_pickF <| qy y_move ?_
 iterate 3 (refine q_sk rfl rfl ?_)
 refine qy y_pickF <| qy y_assign ?_
 refine q_nilN (h := ?_)
 clear hS; intro w hS
 obtain rfl := osi hF
 exact wp_ret (wr1 hS)
theorem w_isa_IsIns {g : Frag} {a0 : T_Ins} {r : Bool}  (hF : isa_IsIns a0 = some r) : LCs Try.prog 78 #[.agg (enc_Ins a0).toArray] g (.bool r) := w_isa_IsIns_  hF
end Go.Proofs.Ythbpicnbkdbbmaa
