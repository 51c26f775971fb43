/- Functions, lifted. Printed by lift.py. -/
import Derived.Test.YthbpicnbkdbbmaaProg
import Derived.Test.YthbpicnbkdbbmaaP5
import Derived.KernelRfl
namespace Go.Proofs.Ythbpicnbkdbbmaa
open Go Go.RowKit Fr
set_option linter.unusedVariables false
set_option linter.unusedSimpArgs false
set_option maxRecDepth 20000
open Try
set_option maxHeartbeats 2000000
noncomputable def r5_find_b2 (a1 : T_State) : ((List Int) × Int) → Option (Step ((List Int) × Int) (Step (List Int) Int)) := fun (x108, x113) => bif decide (x113 < (a1.Fly.length : Int)) then (at' a1.Fly x113).bind fun x141 => (app' x108 ([x141.Reg] : List Int)).bind fun zs160 => some (.next (zs160, IntKind.i64.wrap (x113 + 1))) else some (.done (.next x108))
noncomputable def r5_find_b5 (r417 : (List Int)) (x78 : (List Int)) (x293 : Int) : Int → Option (Step Int (Step Unit (Step ((List Int) × Int) Int))) := fun x480 => bif decide (x480 < (r417.length : Int)) then (at' r417 x480).bind fun x498 => (r0_In x78 x498).bind fun r507 => bif decide (0 ≤ r507) then some (.done (.done (.done (x293)))) else some (.next (IntKind.i64.wrap (x480 + 1))) else some (.done (.next ()))
noncomputable def r5_find_k4 (x162 : (A4 T_Ins)) (x293 : Int) (x78 : (List Int)) (x288 : (List Int)) (a1 : T_State) : Unit → Option (Step ((List Int) × Int) Int) := fun _ => (at' [x162.x0, x162.x1, x162.x2, x162.x3] x293).bind fun x510 => (r3_Writes x510).bind fun r511 => bif decide (0 ≤ r511) then (r0_In x78 r511).bind fun r513 => bif decide (0 ≤ r513) then some (.done (x293)) else (r0_In x288 r511).bind fun r515 => bif decide (0 ≤ r515) then some (.done (x293)) else (app' x288 ([r511] : List Int)).bind fun zs524 => (at' [x162.x0, x162.x1, x162.x2, x162.x3] x293).bind fun x525 => bif (r3_Ends x525.Op) then bif decide (0 < a1.Delay) then some (.done (x293)) else some (.next (zs524, IntKind.i64.wrap (x293 + 1))) else some (.next (zs524, IntKind.i64.wrap (x293 + 1))) else (at' [x162.x0, x162.x1, x162.x2, x162.x3] x293).bind fun x528 => bif (r3_Ends x528.Op) then bif decide (0 < a1.Delay) then some (.done (x293)) else some (.next (x288, IntKind.i64.wrap (x293 + 1))) else some (.next (x288, IntKind.i64.wrap (x293 + 1)))
noncomputable def r5_find_b3 (x162 : (A4 T_Ins)) (x78 : (List Int)) (a1 : T_State) : ((List Int) × Int) → Option (Step ((List Int) × Int) Int) := fun (x288, x293) => bif decide (x293 < 4) then (at' [x162.x0, x162.x1, x162.x2, x162.x3] x293).bind fun x416 => (r3_Reads x416).bind fun r417 => cut (σ := Unit) (loop (σ := Int) (r5_find_b5 r417 x78 x293) 0) (r5_find_k4 x162 x293 x78 x288 a1) else some (.done ((-1)))
noncomputable def r5_find_k1 (a0 : (List (A4 T_Ins))) (a1 : T_State) : (List Int) → Option Int := fun x78 => (at' a0 a1.PC).bind fun x162 => loop (σ := ((List Int) × Int)) (r5_find_b3 x162 x78 a1) ([], 0)
noncomputable def r5_find (a0 : (List (A4 T_Ins))) (a1 : T_State) : Option Int :=
  bif decide ((a0.length : Int) ≤ a1.PC) then some (-1) else cut (σ := (List Int)) (loop (σ := ((List Int) × Int)) (r5_find_b2 a1) ([], 0)) (r5_find_k1 a0 a1)
theorem w_r5_find_ {g : Frag} {a0 : (List (A4 T_Ins))} {v0_ : Value} {a1 : T_State} {v1_ : Value} {r : Int} (h0 : SlT g enc_Bundle 24 a0 v0_) (h1 : Rd_State g a1 v1_) (hF : r5_find a0 a1 = some r) : LCs Try.prog 31 #[v0_, v1_] g (.int .i64 r) := by
 obtain ⟨v1_0_, v1_1_, v1_2_, v1_4_, v1_6_, v1_8_, rfl, h1_0_, h1_1_, h1_2_, h1_4_, h1_6_, h1_8_⟩ := h1
 unfold r5_find at hF
 refine lc_body (k := 93) (av := [v0_, .agg (cl_State v1_0_ v1_1_ v1_2_ a1.Taken v1_4_ a1.PC v1_6_ a1.Stop v1_8_ a1.Jump a1.Delay).toArray]) func31 rfl rfl (h := fun W hS => ?_)
 refine c_seq <| c_region ?_
 refine o_boxP (cl := (cl_State v1_0_ v1_1_ v1_2_ a1.Taken v1_4_ a1.PC v1_6_ a1.Stop v1_8_ a1.Jump a1.Delay)) rfl hS ?_
 clear hS; intro b1 w hS
 refine oy hS y_assign <| n_thenN ?_
 iterate 2 (refine c_seq ?_)
 refine c_region <| oy hS (y_field fa_api_State_5) <| oy hS (y_load (fun w hS => hS.own (mH)) underlying3 rfl rfl) <| oy hS y_move <| oy hS (y_len h0 underlying22) <| oy hS y_bin <| n_thenN ?_
 refine c_if (ht := fun c2 => ?_) (hf := fun c2 => ?_)
 · replace hF := bt c2 hF
   refine c_seq <| c_region <| oy hS y_assign <| n_thenN ?_
   obtain rfl := osi hF
   exact wp_ret (wr1 hS)
 replace hF := bf c2 hF
 refine wp_skip <| c_seq <| c_region <| oy hS y_assign <| n_thenN ?_
 obtain ⟨z83, hF, hK84⟩ := cut_step hF
 refine c_cutP (fun a w' => ∃ (x78 : (List Int)) (v79 : Value) (LX81 : Own), r5_find_k1 a0 a1 x78 = some r ∧ OwT 3 enc_int 1 x78 v79 LX81 ∧ (∃ s : Nat → Value, a = Ac ((((Fm.dead 93 s).upd 0 v0_).upd 3 (.pointer (some ⟨b1, 0, none⟩))).upd 5 v79)) ∧ St W g [] ((b1, blk (cl_State v1_0_ v1_1_ v1_2_ a1.Taken v1_4_ a1.PC v1_6_ a1.Stop v1_8_ a1.Jump a1.Delay) 27) :: (LX81 ++ [])) w') ?_ ?_
 · skip
   refine c_seq <| c_region <| oy hS y_assign <| n_thenN <| c_block ?_
   refine c_loopP hF (fun (q : ((List Int) × Int)) a w' => ∃ (v109 : Value) (LX111 : Own), OwT 3 enc_int 1 q.1 v109 LX111 ∧ (∃ s : Nat → Value, a = Ac (((((Fm.dead 93 s).upd 0 v0_).upd 3 (.pointer (some ⟨b1, 0, none⟩))).upd 5 v109).upd 6 (.int .i64 q.2))) ∧ St W g [] ((b1, blk (cl_State v1_0_ v1_1_ v1_2_ a1.Taken v1_4_ a1.PC v1_6_ a1.Stop v1_8_ a1.Jump a1.Delay) 27) :: (LX111 ++ [])) w') ⟨(.slice none 0 0), [], (OwT.nil _ _ _), mk_exF, (hS.re (.b .hb (.take (X := []) (.here [] _) .n)))⟩ ?_
   clear hS hF
   intro n138 q a w hI hq
   obtain ⟨x108, x113⟩ := q
   obtain ⟨v109, LX111, h110, ⟨s139, rfl⟩, hS⟩ := hq
   replace h110 : OwT 3 enc_int 1 x108 v109 LX111 := h110
   obtain ⟨z135, hF, hK136⟩ := iter_step hI
   clear hI
   dsimp only [r5_find_b2] at hF
   iterate 2 (refine c_seq ?_)
   refine c_region <| oy hS y_move <| oy hS (y_field fa_api_State_8) <| oy hS (y_load (fun w hS => hS.own (mH)) underlying25 rfl rfl) <| oy hS (y_len h1_8_ underlying25) <| oy hS y_bin <| n_thenN ?_
   refine c_if (ht := fun c140 => ?_) (hf := fun c140 => ?_)
   · replace hF := bt c140 hF
     refine wp_skip <| c_seq <| c_block <| c_region <| oy hS y_move <| oy hS (y_field fa_api_State_8) <| oy hS (y_load (fun w hS => hS.own (mH)) underlying25 rfl rfl) <| oy hS y_move ?_
     obtain ⟨x141, hx141, hF⟩ := ob hF
     obtain ⟨b142, o143, c144, cs145, e146, fz147, hv148, ha149, hb150, hd151, hc152⟩ := SlT.at hx141 h1_8_ enc_len_Write
     refine oy hS (y_index hv148 ha149 hb150 underlying25 el_api_Write.size) <| oy hS (y_field fa_api_Write_0) <| oy hS (y_load (fun w hS => hS.block hd151) underlying3 rfl (hc152 0 _ rfl)) ?_
     refine o_buildT val_int ([x141.Reg] : List Int) hS el_int (fun _ => rfl) enc_len_int (by decide) rfl (by decide) (hp := rfl) (h := ?_)
     clear hS; intro b153 w hS h154
     have hS : St W g [] ([(b153, blk (([x141.Reg] : List Int).flatMap enc_int) 3)] ++ ((b1, blk (cl_State v1_0_ v1_1_ v1_2_ a1.Taken v1_4_ a1.PC v1_6_ a1.Stop v1_8_ a1.Jump a1.Delay) 27) :: (LX111 ++ []))) w := hS
     obtain ⟨zs160, hzs160, hF⟩ := ob hF
     have hS := hS.re (.t .h (.t (.thereb _ .h) (.b .hb .n)))
     refine o_appPn (ys := ([x141.Reg] : List Int)) (LX := LX111) hzs160 hS el_int h110 rfl enc_len_int (enc_ones_int _) (by decide) ?_
     clear hS; intro v156 LX157 w h158 hS
     refine oy hS y_assign ?_
     refine n_anyN ?_
     refine c_region <| oy hS y_move <| oy hS y_bin <| oy hS y_assign <| n_thenN ?_
     obtain rfl := osi hF
     exact ⟨_, hK136, v156, LX157, h158, mk_exF, (hS.re (.b (.there _ .hb) (.t .h .n)))⟩
   replace hF := bf c140 hF
   refine wp_exit ?_
   obtain rfl := osi hF
   obtain rfl : _ = z83 := hK136
   change ∃ _, _
   exact ⟨x108, v109, LX111, hK84, h110, mk_exF, (hS.re (.b .hb (.t .h .n)))⟩
 rintro a w ⟨x78, v79, LX81, hF, h80, ⟨s161, rfl⟩, hS⟩
 dsimp only [r5_find_k1] at hF
 refine c_seq <| c_region <| oy hS y_move <| oy hS (y_field fa_api_State_5) <| oy hS (y_load (fun w hS => hS.own (mH)) underlying3 rfl rfl) ?_
 obtain ⟨x162, hx162, hF⟩ := ob hF
 obtain ⟨b163, o164, c165, cs166, e167, fz168, hv169, ha170, hb171, hd172, hc173⟩ := SlT.at hx162 h0 enc_len_Bundle
 refine oy hS (y_index hv169 ha170 hb171 underlying22 el_api_Bundle.size) ?_
 refine oy hS (y_loadN (vs := (enc_Bundle x162)) (fun w hS => hS.block hd172) underlying37 rfl (by exact sz_api_Bundle) (fun j u hj => hc173 j u hj)) ?_
 refine o_allocP (cl := (enc_Bundle ⟨(⟨0, 0, 0, 0, 0, ByteArray.empty⟩ : T_Ins), (⟨0, 0, 0, 0, 0, ByteArray.empty⟩ : T_Ins), (⟨0, 0, 0, 0, 0, ByteArray.empty⟩ : T_Ins), (⟨0, 0, 0, 0, 0, ByteArray.empty⟩ : T_Ins)⟩)) zr_api_Bundle rfl hS ?_
 clear hS; intro b174 w hS
 refine o_storeW (vs := (enc_Bundle x162)) hS (by exact rfl) (Upd.here _) (by exact sz_api_Bundle) (enc_one_Bundle _) ?_
 clear hS; intro w hS
 refine n_thenN <| c_seq <| c_region <| oy hS y_assign <| n_thenN ?_
 iterate 2 (refine c_seq ?_)
 refine c_region <| oy hS y_assign <| n_thenN <| c_block ?_
 refine c_loopP hF (fun (q : ((List Int) × Int)) a w' => ∃ (v289 : Value) (LX291 : Own), OwT 3 enc_int 1 q.1 v289 LX291 ∧ (∃ s : Nat → Value, a = Ac ((((((Fm.dead 93 s).upd 3 (.pointer (some ⟨b1, 0, none⟩))).upd 5 v79).upd 7 (.pointer (some ⟨b174, 0, none⟩))).upd 8 v289).upd 9 (.int .i64 q.2))) ∧ St W g [] ((b1, blk (cl_State v1_0_ v1_1_ v1_2_ a1.Taken v1_4_ a1.PC v1_6_ a1.Stop v1_8_ a1.Jump a1.Delay) 27) :: ((b174, blk (enc_Bundle x162) 37) :: (LX81 ++ (LX291 ++ [])))) w') ⟨(.slice none 0 0), [], (OwT.nil _ _ _), mk_exF, (hS.re (.b (.thereb _ .hb) (.b .hb (.t .h (.take (X := []) (.here [] _) .n)))))⟩ ?_
 clear hS hF
 intro n413 q a w hI hq
 obtain ⟨x288, x293⟩ := q
 obtain ⟨v289, LX291, h290, ⟨s414, rfl⟩, hS⟩ := hq
 replace h290 : OwT 3 enc_int 1 x288 v289 LX291 := h290
 obtain ⟨z410, hF, hK411⟩ := iter_step hI
 clear hI
 dsimp only [r5_find_b3] at hF
 iterate 2 (refine c_seq ?_)
 refine c_region <| oy hS y_move <| oy hS y_bin <| n_thenN ?_
 refine c_if (ht := fun c415 => ?_) (hf := fun c415 => ?_)
 · replace hF := bt c415 hF
   refine wp_skip <| c_seq <| c_block <| c_seq <| c_region <| oy hS y_move ?_
   obtain ⟨x416, hx416, hF⟩ := ob hF
   refine oy hS (y_indexA (at'_bnd hx416 rfl).1 (at'_bnd hx416 (n := 4) rfl).2 underlying37 (by exact sz_api_Ins)) ?_
   refine oy hS (y_loadN (vs := (enc_Ins x416)) (fun w hS => hS.own (mC (mH))) underlying31 rfl (by exact sz_api_Ins) (arr_box (o := 0) (xs := [x162.x0, x162.x1, x162.x2, x162.x3]) (pre := []) (post := []) hx416 enc_len_Ins (by exact rfl) rfl)) ?_
   obtain ⟨r417, hr417, hF⟩ := ob hF
   refine o_call0 hS func49 rfl rfl (hc := (w_r3_Reads (a0 := x416) (hF := hr417))) (h := ?_)
   clear hS; intro v418 LY419 w hS hr420
   obtain ⟨v_0_421, LX_0_422, rfl, rfl, h_0_423⟩ := hr420
   simp only [aa, ac, al] at hS
   refine oy hS y_assign <| n_thenN ?_
   obtain ⟨z466, hF, hK467⟩ := cut_step hF
   refine c_cutP (fun a w' => r5_find_k4 x162 x293 x78 x288 a1 () = some z410 ∧ (∃ s : Nat → Value, a = Ac ((((((Fm.dead 93 s).upd 3 (.pointer (some ⟨b1, 0, none⟩))).upd 5 v79).upd 7 (.pointer (some ⟨b174, 0, none⟩))).upd 8 v289).upd 9 (.int .i64 x293))) ∧ St W g [] ((b1, blk (cl_State v1_0_ v1_1_ v1_2_ a1.Taken v1_4_ a1.PC v1_6_ a1.Stop v1_8_ a1.Jump a1.Delay) 27) :: ((b174, blk (enc_Bundle x162) 37) :: (LX81 ++ (LX291 ++ [])))) w') ?_ ?_
   · skip
     refine c_seq <| c_region <| oy hS y_assign <| n_thenN <| c_block ?_
     refine c_loopP hF (fun (q : Int) a w' => (∃ s : Nat → Value, a = Ac ((((((((Fm.dead 93 s).upd 3 (.pointer (some ⟨b1, 0, none⟩))).upd 5 v79).upd 7 (.pointer (some ⟨b174, 0, none⟩))).upd 8 v289).upd 9 (.int .i64 x293)).upd 10 v_0_421).upd 11 (.int .i64 q))) ∧ St W g [] ((b1, blk (cl_State v1_0_ v1_1_ v1_2_ a1.Taken v1_4_ a1.PC v1_6_ a1.Stop v1_8_ a1.Jump a1.Delay) 27) :: ((b174, blk (enc_Bundle x162) 37) :: (LX81 ++ (LX291 ++ (LX_0_422 ++ []))))) w') ⟨mk_exF, (hS.re (.b (.there _ .hb) (.b (.there _ .hb) (.t (.there _ .h) (.t (.there _ .h) (.t .h .n))))))⟩ ?_
     clear hS hF
     intro n495 q a w hI hq
     revert hq hI; revert q; intro x480 hI hq
     obtain ⟨⟨s496, rfl⟩, hS⟩ := hq
     obtain ⟨z493, hF, hK494⟩ := iter_step hI
     clear hI
     dsimp only [r5_find_b5] at hF
     iterate 2 (refine c_seq ?_)
     refine c_region ?_
     iterate 2 (refine oy hS y_move ?_)
     refine oy hS (y_lenO h_0_423 underlying24) <| oy hS y_bin <| n_thenN ?_
     refine c_if (ht := fun c497 => ?_) (hf := fun c497 => ?_)
     · replace hF := bt c497 hF
       refine wp_skip <| c_seq <| c_block <| c_seq <| c_region ?_
       iterate 3 (refine oy hS y_move ?_)
       obtain ⟨x498, hx498, hF⟩ := ob hF
       obtain ⟨b499, c500, cl501, hv502, ha503, hb504, hl505, hc506⟩ := OwT.at hx498 h_0_423 enc_len_int
       refine oy hS (y_index hv502 ha503 hb504 underlying24 el_int.size) <| oy hS (y_load (fun w hS => hS.own (mC (mC (mB (mB (mA (mX hl505))))))) underlying3 rfl (hc506 0 _ rfl)) ?_
       obtain ⟨r507, hr507, hF⟩ := ob hF
       refine o_callS hS func50 rfl rfl (hc := (w_r0_In (a0 := x78) (a1 := x498) (h0 := (OwT.plus h80 hS (fun p hp => mC (mC (mA (hp)))))) (hF := hr507))) (h := ?_)
       clear hS; intro w hS
       refine oy hS y_bin <| n_thenN ?_
       refine c_if (ht := fun c508 => ?_) (hf := fun c508 => ?_)
       · replace hF := bt c508 hF
         refine c_seq <| c_region <| oy hS y_move <| oy hS y_assign <| n_thenN ?_
         obtain rfl := osi hF
         obtain rfl : _ = z466 := hK494
         obtain rfl : _ = z410 := hK467
         obtain rfl : _ = r := hK411
         exact wp_ret (wr1 hS)
       replace hF := bf c508 hF
       refine wp_skip <| c_region <| oy hS y_move <| oy hS y_bin <| oy hS y_assign <| n_thenN ?_
       obtain rfl := osi hF
       exact ⟨_, hK494, mk_exF, (hS.re (.b .hb (.b .hb (.t .h (.t .h (.t .h .n))))))⟩
     replace hF := bf c497 hF
     refine wp_exit ?_
     obtain rfl := osi hF
     obtain rfl : _ = z466 := hK494
     change _ ∧ _
     exact ⟨hK467, mk_exF, (hS.re (.b .hb (.b .hb (.t .h (.t .h .n)))))⟩
   rintro a w ⟨hF, ⟨s509, rfl⟩, hS⟩
   dsimp only [r5_find_k4] at hF
   iterate 2 (refine c_seq ?_)
   refine c_region <| oy hS y_move ?_
   obtain ⟨x510, hx510, hF⟩ := ob hF
   refine oy hS (y_indexA (at'_bnd hx510 rfl).1 (at'_bnd hx510 (n := 4) rfl).2 underlying37 (by exact sz_api_Ins)) ?_
   refine oy hS (y_loadN (vs := (enc_Ins x510)) (fun w hS => hS.own (mC (mH))) underlying31 rfl (by exact sz_api_Ins) (arr_box (o := 0) (xs := [x162.x0, x162.x1, x162.x2, x162.x3]) (pre := []) (post := []) hx510 enc_len_Ins (by exact rfl) rfl)) ?_
   obtain ⟨r511, hr511, hF⟩ := ob hF
   refine o_callS hS func51 rfl rfl (hc := (w_r3_Writes (a0 := x510) (hF := hr511))) (h := ?_)
   clear hS; intro w hS
   refine oy hS y_assign <| n_thenN <| c_seq <| c_region <| oy hS y_move <| oy hS y_bin <| n_thenN ?_
   refine c_if (ht := fun c512 => ?_) (hf := fun c512 => ?_)
   · replace hF := bt c512 hF
     iterate 2 (refine c_seq ?_)
     refine c_region ?_
     iterate 2 (refine oy hS y_move ?_)
     obtain ⟨r513, hr513, hF⟩ := ob hF
     refine o_callS hS func50 rfl rfl (hc := (w_r0_In (a0 := x78) (a1 := r511) (h0 := (OwT.plus h80 hS (fun p hp => mC (mC (mA (hp)))))) (hF := hr513))) (h := ?_)
     clear hS; intro w hS
     refine oy hS y_bin ?_
     refine o_split (ht := fun c514 => ?_) (hf := fun c514 => ?_)
     · replace hF := bt c514 hF
       iterate 4 (refine o_sk rfl rfl ?_)
       refine oy hS y_pickT <| n_thenN ?_
       refine c_if_true (h := ?_)
       refine c_seq <| c_region <| oy hS y_move <| oy hS y_assign <| n_thenN ?_
       obtain rfl := osi hF
       obtain rfl : _ = r := hK411
       exact wp_ret (wr1 hS)
     replace hF := bf c514 hF
     refine o_gu rfl rfl rfl <| oy hS y_move <| o_gu rfl rfl rfl <| oy hS y_move <| o_gu rfl rfl rfl ?_
     obtain ⟨r515, hr515, hF⟩ := ob hF
     refine o_callS hS func50 rfl rfl (hc := (w_r0_In (a0 := x288) (a1 := r511) (h0 := (OwT.plus h290 hS (fun p hp => mC (mC (mB (mA (hp))))))) (hF := hr515))) (h := ?_)
     clear hS; intro w hS
     refine o_gu rfl rfl rfl <| oy hS y_bin <| oy hS y_pickF <| n_thenN ?_
     refine c_if (ht := fun c516 => ?_) (hf := fun c516 => ?_)
     · replace hF := bt c516 hF
       refine c_seq <| c_region <| oy hS y_move <| oy hS y_assign <| n_thenN ?_
       obtain rfl := osi hF
       obtain rfl : _ = r := hK411
       exact wp_ret (wr1 hS)
     replace hF := bf c516 hF
     refine wp_skip <| c_region ?_
     iterate 2 (refine oy hS y_move ?_)
     refine o_buildT val_int ([r511] : List Int) hS el_int (fun _ => rfl) enc_len_int (by decide) rfl (by decide) (hp := rfl) (h := ?_)
     clear hS; intro b517 w hS h518
     have hS : St W g [] ([(b517, blk (([r511] : List Int).flatMap enc_int) 3)] ++ ((b1, blk (cl_State v1_0_ v1_1_ v1_2_ a1.Taken v1_4_ a1.PC v1_6_ a1.Stop v1_8_ a1.Jump a1.Delay) 27) :: ((b174, blk (enc_Bundle x162) 37) :: (LX81 ++ (LX291 ++ []))))) w := hS
     obtain ⟨zs524, hzs524, hF⟩ := ob hF
     have hS := hS.re (.t .h (.t (.thereb _ (.thereb _ (.there _ .h))) (.b .hb (.b .hb (.t .h .n)))))
     refine o_appPn (ys := ([r511] : List Int)) (LX := LX291) hzs524 hS el_int h290 rfl enc_len_int (enc_ones_int _) (by decide) ?_
     clear hS; intro v520 LX521 w h522 hS
     refine oy hS y_assign <| n_thenN <| c_seq <| c_region <| oy hS y_move ?_
     obtain ⟨x525, hx525, hF⟩ := ob hF
     refine oy hS (y_indexA (at'_bnd hx525 rfl).1 (at'_bnd hx525 (n := 4) rfl).2 underlying37 (by exact sz_api_Ins)) ?_
     refine oy hS (y_field fa_api_Ins_0) ?_
     refine oy hS (y_load (fun w hS => hS.own (mB (mC (mH)))) underlying3 rfl ((arr_box (o := 0) (xs := [x162.x0, x162.x1, x162.x2, x162.x3]) (pre := []) (post := []) hx525 enc_len_Ins (by exact rfl) rfl) 0 _ rfl)) ?_
     refine o_callS hS func42 rfl rfl (hc := (w_r3_Ends (a0 := x525.Op))) (h := ?_)
     clear hS; intro w hS
     refine o_split (ht := fun c526 => ?_) (hf := fun c526 => ?_)
     · replace hF := bt c526 hF
       refine o_gu rfl rfl rfl <| oy hS (y_field fa_api_State_10) <| o_gu rfl rfl rfl <| oy hS (y_load (fun w hS => hS.own (mB (mH))) underlying3 rfl rfl) <| o_gu rfl rfl rfl <| oy hS y_bin <| oy hS y_pickT <| n_thenN ?_
       refine c_if (ht := fun c527 => ?_) (hf := fun c527 => ?_)
       · replace hF := bt c527 hF
         refine c_seq <| c_region <| oy hS y_move <| oy hS y_assign <| n_thenN ?_
         obtain rfl := osi hF
         obtain rfl : _ = r := hK411
         exact wp_ret (wr1 hS)
       replace hF := bf c527 hF
       refine wp_skip <| c_region <| oy hS y_move <| oy hS y_bin <| oy hS y_assign <| n_thenN ?_
       obtain rfl := osi hF
       exact ⟨_, hK411, v520, LX521, h522, mk_exF, (hS.re (.b (.there _ .hb) (.b (.there _ .hb) (.t (.there _ .h) (.t .h .n)))))⟩
     replace hF := bf c526 hF
     iterate 3 (refine o_sk rfl rfl ?_)
     refine oy hS y_pickF <| n_thenN ?_
     refine c_if_false (h := ?_)
     refine wp_skip <| c_region <| oy hS y_move <| oy hS y_bin <| oy hS y_assign <| n_thenN ?_
     obtain rfl := osi hF
     exact ⟨_, hK411, v520, LX521, h522, mk_exF, (hS.re (.b (.there _ .hb) (.b (.there _ .hb) (.t (.there _ .h) (.t .h .n)))))⟩
   replace hF := bf c512 hF
   refine wp_skip <| c_seq <| c_region <| oy hS y_move ?_
   obtain ⟨x528, hx528, hF⟩ := ob hF
   refine oy hS (y_indexA (at'_bnd hx528 rfl).1 (at'_bnd hx528 (n := 4) rfl).2 underlying37 (by exact sz_api_Ins)) ?_
   refine oy hS (y_field fa_api_Ins_0) ?_
   refine oy hS (y_load (fun w hS => hS.own (mC (mH))) underlying3 rfl ((arr_box (o := 0) (xs := [x162.x0, x162.x1, x162.x2, x162.x3]) (pre := []) (post := []) hx528 enc_len_Ins (by exact rfl) rfl) 0 _ rfl)) ?_
   refine o_callS hS func42 rfl rfl (hc := (w_r3_Ends (a0 := x528.Op))) (h := ?_)
   clear hS; intro w hS
   refine o_split (ht := fun c529 => ?_) (hf := fun c529 => ?_)
   · replace hF := bt c529 hF
     refine o_gu rfl rfl rfl <| oy hS (y_field fa_api_State_10) <| o_gu rfl rfl rfl <| oy hS (y_load (fun w hS => hS.own (mH)) underlying3 rfl rfl) <| o_gu rfl rfl rfl <| oy hS y_bin <| oy hS y_pickT <| n_thenN ?_
     refine c_if (ht := fun c530 => ?_) (hf := fun c530 => ?_)
     · replace hF := bt c530 hF
       refine c_seq <| c_region <| oy hS y_move <| oy hS y_assign <| n_thenN ?_
       obtain rfl := osi hF
       obtain rfl : _ = r := hK411
       exact wp_ret (wr1 hS)
     replace hF := bf c530 hF
     refine wp_skip <| c_region <| oy hS y_move <| oy hS y_bin <| oy hS y_assign <| n_thenN ?_
     obtain rfl := osi hF
     exact ⟨_, hK411, v289, LX291, h290, mk_exF, (hS.re (.b .hb (.b .hb (.t .h (.t .h .n)))))⟩
   replace hF := bf c529 hF
   iterate 3 (refine o_sk rfl rfl ?_)
   refine oy hS y_pickF <| n_thenN ?_
   refine c_if_false (h := ?_)
   refine wp_skip <| c_region <| oy hS y_move <| oy hS y_bin <| oy hS y_assign <| n_thenN ?_
   obtain rfl := osi hF
   exact ⟨_, hK411, v289, LX291, h290, mk_exF, (hS.re (.b .hb (.b .hb (.t .h (.t .h .n)))))⟩
 replace hF := bf c415 hF
 refine wp_exit ?_
 refine c_seq <| c_region <| oy hS y_assign <| n_thenN ?_
 obtain rfl := osi hF
 obtain rfl : _ = r := hK411
 exact wp_ret (wr1 hS)
theorem w_r5_find {g : Frag} {a0 : (List (A4 T_Ins))} {v0_ : Value} {a1 : T_State} {v1_ : Value} {r : Int} (h0 : SlT g enc_Bundle 24 a0 v0_) (h1 : Rd_State g a1 v1_) (hF : r5_find a0 a1 = some r) : LCs Try.prog 31 #[v0_, v1_] g (.int .i64 r) := w_r5_find_ h0 h1 hF

def r1_Has (a0 : Int) : Bool :=
  (r0_Between a0 1 17)
theorem w_r1_Has_ {g : Frag} {a0 : Int} {r : Bool}  (hF : r1_Has a0 = r) : LCs Try.prog 71 #[.int .i64 a0] g (.bool r) := by
 unfold r1_Has at hF
 refine lc_body (k := 5) (av := [.int .i64 a0]) func71 rfl rfl (h := fun W hS => ?_)
 refine c_seq <| c_region <| oy hS y_assign <| n_thenN <| c_seq <| c_region <| oy hS y_move ?_
 refine o_callS hS func22 rfl rfl (hc := (w_r0_Between (a0 := a0) (a1 := 1) (a2 := 17))) (h := ?_)
 clear hS; intro w hS
 refine oy hS y_assign <| n_thenN ?_
 subst hF
 exact wp_ret (wr1 hS)
theorem w_r1_Has {g : Frag} {a0 : Int}  : LCs Try.prog 71 #[.int .i64 a0] g (.bool (r1_Has a0)) := w_r1_Has_  rfl

def r1_flag (a0 : Bool) : Int :=
  bif a0 then 1 else 0
theorem w_r1_flag_ {g : Frag} {a0 : Bool} {r : Int}  (hF : r1_flag a0 = r) : LCs Try.prog 87 #[.bool a0] g (.int .u32 r) := by
 unfold r1_flag at hF
 refine lc_body (k := 4) (av := [.bool a0]) func87 rfl rfl (h := fun W hS => ?_)
 refine c_seq <| c_region <| oy hS y_assign <| n_thenN ?_
 iterate 2 (refine c_seq ?_)
 refine c_region <| oy hS y_move <| n_thenN ?_
 refine c_if (ht := fun c1 => ?_) (hf := fun c1 => ?_)
 · replace hF := bt c1 hF
   refine c_seq <| c_region <| oy hS y_assign <| n_thenN ?_
   subst hF
   exact wp_ret (wr1 hS)
 replace hF := bf c1 hF
 refine wp_skip <| c_seq <| c_region <| oy hS y_assign <| n_thenN ?_
 subst hF
 exact wp_ret (wr1 hS)
theorem w_r1_flag {g : Frag} {a0 : Bool}  : LCs Try.prog 87 #[.bool a0] g (.int .u32 (r1_flag a0)) := w_r1_flag_  rfl

noncomputable def r1_Of (a0 : Int) (a1 : Int) (a2 : Int) : Option (Int × Bool) :=
  bif decide (a0 = 1) then some (IntKind.u32.wrap (a1 + a2), true) else bif decide (a0 = 2) then some (IntKind.u32.wrap (a1 - a2), true) else bif decide (a0 = 3) then some (bits .and .u32 a1 a2, true) else bif decide (a0 = 4) then some (bits .or .u32 a1 a2, true) else bif decide (a0 = 5) then some (bits .xor .u32 a1 a2, true) else bif decide (a0 = 6) then (shl' .u32 a1 (bits .and .u32 a2 31)).bind fun x7 => some (x7, true) else bif decide (a0 = 7) then (shr' .u32 a1 (bits .and .u32 a2 31)).bind fun x9 => some (x9, true) else bif decide (a0 = 8) then (shr' .i32 (IntKind.i32.wrap a1) (bits .and .u32 a2 31)).bind fun x11 => some (IntKind.u32.wrap x11, true) else bif decide (a0 = 9) then some ((r1_flag (decide ((IntKind.i64.wrap (IntKind.i32.wrap a1)) < (IntKind.i64.wrap (IntKind.i32.wrap a2))))), true) else bif decide (a0 = 10) then some ((r1_flag (decide (a1 < a2))), true) else bif decide (a0 = 11) then some ((r1_flag (decide (a1 = a2))), true) else bif decide (a0 = 12) then some (IntKind.u32.wrap (imin (IntKind.i64.wrap (IntKind.i32.wrap a1)) (IntKind.i64.wrap (IntKind.i32.wrap a2))), true) else bif decide (a0 = 13) then some (IntKind.u32.wrap (imax (IntKind.i64.wrap (IntKind.i32.wrap a1)) (IntKind.i64.wrap (IntKind.i32.wrap a2))), true) else bif decide (a0 = 14) then some (IntKind.u32.wrap (IntKind.i64.wrap ((IntKind.i64.wrap (IntKind.i32.wrap a1)) * (IntKind.i64.wrap (IntKind.i32.wrap a2)))), true) else bif decide (a0 = 15) then (shr' .i64 (IntKind.i64.wrap ((IntKind.i64.wrap (IntKind.i32.wrap a1)) * (IntKind.i64.wrap (IntKind.i32.wrap a2)))) 32).bind fun x19 => some (IntKind.u32.wrap x19, true) else bif decide ((IntKind.i64.wrap (IntKind.i32.wrap a2)) = 0) then some (0, false) else bif decide (a0 = 16) then (quo' .i64 (IntKind.i64.wrap (IntKind.i32.wrap a1)) (IntKind.i64.wrap (IntKind.i32.wrap a2))).bind fun x22 => some (IntKind.u32.wrap x22, true) else (rem' (IntKind.i64.wrap (IntKind.i32.wrap a1)) (IntKind.i64.wrap (IntKind.i32.wrap a2))).bind fun x23 => some (IntKind.u32.wrap x23, true)
theorem w_r1_Of_ {g : Frag} {a0 : Int} {a1 : Int} {a2 : Int} {r : (Int × Bool)}  (hF : r1_Of a0 a1 a2 = some r) : LCs Try.prog 72 #[.int .i64 a0, .int .u32 a1, .int .u32 a2] g (.tuple #[.int .u32 r.1, .bool r.2]) := by
 unfold r1_Of at hF
 refine lc_body (k := 117) (av := [.int .i64 a0, .int .u32 a1, .int .u32 a2]) func72 rfl rfl (h := fun W hS => ?_)
 refine c_seq <| c_region ?_
 iterate 2 (refine oy hS y_assign ?_)
 refine n_thenN <| c_seq <| c_region <| oy hS y_move <| oy hS (y_conv underlying35 underlying21) <| oy hS (y_conv underlying21 underlying2) <| oy hS y_move <| oy hS (y_conv underlying35 underlying21) ?_
 refine oy hS (y_conv underlying21 underlying2) ?_
 iterate 2 (refine oy hS y_assign ?_)
 refine n_thenN ?_
 iterate 2 (refine c_seq ?_)
 refine c_region <| oy hS y_move <| n_thenN <| c_block <| c_seq <| c_region <| oy hS y_bin <| oy hS y_assign ?_
 refine n_thenN ?_
 refine c_if (ht := fun c1 => ?_) (hf := fun c1 => ?_)
 · replace hF := bt c1 hF
   refine c_seq <| c_region ?_
   iterate 2 (refine oy hS y_move ?_)
   refine oy hS y_bin ?_
   iterate 2 (refine oy hS y_assign ?_)
   refine n_thenN ?_
   obtain rfl := osi hF
   exact wp_ret (wr2 hS)
 replace hF := bf c1 hF
 refine c_seq <| c_region <| oy hS y_bin <| oy hS y_assign <| n_thenN ?_
 refine c_if (ht := fun c2 => ?_) (hf := fun c2 => ?_)
 · replace hF := bt c2 hF
   refine c_seq <| c_region ?_
   iterate 2 (refine oy hS y_move ?_)
   refine oy hS y_bin ?_
   iterate 2 (refine oy hS y_assign ?_)
   refine n_thenN ?_
   obtain rfl := osi hF
   exact wp_ret (wr2 hS)
 replace hF := bf c2 hF
 refine c_seq <| c_region <| oy hS y_bin <| oy hS y_assign <| n_thenN ?_
 refine c_if (ht := fun c3 => ?_) (hf := fun c3 => ?_)
 · replace hF := bt c3 hF
   refine c_seq <| c_region ?_
   iterate 2 (refine oy hS y_move ?_)
   refine oy hS y_bin ?_
   iterate 2 (refine oy hS y_assign ?_)
   refine n_thenN ?_
   obtain rfl := osi hF
   exact wp_ret (wr2 hS)
 replace hF := bf c3 hF
 refine c_seq <| c_region <| oy hS y_bin <| oy hS y_assign <| n_thenN ?_
 refine c_if (ht := fun c4 => ?_) (hf := fun c4 => ?_)
 · replace hF := bt c4 hF
   refine c_seq <| c_region ?_
   iterate 2 (refine oy hS y_move ?_)
   refine oy hS y_bin ?_
   iterate 2 (refine oy hS y_assign ?_)
   refine n_thenN ?_
   obtain rfl := osi hF
   exact wp_ret (wr2 hS)
 replace hF := bf c4 hF
 refine c_seq <| c_region <| oy hS y_bin <| oy hS y_assign <| n_thenN ?_
 refine c_if (ht := fun c5 => ?_) (hf := fun c5 => ?_)
 · replace hF := bt c5 hF
   refine c_seq <| c_region ?_
   iterate 2 (refine oy hS y_move ?_)
   refine oy hS y_bin ?_
   iterate 2 (refine oy hS y_assign ?_)
   refine n_thenN ?_
   obtain rfl := osi hF
   exact wp_ret (wr2 hS)
 replace hF := bf c5 hF
 refine c_seq <| c_region <| oy hS y_bin <| oy hS y_assign <| n_thenN ?_
 refine c_if (ht := fun c6 => ?_) (hf := fun c6 => ?_)
 · replace hF := bt c6 hF
   refine c_seq <| c_region ?_
   iterate 2 (refine oy hS y_move ?_)
   refine oy hS y_bin ?_
   obtain ⟨x7, hx7, hF⟩ := ob hF
   refine oy hS (y_shl hx7) ?_
   iterate 2 (refine oy hS y_assign ?_)
   refine n_thenN ?_
   obtain rfl := osi hF
   exact wp_ret (wr2 hS)
 replace hF := bf c6 hF
 refine c_seq <| c_region <| oy hS y_bin <| oy hS y_assign <| n_thenN ?_
 refine c_if (ht := fun c8 => ?_) (hf := fun c8 => ?_)
 · replace hF := bt c8 hF
   refine c_seq <| c_region ?_
   iterate 2 (refine oy hS y_move ?_)
   refine oy hS y_bin ?_
   obtain ⟨x9, hx9, hF⟩ := ob hF
   refine oy hS (y_shr hx9) ?_
   iterate 2 (refine oy hS y_assign ?_)
   refine n_thenN ?_
   obtain rfl := osi hF
   exact wp_ret (wr2 hS)
 replace hF := bf c8 hF
 refine c_seq <| c_region <| oy hS y_bin <| oy hS y_assign <| n_thenN ?_
 refine c_if (ht := fun c10 => ?_) (hf := fun c10 => ?_)
 · replace hF := bt c10 hF
   refine c_seq <| c_region <| oy hS y_move <| oy hS (y_conv underlying35 underlying21) <| oy hS y_move <| oy hS y_bin ?_
   obtain ⟨x11, hx11, hF⟩ := ob hF
   refine oy hS (y_shr hx11) <| oy hS (y_conv underlying21 underlying35) ?_
   iterate 2 (refine oy hS y_assign ?_)
   refine n_thenN ?_
   obtain rfl := osi hF
   exact wp_ret (wr2 hS)
 replace hF := bf c10 hF
 refine c_seq <| c_region <| oy hS y_bin <| oy hS y_assign <| n_thenN ?_
 refine c_if (ht := fun c12 => ?_) (hf := fun c12 => ?_)
 · replace hF := bt c12 hF
   refine c_seq <| c_region ?_
   iterate 2 (refine oy hS y_move ?_)
   refine oy hS y_bin ?_
   refine o_callS hS func87 rfl rfl (hc := (w_r1_flag (a0 := (decide ((IntKind.i64.wrap (IntKind.i32.wrap a1)) < (IntKind.i64.wrap (IntKind.i32.wrap a2))))))) (h := ?_)
   clear hS; intro w hS
   iterate 2 (refine oy hS y_assign ?_)
   refine n_thenN ?_
   obtain rfl := osi hF
   exact wp_ret (wr2 hS)
 replace hF := bf c12 hF
 refine c_seq <| c_region <| oy hS y_bin <| oy hS y_assign <| n_thenN ?_
 refine c_if (ht := fun c13 => ?_) (hf := fun c13 => ?_)
 · replace hF := bt c13 hF
   refine c_seq <| c_region ?_
   iterate 2 (refine oy hS y_move ?_)
   refine oy hS y_bin ?_
   refine o_callS hS func87 rfl rfl (hc := (w_r1_flag (a0 := (decide (a1 < a2))))) (h := ?_)
   clear hS; intro w hS
   iterate 2 (refine oy hS y_assign ?_)
   refine n_thenN ?_
   obtain rfl := osi hF
   exact wp_ret (wr2 hS)
 replace hF := bf c13 hF
 refine c_seq <| c_region <| oy hS y_bin <| oy hS y_assign <| n_thenN ?_
 refine c_if (ht := fun c14 => ?_) (hf := fun c14 => ?_)
 · replace hF := bt c14 hF
   refine c_seq <| c_region ?_
   iterate 2 (refine oy hS y_move ?_)
   refine oy hS y_bin ?_
   refine o_callS hS func87 rfl rfl (hc := (w_r1_flag (a0 := (decide (a1 = a2))))) (h := ?_)
   clear hS; intro w hS
   iterate 2 (refine oy hS y_assign ?_)
   refine n_thenN ?_
   obtain rfl := osi hF
   exact wp_ret (wr2 hS)
 replace hF := bf c14 hF
 refine c_seq <| c_region <| oy hS y_bin <| oy hS y_assign <| n_thenN ?_
 refine c_if (ht := fun c15 => ?_) (hf := fun c15 => ?_)
 · replace hF := bt c15 hF
   refine c_seq <| c_region ?_
   iterate 2 (refine oy hS y_move ?_)
   refine oy hS y_min <| oy hS (y_conv underlying2 underlying35) ?_
   iterate 2 (refine oy hS y_assign ?_)
   refine n_thenN ?_
   obtain rfl := osi hF
   exact wp_ret (wr2 hS)
 replace hF := bf c15 hF
 refine c_seq <| c_region <| oy hS y_bin <| oy hS y_assign <| n_thenN ?_
 refine c_if (ht := fun c16 => ?_) (hf := fun c16 => ?_)
 · replace hF := bt c16 hF
   refine c_seq <| c_region ?_
   iterate 2 (refine oy hS y_move ?_)
   refine oy hS y_max <| oy hS (y_conv underlying2 underlying35) ?_
   iterate 2 (refine oy hS y_assign ?_)
   refine n_thenN ?_
   obtain rfl := osi hF
   exact wp_ret (wr2 hS)
 replace hF := bf c16 hF
 refine c_seq <| c_region <| oy hS y_bin <| oy hS y_assign <| n_thenN ?_
 refine c_if (ht := fun c17 => ?_) (hf := fun c17 => ?_)
 · replace hF := bt c17 hF
   refine c_seq <| c_region ?_
   iterate 2 (refine oy hS y_move ?_)
   refine oy hS y_bin <| oy hS (y_conv underlying2 underlying35) ?_
   iterate 2 (refine oy hS y_assign ?_)
   refine n_thenN ?_
   obtain rfl := osi hF
   exact wp_ret (wr2 hS)
 replace hF := bf c17 hF
 refine c_seq <| c_region <| oy hS y_bin <| oy hS y_assign <| n_thenN ?_
 refine c_if (ht := fun c18 => ?_) (hf := fun c18 => ?_)
 · replace hF := bt c18 hF
   refine c_seq <| c_region ?_
   iterate 2 (refine oy hS y_move ?_)
   refine oy hS y_bin ?_
   obtain ⟨x19, hx19, hF⟩ := ob hF
   refine oy hS (y_shr hx19) <| oy hS (y_conv underlying2 underlying35) ?_
   iterate 2 (refine oy hS y_assign ?_)
   refine n_thenN ?_
   obtain rfl := osi hF
   exact wp_ret (wr2 hS)
 replace hF := bf c18 hF
 refine wp_skip ?_
 iterate 2 (refine c_seq ?_)
 refine c_region <| oy hS y_move <| oy hS y_bin <| n_thenN ?_
 refine c_if (ht := fun c20 => ?_) (hf := fun c20 => ?_)
 · replace hF := bt c20 hF
   refine c_seq <| c_region ?_
   iterate 2 (refine oy hS y_assign ?_)
   refine n_thenN ?_
   obtain rfl := osi hF
   exact wp_ret (wr2 hS)
 replace hF := bf c20 hF
 refine wp_skip ?_
 iterate 2 (refine c_seq ?_)
 refine c_region <| oy hS y_move <| oy hS y_bin <| n_thenN ?_
 refine c_if (ht := fun c21 => ?_) (hf := fun c21 => ?_)
 · replace hF := bt c21 hF
   refine c_seq <| c_region ?_
   iterate 2 (refine oy hS y_move ?_)
   obtain ⟨x22, hx22, hF⟩ := ob hF
   refine oy hS (y_quo hx22) <| oy hS (y_conv underlying2 underlying35) ?_
   iterate 2 (refine oy hS y_assign ?_)
   refine n_thenN ?_
   obtain rfl := osi hF
   exact wp_ret (wr2 hS)
 replace hF := bf c21 hF
 refine wp_skip <| c_seq <| c_region ?_
 iterate 2 (refine oy hS y_move ?_)
 obtain ⟨x23, hx23, hF⟩ := ob hF
 refine oy hS (y_rem hx23) <| oy hS (y_conv underlying2 underlying35) ?_
 iterate 2 (refine oy hS y_assign ?_)
 refine n_thenN ?_
 obtain rfl := osi hF
 exact wp_ret (wr2 hS)
theorem w_r1_Of {g : Frag} {a0 : Int} {a1 : Int} {a2 : Int} {r : (Int × Bool)}  (hF : r1_Of a0 a1 a2 = some r) : LCs Try.prog 72 #[.int .i64 a0, .int .u32 a1, .int .u32 a2] g (.tuple #[.int .u32 r.1, .bool r.2]) := w_r1_Of_  hF

def r1_Paired (a0 : Int) : Bool :=
  (r0_Between a0 18 21)
theorem w_r1_Paired_ {g : Frag} {a0 : Int} {r : Bool}  (hF : r1_Paired a0 = r) : LCs Try.prog 73 #[.int .i64 a0] g (.bool r) := by
 unfold r1_Paired at hF
 refine lc_body (k := 5) (av := [.int .i64 a0]) func73 rfl rfl (h := fun W hS => ?_)
 refine c_seq <| c_region <| oy hS y_assign <| n_thenN <| c_seq <| c_region <| oy hS y_move ?_
 refine o_callS hS func22 rfl rfl (hc := (w_r0_Between (a0 := a0) (a1 := 18) (a2 := 21))) (h := ?_)
 clear hS; intro w hS
 refine oy hS y_assign <| n_thenN ?_
 subst hF
 exact wp_ret (wr1 hS)
theorem w_r1_Paired {g : Frag} {a0 : Int}  : LCs Try.prog 73 #[.int .i64 a0] g (.bool (r1_Paired a0)) := w_r1_Paired_  rfl

noncomputable def r1_Parts (a0 : Int) : Option (Int × Int) :=
  (shr' .u32 a0 16).bind fun x1 => some (IntKind.i64.wrap (IntKind.i16.wrap (bits .and .u32 a0 65535)), IntKind.i64.wrap (IntKind.i16.wrap x1))
theorem w_r1_Parts_ {g : Frag} {a0 : Int} {r : (Int × Int)}  (hF : r1_Parts a0 = some r) : LCs Try.prog 88 #[.int .u32 a0] g (.tuple #[.int .i64 r.1, .int .i64 r.2]) := by
 unfold r1_Parts at hF
 refine lc_body (k := 12) (av := [.int .u32 a0]) func88 rfl rfl (h := fun W hS => ?_)
 refine c_seq <| c_region ?_
 iterate 2 (refine oy hS y_assign ?_)
 refine n_thenN <| c_seq <| c_region <| oy hS y_move <| oy hS y_bin <| oy hS (y_conv underlying35 underlying117) <| oy hS (y_conv underlying117 underlying3) <| oy hS y_move ?_
 obtain ⟨x1, hx1, hF⟩ := ob hF
 refine oy hS (y_shr hx1) <| oy hS (y_conv underlying35 underlying117) <| oy hS (y_conv underlying117 underlying3) ?_
 iterate 2 (refine oy hS y_assign ?_)
 refine n_thenN ?_
 obtain rfl := osi hF
 exact wp_ret (wr2 hS)
theorem w_r1_Parts {g : Frag} {a0 : Int} {r : (Int × Int)}  (hF : r1_Parts a0 = some r) : LCs Try.prog 88 #[.int .u32 a0] g (.tuple #[.int .i64 r.1, .int .i64 r.2]) := w_r1_Parts_  hF

noncomputable def r1_Make (a0 : Int) (a1 : Int) : Option Int :=
  (shl' .u32 (bits .and .u32 (IntKind.u32.wrap a1) 65535) 16).bind fun x1 => some (bits .or .u32 (bits .and .u32 (IntKind.u32.wrap a0) 65535) x1)
theorem w_r1_Make_ {g : Frag} {a0 : Int} {a1 : Int} {r : Int}  (hF : r1_Make a0 a1 = some r) : LCs Try.prog 89 #[.int .i64 a0, .int .i64 a1] g (.int .u32 r) := by
 unfold r1_Make at hF
 refine lc_body (k := 13) (av := [.int .i64 a0, .int .i64 a1]) func89 rfl rfl (h := fun W hS => ?_)
 refine c_seq <| c_region <| oy hS y_assign <| n_thenN <| c_seq <| c_region <| oy hS y_move <| oy hS (y_conv underlying3 underlying35) ?_
 refine oy hS y_bin <| oy hS y_move <| oy hS (y_conv underlying3 underlying35) <| oy hS y_bin ?_
 obtain ⟨x1, hx1, hF⟩ := ob hF
 refine oy hS (y_shl hx1) <| oy hS y_bin <| oy hS y_assign <| n_thenN ?_
 obtain rfl := osi hF
 exact wp_ret (wr1 hS)
theorem w_r1_Make {g : Frag} {a0 : Int} {a1 : Int} {r : Int}  (hF : r1_Make a0 a1 = some r) : LCs Try.prog 89 #[.int .i64 a0, .int .i64 a1] g (.int .u32 r) := w_r1_Make_  hF

noncomputable def r1_Pair (a0 : Int) (a1 : Int) (a2 : Int) : Option Int :=
  (r1_Parts a1).bind fun r1 => (r1_Parts a2).bind fun r2 => bif decide (a0 = 18) then (r1_Make (IntKind.i64.wrap (r1.1 + r2.1)) (IntKind.i64.wrap (r1.2 + r2.2))).bind fun r4 => some (r4) else bif decide (a0 = 19) then (r1_Make (IntKind.i64.wrap (r1.1 - r2.1)) (IntKind.i64.wrap (r1.2 - r2.2))).bind fun r6 => some (r6) else bif decide (a0 = 20) then (r1_Make (IntKind.i64.wrap ((IntKind.i64.wrap (r1.1 * r2.1)) - (IntKind.i64.wrap (r1.2 * r2.2)))) (IntKind.i64.wrap ((IntKind.i64.wrap (r1.1 * r2.2)) + (IntKind.i64.wrap (r1.2 * r2.1))))).bind fun r8 => some (r8) else (r1_Make r1.1 (IntKind.i64.wrap (0 - r1.2))).bind fun r9 => some (r9)
theorem w_r1_Pair_ {g : Frag} {a0 : Int} {a1 : Int} {a2 : Int} {r : Int}  (hF : r1_Pair a0 a1 a2 = some r) : LCs Try.prog 74 #[.int .i64 a0, .int .u32 a1, .int .u32 a2] g (.int .u32 r) := by
 unfold r1_Pair at hF
 refine lc_body (k := 61) (av := [.int .i64 a0, .int .u32 a1, .int .u32 a2]) func74 rfl rfl (h := fun W hS => ?_)
 refine c_seq <| c_region <| oy hS y_assign <| n_thenN <| c_seq <| c_region <| oy hS y_move ?_
 obtain ⟨r1, hr1, hF⟩ := ob hF
 refine o_callS hS func88 rfl rfl (hc := (w_r1_Parts (a0 := a1) (hF := hr1))) (h := ?_)
 clear hS; intro w hS
 refine oy hS y_move ?_
 iterate 2 (refine oy hS (y_extract rfl) ?_)
 iterate 2 (refine oy hS y_assign ?_)
 refine n_thenN <| c_seq <| c_region <| oy hS y_move ?_
 obtain ⟨r2, hr2, hF⟩ := ob hF
 refine o_callS hS func88 rfl rfl (hc := (w_r1_Parts (a0 := a2) (hF := hr2))) (h := ?_)
 clear hS; intro w hS
 refine oy hS y_move ?_
 iterate 2 (refine oy hS (y_extract rfl) ?_)
 iterate 2 (refine oy hS y_assign ?_)
 refine n_thenN ?_
 iterate 2 (refine c_seq ?_)
 refine c_region <| oy hS y_move <| n_thenN <| c_block <| c_seq <| c_region <| oy hS y_bin <| oy hS y_assign ?_
 refine n_thenN ?_
 refine c_if (ht := fun c3 => ?_) (hf := fun c3 => ?_)
 · replace hF := bt c3 hF
   refine c_seq <| c_region ?_
   iterate 2 (refine oy hS y_move ?_)
   refine oy hS y_bin ?_
   iterate 2 (refine oy hS y_move ?_)
   refine oy hS y_bin ?_
   obtain ⟨r4, hr4, hF⟩ := ob hF
   refine o_callS hS func89 rfl rfl (hc := (w_r1_Make (a0 := (IntKind.i64.wrap (r1.1 + r2.1))) (a1 := (IntKind.i64.wrap (r1.2 + r2.2))) (hF := hr4))) (h := ?_)
   clear hS; intro w hS
   refine oy hS y_assign <| n_thenN ?_
   obtain rfl := osi hF
   exact wp_ret (wr1 hS)
 replace hF := bf c3 hF
 refine c_seq <| c_region <| oy hS y_bin <| oy hS y_assign <| n_thenN ?_
 refine c_if (ht := fun c5 => ?_) (hf := fun c5 => ?_)
 · replace hF := bt c5 hF
   refine c_seq <| c_region ?_
   iterate 2 (refine oy hS y_move ?_)
   refine oy hS y_bin ?_
   iterate 2 (refine oy hS y_move ?_)
   refine oy hS y_bin ?_
   obtain ⟨r6, hr6, hF⟩ := ob hF
   refine o_callS hS func89 rfl rfl (hc := (w_r1_Make (a0 := (IntKind.i64.wrap (r1.1 - r2.1))) (a1 := (IntKind.i64.wrap (r1.2 - r2.2))) (hF := hr6))) (h := ?_)
   clear hS; intro w hS
   refine oy hS y_assign <| n_thenN ?_
   obtain rfl := osi hF
   exact wp_ret (wr1 hS)
 replace hF := bf c5 hF
 refine c_seq <| c_region <| oy hS y_bin <| oy hS y_assign <| n_thenN ?_
 refine c_if (ht := fun c7 => ?_) (hf := fun c7 => ?_)
 · replace hF := bt c7 hF
   refine c_seq <| c_region ?_
   iterate 2 (refine oy hS y_move ?_)
   refine oy hS y_bin ?_
   iterate 2 (refine oy hS y_move ?_)
   iterate 2 (refine oy hS y_bin ?_)
   iterate 2 (refine oy hS y_move ?_)
   refine oy hS y_bin ?_
   iterate 2 (refine oy hS y_move ?_)
   iterate 2 (refine oy hS y_bin ?_)
   obtain ⟨r8, hr8, hF⟩ := ob hF
   refine o_callS hS func89 rfl rfl (hc := (w_r1_Make (a0 := (IntKind.i64.wrap ((IntKind.i64.wrap (r1.1 * r2.1)) - (IntKind.i64.wrap (r1.2 * r2.2))))) (a1 := (IntKind.i64.wrap ((IntKind.i64.wrap (r1.1 * r2.2)) + (IntKind.i64.wrap (r1.2 * r2.1))))) (hF := hr8))) (h := ?_)
   clear hS; intro w hS
   refine oy hS y_assign <| n_thenN ?_
   obtain rfl := osi hF
   exact wp_ret (wr1 hS)
 replace hF := bf c7 hF
 refine wp_skip <| c_seq <| c_region ?_
 iterate 2 (refine oy hS y_move ?_)
 refine oy hS y_neg ?_
 obtain ⟨r9, hr9, hF⟩ := ob hF
 refine o_callS hS func89 rfl rfl (hc := (w_r1_Make (a0 := r1.1) (a1 := (IntKind.i64.wrap (0 - r1.2))) (hF := hr9))) (h := ?_)
 clear hS; intro w hS
 refine oy hS y_assign <| n_thenN ?_
 obtain rfl := osi hF
 exact wp_ret (wr1 hS)
theorem w_r1_Pair {g : Frag} {a0 : Int} {a1 : Int} {a2 : Int} {r : Int}  (hF : r1_Pair a0 a1 a2 = some r) : LCs Try.prog 74 #[.int .i64 a0, .int .u32 a1, .int .u32 a2] g (.int .u32 r) := w_r1_Pair_  hF
end Go.Proofs.Ythbpicnbkdbbmaa
