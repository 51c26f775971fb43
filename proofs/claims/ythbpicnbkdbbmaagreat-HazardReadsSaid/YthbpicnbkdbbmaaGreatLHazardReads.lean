/- The law HazardReads, lifted. Printed by lift.py. -/
import Derived.Test.YthbpicnbkdbbmaaGreatProg
import Derived.Test.YthbpicnbkdbbmaaGreatP12
import Derived.KernelRfl
namespace Go.Proofs.YthbpicnbkdbbmaaGreat
open Go Go.RowKit Fr
set_option linter.unusedVariables false
set_option linter.unusedSimpArgs false
set_option maxRecDepth 20000
open Tryz
set_option maxHeartbeats 2000000
noncomputable def l7_HazardReads_b5 (x1240 : Int) : ((List (A4 T_Ins)) × Int) → Option (Step ((List (A4 T_Ins)) × Int) (Step (List (A4 T_Ins)) (Step Int (Step Int Bool)))) := fun (x1464, x1469) => bif decide (x1469 < x1240) then (app' x1464 ([(⟨(⟨0, 0, 0, 0, 0, ByteArray.empty⟩ : T_Ins), (⟨0, 0, 0, 0, 0, ByteArray.empty⟩ : T_Ins), (⟨0, 0, 0, 0, 0, ByteArray.empty⟩ : T_Ins), (⟨0, 0, 0, 0, 0, ByteArray.empty⟩ : T_Ins)⟩ : (A4 T_Ins))] : List (A4 T_Ins))).bind fun zs1491 => some (.next (zs1491, IntKind.i64.wrap (x1469 + 1))) else some (.done (.next x1464))
noncomputable def l7_HazardReads_k4 (a0 : T_Script) (x1240 : Int) (x523 : Int) : (List (A4 T_Ins)) → Option (Step Int (Step Int Bool)) := fun x1448 => (rem' (a0.N.length : Int) 2).bind fun x1493 => (app' x1448 ([(⟨(⟨1, 4, IntKind.i64.wrap (1 + (IntKind.i64.wrap (2 * x1493))), 3, 0, ByteArray.empty⟩ : T_Ins), (⟨0, 0, 0, 0, 0, ByteArray.empty⟩ : T_Ins), (⟨0, 0, 0, 0, 0, ByteArray.empty⟩ : T_Ins), (⟨0, 0, 0, 0, 0, ByteArray.empty⟩ : T_Ins)⟩ : (A4 T_Ins))] : List (A4 T_Ins))).bind fun zs1501 => (l7_found zs1501).bind fun r1502 => bif !r1502 then some (.done (.done (false))) else (r5_New ([])).bind fun r1504 => (hazard_Run zs1501 r1504 (IntKind.i64.wrap (x1240 + 2))).bind fun r1535 => bif decide ((l7_num r1535.2.2) ≠ 0) then some (.done (.done (false))) else bif (decide (r1535.1.Stop = 6)) != (decide ((IntKind.i64.wrap (x1240 + 1)) < (r3_Latency x523))) then some (.done (.done (false))) else some (.next (IntKind.i64.wrap (x1240 + 1)))
noncomputable def l7_HazardReads_b3 (z1077 : (A4 T_Ins)) (a0 : T_Script) (x523 : Int) : Int → Option (Step Int (Step Int Bool)) := fun x1240 => bif decide (x1240 < 5) then cut (σ := (List (A4 T_Ins))) (loop (σ := ((List (A4 T_Ins)) × Int)) (l7_HazardReads_b5 x1240) (([z1077] : List (A4 T_Ins)), 0)) (l7_HazardReads_k4 a0 x1240 x523) else some (.done (.next (IntKind.i64.wrap (x523 + 1))))
noncomputable def l7_HazardReads_k2 (x523 : Int) (a0 : T_Script) : Unit → Option (Step Int Bool) := fun _ => (at' (r3_Slots x523) 0).bind fun x1067 => (at' [(⟨0, 0, 0, 0, 0, ByteArray.empty⟩ : T_Ins), (⟨0, 0, 0, 0, 0, ByteArray.empty⟩ : T_Ins), (⟨0, 0, 0, 0, 0, ByteArray.empty⟩ : T_Ins), (⟨0, 0, 0, 0, 0, ByteArray.empty⟩ : T_Ins)] x1067).bind fun x1076 => (A4.put (⟨(⟨0, 0, 0, 0, 0, ByteArray.empty⟩ : T_Ins), (⟨0, 0, 0, 0, 0, ByteArray.empty⟩ : T_Ins), (⟨0, 0, 0, 0, 0, ByteArray.empty⟩ : T_Ins), (⟨0, 0, 0, 0, 0, ByteArray.empty⟩ : T_Ins)⟩ : (A4 T_Ins)) x1067 (⟨x523, 3, 0, 0, 0, ByteArray.empty⟩ : T_Ins)).bind fun z1077 => loop (σ := Int) (l7_HazardReads_b3 z1077 a0 x523) 0
noncomputable def l7_HazardReads_b1 (a0 : T_Script) : Int → Option (Step Int Bool) := fun x523 => bif decide (x523 ≤ 26) then (r3_Form x523).bind fun r1050 => cut (σ := Unit) (bif !(r3_HasD r1050) then some (.done (.next (IntKind.i64.wrap (x523 + 1)))) else bif (r0_Between x523 16 17) then some (.done (.next (IntKind.i64.wrap (x523 + 1)))) else some (.next ())) (l7_HazardReads_k2 x523 a0) else (l7_wakes).bind fun r1569 => some (.done (r1569))
noncomputable def l7_HazardReads (a0 : T_Script) : Option Bool :=
  loop (σ := Int) (l7_HazardReads_b1 a0) 14
theorem w_l7_HazardReads_ {g : Frag} {a0 : T_Script} {v0_ : Value} {r : Bool} (h0 : Rd_Script g a0 v0_) (hF : l7_HazardReads a0 = some r) : LCs Tryz.prog 10 #[v0_] g (.bool r) := by
 obtain ⟨v0_0_, v0_1_, v0_2_, v0_3_, v0_5_, v0_7_, v0_9_, v0_12_, rfl, h0_0_, h0_1_, h0_2_, h0_3_, h0_5_, h0_7_, h0_9_, h0_12_⟩ := h0
 unfold l7_HazardReads at hF
 refine lc_body (k := 88) (av := [.agg (cl_Script v0_0_ v0_1_ v0_2_ v0_3_ a0.S.Taken v0_5_ a0.S.PC v0_7_ a0.S.Stop v0_9_ a0.S.Jump a0.S.Delay v0_12_).toArray]) func10 rfl rfl (h := fun W hS => ?_)
 refine c_seq <| c_region ?_
 refine o_boxP (cl := (cl_Script v0_0_ v0_1_ v0_2_ v0_3_ a0.S.Taken v0_5_ a0.S.PC v0_7_ a0.S.Stop v0_9_ a0.S.Jump a0.S.Delay v0_12_)) rfl hS ?_
 clear hS; intro b1 w hS
 refine oy hS y_assign <| n_thenN ?_
 iterate 2 (refine c_seq ?_)
 refine c_region <| oy hS y_assign <| n_thenN <| c_block ?_
 refine c_loopP hF (fun (q : Int) a w' => (∃ s : Nat → Value, a = Ac (((Fm.dead 88 s).upd 1 (.pointer (some ⟨b1, 0, none⟩))).upd 3 (.int .i64 q))) ∧ St W g [] ((b1, blk (cl_Script v0_0_ v0_1_ v0_2_ v0_3_ a0.S.Taken v0_5_ a0.S.PC v0_7_ a0.S.Stop v0_9_ a0.S.Jump a0.S.Delay v0_12_) 29) :: []) w') ⟨mk_exF, (hS.re (.b .hb .n))⟩ ?_
 clear hS hF
 intro n1047 q a w hI hq
 revert hq hI; revert q; intro x523 hI hq
 obtain ⟨⟨s1048, rfl⟩, hS⟩ := hq
 obtain ⟨z1045, hF, hK1046⟩ := iter_step hI
 clear hI
 dsimp only [l7_HazardReads_b1] at hF
 iterate 2 (refine c_seq ?_)
 refine c_region <| oy hS y_move <| oy hS y_bin <| n_thenN ?_
 refine c_if (ht := fun c1049 => ?_) (hf := fun c1049 => ?_)
 · replace hF := bt c1049 hF
   refine wp_skip <| c_seq <| c_block <| c_seq <| c_region <| oy hS y_move ?_
   obtain ⟨r1050, hr1050, hF⟩ := ob hF
   refine o_callS hS func38 rfl rfl (hc := (w_r3_Form (a0 := x523) (hF := hr1050))) (h := ?_)
   clear hS; intro w hS
   refine oy hS y_assign <| n_thenN <| c_seq <| c_region <| oy hS y_move ?_
   refine oy hS (y_build (cl := (enc_Ins ⟨x523, 0, 0, 0, 0, ByteArray.empty⟩)) bt_api_Ins rfl (by kernel_rfl)) ?_
   refine o_allocP (cl := (enc_Ins ⟨0, 0, 0, 0, 0, ByteArray.empty⟩)) zr_api_Ins rfl hS ?_
   clear hS; intro b1051 w hS
   refine o_storeW (vs := (enc_Ins ⟨x523, 0, 0, 0, 0, ByteArray.empty⟩)) hS (by exact rfl) (Upd.here _) (by exact sz_api_Ins) (enc_one_Ins _) ?_
   clear hS; intro w hS
   refine n_thenN ?_
   obtain ⟨z1054, hF, hK1055⟩ := cut_step hF
   refine c_cutP (fun a w' => l7_HazardReads_k2 x523 a0 () = some z1045 ∧ (∃ s : Nat → Value, a = Ac ((((Fm.dead 88 s).upd 1 (.pointer (some ⟨b1, 0, none⟩))).upd 3 (.int .i64 x523)).upd 5 (.pointer (some ⟨b1051, 0, none⟩)))) ∧ St W g [] ((b1, blk (cl_Script v0_0_ v0_1_ v0_2_ v0_3_ a0.S.Taken v0_5_ a0.S.PC v0_7_ a0.S.Stop v0_9_ a0.S.Jump a0.S.Delay v0_12_) 29) :: ((b1051, blk (enc_Ins ⟨x523, 0, 0, 0, 0, ByteArray.empty⟩) 31) :: [])) w') ?_ ?_
   · skip
     refine c_seq <| c_region <| oy hS y_move ?_
     refine o_callS hS func39 rfl rfl (hc := (w_r3_HasD (a0 := r1050))) (h := ?_)
     clear hS; intro w hS
     refine oy hS y_not ?_
     refine o_split (ht := fun c1056 => ?_) (hf := fun c1056 => ?_)
     · replace hF := bt c1056 hF
       iterate 2 (refine o_sk rfl rfl ?_)
       refine oy hS y_pickT <| n_thenN ?_
       refine c_if_true (h := ?_)
       refine wp_exit ?_
       refine c_region <| oy hS y_move <| oy hS y_bin <| oy hS y_assign <| n_thenN ?_
       obtain rfl := osi hF
       obtain rfl : _ = z1045 := hK1055
       exact ⟨_, hK1046, mk_exF, (hS.re (.b (.thereb _ .hb) .n))⟩
     replace hF := bf c1056 hF
     refine o_gu rfl rfl rfl <| oy hS y_move <| o_gu rfl rfl rfl ?_
     refine o_callS hS func40 rfl rfl (hc := (w_r0_Between (a0 := x523) (a1 := 16) (a2 := 17))) (h := ?_)
     clear hS; intro w hS
     refine oy hS y_pickF <| n_thenN ?_
     refine c_if (ht := fun c1057 => ?_) (hf := fun c1057 => ?_)
     · replace hF := bt c1057 hF
       refine wp_exit ?_
       refine c_region <| oy hS y_move <| oy hS y_bin <| oy hS y_assign <| n_thenN ?_
       obtain rfl := osi hF
       obtain rfl : _ = z1045 := hK1055
       exact ⟨_, hK1046, mk_exF, (hS.re (.b (.thereb _ .hb) .n))⟩
     replace hF := bf c1057 hF
     refine wp_skip ?_
     obtain rfl := osi hF
     change _ ∧ _
     exact ⟨hK1055, mk_exF, (hS.re (.b (.thereb _ .hb) (.b .hb .n)))⟩
   rintro a w ⟨hF, ⟨s1058, rfl⟩, hS⟩
   dsimp only [l7_HazardReads_k2] at hF
   refine c_seq <| c_region <| oy hS (y_field fa_api_Ins_1) ?_
   refine o_storeA1 (o := 1) (cl' := (enc_Ins ⟨x523, 3, 0, 0, 0, ByteArray.empty⟩)) hS (by kernel_rfl) (by exact Nat.le_of_ble_eq_true rfl) (Upd.there _ (Upd.here _)) (by exact sz_int) rfl rfl ?_
   clear hS; intro w hS
   refine n_thenN <| c_seq <| c_region ?_
   refine o_allocP (cl := (enc_Bundle ⟨(⟨0, 0, 0, 0, 0, ByteArray.empty⟩ : T_Ins), (⟨0, 0, 0, 0, 0, ByteArray.empty⟩ : T_Ins), (⟨0, 0, 0, 0, 0, ByteArray.empty⟩ : T_Ins), (⟨0, 0, 0, 0, 0, ByteArray.empty⟩ : T_Ins)⟩)) zr_api_Bundle rfl hS ?_
   clear hS; intro b1059 w hS
   refine n_thenN <| c_seq ?_
   refine c_heldL 6 7 (by kernel_rfl) rfl hS ?_
   clear hS; intro w hS
   refine hy0 0 rfl wn (by kernel_rfl) (nq (P := Tryz.prog) (fn := Tryz.f10)) (fun _ => hS.cb) y_move ?_
   refine hy 4 rfl wn (by kernel_rfl) (nq (P := Tryz.prog) (fn := Tryz.f10)) hS.cb (y_loadW (fun w hS => hS.own (mC (mC (mH)))) underlying31 rfl (by exact sz_api_Ins)) ?_
   refine hb1 1 (by kernel_rfl) (hb_op rfl wn (nl (P := Tryz.prog) (fn := Tryz.f10)) ?_)
   refine o_call0 hS func41 rfl rfl (hc := (w_r3_Slots (a0 := x523))) (h := ?_)
   clear hS; intro v1060 LY1061 w hS hr1062
   obtain ⟨v_0_1063, LX_0_1064, rfl, rfl, h_0_1065⟩ := hr1062
   simp only [aa, ac, al] at hS
   refine hb_next (fun _ => (hS.re (.b (.there _ .hb) (.b (.there _ .hb) (.b (.there _ .hb) .n)))).cb) ?_
   obtain ⟨x1067, hx1067, hF⟩ := ob hF
   obtain ⟨b1068, c1069, cl1070, hv1071, ha1072, hb1073, hl1074, hc1075⟩ := OwT.at hx1067 h_0_1065 enc_len_int
   refine hy0 2 rfl wn (by kernel_rfl) (nq (P := Tryz.prog) (fn := Tryz.f10)) (fun _ => (hS.re (.b (.there _ .hb) (.b (.there _ .hb) (.b (.there _ .hb) .n)))).cb) (y_index hv1071 ha1072 hb1073 underlying24 el_int.size) ?_
   refine hb_up (CB g (LX_0_1064 ++ ((b1059, blk (enc_Bundle ⟨(⟨0, 0, 0, 0, 0, ByteArray.empty⟩ : T_Ins), (⟨0, 0, 0, 0, 0, ByteArray.empty⟩ : T_Ins), (⟨0, 0, 0, 0, 0, ByteArray.empty⟩ : T_Ins), (⟨0, 0, 0, 0, 0, ByteArray.empty⟩ : T_Ins)⟩) 34) :: ((b1, blk (cl_Script v0_0_ v0_1_ v0_2_ v0_3_ a0.S.Taken v0_5_ a0.S.PC v0_7_ a0.S.Stop v0_9_ a0.S.Jump a0.S.Delay v0_12_) 29) :: ((b1051, blk (enc_Ins ⟨x523, 3, 0, 0, 0, ByteArray.empty⟩) 31) :: []))))) (fun w h => h.sub (.b (.there _ .hb) (.b (.there _ .hb) (.b (.there _ .hb) .n)))) ?_
   refine hy 3 rfl wn (by kernel_rfl) (nq (P := Tryz.prog) (fn := Tryz.f10)) hS.cb (y_load (fun w hS => hS.own (mA (mX hl1074))) underlying3 rfl (hc1075 0 _ rfl)) ?_
   obtain ⟨x1076, hx1076, hF⟩ := ob hF
   refine hy0 5 rfl wn (by kernel_rfl) (nq (P := Tryz.prog) (fn := Tryz.f10)) (fun _ => hS.cb) (y_indexA (at'_bnd hx1076 rfl).1 (at'_bnd hx1076 (n := 4) rfl).2 underlying34 (by exact sz_api_Ins)) ?_
   refine hb1 6 (by kernel_rfl) (hb_op rfl wn (nl (P := Tryz.prog) (fn := Tryz.f10)) ?_)
   have hS := hS.re (.b (.there _ .hb) (.t .h (.b .hb (.b .hb .n))))
   obtain ⟨z1077, hz1077, hF⟩ := ob hF
   refine o_storeAN (o := 0 + (x1067).toNat * 6) (cl := (enc_Bundle ⟨(⟨0, 0, 0, 0, 0, ByteArray.empty⟩ : T_Ins), (⟨0, 0, 0, 0, 0, ByteArray.empty⟩ : T_Ins), (⟨0, 0, 0, 0, 0, ByteArray.empty⟩ : T_Ins), (⟨0, 0, 0, 0, 0, ByteArray.empty⟩ : T_Ins)⟩)) (cl' := (enc_Bundle z1077)) (vs := (enc_Ins ⟨x523, 3, 0, 0, 0, ByteArray.empty⟩)) hS (by rcases A4.put_cases hz1077 with ⟨hi, rfl⟩ | ⟨hi, rfl⟩ | ⟨hi, rfl⟩ | ⟨hi, rfl⟩ <;> rw [hi] <;> rfl) (by have q1 := (A4.put_lt hz1077).1; have q2 := (A4.put_lt hz1077).2; simp only [List.length_cons, List.length_nil]; omega) (Upd.here _) (by exact sz_api_Ins) (enc_one_Ins _) ?_
   clear hS; intro w hS
   refine hb_next (fun h => absurd h (by decide)) ?_
   refine hb_done (by kernel_rfl) ?_
   refine c_seq <| c_region <| oy hS y_assign <| n_thenN <| c_block ?_
   refine c_loopP hF (fun (q : Int) a w' => (∃ s : Nat → Value, a = Ac (((((Fm.dead 88 s).upd 1 (.pointer (some ⟨b1, 0, none⟩))).upd 3 (.int .i64 x523)).upd 6 (.pointer (some ⟨b1059, 0, none⟩))).upd 7 (.int .i64 q))) ∧ St W g [] ((b1, blk (cl_Script v0_0_ v0_1_ v0_2_ v0_3_ a0.S.Taken v0_5_ a0.S.PC v0_7_ a0.S.Stop v0_9_ a0.S.Jump a0.S.Delay v0_12_) 29) :: ((b1059, blk (enc_Bundle z1077) 34) :: [])) w') ⟨mk_exF, (hS.re (.b (.thereb _ (.there _ .hb)) (.b .hb .n)))⟩ ?_
   clear hS hF
   intro n1405 q a w hI hq
   revert hq hI; revert q; intro x1240 hI hq
   obtain ⟨⟨s1406, rfl⟩, hS⟩ := hq
   obtain ⟨z1403, hF, hK1404⟩ := iter_step hI
   clear hI
   dsimp only [l7_HazardReads_b3] at hF
   iterate 2 (refine c_seq ?_)
   refine c_region <| oy hS y_move <| oy hS y_bin <| n_thenN ?_
   refine c_if (ht := fun c1407 => ?_) (hf := fun c1407 => ?_)
   · replace hF := bt c1407 hF
     refine wp_skip <| c_seq <| c_block <| c_seq <| c_region ?_
     refine oy hS (y_loadW (fun w hS => hS.own (mC (mH))) underlying34 rfl (by exact sz_api_Bundle)) ?_
     refine o_buildT val_Bundle ([z1077] : List (A4 T_Ins)) hS el_api_Bundle (fun _ => rfl) enc_len_Bundle (by decide) rfl (by decide) (hp := rfl) (h := ?_)
     clear hS; intro b1408 w hS h1409
     have hS : St W g [] ([(b1408, blk (([z1077] : List (A4 T_Ins)).flatMap enc_Bundle) 34)] ++ ((b1, blk (cl_Script v0_0_ v0_1_ v0_2_ v0_3_ a0.S.Taken v0_5_ a0.S.PC v0_7_ a0.S.Stop v0_9_ a0.S.Jump a0.S.Delay v0_12_) 29) :: ((b1059, blk (enc_Bundle z1077) 34) :: []))) w := hS
     refine oy hS y_assign <| n_thenN ?_
     obtain ⟨z1453, hF, hK1454⟩ := cut_step hF
     refine c_cutP (fun a w' => ∃ (x1448 : (List (A4 T_Ins))) (v1449 : Value) (LX1451 : Own), l7_HazardReads_k4 a0 x1240 x523 x1448 = some z1403 ∧ OwT 34 enc_Bundle 24 x1448 v1449 LX1451 ∧ (∃ s : Nat → Value, a = Ac ((((((Fm.dead 88 s).upd 1 (.pointer (some ⟨b1, 0, none⟩))).upd 3 (.int .i64 x523)).upd 6 (.pointer (some ⟨b1059, 0, none⟩))).upd 7 (.int .i64 x1240)).upd 8 v1449)) ∧ St W g [] ((b1, blk (cl_Script v0_0_ v0_1_ v0_2_ v0_3_ a0.S.Taken v0_5_ a0.S.PC v0_7_ a0.S.Stop v0_9_ a0.S.Jump a0.S.Delay v0_12_) 29) :: ((b1059, blk (enc_Bundle z1077) 34) :: (LX1451 ++ []))) w') ?_ ?_
     · skip
       refine c_seq <| c_region <| oy hS y_assign <| n_thenN <| c_block ?_
       refine c_loopP hF (fun (q : ((List (A4 T_Ins)) × Int)) a w' => ∃ (v1465 : Value) (LX1467 : Own), OwT 34 enc_Bundle 24 q.1 v1465 LX1467 ∧ (∃ s : Nat → Value, a = Ac (((((((Fm.dead 88 s).upd 1 (.pointer (some ⟨b1, 0, none⟩))).upd 3 (.int .i64 x523)).upd 6 (.pointer (some ⟨b1059, 0, none⟩))).upd 7 (.int .i64 x1240)).upd 8 v1465).upd 9 (.int .i64 q.2))) ∧ St W g [] ((b1, blk (cl_Script v0_0_ v0_1_ v0_2_ v0_3_ a0.S.Taken v0_5_ a0.S.PC v0_7_ a0.S.Stop v0_9_ a0.S.Jump a0.S.Delay v0_12_) 29) :: ((b1059, blk (enc_Bundle z1077) 34) :: (LX1467 ++ []))) w') ⟨(.slice (some ⟨b1408, 0, none⟩) 1 1), [(b1408, blk (([z1077] : List (A4 T_Ins)).flatMap enc_Bundle) 34)], h1409, mk_exF, (hS.re (.b (.there _ .hb) (.b (.there _ .hb) (.t .h .n))))⟩ ?_
       clear hS hF
       intro n1481 q a w hI hq
       obtain ⟨x1464, x1469⟩ := q
       obtain ⟨v1465, LX1467, h1466, ⟨s1482, rfl⟩, hS⟩ := hq
       replace h1466 : OwT 34 enc_Bundle 24 x1464 v1465 LX1467 := h1466
       obtain ⟨z1479, hF, hK1480⟩ := iter_step hI
       clear hI
       dsimp only [l7_HazardReads_b5] at hF
       iterate 2 (refine c_seq ?_)
       refine c_region ?_
       iterate 2 (refine oy hS y_move ?_)
       refine oy hS y_bin <| n_thenN ?_
       refine c_if (ht := fun c1483 => ?_) (hf := fun c1483 => ?_)
       · replace hF := bt c1483 hF
         refine wp_skip <| c_seq <| c_block <| c_region <| oy hS y_move ?_
         refine oy hS (y_buildA (cl := (enc_Bundle ⟨(⟨0, 0, 0, 0, 0, ByteArray.empty⟩ : T_Ins), (⟨0, 0, 0, 0, 0, ByteArray.empty⟩ : T_Ins), (⟨0, 0, 0, 0, 0, ByteArray.empty⟩ : T_Ins), (⟨0, 0, 0, 0, 0, ByteArray.empty⟩ : T_Ins)⟩)) bta_api_Bundle rfl (by kernel_rfl)) ?_
         refine o_buildT val_Bundle ([(⟨(⟨0, 0, 0, 0, 0, ByteArray.empty⟩ : T_Ins), (⟨0, 0, 0, 0, 0, ByteArray.empty⟩ : T_Ins), (⟨0, 0, 0, 0, 0, ByteArray.empty⟩ : T_Ins), (⟨0, 0, 0, 0, 0, ByteArray.empty⟩ : T_Ins)⟩ : (A4 T_Ins))] : List (A4 T_Ins)) hS el_api_Bundle (fun _ => rfl) enc_len_Bundle (by decide) rfl (by decide) (hp := rfl) (h := ?_)
         clear hS; intro b1484 w hS h1485
         have hS : St W g [] ([(b1484, blk (([(⟨(⟨0, 0, 0, 0, 0, ByteArray.empty⟩ : T_Ins), (⟨0, 0, 0, 0, 0, ByteArray.empty⟩ : T_Ins), (⟨0, 0, 0, 0, 0, ByteArray.empty⟩ : T_Ins), (⟨0, 0, 0, 0, 0, ByteArray.empty⟩ : T_Ins)⟩ : (A4 T_Ins))] : List (A4 T_Ins)).flatMap enc_Bundle) 34)] ++ ((b1, blk (cl_Script v0_0_ v0_1_ v0_2_ v0_3_ a0.S.Taken v0_5_ a0.S.PC v0_7_ a0.S.Stop v0_9_ a0.S.Jump a0.S.Delay v0_12_) 29) :: ((b1059, blk (enc_Bundle z1077) 34) :: (LX1467 ++ [])))) w := hS
         obtain ⟨zs1491, hzs1491, hF⟩ := ob hF
         have hS := hS.re (.t .h (.t (.thereb _ (.thereb _ .h)) (.b .hb (.b .hb .n))))
         refine o_appPn (ys := ([(⟨(⟨0, 0, 0, 0, 0, ByteArray.empty⟩ : T_Ins), (⟨0, 0, 0, 0, 0, ByteArray.empty⟩ : T_Ins), (⟨0, 0, 0, 0, 0, ByteArray.empty⟩ : T_Ins), (⟨0, 0, 0, 0, 0, ByteArray.empty⟩ : T_Ins)⟩ : (A4 T_Ins))] : List (A4 T_Ins))) (LX := LX1467) hzs1491 hS el_api_Bundle h1466 rfl enc_len_Bundle (enc_ones_Bundle _) (by decide) ?_
         clear hS; intro v1487 LX1488 w h1489 hS
         refine oy hS y_assign ?_
         refine n_anyN ?_
         refine c_region <| oy hS y_move <| oy hS y_bin <| oy hS y_assign <| n_thenN ?_
         obtain rfl := osi hF
         exact ⟨_, hK1480, v1487, LX1488, h1489, mk_exF, (hS.re (.b (.there _ .hb) (.b (.there _ .hb) (.t .h .n))))⟩
       replace hF := bf c1483 hF
       refine wp_exit ?_
       obtain rfl := osi hF
       obtain rfl : _ = z1453 := hK1480
       change ∃ _, _
       exact ⟨x1464, v1465, LX1467, hK1454, h1466, mk_exF, (hS.re (.b .hb (.b .hb (.t .h .n))))⟩
     rintro a w ⟨x1448, v1449, LX1451, hF, h1450, ⟨s1492, rfl⟩, hS⟩
     dsimp only [l7_HazardReads_k4] at hF
     refine c_seq <| c_region <| oy hS y_move <| oy hS (y_field fa_sledgelaw6_Script_2) <| oy hS (y_load (fun w hS => hS.own (mH)) underlying24 rfl rfl) <| oy hS (y_len h0_12_ underlying24) ?_
     obtain ⟨x1493, hx1493, hF⟩ := ob hF
     refine oy hS (y_rem hx1493) ?_
     iterate 2 (refine oy hS y_bin ?_)
     refine oy hS (y_build (cl := (enc_Ins ⟨1, 4, IntKind.i64.wrap (1 + (IntKind.i64.wrap (2 * x1493))), 3, 0, ByteArray.empty⟩)) bt_api_Ins rfl (by kernel_rfl)) ?_
     refine oy hS (y_buildA (cl := (enc_Bundle ⟨(⟨1, 4, IntKind.i64.wrap (1 + (IntKind.i64.wrap (2 * x1493))), 3, 0, ByteArray.empty⟩ : T_Ins), (⟨0, 0, 0, 0, 0, ByteArray.empty⟩ : T_Ins), (⟨0, 0, 0, 0, 0, ByteArray.empty⟩ : T_Ins), (⟨0, 0, 0, 0, 0, ByteArray.empty⟩ : T_Ins)⟩)) bta_api_Bundle rfl (by kernel_rfl)) ?_
     refine o_buildT val_Bundle ([(⟨(⟨1, 4, IntKind.i64.wrap (1 + (IntKind.i64.wrap (2 * x1493))), 3, 0, ByteArray.empty⟩ : T_Ins), (⟨0, 0, 0, 0, 0, ByteArray.empty⟩ : T_Ins), (⟨0, 0, 0, 0, 0, ByteArray.empty⟩ : T_Ins), (⟨0, 0, 0, 0, 0, ByteArray.empty⟩ : T_Ins)⟩ : (A4 T_Ins))] : List (A4 T_Ins)) hS el_api_Bundle (fun _ => rfl) enc_len_Bundle (by decide) rfl (by decide) (hp := rfl) (h := ?_)
     clear hS; intro b1494 w hS h1495
     have hS : St W g [] ([(b1494, blk (([(⟨(⟨1, 4, IntKind.i64.wrap (1 + (IntKind.i64.wrap (2 * x1493))), 3, 0, ByteArray.empty⟩ : T_Ins), (⟨0, 0, 0, 0, 0, ByteArray.empty⟩ : T_Ins), (⟨0, 0, 0, 0, 0, ByteArray.empty⟩ : T_Ins), (⟨0, 0, 0, 0, 0, ByteArray.empty⟩ : T_Ins)⟩ : (A4 T_Ins))] : List (A4 T_Ins)).flatMap enc_Bundle) 34)] ++ ((b1, blk (cl_Script v0_0_ v0_1_ v0_2_ v0_3_ a0.S.Taken v0_5_ a0.S.PC v0_7_ a0.S.Stop v0_9_ a0.S.Jump a0.S.Delay v0_12_) 29) :: ((b1059, blk (enc_Bundle z1077) 34) :: (LX1451 ++ [])))) w := hS
     obtain ⟨zs1501, hzs1501, hF⟩ := ob hF
     have hS := hS.re (.t .h (.t (.thereb _ (.thereb _ .h)) (.b .hb (.b .hb .n))))
     refine o_appPn (ys := ([(⟨(⟨1, 4, IntKind.i64.wrap (1 + (IntKind.i64.wrap (2 * x1493))), 3, 0, ByteArray.empty⟩ : T_Ins), (⟨0, 0, 0, 0, 0, ByteArray.empty⟩ : T_Ins), (⟨0, 0, 0, 0, 0, ByteArray.empty⟩ : T_Ins), (⟨0, 0, 0, 0, 0, ByteArray.empty⟩ : T_Ins)⟩ : (A4 T_Ins))] : List (A4 T_Ins))) (LX := LX1451) hzs1501 hS el_api_Bundle h1450 rfl enc_len_Bundle (enc_ones_Bundle _) (by decide) ?_
     clear hS; intro v1497 LX1498 w h1499 hS
     refine oy hS y_assign <| n_thenN ?_
     iterate 2 (refine c_seq ?_)
     refine c_region <| oy hS y_move ?_
     obtain ⟨r1502, hr1502, hF⟩ := ob hF
     refine o_callS hS func42 rfl rfl (hc := (w_l7_found (a0 := zs1501) (h0 := (OwT.plus h1499 hS (fun p hp => mA (hp)))) (hF := hr1502))) (h := ?_)
     clear hS; intro w hS
     refine oy hS y_not <| n_thenN ?_
     refine c_if (ht := fun c1503 => ?_) (hf := fun c1503 => ?_)
     · replace hF := bt c1503 hF
       refine c_seq <| c_region <| oy hS y_assign <| n_thenN ?_
       obtain rfl := osi hF
       obtain rfl : _ = z1045 := hK1404
       obtain rfl : _ = r := hK1046
       exact wp_ret (wr1 hS)
     replace hF := bf c1503 hF
     refine wp_skip <| c_seq <| c_region <| oy hS y_move ?_
     obtain ⟨r1504, hr1504, hF⟩ := ob hF
     refine o_call0 hS func43 rfl rfl (hc := (w_r5_New (a0 := ([])) (h0 := (SlR.nil _ _)) (hF := hr1504))) (h := ?_)
     clear hS; intro v1505 LY1506 w hS hr1507
     obtain ⟨v_0_1508, LX_0_1509, rfl, rfl, h_0_1510⟩ := hr1507
     obtain ⟨vR0_0_1511, vR0_1_1515, vR0_2_1519, vR0_4_1523, vR0_6_1527, vR0_8_1531, LXR0_0_1512, LXR0_1_1516, LXR0_2_1520, LXR0_4_1524, LXR0_6_1528, LXR0_8_1532, rfl, rfl, hR0_0_1513, hR0_1_1517, hR0_2_1521, hR0_4_1525, hR0_6_1529, hR0_8_1533⟩ := h_0_1510
     simp only [aa, ac, al] at hS
     refine oy hS y_move <| oy hS y_bin ?_
     obtain ⟨r1535, hr1535, hF⟩ := ob hF
     refine o_call0 hS func32 rfl rfl (hc := (w_hazard_Run (a0 := zs1501) (a1 := r1504) (a2 := (IntKind.i64.wrap (x1240 + 2))) (h0 := (OwT.plus h1499 hS (fun p hp => mB (mB (mB (mB (mB (mB (mA (hp)))))))))) (h1 := ⟨_, _, _, _, _, _, rfl, (OwT.plus hR0_0_1513 hS (fun p hp => mA (hp))), (OwT.plus hR0_1_1517 hS (fun p hp => mB (mA (hp)))), (OwT.plus hR0_2_1521 hS (fun p hp => mB (mB (mA (hp))))), (OwT.plus hR0_4_1525 hS (fun p hp => mB (mB (mB (mA (hp)))))), (OwT.plus hR0_6_1529 hS (fun p hp => mB (mB (mB (mB (mA (hp))))))), (OwT.plus hR0_8_1533 hS (fun p hp => mB (mB (mB (mB (mB (mA (hp))))))))⟩) (hF := hr1535))) (h := ?_)
     clear hS; intro v1536 LY1537 w hS hr1538
     obtain ⟨v_0_1539, LX_0_1540, rfl, rfl, h_0_1541⟩ := hr1538
     obtain ⟨vR0_0_1542, vR0_1_1546, vR0_2_1550, vR0_4_1554, vR0_6_1558, vR0_8_1562, LXR0_0_1543, LXR0_1_1547, LXR0_2_1551, LXR0_4_1555, LXR0_6_1559, LXR0_8_1563, rfl, rfl, hR0_0_1544, hR0_1_1548, hR0_2_1552, hR0_4_1556, hR0_6_1560, hR0_8_1564⟩ := h_0_1541
     simp only [aa, ac, al] at hS
     refine oy hS y_move ?_
     iterate 3 (refine oy hS (y_extract rfl) ?_)
     refine o_allocP (cl := (cl_State (.slice none 0 0) (.slice none 0 0) (.slice none 0 0) 0 (.slice none 0 0) 0 (.slice none 0 0) 0 (.slice none 0 0) 0 0)) zr_api_State rfl hS ?_
     clear hS; intro b1566 w hS
     refine o_storeW (vs := (cl_State vR0_0_1542 vR0_1_1546 vR0_2_1550 r1535.1.Taken vR0_4_1554 r1535.1.PC vR0_6_1558 r1535.1.Stop vR0_8_1562 r1535.1.Jump r1535.1.Delay)) hS (by exact rfl) (Upd.here _) (by exact sz_api_State) (one_State (hR0_0_1544).one (hR0_1_1548).one (hR0_2_1552).one (hR0_4_1556).one (hR0_6_1560).one (hR0_8_1564).one) ?_
     clear hS; intro w hS
     iterate 2 (refine oy hS y_assign ?_)
     refine n_thenN <| c_seq ?_
     refine c_quiet (by kernel_rfl) (by kernel_rfl) hS ?_
     refine qy y_move ?_
     refine q_callS func33 rfl rfl (hc := (w_l7_num (a0 := r1535.2.2))) (h := ?_)
     refine qy y_bin ?_
     refine q_split (ht := fun c1567 => ?_) (hf := fun c1567 => ?_)
     · replace hF := bt c1567 hF
       iterate 9 (refine q_sk rfl rfl ?_)
       refine qy y_pickT ?_
       refine q_nilN (h := ?_)
       clear hS; intro w hS
       refine c_if_true (h := ?_)
       refine c_seq <| c_region <| oy hS y_assign <| n_thenN ?_
       obtain rfl := osi hF
       obtain rfl : _ = z1045 := hK1404
       obtain rfl : _ = r := hK1046
       exact wp_ret (wr1 hS)
     replace hF := bf c1567 hF
     refine q_gu rfl rfl rfl ?_
     refine qy (y_field fa_api_State_7) ?_
     refine q_gu rfl rfl rfl ?_
     refine qy (y_load (fun w hS => hS.own (mH)) underlying3 rfl rfl) ?_
     refine q_gu rfl rfl rfl ?_
     refine qy y_bin ?_
     refine q_gu rfl rfl rfl ?_
     refine qy y_move ?_
     refine q_gu rfl rfl rfl ?_
     refine qy y_bin ?_
     refine q_gu rfl rfl rfl ?_
     refine qy y_move ?_
     refine q_gu rfl rfl rfl ?_
     refine q_callS func44 rfl rfl (hc := (w_r3_Latency (a0 := x523))) (h := ?_)
     refine q_gu rfl rfl rfl ?_
     refine qy y_bin ?_
     refine q_gu rfl rfl rfl ?_
     refine qy (y_bneq underlying4) <| qy y_pickF ?_
     refine q_nilN (h := ?_)
     clear hS; intro w hS
     refine c_if (ht := fun c1568 => ?_) (hf := fun c1568 => ?_)
     · replace hF := bt c1568 hF
       refine c_seq <| c_region <| oy hS y_assign <| n_thenN ?_
       obtain rfl := osi hF
       obtain rfl : _ = z1045 := hK1404
       obtain rfl : _ = r := hK1046
       exact wp_ret (wr1 hS)
     replace hF := bf c1568 hF
     refine wp_skip <| c_region <| oy hS y_move <| oy hS y_bin <| oy hS y_assign <| n_thenN ?_
     obtain rfl := osi hF
     exact ⟨_, hK1404, mk_exF, (hS.re (.b (.thereb _ (.there _ (.there _ (.there _ (.there _ (.there _ (.there _ (.there _ (.there _ (.there _ (.there _ (.there _ (.there _ (.there _ .hb)))))))))))))) (.b (.thereb _ (.there _ (.there _ (.there _ (.there _ (.there _ (.there _ (.there _ (.there _ (.there _ (.there _ (.there _ (.there _ (.there _ .hb)))))))))))))) .n)))⟩
   replace hF := bf c1407 hF
   refine wp_exit ?_
   refine c_region <| oy hS y_move <| oy hS y_bin <| oy hS y_assign <| n_thenN ?_
   obtain rfl := osi hF
   obtain rfl : _ = z1045 := hK1404
   exact ⟨_, hK1046, mk_exF, (hS.re (.b .hb .n))⟩
 replace hF := bf c1049 hF
 refine wp_exit ?_
 refine c_seq <| c_region ?_
 obtain ⟨r1569, hr1569, hF⟩ := ob hF
 refine o_callS hS func36 rfl rfl (hc := (w_l7_wakes  (hF := hr1569))) (h := ?_)
 clear hS; intro w hS
 refine oy hS y_assign <| n_thenN ?_
 obtain rfl := osi hF
 obtain rfl : _ = r := hK1046
 exact wp_ret (wr1 hS)
theorem w_l7_HazardReads {g : Frag} {a0 : T_Script} {v0_ : Value} {r : Bool} (h0 : Rd_Script g a0 v0_) (hF : l7_HazardReads a0 = some r) : LCs Tryz.prog 10 #[v0_] g (.bool r) := w_l7_HazardReads_ h0 hF
end Go.Proofs.YthbpicnbkdbbmaaGreat
