/- The law HazardJumps, lifted. Printed by lift.py. -/
import Derived.Test.YthbpicnbkdbbmaaGreatProg
import Derived.Test.YthbpicnbkdbbmaaGreatP12
import Derived.KernelRfl
namespace Go.Proofs.YthbpicnbkdbbmaaGreat
open Go Go.RowKit Fr
set_option linter.unusedVariables false
set_option linter.unusedSimpArgs false
set_option maxRecDepth 20000
open Tryz
set_option maxHeartbeats 2000000
noncomputable def l7_HazardJumps_b5 (x2374 : Int) : ((List (A4 T_Ins)) × Int) → Option (Step ((List (A4 T_Ins)) × Int) (Step (List (A4 T_Ins)) (Step Int (Step Int (Step Int Bool))))) := fun (x3011, x3016) => bif decide (x3016 < x2374) then (app' x3011 ([(⟨(⟨0, 0, 0, 0, 0, ByteArray.empty⟩ : T_Ins), (⟨0, 0, 0, 0, 0, ByteArray.empty⟩ : T_Ins), (⟨0, 0, 0, 0, 0, ByteArray.empty⟩ : T_Ins), (⟨0, 0, 0, 0, 0, ByteArray.empty⟩ : T_Ins)⟩ : (A4 T_Ins))] : List (A4 T_Ins))).bind fun zs3038 => some (.next (zs3038, IntKind.i64.wrap (x3016 + 1))) else some (.done (.next x3011))
noncomputable def l7_HazardJumps_k4 (x1017 : Int) (x2826 : Int) : (List (A4 T_Ins)) → Option (Step Int (Step Int (Step Int Bool))) := fun x2995 => (app' x2995 ([(⟨(⟨x1017, 0, 0, 0, 0, ByteArray.empty⟩ : T_Ins), (⟨0, 0, 0, 0, 0, ByteArray.empty⟩ : T_Ins), (⟨0, 0, 0, 0, 0, ByteArray.empty⟩ : T_Ins), (⟨0, 0, 0, 0, 0, ByteArray.empty⟩ : T_Ins)⟩ : (A4 T_Ins)), (⟨(⟨0, 0, 0, 0, 0, ByteArray.empty⟩ : T_Ins), (⟨0, 0, 0, 0, 0, ByteArray.empty⟩ : T_Ins), (⟨0, 0, 0, 0, 0, ByteArray.empty⟩ : T_Ins), (⟨0, 0, 0, 0, 0, ByteArray.empty⟩ : T_Ins)⟩ : (A4 T_Ins)), (⟨(⟨0, 0, 0, 0, 0, ByteArray.empty⟩ : T_Ins), (⟨0, 0, 0, 0, 0, ByteArray.empty⟩ : T_Ins), (⟨0, 0, 0, 0, 0, ByteArray.empty⟩ : T_Ins), (⟨0, 0, 0, 0, 0, ByteArray.empty⟩ : T_Ins)⟩ : (A4 T_Ins))] : List (A4 T_Ins))).bind fun zs3048 => (l7_found zs3048).bind fun r3049 => bif !r3049 then some (.done (.done (.done (false)))) else some (.next (IntKind.i64.wrap (x2826 + 1)))
noncomputable def l7_HazardJumps_b3 (a0 : T_Script) (x2374 : Int) (x1017 : Int) : Int → Option (Step Int (Step Int (Step Int Bool))) := fun x2826 => bif decide (x2826 < 2) then (rem' (a0.N.length : Int) 2).bind fun x2942 => (at' ([29, 30] : List Int) x2826).bind fun x2946 => cut (σ := (List (A4 T_Ins))) (loop (σ := ((List (A4 T_Ins)) × Int)) (l7_HazardJumps_b5 x2374) (([(⟨(⟨x2946, 0, 1, 0, IntKind.i64.wrap (6 + x2942), ByteArray.empty⟩ : T_Ins), (⟨0, 0, 0, 0, 0, ByteArray.empty⟩ : T_Ins), (⟨0, 0, 0, 0, 0, ByteArray.empty⟩ : T_Ins), (⟨0, 0, 0, 0, 0, ByteArray.empty⟩ : T_Ins)⟩ : (A4 T_Ins))] : List (A4 T_Ins)), 0)) (l7_HazardJumps_k4 x1017 x2826) else some (.done (.next (IntKind.i64.wrap (x2374 + 1))))
noncomputable def l7_HazardJumps_b2 (a0 : T_Script) (x1017 : Int) : Int → Option (Step Int (Step Int Bool)) := fun x2374 => bif decide (x2374 < 4) then loop (σ := Int) (l7_HazardJumps_b3 a0 x2374 x1017) 0 else some (.done (.next (IntKind.i64.wrap (x1017 + 1))))
noncomputable def l7_HazardJumps_b1 (a0 : T_Script) : Int → Option (Step Int Bool) := fun x1017 => bif decide (x1017 ≤ 33) then loop (σ := Int) (l7_HazardJumps_b2 a0 x1017) 0 else (l7_wakes).bind fun r3051 => some (.done (r3051))
noncomputable def l7_HazardJumps (a0 : T_Script) : Option Bool :=
  loop (σ := Int) (l7_HazardJumps_b1 a0) 28
theorem w_l7_HazardJumps_ {g : Frag} {a0 : T_Script} {v0_ : Value} {r : Bool} (h0 : Rd_Script g a0 v0_) (hF : l7_HazardJumps a0 = some r) : LCs Tryz.prog 12 #[v0_] g (.bool r) := by
 obtain ⟨v0_0_, v0_1_, v0_2_, v0_3_, v0_5_, v0_7_, v0_9_, v0_12_, rfl, h0_0_, h0_1_, h0_2_, h0_3_, h0_5_, h0_7_, h0_9_, h0_12_⟩ := h0
 unfold l7_HazardJumps at hF
 refine lc_body (k := 55) (av := [.agg (cl_Script v0_0_ v0_1_ v0_2_ v0_3_ a0.S.Taken v0_5_ a0.S.PC v0_7_ a0.S.Stop v0_9_ a0.S.Jump a0.S.Delay v0_12_).toArray]) func12 rfl rfl (h := fun W hS => ?_)
 refine c_seq <| c_region ?_
 refine o_boxP (cl := (cl_Script v0_0_ v0_1_ v0_2_ v0_3_ a0.S.Taken v0_5_ a0.S.PC v0_7_ a0.S.Stop v0_9_ a0.S.Jump a0.S.Delay v0_12_)) rfl hS ?_
 clear hS; intro b1 w hS
 refine oy hS y_assign <| n_thenN ?_
 iterate 2 (refine c_seq ?_)
 refine c_region <| oy hS y_assign <| n_thenN <| c_block ?_
 refine c_loopP hF (fun (q : Int) a w' => (∃ s : Nat → Value, a = Ac (((Fm.dead 55 s).upd 1 (.pointer (some ⟨b1, 0, none⟩))).upd 3 (.int .i64 q))) ∧ St W g [] ((b1, blk (cl_Script v0_0_ v0_1_ v0_2_ v0_3_ a0.S.Taken v0_5_ a0.S.PC v0_7_ a0.S.Stop v0_9_ a0.S.Jump a0.S.Delay v0_12_) 29) :: []) w') ⟨mk_exF, (hS.re (.b .hb .n))⟩ ?_
 clear hS hF
 intro n2035 q a w hI hq
 revert hq hI; revert q; intro x1017 hI hq
 obtain ⟨⟨s2036, rfl⟩, hS⟩ := hq
 obtain ⟨z2033, hF, hK2034⟩ := iter_step hI
 clear hI
 dsimp only [l7_HazardJumps_b1] at hF
 iterate 2 (refine c_seq ?_)
 refine c_region <| oy hS y_move <| oy hS y_bin <| n_thenN ?_
 refine c_if (ht := fun c2037 => ?_) (hf := fun c2037 => ?_)
 · replace hF := bt c2037 hF
   refine wp_skip <| c_seq <| c_block <| c_seq <| c_region <| oy hS y_assign <| n_thenN <| c_block ?_
   refine c_loopP hF (fun (q : Int) a w' => (∃ s : Nat → Value, a = Ac ((((Fm.dead 55 s).upd 1 (.pointer (some ⟨b1, 0, none⟩))).upd 3 (.int .i64 x1017)).upd 4 (.int .i64 q))) ∧ St W g [] ((b1, blk (cl_Script v0_0_ v0_1_ v0_2_ v0_3_ a0.S.Taken v0_5_ a0.S.PC v0_7_ a0.S.Stop v0_9_ a0.S.Jump a0.S.Delay v0_12_) 29) :: []) w') ⟨mk_exF, (hS.re (.b .hb .n))⟩ ?_
   clear hS hF
   intro n2713 q a w hI hq
   revert hq hI; revert q; intro x2374 hI hq
   obtain ⟨⟨s2714, rfl⟩, hS⟩ := hq
   obtain ⟨z2711, hF, hK2712⟩ := iter_step hI
   clear hI
   dsimp only [l7_HazardJumps_b2] at hF
   iterate 2 (refine c_seq ?_)
   refine c_region <| oy hS y_move <| oy hS y_bin <| n_thenN ?_
   refine c_if (ht := fun c2715 => ?_) (hf := fun c2715 => ?_)
   · replace hF := bt c2715 hF
     refine wp_skip <| c_seq <| c_block <| c_seq <| c_region <| oy hS y_assign <| n_thenN <| c_block ?_
     refine c_loopP hF (fun (q : Int) a w' => (∃ s : Nat → Value, a = Ac (((((Fm.dead 55 s).upd 1 (.pointer (some ⟨b1, 0, none⟩))).upd 3 (.int .i64 x1017)).upd 4 (.int .i64 x2374)).upd 5 (.int .i64 q))) ∧ St W g [] ((b1, blk (cl_Script v0_0_ v0_1_ v0_2_ v0_3_ a0.S.Taken v0_5_ a0.S.PC v0_7_ a0.S.Stop v0_9_ a0.S.Jump a0.S.Delay v0_12_) 29) :: []) w') ⟨mk_exF, (hS.re (.b .hb .n))⟩ ?_
     clear hS hF
     intro n2939 q a w hI hq
     revert hq hI; revert q; intro x2826 hI hq
     obtain ⟨⟨s2940, rfl⟩, hS⟩ := hq
     obtain ⟨z2937, hF, hK2938⟩ := iter_step hI
     clear hI
     dsimp only [l7_HazardJumps_b3] at hF
     iterate 2 (refine c_seq ?_)
     refine c_region <| oy hS y_move <| oy hS y_bin <| n_thenN ?_
     refine c_if (ht := fun c2941 => ?_) (hf := fun c2941 => ?_)
     · replace hF := bt c2941 hF
       refine wp_skip <| c_seq <| c_block <| c_seq ?_
       refine c_heldL 13 13 (by kernel_rfl) rfl hS ?_
       clear hS; intro w hS
       refine hy0 1 rfl wn (by kernel_rfl) (nq (P := Tryz.prog) (fn := Tryz.f12)) (fun _ => hS.cb) y_move ?_
       refine hy0 4 rfl wn (by kernel_rfl) (nq (P := Tryz.prog) (fn := Tryz.f12)) (fun _ => hS.cb) (y_field fa_sledgelaw6_Script_2) ?_
       refine hy 5 rfl wn (by kernel_rfl) (nq (P := Tryz.prog) (fn := Tryz.f12)) hS.cb (y_load (fun w hS => hS.own (mH)) underlying24 rfl rfl) ?_
       refine hy0 6 rfl wn (by kernel_rfl) (nq (P := Tryz.prog) (fn := Tryz.f12)) (fun _ => hS.cb) (y_len h0_12_ underlying24) ?_
       obtain ⟨x2942, hx2942, hF⟩ := ob hF
       refine hy0 7 rfl wn (by kernel_rfl) (nq (P := Tryz.prog) (fn := Tryz.f12)) (fun _ => hS.cb) (y_rem hx2942) ?_
       refine hy0 8 rfl wn (by kernel_rfl) (nq (P := Tryz.prog) (fn := Tryz.f12)) (fun _ => hS.cb) y_bin ?_
       refine hb1 0 (by kernel_rfl) (hb_op rfl wn (nl (P := Tryz.prog) (fn := Tryz.f12)) ?_)
       refine o_buildT val_int ([29, 30] : List Int) hS el_int (fun _ => rfl) enc_len_int (by decide) rfl (by decide) (hp := rfl) (h := ?_)
       clear hS; intro b2943 w hS h2944
       have hS : St W g [] ([(b2943, blk (([29, 30] : List Int).flatMap enc_int) 3)] ++ ((b1, blk (cl_Script v0_0_ v0_1_ v0_2_ v0_3_ a0.S.Taken v0_5_ a0.S.PC v0_7_ a0.S.Stop v0_9_ a0.S.Jump a0.S.Delay v0_12_) 29) :: [])) w := hS
       refine hb_next (fun _ => (hS.re (.b (.there _ .hb) .n)).cb) ?_
       obtain ⟨x2946, hx2946, hF⟩ := ob hF
       obtain ⟨b2947, c2948, cl2949, hv2950, ha2951, hb2952, hl2953, hc2954⟩ := OwT.at hx2946 h2944 enc_len_int
       refine hy0 2 rfl wn (by kernel_rfl) (nq (P := Tryz.prog) (fn := Tryz.f12)) (fun _ => (hS.re (.b (.there _ .hb) .n)).cb) (y_index hv2950 ha2951 hb2952 underlying24 el_int.size) ?_
       refine hb_up (CB g ([(b2943, blk (([29, 30] : List Int).flatMap enc_int) 3)] ++ ((b1, blk (cl_Script v0_0_ v0_1_ v0_2_ v0_3_ a0.S.Taken v0_5_ a0.S.PC v0_7_ a0.S.Stop v0_9_ a0.S.Jump a0.S.Delay v0_12_) 29) :: []))) (fun w h => h.sub (.b (.there _ .hb) .n)) ?_
       refine hy 3 rfl wn (by kernel_rfl) (nq (P := Tryz.prog) (fn := Tryz.f12)) hS.cb (y_load (fun w hS => hS.own (mA (mX hl2953))) underlying3 rfl (hc2954 0 _ rfl)) ?_
       refine hy0 9 rfl wn (by kernel_rfl) (nq (P := Tryz.prog) (fn := Tryz.f12)) (fun _ => hS.cb) (y_build (cl := (enc_Ins ⟨x2946, 0, 1, 0, IntKind.i64.wrap (6 + x2942), ByteArray.empty⟩)) bt_api_Ins rfl (by kernel_rfl)) ?_
       refine hy0 10 rfl wn (by kernel_rfl) (nq (P := Tryz.prog) (fn := Tryz.f12)) (fun _ => hS.cb) (y_buildA (cl := (enc_Bundle ⟨(⟨x2946, 0, 1, 0, IntKind.i64.wrap (6 + x2942), ByteArray.empty⟩ : T_Ins), (⟨0, 0, 0, 0, 0, ByteArray.empty⟩ : T_Ins), (⟨0, 0, 0, 0, 0, ByteArray.empty⟩ : T_Ins), (⟨0, 0, 0, 0, 0, ByteArray.empty⟩ : T_Ins)⟩)) bta_api_Bundle rfl (by kernel_rfl)) ?_
       refine hb1 11 (by kernel_rfl) (hb_op rfl wn (nl (P := Tryz.prog) (fn := Tryz.f12)) ?_)
       refine o_buildT val_Bundle ([(⟨(⟨x2946, 0, 1, 0, IntKind.i64.wrap (6 + x2942), ByteArray.empty⟩ : T_Ins), (⟨0, 0, 0, 0, 0, ByteArray.empty⟩ : T_Ins), (⟨0, 0, 0, 0, 0, ByteArray.empty⟩ : T_Ins), (⟨0, 0, 0, 0, 0, ByteArray.empty⟩ : T_Ins)⟩ : (A4 T_Ins))] : List (A4 T_Ins)) hS el_api_Bundle (fun _ => rfl) enc_len_Bundle (by decide) rfl (by decide) (hp := rfl) (h := ?_)
       clear hS; intro b2955 w hS h2956
       have hS : St W g [] ([(b2955, blk (([(⟨(⟨x2946, 0, 1, 0, IntKind.i64.wrap (6 + x2942), ByteArray.empty⟩ : T_Ins), (⟨0, 0, 0, 0, 0, ByteArray.empty⟩ : T_Ins), (⟨0, 0, 0, 0, 0, ByteArray.empty⟩ : T_Ins), (⟨0, 0, 0, 0, 0, ByteArray.empty⟩ : T_Ins)⟩ : (A4 T_Ins))] : List (A4 T_Ins)).flatMap enc_Bundle) 34)] ++ ([(b2943, blk (([29, 30] : List Int).flatMap enc_int) 3)] ++ ((b1, blk (cl_Script v0_0_ v0_1_ v0_2_ v0_3_ a0.S.Taken v0_5_ a0.S.PC v0_7_ a0.S.Stop v0_9_ a0.S.Jump a0.S.Delay v0_12_) 29) :: []))) w := hS
       refine hb_next (fun _ => (hS.re (.t (.there _ .h) (.b (.there _ .hb) .n))).cb) ?_
       refine hy0 12 rfl wn (by kernel_rfl) (nq (P := Tryz.prog) (fn := Tryz.f12)) (fun _ => (hS.re (.t (.there _ .h) (.b (.there _ .hb) .n))).cb) y_assign ?_
       refine hb_done (by kernel_rfl) ?_
       obtain ⟨z3000, hF, hK3001⟩ := cut_step hF
       refine c_cutP (fun a w' => ∃ (x2995 : (List (A4 T_Ins))) (v2996 : Value) (LX2998 : Own), l7_HazardJumps_k4 x1017 x2826 x2995 = some z2937 ∧ OwT 34 enc_Bundle 24 x2995 v2996 LX2998 ∧ (∃ s : Nat → Value, a = Ac ((((((Fm.dead 55 s).upd 1 (.pointer (some ⟨b1, 0, none⟩))).upd 3 (.int .i64 x1017)).upd 4 (.int .i64 x2374)).upd 5 (.int .i64 x2826)).upd 6 v2996)) ∧ St W g [] ((b1, blk (cl_Script v0_0_ v0_1_ v0_2_ v0_3_ a0.S.Taken v0_5_ a0.S.PC v0_7_ a0.S.Stop v0_9_ a0.S.Jump a0.S.Delay v0_12_) 29) :: (LX2998 ++ [])) w') ?_ ?_
       · skip
         refine c_seq <| c_region <| oy hS y_assign <| n_thenN <| c_block ?_
         refine c_loopP hF (fun (q : ((List (A4 T_Ins)) × Int)) a w' => ∃ (v3012 : Value) (LX3014 : Own), OwT 34 enc_Bundle 24 q.1 v3012 LX3014 ∧ (∃ s : Nat → Value, a = Ac (((((((Fm.dead 55 s).upd 1 (.pointer (some ⟨b1, 0, none⟩))).upd 3 (.int .i64 x1017)).upd 4 (.int .i64 x2374)).upd 5 (.int .i64 x2826)).upd 6 v3012).upd 7 (.int .i64 q.2))) ∧ St W g [] ((b1, blk (cl_Script v0_0_ v0_1_ v0_2_ v0_3_ a0.S.Taken v0_5_ a0.S.PC v0_7_ a0.S.Stop v0_9_ a0.S.Jump a0.S.Delay v0_12_) 29) :: (LX3014 ++ [])) w') ⟨(.slice (some ⟨b2955, 0, none⟩) 1 1), [(b2955, blk (([(⟨(⟨x2946, 0, 1, 0, IntKind.i64.wrap (6 + x2942), ByteArray.empty⟩ : T_Ins), (⟨0, 0, 0, 0, 0, ByteArray.empty⟩ : T_Ins), (⟨0, 0, 0, 0, 0, ByteArray.empty⟩ : T_Ins), (⟨0, 0, 0, 0, 0, ByteArray.empty⟩ : T_Ins)⟩ : (A4 T_Ins))] : List (A4 T_Ins)).flatMap enc_Bundle) 34)], h2956, mk_exF, (hS.re (.b (.there _ (.there _ .hb)) (.t .h .n)))⟩ ?_
         clear hS hF
         intro n3028 q a w hI hq
         obtain ⟨x3011, x3016⟩ := q
         obtain ⟨v3012, LX3014, h3013, ⟨s3029, rfl⟩, hS⟩ := hq
         replace h3013 : OwT 34 enc_Bundle 24 x3011 v3012 LX3014 := h3013
         obtain ⟨z3026, hF, hK3027⟩ := iter_step hI
         clear hI
         dsimp only [l7_HazardJumps_b5] at hF
         iterate 2 (refine c_seq ?_)
         refine c_region ?_
         iterate 2 (refine oy hS y_move ?_)
         refine oy hS y_bin <| n_thenN ?_
         refine c_if (ht := fun c3030 => ?_) (hf := fun c3030 => ?_)
         · replace hF := bt c3030 hF
           refine wp_skip <| c_seq <| c_block <| c_region <| oy hS y_move ?_
           refine oy hS (y_buildA (cl := (enc_Bundle ⟨(⟨0, 0, 0, 0, 0, ByteArray.empty⟩ : T_Ins), (⟨0, 0, 0, 0, 0, ByteArray.empty⟩ : T_Ins), (⟨0, 0, 0, 0, 0, ByteArray.empty⟩ : T_Ins), (⟨0, 0, 0, 0, 0, ByteArray.empty⟩ : T_Ins)⟩)) bta_api_Bundle rfl (by kernel_rfl)) ?_
           refine o_buildT val_Bundle ([(⟨(⟨0, 0, 0, 0, 0, ByteArray.empty⟩ : T_Ins), (⟨0, 0, 0, 0, 0, ByteArray.empty⟩ : T_Ins), (⟨0, 0, 0, 0, 0, ByteArray.empty⟩ : T_Ins), (⟨0, 0, 0, 0, 0, ByteArray.empty⟩ : T_Ins)⟩ : (A4 T_Ins))] : List (A4 T_Ins)) hS el_api_Bundle (fun _ => rfl) enc_len_Bundle (by decide) rfl (by decide) (hp := rfl) (h := ?_)
           clear hS; intro b3031 w hS h3032
           have hS : St W g [] ([(b3031, blk (([(⟨(⟨0, 0, 0, 0, 0, ByteArray.empty⟩ : T_Ins), (⟨0, 0, 0, 0, 0, ByteArray.empty⟩ : T_Ins), (⟨0, 0, 0, 0, 0, ByteArray.empty⟩ : T_Ins), (⟨0, 0, 0, 0, 0, ByteArray.empty⟩ : T_Ins)⟩ : (A4 T_Ins))] : List (A4 T_Ins)).flatMap enc_Bundle) 34)] ++ ((b1, blk (cl_Script v0_0_ v0_1_ v0_2_ v0_3_ a0.S.Taken v0_5_ a0.S.PC v0_7_ a0.S.Stop v0_9_ a0.S.Jump a0.S.Delay v0_12_) 29) :: (LX3014 ++ []))) w := hS
           obtain ⟨zs3038, hzs3038, hF⟩ := ob hF
           have hS := hS.re (.t .h (.t (.thereb _ .h) (.b .hb .n)))
           refine o_appPn (ys := ([(⟨(⟨0, 0, 0, 0, 0, ByteArray.empty⟩ : T_Ins), (⟨0, 0, 0, 0, 0, ByteArray.empty⟩ : T_Ins), (⟨0, 0, 0, 0, 0, ByteArray.empty⟩ : T_Ins), (⟨0, 0, 0, 0, 0, ByteArray.empty⟩ : T_Ins)⟩ : (A4 T_Ins))] : List (A4 T_Ins))) (LX := LX3014) hzs3038 hS el_api_Bundle h3013 rfl enc_len_Bundle (enc_ones_Bundle _) (by decide) ?_
           clear hS; intro v3034 LX3035 w h3036 hS
           refine oy hS y_assign ?_
           refine n_anyN ?_
           refine c_region <| oy hS y_move <| oy hS y_bin <| oy hS y_assign <| n_thenN ?_
           obtain rfl := osi hF
           exact ⟨_, hK3027, v3034, LX3035, h3036, mk_exF, (hS.re (.b (.there _ .hb) (.t .h .n)))⟩
         replace hF := bf c3030 hF
         refine wp_exit ?_
         obtain rfl := osi hF
         obtain rfl : _ = z3000 := hK3027
         change ∃ _, _
         exact ⟨x3011, v3012, LX3014, hK3001, h3013, mk_exF, (hS.re (.b .hb (.t .h .n)))⟩
       rintro a w ⟨x2995, v2996, LX2998, hF, h2997, ⟨s3039, rfl⟩, hS⟩
       dsimp only [l7_HazardJumps_k4] at hF
       refine c_seq <| c_region <| oy hS y_move ?_
       refine oy hS (y_build (cl := (enc_Ins ⟨x1017, 0, 0, 0, 0, ByteArray.empty⟩)) bt_api_Ins rfl (by kernel_rfl)) ?_
       refine o_allocP (cl := (enc_Ins ⟨0, 0, 0, 0, 0, ByteArray.empty⟩)) zr_api_Ins rfl hS ?_
       clear hS; intro b3040 w hS
       refine o_storeW (vs := (enc_Ins ⟨x1017, 0, 0, 0, 0, ByteArray.empty⟩)) hS (by exact rfl) (Upd.here _) (by exact sz_api_Ins) (enc_one_Ins _) ?_
       clear hS; intro w hS
       refine n_thenN <| c_seq <| c_region <| oy hS y_move ?_
       refine oy hS (y_loadW (fun w hS => hS.own (mH)) underlying31 rfl (by exact sz_api_Ins)) ?_
       refine oy hS (y_buildA (cl := (enc_Bundle ⟨(⟨x1017, 0, 0, 0, 0, ByteArray.empty⟩ : T_Ins), (⟨0, 0, 0, 0, 0, ByteArray.empty⟩ : T_Ins), (⟨0, 0, 0, 0, 0, ByteArray.empty⟩ : T_Ins), (⟨0, 0, 0, 0, 0, ByteArray.empty⟩ : T_Ins)⟩)) bta_api_Bundle rfl (by kernel_rfl)) ?_
       iterate 2 (refine oy hS (y_buildA (cl := (enc_Bundle ⟨(⟨0, 0, 0, 0, 0, ByteArray.empty⟩ : T_Ins), (⟨0, 0, 0, 0, 0, ByteArray.empty⟩ : T_Ins), (⟨0, 0, 0, 0, 0, ByteArray.empty⟩ : T_Ins), (⟨0, 0, 0, 0, 0, ByteArray.empty⟩ : T_Ins)⟩)) bta_api_Bundle rfl (by kernel_rfl)) ?_)
       refine o_buildT val_Bundle ([(⟨(⟨x1017, 0, 0, 0, 0, ByteArray.empty⟩ : T_Ins), (⟨0, 0, 0, 0, 0, ByteArray.empty⟩ : T_Ins), (⟨0, 0, 0, 0, 0, ByteArray.empty⟩ : T_Ins), (⟨0, 0, 0, 0, 0, ByteArray.empty⟩ : T_Ins)⟩ : (A4 T_Ins)), (⟨(⟨0, 0, 0, 0, 0, ByteArray.empty⟩ : T_Ins), (⟨0, 0, 0, 0, 0, ByteArray.empty⟩ : T_Ins), (⟨0, 0, 0, 0, 0, ByteArray.empty⟩ : T_Ins), (⟨0, 0, 0, 0, 0, ByteArray.empty⟩ : T_Ins)⟩ : (A4 T_Ins)), (⟨(⟨0, 0, 0, 0, 0, ByteArray.empty⟩ : T_Ins), (⟨0, 0, 0, 0, 0, ByteArray.empty⟩ : T_Ins), (⟨0, 0, 0, 0, 0, ByteArray.empty⟩ : T_Ins), (⟨0, 0, 0, 0, 0, ByteArray.empty⟩ : T_Ins)⟩ : (A4 T_Ins))] : List (A4 T_Ins)) hS el_api_Bundle (fun _ => rfl) enc_len_Bundle (by decide) rfl (by decide) (hp := rfl) (h := ?_)
       clear hS; intro b3041 w hS h3042
       have hS : St W g [] ([(b3041, blk (([(⟨(⟨x1017, 0, 0, 0, 0, ByteArray.empty⟩ : T_Ins), (⟨0, 0, 0, 0, 0, ByteArray.empty⟩ : T_Ins), (⟨0, 0, 0, 0, 0, ByteArray.empty⟩ : T_Ins), (⟨0, 0, 0, 0, 0, ByteArray.empty⟩ : T_Ins)⟩ : (A4 T_Ins)), (⟨(⟨0, 0, 0, 0, 0, ByteArray.empty⟩ : T_Ins), (⟨0, 0, 0, 0, 0, ByteArray.empty⟩ : T_Ins), (⟨0, 0, 0, 0, 0, ByteArray.empty⟩ : T_Ins), (⟨0, 0, 0, 0, 0, ByteArray.empty⟩ : T_Ins)⟩ : (A4 T_Ins)), (⟨(⟨0, 0, 0, 0, 0, ByteArray.empty⟩ : T_Ins), (⟨0, 0, 0, 0, 0, ByteArray.empty⟩ : T_Ins), (⟨0, 0, 0, 0, 0, ByteArray.empty⟩ : T_Ins), (⟨0, 0, 0, 0, 0, ByteArray.empty⟩ : T_Ins)⟩ : (A4 T_Ins))] : List (A4 T_Ins)).flatMap enc_Bundle) 34)] ++ ((b3040, blk (enc_Ins ⟨x1017, 0, 0, 0, 0, ByteArray.empty⟩) 31) :: ((b1, blk (cl_Script v0_0_ v0_1_ v0_2_ v0_3_ a0.S.Taken v0_5_ a0.S.PC v0_7_ a0.S.Stop v0_9_ a0.S.Jump a0.S.Delay v0_12_) 29) :: (LX2998 ++ [])))) w := hS
       obtain ⟨zs3048, hzs3048, hF⟩ := ob hF
       have hS := hS.re (.t .h (.t (.thereb _ (.thereb _ .h)) (.b .hb (.b .hb .n))))
       refine o_appPn (ys := ([(⟨(⟨x1017, 0, 0, 0, 0, ByteArray.empty⟩ : T_Ins), (⟨0, 0, 0, 0, 0, ByteArray.empty⟩ : T_Ins), (⟨0, 0, 0, 0, 0, ByteArray.empty⟩ : T_Ins), (⟨0, 0, 0, 0, 0, ByteArray.empty⟩ : T_Ins)⟩ : (A4 T_Ins)), (⟨(⟨0, 0, 0, 0, 0, ByteArray.empty⟩ : T_Ins), (⟨0, 0, 0, 0, 0, ByteArray.empty⟩ : T_Ins), (⟨0, 0, 0, 0, 0, ByteArray.empty⟩ : T_Ins), (⟨0, 0, 0, 0, 0, ByteArray.empty⟩ : T_Ins)⟩ : (A4 T_Ins)), (⟨(⟨0, 0, 0, 0, 0, ByteArray.empty⟩ : T_Ins), (⟨0, 0, 0, 0, 0, ByteArray.empty⟩ : T_Ins), (⟨0, 0, 0, 0, 0, ByteArray.empty⟩ : T_Ins), (⟨0, 0, 0, 0, 0, ByteArray.empty⟩ : T_Ins)⟩ : (A4 T_Ins))] : List (A4 T_Ins))) (LX := LX2998) hzs3048 hS el_api_Bundle h2997 rfl enc_len_Bundle (enc_ones_Bundle _) (by decide) ?_
       clear hS; intro v3044 LX3045 w h3046 hS
       refine oy hS y_assign <| n_thenN <| c_seq <| c_region <| oy hS y_move ?_
       obtain ⟨r3049, hr3049, hF⟩ := ob hF
       refine o_callS hS func42 rfl rfl (hc := (w_l7_found (a0 := zs3048) (h0 := (OwT.plus h3046 hS (fun p hp => mA (hp)))) (hF := hr3049))) (h := ?_)
       clear hS; intro w hS
       refine oy hS y_not <| n_thenN ?_
       refine c_if (ht := fun c3050 => ?_) (hf := fun c3050 => ?_)
       · replace hF := bt c3050 hF
         refine c_seq <| c_region <| oy hS y_assign <| n_thenN ?_
         obtain rfl := osi hF
         obtain rfl : _ = z2711 := hK2938
         obtain rfl : _ = z2033 := hK2712
         obtain rfl : _ = r := hK2034
         exact wp_ret (wr1 hS)
       replace hF := bf c3050 hF
       refine wp_skip <| c_region <| oy hS y_move <| oy hS y_bin <| oy hS y_assign <| n_thenN ?_
       obtain rfl := osi hF
       exact ⟨_, hK2938, mk_exF, (hS.re (.b (.there _ (.thereb _ .hb)) .n))⟩
     replace hF := bf c2941 hF
     refine wp_exit ?_
     refine c_region <| oy hS y_move <| oy hS y_bin <| oy hS y_assign <| n_thenN ?_
     obtain rfl := osi hF
     obtain rfl : _ = z2711 := hK2938
     exact ⟨_, hK2712, mk_exF, (hS.re (.b .hb .n))⟩
   replace hF := bf c2715 hF
   refine wp_exit ?_
   refine c_region <| oy hS y_move <| oy hS y_bin <| oy hS y_assign <| n_thenN ?_
   obtain rfl := osi hF
   obtain rfl : _ = z2033 := hK2712
   exact ⟨_, hK2034, mk_exF, (hS.re (.b .hb .n))⟩
 replace hF := bf c2037 hF
 refine wp_exit ?_
 refine c_seq <| c_region ?_
 obtain ⟨r3051, hr3051, hF⟩ := ob hF
 refine o_callS hS func36 rfl rfl (hc := (w_l7_wakes  (hF := hr3051))) (h := ?_)
 clear hS; intro w hS
 refine oy hS y_assign <| n_thenN ?_
 obtain rfl := osi hF
 obtain rfl : _ = r := hK2034
 exact wp_ret (wr1 hS)
theorem w_l7_HazardJumps {g : Frag} {a0 : T_Script} {v0_ : Value} {r : Bool} (h0 : Rd_Script g a0 v0_) (hF : l7_HazardJumps a0 = some r) : LCs Tryz.prog 12 #[v0_] g (.bool r) := w_l7_HazardJumps_ h0 hF
end Go.Proofs.YthbpicnbkdbbmaaGreat
