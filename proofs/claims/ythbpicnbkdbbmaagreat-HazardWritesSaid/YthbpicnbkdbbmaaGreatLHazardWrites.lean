/- The law HazardWrites, lifted. Printed by lift.py. -/
import Derived.Test.YthbpicnbkdbbmaaGreatProg
import Derived.Test.YthbpicnbkdbbmaaGreatP12
import Derived.KernelRfl
namespace Go.Proofs.YthbpicnbkdbbmaaGreat
open Go Go.RowKit Fr
set_option linter.unusedVariables false
set_option linter.unusedSimpArgs false
set_option maxRecDepth 20000
open Tryz
set_option maxHeartbeats 2000000
noncomputable def l7_HazardWrites_b4 (x336 : Int) : ((List (A4 T_Ins)) × Int) → Option (Step ((List (A4 T_Ins)) × Int) (Step (List (A4 T_Ins)) (Step Int (Step Int Bool)))) := fun (x956, x961) => bif decide (x961 < x336) then (app' x956 ([(⟨(⟨0, 0, 0, 0, 0, ByteArray.empty⟩ : T_Ins), (⟨0, 0, 0, 0, 0, ByteArray.empty⟩ : T_Ins), (⟨0, 0, 0, 0, 0, ByteArray.empty⟩ : T_Ins), (⟨0, 0, 0, 0, 0, ByteArray.empty⟩ : T_Ins)⟩ : (A4 T_Ins))] : List (A4 T_Ins))).bind fun zs983 => some (.next (zs983, IntKind.i64.wrap (x961 + 1))) else some (.done (.next x956))
noncomputable def l7_HazardWrites_k3 (a0 : T_Script) (x336 : Int) (x785 : Int) : (List (A4 T_Ins)) → Option (Step Int (Step Int Bool)) := fun x940 => (rem' (IntKind.i64.wrap ((a0.N.length : Int) + x336)) 2).bind fun x985 => (at' ([(⟨(⟨23, 3, 0, 0, 0, ByteArray.empty⟩ : T_Ins), (⟨0, 0, 0, 0, 0, ByteArray.empty⟩ : T_Ins), (⟨0, 0, 0, 0, 0, ByteArray.empty⟩ : T_Ins), (⟨0, 0, 0, 0, 0, ByteArray.empty⟩ : T_Ins)⟩ : (A4 T_Ins)), (⟨(⟨0, 0, 0, 0, 0, ByteArray.empty⟩ : T_Ins), (⟨21, 3, 0, 0, 0, ByteArray.empty⟩ : T_Ins), (⟨0, 0, 0, 0, 0, ByteArray.empty⟩ : T_Ins), (⟨0, 0, 0, 0, 0, ByteArray.empty⟩ : T_Ins)⟩ : (A4 T_Ins)), (⟨(⟨23, 2, 0, 0, 0, ByteArray.empty⟩ : T_Ins), (⟨23, IntKind.i64.wrap (2 + x985), 0, 0, 0, ByteArray.empty⟩ : T_Ins), (⟨0, 0, 0, 0, 0, ByteArray.empty⟩ : T_Ins), (⟨0, 0, 0, 0, 0, ByteArray.empty⟩ : T_Ins)⟩ : (A4 T_Ins))] : List (A4 T_Ins)) x785).bind fun x989 => (app' x940 ([x989] : List (A4 T_Ins))).bind fun zs1005 => (l7_found zs1005).bind fun r1006 => bif !r1006 then some (.done (.done (false))) else some (.next (IntKind.i64.wrap (x785 + 1)))
noncomputable def l7_HazardWrites_b2 (x336 : Int) (a0 : T_Script) : Int → Option (Step Int (Step Int Bool)) := fun x785 => bif decide (x785 < 3) then cut (σ := (List (A4 T_Ins))) (loop (σ := ((List (A4 T_Ins)) × Int)) (l7_HazardWrites_b4 x336) (([(⟨(⟨0, 0, 0, 0, 0, ByteArray.empty⟩ : T_Ins), (⟨0, 0, 0, 0, 0, ByteArray.empty⟩ : T_Ins), (⟨24, 3, 0, 0, 0, ByteArray.empty⟩ : T_Ins), (⟨0, 0, 0, 0, 0, ByteArray.empty⟩ : T_Ins)⟩ : (A4 T_Ins))] : List (A4 T_Ins)), 0)) (l7_HazardWrites_k3 a0 x336 x785) else some (.done (.next (IntKind.i64.wrap (x336 + 1))))
noncomputable def l7_HazardWrites_b1 (a0 : T_Script) : Int → Option (Step Int Bool) := fun x336 => bif decide (x336 < 5) then loop (σ := Int) (l7_HazardWrites_b2 x336 a0) 0 else (l7_wakes).bind fun r1008 => some (.done (r1008))
noncomputable def l7_HazardWrites (a0 : T_Script) : Option Bool :=
  loop (σ := Int) (l7_HazardWrites_b1 a0) 0
theorem w_l7_HazardWrites_ {g : Frag} {a0 : T_Script} {v0_ : Value} {r : Bool} (h0 : Rd_Script g a0 v0_) (hF : l7_HazardWrites a0 = some r) : LCs Tryz.prog 11 #[v0_] g (.bool r) := by
 obtain ⟨v0_0_, v0_1_, v0_2_, v0_3_, v0_5_, v0_7_, v0_9_, v0_12_, rfl, h0_0_, h0_1_, h0_2_, h0_3_, h0_5_, h0_7_, h0_9_, h0_12_⟩ := h0
 unfold l7_HazardWrites at hF
 refine lc_body (k := 55) (av := [.agg (cl_Script v0_0_ v0_1_ v0_2_ v0_3_ a0.S.Taken v0_5_ a0.S.PC v0_7_ a0.S.Stop v0_9_ a0.S.Jump a0.S.Delay v0_12_).toArray]) func11 rfl rfl (h := fun W hS => ?_)
 refine c_seq <| c_region ?_
 refine o_boxP (cl := (cl_Script v0_0_ v0_1_ v0_2_ v0_3_ a0.S.Taken v0_5_ a0.S.PC v0_7_ a0.S.Stop v0_9_ a0.S.Jump a0.S.Delay v0_12_)) rfl hS ?_
 clear hS; intro b1 w hS
 refine oy hS y_assign <| n_thenN ?_
 iterate 2 (refine c_seq ?_)
 refine c_region <| oy hS y_assign <| n_thenN <| c_block ?_
 refine c_loopP hF (fun (q : Int) a w' => (∃ s : Nat → Value, a = Ac (((Fm.dead 55 s).upd 1 (.pointer (some ⟨b1, 0, none⟩))).upd 3 (.int .i64 q))) ∧ St W g [] ((b1, blk (cl_Script v0_0_ v0_1_ v0_2_ v0_3_ a0.S.Taken v0_5_ a0.S.PC v0_7_ a0.S.Stop v0_9_ a0.S.Jump a0.S.Delay v0_12_) 29) :: []) w') ⟨mk_exF, (hS.re (.b .hb .n))⟩ ?_
 clear hS hF
 intro n673 q a w hI hq
 revert hq hI; revert q; intro x336 hI hq
 obtain ⟨⟨s674, rfl⟩, hS⟩ := hq
 obtain ⟨z671, hF, hK672⟩ := iter_step hI
 clear hI
 dsimp only [l7_HazardWrites_b1] at hF
 iterate 2 (refine c_seq ?_)
 refine c_region <| oy hS y_move <| oy hS y_bin <| n_thenN ?_
 refine c_if (ht := fun c675 => ?_) (hf := fun c675 => ?_)
 · replace hF := bt c675 hF
   refine wp_skip <| c_seq <| c_block <| c_seq <| c_region <| oy hS y_assign <| n_thenN <| c_block ?_
   refine c_loopP hF (fun (q : Int) a w' => (∃ s : Nat → Value, a = Ac ((((Fm.dead 55 s).upd 1 (.pointer (some ⟨b1, 0, none⟩))).upd 3 (.int .i64 x336)).upd 4 (.int .i64 q))) ∧ St W g [] ((b1, blk (cl_Script v0_0_ v0_1_ v0_2_ v0_3_ a0.S.Taken v0_5_ a0.S.PC v0_7_ a0.S.Stop v0_9_ a0.S.Jump a0.S.Delay v0_12_) 29) :: []) w') ⟨mk_exF, (hS.re (.b .hb .n))⟩ ?_
   clear hS hF
   intro n897 q a w hI hq
   revert hq hI; revert q; intro x785 hI hq
   obtain ⟨⟨s898, rfl⟩, hS⟩ := hq
   obtain ⟨z895, hF, hK896⟩ := iter_step hI
   clear hI
   dsimp only [l7_HazardWrites_b2] at hF
   iterate 2 (refine c_seq ?_)
   refine c_region <| oy hS y_move <| oy hS y_bin <| n_thenN ?_
   refine c_if (ht := fun c899 => ?_) (hf := fun c899 => ?_)
   · replace hF := bt c899 hF
     refine wp_skip <| c_seq <| c_block <| c_seq <| c_region ?_
     iterate 2 (refine oy hS (y_build (cl := (enc_Ins ⟨0, 0, 0, 0, 0, ByteArray.empty⟩)) bt_api_Ins rfl (by kernel_rfl)) ?_)
     refine oy hS (y_build (cl := (enc_Ins ⟨24, 3, 0, 0, 0, ByteArray.empty⟩)) bt_api_Ins rfl (by kernel_rfl)) ?_
     refine oy hS (y_buildA (cl := (enc_Bundle ⟨(⟨0, 0, 0, 0, 0, ByteArray.empty⟩ : T_Ins), (⟨0, 0, 0, 0, 0, ByteArray.empty⟩ : T_Ins), (⟨24, 3, 0, 0, 0, ByteArray.empty⟩ : T_Ins), (⟨0, 0, 0, 0, 0, ByteArray.empty⟩ : T_Ins)⟩)) bta_api_Bundle rfl (by kernel_rfl)) ?_
     refine o_buildT val_Bundle ([(⟨(⟨0, 0, 0, 0, 0, ByteArray.empty⟩ : T_Ins), (⟨0, 0, 0, 0, 0, ByteArray.empty⟩ : T_Ins), (⟨24, 3, 0, 0, 0, ByteArray.empty⟩ : T_Ins), (⟨0, 0, 0, 0, 0, ByteArray.empty⟩ : T_Ins)⟩ : (A4 T_Ins))] : List (A4 T_Ins)) hS el_api_Bundle (fun _ => rfl) enc_len_Bundle (by decide) rfl (by decide) (hp := rfl) (h := ?_)
     clear hS; intro b900 w hS h901
     have hS : St W g [] ([(b900, blk (([(⟨(⟨0, 0, 0, 0, 0, ByteArray.empty⟩ : T_Ins), (⟨0, 0, 0, 0, 0, ByteArray.empty⟩ : T_Ins), (⟨24, 3, 0, 0, 0, ByteArray.empty⟩ : T_Ins), (⟨0, 0, 0, 0, 0, ByteArray.empty⟩ : T_Ins)⟩ : (A4 T_Ins))] : List (A4 T_Ins)).flatMap enc_Bundle) 34)] ++ ((b1, blk (cl_Script v0_0_ v0_1_ v0_2_ v0_3_ a0.S.Taken v0_5_ a0.S.PC v0_7_ a0.S.Stop v0_9_ a0.S.Jump a0.S.Delay v0_12_) 29) :: [])) w := hS
     refine oy hS y_assign <| n_thenN ?_
     obtain ⟨z945, hF, hK946⟩ := cut_step hF
     refine c_cutP (fun a w' => ∃ (x940 : (List (A4 T_Ins))) (v941 : Value) (LX943 : Own), l7_HazardWrites_k3 a0 x336 x785 x940 = some z895 ∧ OwT 34 enc_Bundle 24 x940 v941 LX943 ∧ (∃ s : Nat → Value, a = Ac (((((Fm.dead 55 s).upd 1 (.pointer (some ⟨b1, 0, none⟩))).upd 3 (.int .i64 x336)).upd 4 (.int .i64 x785)).upd 5 v941)) ∧ St W g [] ((b1, blk (cl_Script v0_0_ v0_1_ v0_2_ v0_3_ a0.S.Taken v0_5_ a0.S.PC v0_7_ a0.S.Stop v0_9_ a0.S.Jump a0.S.Delay v0_12_) 29) :: (LX943 ++ [])) w') ?_ ?_
     · skip
       refine c_seq <| c_region <| oy hS y_assign <| n_thenN <| c_block ?_
       refine c_loopP hF (fun (q : ((List (A4 T_Ins)) × Int)) a w' => ∃ (v957 : Value) (LX959 : Own), OwT 34 enc_Bundle 24 q.1 v957 LX959 ∧ (∃ s : Nat → Value, a = Ac ((((((Fm.dead 55 s).upd 1 (.pointer (some ⟨b1, 0, none⟩))).upd 3 (.int .i64 x336)).upd 4 (.int .i64 x785)).upd 5 v957).upd 6 (.int .i64 q.2))) ∧ St W g [] ((b1, blk (cl_Script v0_0_ v0_1_ v0_2_ v0_3_ a0.S.Taken v0_5_ a0.S.PC v0_7_ a0.S.Stop v0_9_ a0.S.Jump a0.S.Delay v0_12_) 29) :: (LX959 ++ [])) w') ⟨(.slice (some ⟨b900, 0, none⟩) 1 1), [(b900, blk (([(⟨(⟨0, 0, 0, 0, 0, ByteArray.empty⟩ : T_Ins), (⟨0, 0, 0, 0, 0, ByteArray.empty⟩ : T_Ins), (⟨24, 3, 0, 0, 0, ByteArray.empty⟩ : T_Ins), (⟨0, 0, 0, 0, 0, ByteArray.empty⟩ : T_Ins)⟩ : (A4 T_Ins))] : List (A4 T_Ins)).flatMap enc_Bundle) 34)], h901, mk_exF, (hS.re (.b (.there _ .hb) (.t .h .n)))⟩ ?_
       clear hS hF
       intro n973 q a w hI hq
       obtain ⟨x956, x961⟩ := q
       obtain ⟨v957, LX959, h958, ⟨s974, rfl⟩, hS⟩ := hq
       replace h958 : OwT 34 enc_Bundle 24 x956 v957 LX959 := h958
       obtain ⟨z971, hF, hK972⟩ := iter_step hI
       clear hI
       dsimp only [l7_HazardWrites_b4] at hF
       iterate 2 (refine c_seq ?_)
       refine c_region ?_
       iterate 2 (refine oy hS y_move ?_)
       refine oy hS y_bin <| n_thenN ?_
       refine c_if (ht := fun c975 => ?_) (hf := fun c975 => ?_)
       · replace hF := bt c975 hF
         refine wp_skip <| c_seq <| c_block <| c_region <| oy hS y_move ?_
         refine oy hS (y_buildA (cl := (enc_Bundle ⟨(⟨0, 0, 0, 0, 0, ByteArray.empty⟩ : T_Ins), (⟨0, 0, 0, 0, 0, ByteArray.empty⟩ : T_Ins), (⟨0, 0, 0, 0, 0, ByteArray.empty⟩ : T_Ins), (⟨0, 0, 0, 0, 0, ByteArray.empty⟩ : T_Ins)⟩)) bta_api_Bundle rfl (by kernel_rfl)) ?_
         refine o_buildT val_Bundle ([(⟨(⟨0, 0, 0, 0, 0, ByteArray.empty⟩ : T_Ins), (⟨0, 0, 0, 0, 0, ByteArray.empty⟩ : T_Ins), (⟨0, 0, 0, 0, 0, ByteArray.empty⟩ : T_Ins), (⟨0, 0, 0, 0, 0, ByteArray.empty⟩ : T_Ins)⟩ : (A4 T_Ins))] : List (A4 T_Ins)) hS el_api_Bundle (fun _ => rfl) enc_len_Bundle (by decide) rfl (by decide) (hp := rfl) (h := ?_)
         clear hS; intro b976 w hS h977
         have hS : St W g [] ([(b976, blk (([(⟨(⟨0, 0, 0, 0, 0, ByteArray.empty⟩ : T_Ins), (⟨0, 0, 0, 0, 0, ByteArray.empty⟩ : T_Ins), (⟨0, 0, 0, 0, 0, ByteArray.empty⟩ : T_Ins), (⟨0, 0, 0, 0, 0, ByteArray.empty⟩ : T_Ins)⟩ : (A4 T_Ins))] : List (A4 T_Ins)).flatMap enc_Bundle) 34)] ++ ((b1, blk (cl_Script v0_0_ v0_1_ v0_2_ v0_3_ a0.S.Taken v0_5_ a0.S.PC v0_7_ a0.S.Stop v0_9_ a0.S.Jump a0.S.Delay v0_12_) 29) :: (LX959 ++ []))) w := hS
         obtain ⟨zs983, hzs983, hF⟩ := ob hF
         have hS := hS.re (.t .h (.t (.thereb _ .h) (.b .hb .n)))
         refine o_appPn (ys := ([(⟨(⟨0, 0, 0, 0, 0, ByteArray.empty⟩ : T_Ins), (⟨0, 0, 0, 0, 0, ByteArray.empty⟩ : T_Ins), (⟨0, 0, 0, 0, 0, ByteArray.empty⟩ : T_Ins), (⟨0, 0, 0, 0, 0, ByteArray.empty⟩ : T_Ins)⟩ : (A4 T_Ins))] : List (A4 T_Ins))) (LX := LX959) hzs983 hS el_api_Bundle h958 rfl enc_len_Bundle (enc_ones_Bundle _) (by decide) ?_
         clear hS; intro v979 LX980 w h981 hS
         refine oy hS y_assign ?_
         refine n_anyN ?_
         refine c_region <| oy hS y_move <| oy hS y_bin <| oy hS y_assign <| n_thenN ?_
         obtain rfl := osi hF
         exact ⟨_, hK972, v979, LX980, h981, mk_exF, (hS.re (.b (.there _ .hb) (.t .h .n)))⟩
       replace hF := bf c975 hF
       refine wp_exit ?_
       obtain rfl := osi hF
       obtain rfl : _ = z945 := hK972
       change ∃ _, _
       exact ⟨x956, v957, LX959, hK946, h958, mk_exF, (hS.re (.b .hb (.t .h .n)))⟩
     rintro a w ⟨x940, v941, LX943, hF, h942, ⟨s984, rfl⟩, hS⟩
     dsimp only [l7_HazardWrites_k3] at hF
     refine c_seq <| c_region <| oy hS y_move ?_
     refine oy hS (y_build (cl := (enc_Ins ⟨23, 3, 0, 0, 0, ByteArray.empty⟩)) bt_api_Ins rfl (by kernel_rfl)) ?_
     refine oy hS (y_buildA (cl := (enc_Bundle ⟨(⟨23, 3, 0, 0, 0, ByteArray.empty⟩ : T_Ins), (⟨0, 0, 0, 0, 0, ByteArray.empty⟩ : T_Ins), (⟨0, 0, 0, 0, 0, ByteArray.empty⟩ : T_Ins), (⟨0, 0, 0, 0, 0, ByteArray.empty⟩ : T_Ins)⟩)) bta_api_Bundle rfl (by kernel_rfl)) ?_
     refine oy hS (y_build (cl := (enc_Ins ⟨0, 0, 0, 0, 0, ByteArray.empty⟩)) bt_api_Ins rfl (by kernel_rfl)) ?_
     refine oy hS (y_build (cl := (enc_Ins ⟨21, 3, 0, 0, 0, ByteArray.empty⟩)) bt_api_Ins rfl (by kernel_rfl)) ?_
     refine oy hS (y_buildA (cl := (enc_Bundle ⟨(⟨0, 0, 0, 0, 0, ByteArray.empty⟩ : T_Ins), (⟨21, 3, 0, 0, 0, ByteArray.empty⟩ : T_Ins), (⟨0, 0, 0, 0, 0, ByteArray.empty⟩ : T_Ins), (⟨0, 0, 0, 0, 0, ByteArray.empty⟩ : T_Ins)⟩)) bta_api_Bundle rfl (by kernel_rfl)) ?_
     refine oy hS (y_build (cl := (enc_Ins ⟨23, 2, 0, 0, 0, ByteArray.empty⟩)) bt_api_Ins rfl (by kernel_rfl)) ?_
     refine oy hS (y_field fa_sledgelaw6_Script_2) <| oy hS (y_load (fun w hS => hS.own (mH)) underlying24 rfl rfl) <| oy hS (y_len h0_12_ underlying24) <| oy hS y_move <| oy hS y_bin ?_
     obtain ⟨x985, hx985, hF⟩ := ob hF
     refine oy hS (y_rem hx985) <| oy hS y_bin ?_
     refine oy hS (y_build (cl := (enc_Ins ⟨23, IntKind.i64.wrap (2 + x985), 0, 0, 0, ByteArray.empty⟩)) bt_api_Ins rfl (by kernel_rfl)) ?_
     refine oy hS (y_buildA (cl := (enc_Bundle ⟨(⟨23, 2, 0, 0, 0, ByteArray.empty⟩ : T_Ins), (⟨23, IntKind.i64.wrap (2 + x985), 0, 0, 0, ByteArray.empty⟩ : T_Ins), (⟨0, 0, 0, 0, 0, ByteArray.empty⟩ : T_Ins), (⟨0, 0, 0, 0, 0, ByteArray.empty⟩ : T_Ins)⟩)) bta_api_Bundle rfl (by kernel_rfl)) ?_
     refine o_buildT val_Bundle ([(⟨(⟨23, 3, 0, 0, 0, ByteArray.empty⟩ : T_Ins), (⟨0, 0, 0, 0, 0, ByteArray.empty⟩ : T_Ins), (⟨0, 0, 0, 0, 0, ByteArray.empty⟩ : T_Ins), (⟨0, 0, 0, 0, 0, ByteArray.empty⟩ : T_Ins)⟩ : (A4 T_Ins)), (⟨(⟨0, 0, 0, 0, 0, ByteArray.empty⟩ : T_Ins), (⟨21, 3, 0, 0, 0, ByteArray.empty⟩ : T_Ins), (⟨0, 0, 0, 0, 0, ByteArray.empty⟩ : T_Ins), (⟨0, 0, 0, 0, 0, ByteArray.empty⟩ : T_Ins)⟩ : (A4 T_Ins)), (⟨(⟨23, 2, 0, 0, 0, ByteArray.empty⟩ : T_Ins), (⟨23, IntKind.i64.wrap (2 + x985), 0, 0, 0, ByteArray.empty⟩ : T_Ins), (⟨0, 0, 0, 0, 0, ByteArray.empty⟩ : T_Ins), (⟨0, 0, 0, 0, 0, ByteArray.empty⟩ : T_Ins)⟩ : (A4 T_Ins))] : List (A4 T_Ins)) hS el_api_Bundle (fun _ => rfl) enc_len_Bundle (by decide) rfl (by decide) (hp := rfl) (h := ?_)
     clear hS; intro b986 w hS h987
     have hS : St W g [] ([(b986, blk (([(⟨(⟨23, 3, 0, 0, 0, ByteArray.empty⟩ : T_Ins), (⟨0, 0, 0, 0, 0, ByteArray.empty⟩ : T_Ins), (⟨0, 0, 0, 0, 0, ByteArray.empty⟩ : T_Ins), (⟨0, 0, 0, 0, 0, ByteArray.empty⟩ : T_Ins)⟩ : (A4 T_Ins)), (⟨(⟨0, 0, 0, 0, 0, ByteArray.empty⟩ : T_Ins), (⟨21, 3, 0, 0, 0, ByteArray.empty⟩ : T_Ins), (⟨0, 0, 0, 0, 0, ByteArray.empty⟩ : T_Ins), (⟨0, 0, 0, 0, 0, ByteArray.empty⟩ : T_Ins)⟩ : (A4 T_Ins)), (⟨(⟨23, 2, 0, 0, 0, ByteArray.empty⟩ : T_Ins), (⟨23, IntKind.i64.wrap (2 + x985), 0, 0, 0, ByteArray.empty⟩ : T_Ins), (⟨0, 0, 0, 0, 0, ByteArray.empty⟩ : T_Ins), (⟨0, 0, 0, 0, 0, ByteArray.empty⟩ : T_Ins)⟩ : (A4 T_Ins))] : List (A4 T_Ins)).flatMap enc_Bundle) 34)] ++ ((b1, blk (cl_Script v0_0_ v0_1_ v0_2_ v0_3_ a0.S.Taken v0_5_ a0.S.PC v0_7_ a0.S.Stop v0_9_ a0.S.Jump a0.S.Delay v0_12_) 29) :: (LX943 ++ []))) w := hS
     refine oy hS y_move ?_
     obtain ⟨x989, hx989, hF⟩ := ob hF
     obtain ⟨b990, c991, cl992, hv993, ha994, hb995, hl996, hc997⟩ := OwT.at hx989 h987 enc_len_Bundle
     refine oy hS (y_index hv993 ha994 hb995 underlying22 el_api_Bundle.size) ?_
     refine oy hS (y_loadN (vs := (enc_Bundle x989)) (fun w hS => hS.own (mA (mX hl996))) underlying34 rfl (by exact sz_api_Bundle) (fun j u hj => hc997 j u hj)) ?_
     refine o_buildT val_Bundle ([x989] : List (A4 T_Ins)) hS el_api_Bundle (fun _ => rfl) enc_len_Bundle (by decide) rfl (by decide) (hp := rfl) (h := ?_)
     clear hS; intro b998 w hS h999
     have hS : St W g [] ([(b998, blk (([x989] : List (A4 T_Ins)).flatMap enc_Bundle) 34)] ++ ([(b986, blk (([(⟨(⟨23, 3, 0, 0, 0, ByteArray.empty⟩ : T_Ins), (⟨0, 0, 0, 0, 0, ByteArray.empty⟩ : T_Ins), (⟨0, 0, 0, 0, 0, ByteArray.empty⟩ : T_Ins), (⟨0, 0, 0, 0, 0, ByteArray.empty⟩ : T_Ins)⟩ : (A4 T_Ins)), (⟨(⟨0, 0, 0, 0, 0, ByteArray.empty⟩ : T_Ins), (⟨21, 3, 0, 0, 0, ByteArray.empty⟩ : T_Ins), (⟨0, 0, 0, 0, 0, ByteArray.empty⟩ : T_Ins), (⟨0, 0, 0, 0, 0, ByteArray.empty⟩ : T_Ins)⟩ : (A4 T_Ins)), (⟨(⟨23, 2, 0, 0, 0, ByteArray.empty⟩ : T_Ins), (⟨23, IntKind.i64.wrap (2 + x985), 0, 0, 0, ByteArray.empty⟩ : T_Ins), (⟨0, 0, 0, 0, 0, ByteArray.empty⟩ : T_Ins), (⟨0, 0, 0, 0, 0, ByteArray.empty⟩ : T_Ins)⟩ : (A4 T_Ins))] : List (A4 T_Ins)).flatMap enc_Bundle) 34)] ++ ((b1, blk (cl_Script v0_0_ v0_1_ v0_2_ v0_3_ a0.S.Taken v0_5_ a0.S.PC v0_7_ a0.S.Stop v0_9_ a0.S.Jump a0.S.Delay v0_12_) 29) :: (LX943 ++ [])))) w := hS
     obtain ⟨zs1005, hzs1005, hF⟩ := ob hF
     have hS := hS.re (.t .h (.t (.there _ (.thereb _ .h)) (.t .h (.b .hb .n))))
     refine o_appPn (ys := ([x989] : List (A4 T_Ins))) (LX := LX943) hzs1005 hS el_api_Bundle h942 rfl enc_len_Bundle (enc_ones_Bundle _) (by decide) ?_
     clear hS; intro v1001 LX1002 w h1003 hS
     refine oy hS y_assign <| n_thenN <| c_seq <| c_region <| oy hS y_move ?_
     obtain ⟨r1006, hr1006, hF⟩ := ob hF
     refine o_callS hS func42 rfl rfl (hc := (w_l7_found (a0 := zs1005) (h0 := (OwT.plus h1003 hS (fun p hp => mA (hp)))) (hF := hr1006))) (h := ?_)
     clear hS; intro w hS
     refine oy hS y_not <| n_thenN ?_
     refine c_if (ht := fun c1007 => ?_) (hf := fun c1007 => ?_)
     · replace hF := bt c1007 hF
       refine c_seq <| c_region <| oy hS y_assign <| n_thenN ?_
       obtain rfl := osi hF
       obtain rfl : _ = z671 := hK896
       obtain rfl : _ = r := hK672
       exact wp_ret (wr1 hS)
     replace hF := bf c1007 hF
     refine wp_skip <| c_region <| oy hS y_move <| oy hS y_bin <| oy hS y_assign <| n_thenN ?_
     obtain rfl := osi hF
     exact ⟨_, hK896, mk_exF, (hS.re (.b (.there _ (.there _ .hb)) .n))⟩
   replace hF := bf c899 hF
   refine wp_exit ?_
   refine c_region <| oy hS y_move <| oy hS y_bin <| oy hS y_assign <| n_thenN ?_
   obtain rfl := osi hF
   obtain rfl : _ = z671 := hK896
   exact ⟨_, hK672, mk_exF, (hS.re (.b .hb .n))⟩
 replace hF := bf c675 hF
 refine wp_exit ?_
 refine c_seq <| c_region ?_
 obtain ⟨r1008, hr1008, hF⟩ := ob hF
 refine o_callS hS func36 rfl rfl (hc := (w_l7_wakes  (hF := hr1008))) (h := ?_)
 clear hS; intro w hS
 refine oy hS y_assign <| n_thenN ?_
 obtain rfl := osi hF
 obtain rfl : _ = r := hK672
 exact wp_ret (wr1 hS)
theorem w_l7_HazardWrites {g : Frag} {a0 : T_Script} {v0_ : Value} {r : Bool} (h0 : Rd_Script g a0 v0_) (hF : l7_HazardWrites a0 = some r) : LCs Tryz.prog 11 #[v0_] g (.bool r) := w_l7_HazardWrites_ h0 hF
end Go.Proofs.YthbpicnbkdbbmaaGreat
