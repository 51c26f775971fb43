/- The law PipePorts, lifted. Printed by lift.py. -/
import Derived.Test.YthbpicnbkdbbmaaGreatProg
import Derived.Test.YthbpicnbkdbbmaaGreatP9
import Derived.KernelRfl
namespace Go.Proofs.YthbpicnbkdbbmaaGreat
open Go Go.RowKit Fr
set_option linter.unusedVariables false
set_option linter.unusedSimpArgs false
set_option maxRecDepth 20000
open Tryz
set_option maxHeartbeats 2000000
noncomputable def l6_PipePorts_b2 (x2 : Int) : ((List (A4 T_Ins)) × Int) → Option (Step ((List (A4 T_Ins)) × Int) (Step (List (A4 T_Ins)) Bool)) := fun (x103, x108) => bif decide (x108 < (([(⟨26, 1, 0, 0, 0, ByteArray.empty⟩ : T_Ins), (⟨26, 2, 0, 0, 0, ByteArray.empty⟩ : T_Ins), (⟨25, 0, 3, 1, IntKind.i64.wrap (1 + x2), ByteArray.empty⟩ : T_Ins), (⟨24, 4, 3, 0, 1, ByteArray.empty⟩ : T_Ins), (⟨27, 0, 1, 0, 0, ByteArray.empty⟩ : T_Ins), (⟨27, 0, 2, 0, 0, ByteArray.empty⟩ : T_Ins), (⟨27, 0, 4, 0, 0, ByteArray.empty⟩ : T_Ins), (⟨26, 3, 0, 0, 0, ByteArray.empty⟩ : T_Ins), (⟨27, 0, 4, 0, 0, ByteArray.empty⟩ : T_Ins), (⟨33, 0, 0, 0, 0, ByteArray.empty⟩ : T_Ins)] : List T_Ins).length : Int)) then (at' ([(⟨26, 1, 0, 0, 0, ByteArray.empty⟩ : T_Ins), (⟨26, 2, 0, 0, 0, ByteArray.empty⟩ : T_Ins), (⟨25, 0, 3, 1, IntKind.i64.wrap (1 + x2), ByteArray.empty⟩ : T_Ins), (⟨24, 4, 3, 0, 1, ByteArray.empty⟩ : T_Ins), (⟨27, 0, 1, 0, 0, ByteArray.empty⟩ : T_Ins), (⟨27, 0, 2, 0, 0, ByteArray.empty⟩ : T_Ins), (⟨27, 0, 4, 0, 0, ByteArray.empty⟩ : T_Ins), (⟨26, 3, 0, 0, 0, ByteArray.empty⟩ : T_Ins), (⟨27, 0, 4, 0, 0, ByteArray.empty⟩ : T_Ins), (⟨33, 0, 0, 0, 0, ByteArray.empty⟩ : T_Ins)] : List T_Ins) x108).bind fun x134 => (l6_at x134).bind fun r143 => (app' x103 ([r143] : List (A4 T_Ins))).bind fun zs151 => some (.next (zs151, IntKind.i64.wrap (x108 + 1))) else some (.done (.next x103))
noncomputable def l6_PipePorts_k1  : (List (A4 T_Ins)) → Option Bool := fun x75 => (l6_runs x75 ([])).bind fun r153 => bif r153 then (l6_runs x75 ([5] : List Int)).bind fun r158 => bif r158 then (l6_runs x75 ([5, 6, 7] : List Int)).bind fun r163 => some (r163) else some (false) else some (false)
noncomputable def l6_PipePorts (a0 : T_Script) : Option Bool :=
  (rem' (a0.N.length : Int) 3).bind fun x2 => cut (σ := (List (A4 T_Ins))) (loop (σ := ((List (A4 T_Ins)) × Int)) (l6_PipePorts_b2 x2) ([], 0)) (l6_PipePorts_k1)
theorem w_l6_PipePorts_ {g : Frag} {a0 : T_Script} {v0_ : Value} {r : Bool} (h0 : Rd_Script g a0 v0_) (hF : l6_PipePorts a0 = some r) : LCs Tryz.prog 7 #[v0_] g (.bool r) := by
 obtain ⟨v0_0_, v0_1_, v0_2_, v0_3_, v0_5_, v0_7_, v0_9_, v0_12_, rfl, h0_0_, h0_1_, h0_2_, h0_3_, h0_5_, h0_7_, h0_9_, h0_12_⟩ := h0
 unfold l6_PipePorts at hF
 refine lc_body (k := 48) (av := [.agg (cl_Script v0_0_ v0_1_ v0_2_ v0_3_ a0.S.Taken v0_5_ a0.S.PC v0_7_ a0.S.Stop v0_9_ a0.S.Jump a0.S.Delay v0_12_).toArray]) func7 rfl rfl (h := fun W hS => ?_)
 refine c_seq <| c_region ?_
 refine o_boxP (cl := (cl_Script v0_0_ v0_1_ v0_2_ v0_3_ a0.S.Taken v0_5_ a0.S.PC v0_7_ a0.S.Stop v0_9_ a0.S.Jump a0.S.Delay v0_12_)) rfl hS ?_
 clear hS; intro b1 w hS
 refine oy hS y_assign <| n_thenN <| c_seq <| c_region ?_
 refine oy hS (y_build (cl := (enc_Ins ⟨26, 1, 0, 0, 0, ByteArray.empty⟩)) bt_api_Ins rfl (by kernel_rfl)) ?_
 refine oy hS (y_build (cl := (enc_Ins ⟨26, 2, 0, 0, 0, ByteArray.empty⟩)) bt_api_Ins rfl (by kernel_rfl)) ?_
 refine oy hS (y_field fa_sledgelaw6_Script_2) <| oy hS (y_load (fun w hS => hS.own (mH)) underlying24 rfl rfl) <| oy hS (y_len h0_12_ underlying24) ?_
 obtain ⟨x2, hx2, hF⟩ := ob hF
 refine oy hS (y_rem hx2) <| oy hS y_bin ?_
 refine oy hS (y_build (cl := (enc_Ins ⟨25, 0, 3, 1, IntKind.i64.wrap (1 + x2), ByteArray.empty⟩)) bt_api_Ins rfl (by kernel_rfl)) ?_
 refine oy hS (y_build (cl := (enc_Ins ⟨24, 4, 3, 0, 1, ByteArray.empty⟩)) bt_api_Ins rfl (by kernel_rfl)) ?_
 refine oy hS (y_build (cl := (enc_Ins ⟨27, 0, 1, 0, 0, ByteArray.empty⟩)) bt_api_Ins rfl (by kernel_rfl)) ?_
 refine oy hS (y_build (cl := (enc_Ins ⟨27, 0, 2, 0, 0, ByteArray.empty⟩)) bt_api_Ins rfl (by kernel_rfl)) ?_
 refine oy hS (y_build (cl := (enc_Ins ⟨27, 0, 4, 0, 0, ByteArray.empty⟩)) bt_api_Ins rfl (by kernel_rfl)) ?_
 refine oy hS (y_build (cl := (enc_Ins ⟨26, 3, 0, 0, 0, ByteArray.empty⟩)) bt_api_Ins rfl (by kernel_rfl)) ?_
 refine oy hS (y_build (cl := (enc_Ins ⟨27, 0, 4, 0, 0, ByteArray.empty⟩)) bt_api_Ins rfl (by kernel_rfl)) ?_
 refine oy hS (y_build (cl := (enc_Ins ⟨33, 0, 0, 0, 0, ByteArray.empty⟩)) bt_api_Ins rfl (by kernel_rfl)) ?_
 refine o_buildT val_Ins ([(⟨26, 1, 0, 0, 0, ByteArray.empty⟩ : T_Ins), (⟨26, 2, 0, 0, 0, ByteArray.empty⟩ : T_Ins), (⟨25, 0, 3, 1, IntKind.i64.wrap (1 + x2), ByteArray.empty⟩ : T_Ins), (⟨24, 4, 3, 0, 1, ByteArray.empty⟩ : T_Ins), (⟨27, 0, 1, 0, 0, ByteArray.empty⟩ : T_Ins), (⟨27, 0, 2, 0, 0, ByteArray.empty⟩ : T_Ins), (⟨27, 0, 4, 0, 0, ByteArray.empty⟩ : T_Ins), (⟨26, 3, 0, 0, 0, ByteArray.empty⟩ : T_Ins), (⟨27, 0, 4, 0, 0, ByteArray.empty⟩ : T_Ins), (⟨33, 0, 0, 0, 0, ByteArray.empty⟩ : T_Ins)] : List T_Ins) hS el_api_Ins (fun _ => rfl) enc_len_Ins (by decide) rfl (by decide) (hp := rfl) (h := ?_)
 clear hS; intro b3 w hS h4
 have hS : St W g [] ([(b3, blk (([(⟨26, 1, 0, 0, 0, ByteArray.empty⟩ : T_Ins), (⟨26, 2, 0, 0, 0, ByteArray.empty⟩ : T_Ins), (⟨25, 0, 3, 1, IntKind.i64.wrap (1 + x2), ByteArray.empty⟩ : T_Ins), (⟨24, 4, 3, 0, 1, ByteArray.empty⟩ : T_Ins), (⟨27, 0, 1, 0, 0, ByteArray.empty⟩ : T_Ins), (⟨27, 0, 2, 0, 0, ByteArray.empty⟩ : T_Ins), (⟨27, 0, 4, 0, 0, ByteArray.empty⟩ : T_Ins), (⟨26, 3, 0, 0, 0, ByteArray.empty⟩ : T_Ins), (⟨27, 0, 4, 0, 0, ByteArray.empty⟩ : T_Ins), (⟨33, 0, 0, 0, 0, ByteArray.empty⟩ : T_Ins)] : List T_Ins).flatMap enc_Ins) 31)] ++ ((b1, blk (cl_Script v0_0_ v0_1_ v0_2_ v0_3_ a0.S.Taken v0_5_ a0.S.PC v0_7_ a0.S.Stop v0_9_ a0.S.Jump a0.S.Delay v0_12_) 29) :: [])) w := hS
 refine oy hS y_assign <| n_thenN <| c_seq <| c_region <| oy hS y_assign <| n_thenN ?_
 obtain ⟨z80, hF, hK81⟩ := cut_step hF
 refine c_cutP (fun a w' => ∃ (x75 : (List (A4 T_Ins))) (v76 : Value) (LX78 : Own), l6_PipePorts_k1 x75 = some r ∧ OwT 34 enc_Bundle 24 x75 v76 LX78 ∧ (∃ s : Nat → Value, a = Ac ((Fm.dead 48 s).upd 4 v76)) ∧ St W g [] (LX78 ++ []) w') ?_ ?_
 · skip
   refine c_seq <| c_region <| oy hS y_assign <| n_thenN <| c_block ?_
   refine c_loopP hF (fun (q : ((List (A4 T_Ins)) × Int)) a w' => ∃ (v104 : Value) (LX106 : Own), OwT 34 enc_Bundle 24 q.1 v104 LX106 ∧ (∃ s : Nat → Value, a = Ac ((((Fm.dead 48 s).upd 3 (.slice (some ⟨b3, 0, none⟩) 10 10)).upd 4 v104).upd 5 (.int .i64 q.2))) ∧ St W g [] ([(b3, blk (([(⟨26, 1, 0, 0, 0, ByteArray.empty⟩ : T_Ins), (⟨26, 2, 0, 0, 0, ByteArray.empty⟩ : T_Ins), (⟨25, 0, 3, 1, IntKind.i64.wrap (1 + x2), ByteArray.empty⟩ : T_Ins), (⟨24, 4, 3, 0, 1, ByteArray.empty⟩ : T_Ins), (⟨27, 0, 1, 0, 0, ByteArray.empty⟩ : T_Ins), (⟨27, 0, 2, 0, 0, ByteArray.empty⟩ : T_Ins), (⟨27, 0, 4, 0, 0, ByteArray.empty⟩ : T_Ins), (⟨26, 3, 0, 0, 0, ByteArray.empty⟩ : T_Ins), (⟨27, 0, 4, 0, 0, ByteArray.empty⟩ : T_Ins), (⟨33, 0, 0, 0, 0, ByteArray.empty⟩ : T_Ins)] : List T_Ins).flatMap enc_Ins) 31)] ++ (LX106 ++ [])) w') ⟨(.slice none 0 0), [], (OwT.nil _ _ _), mk_exF, (hS.re (.t .h (.take (X := []) (.here [] _) .n)))⟩ ?_
   clear hS hF
   intro n131 q a w hI hq
   obtain ⟨x103, x108⟩ := q
   obtain ⟨v104, LX106, h105, ⟨s132, rfl⟩, hS⟩ := hq
   replace h105 : OwT 34 enc_Bundle 24 x103 v104 LX106 := h105
   obtain ⟨z128, hF, hK129⟩ := iter_step hI
   clear hI
   dsimp only [l6_PipePorts_b2] at hF
   iterate 2 (refine c_seq ?_)
   refine c_region ?_
   iterate 2 (refine oy hS y_move ?_)
   refine oy hS (y_lenO h4 underlying39) <| oy hS y_bin <| n_thenN ?_
   refine c_if (ht := fun c133 => ?_) (hf := fun c133 => ?_)
   · replace hF := bt c133 hF
     refine wp_skip <| c_seq <| c_block <| c_region ?_
     iterate 3 (refine oy hS y_move ?_)
     obtain ⟨x134, hx134, hF⟩ := ob hF
     obtain ⟨b135, c136, cl137, hv138, ha139, hb140, hl141, hc142⟩ := OwT.at hx134 h4 enc_len_Ins
     refine oy hS (y_index hv138 ha139 hb140 underlying39 el_api_Ins.size) ?_
     refine oy hS (y_loadN (vs := (enc_Ins x134)) (fun w hS => hS.own (mA (mX hl141))) underlying31 rfl (by exact sz_api_Ins) (fun j u hj => hc142 j u hj)) ?_
     obtain ⟨r143, hr143, hF⟩ := ob hF
     refine o_callS hS func15 rfl rfl (hc := (w_l6_at (a0 := x134) (hF := hr143))) (h := ?_)
     clear hS; intro w hS
     refine o_buildT val_Bundle ([r143] : List (A4 T_Ins)) hS el_api_Bundle (fun _ => rfl) enc_len_Bundle (by decide) rfl (by decide) (hp := rfl) (h := ?_)
     clear hS; intro b144 w hS h145
     have hS : St W g [] ([(b144, blk (([r143] : List (A4 T_Ins)).flatMap enc_Bundle) 34)] ++ ([(b3, blk (([(⟨26, 1, 0, 0, 0, ByteArray.empty⟩ : T_Ins), (⟨26, 2, 0, 0, 0, ByteArray.empty⟩ : T_Ins), (⟨25, 0, 3, 1, IntKind.i64.wrap (1 + x2), ByteArray.empty⟩ : T_Ins), (⟨24, 4, 3, 0, 1, ByteArray.empty⟩ : T_Ins), (⟨27, 0, 1, 0, 0, ByteArray.empty⟩ : T_Ins), (⟨27, 0, 2, 0, 0, ByteArray.empty⟩ : T_Ins), (⟨27, 0, 4, 0, 0, ByteArray.empty⟩ : T_Ins), (⟨26, 3, 0, 0, 0, ByteArray.empty⟩ : T_Ins), (⟨27, 0, 4, 0, 0, ByteArray.empty⟩ : T_Ins), (⟨33, 0, 0, 0, 0, ByteArray.empty⟩ : T_Ins)] : List T_Ins).flatMap enc_Ins) 31)] ++ (LX106 ++ []))) w := hS
     obtain ⟨zs151, hzs151, hF⟩ := ob hF
     have hS := hS.re (.t .h (.t (.there _ .h) (.t .h .n)))
     refine o_appPn (ys := ([r143] : List (A4 T_Ins))) (LX := LX106) hzs151 hS el_api_Bundle h105 rfl enc_len_Bundle (enc_ones_Bundle _) (by decide) ?_
     clear hS; intro v147 LX148 w h149 hS
     refine oy hS y_assign ?_
     refine n_anyN ?_
     refine c_region <| oy hS y_move <| oy hS y_bin <| oy hS y_assign <| n_thenN ?_
     obtain rfl := osi hF
     exact ⟨_, hK129, v147, LX148, h149, mk_exF, (hS.re (.t (.there _ .h) (.t .h .n)))⟩
   replace hF := bf c133 hF
   refine wp_exit ?_
   obtain rfl := osi hF
   obtain rfl : _ = z80 := hK129
   change ∃ _, _
   exact ⟨x103, v104, LX106, hK81, h105, mk_exF, (hS.re (.t (.there _ .h) .n))⟩
 rintro a w ⟨x75, v76, LX78, hF, h77, ⟨s152, rfl⟩, hS⟩
 dsimp only [l6_PipePorts_k1] at hF
 refine c_seq <| c_region <| oy hS y_move ?_
 obtain ⟨r153, hr153, hF⟩ := ob hF
 refine o_callS hS func16 rfl rfl (hc := (w_l6_runs (a0 := x75) (a1 := ([])) (h0 := (OwT.plus h77 hS (fun p hp => mA (hp)))) (h1 := (SlR.nil _ _)) (hF := hr153))) (h := ?_)
 clear hS; intro w hS
 refine o_split (ht := fun c154 => ?_) (hf := fun c154 => ?_)
 · replace hF := bt c154 hF
   refine o_gu rfl rfl rfl <| oy hS y_move <| o_gu rfl rfl rfl ?_
   refine o_buildT val_uint32 ([5] : List Int) hS el_uint32 (fun _ => rfl) enc_len_uint32 (by decide) rfl (by decide) (hp := rfl) (h := ?_)
   clear hS; intro b155 w hS h156
   have hS : St W g [] ([(b155, blk (([5] : List Int).flatMap enc_uint32) 40)] ++ (LX78 ++ [])) w := hS
   refine o_gu rfl rfl rfl ?_
   obtain ⟨r158, hr158, hF⟩ := ob hF
   refine o_callS hS func16 rfl rfl (hc := (w_l6_runs (a0 := x75) (a1 := ([5] : List Int)) (h0 := (OwT.plus h77 hS (fun p hp => mB (mA (hp))))) (h1 := (OwT.plus h156 hS (fun p hp => mA (hp)))) (hF := hr158))) (h := ?_)
   clear hS; intro w hS
   refine oy hS y_pickT ?_
   refine o_split (ht := fun c159 => ?_) (hf := fun c159 => ?_)
   · replace hF := bt c159 hF
     refine o_gu rfl rfl rfl <| oy hS y_move <| o_gu rfl rfl rfl ?_
     refine o_buildT val_uint32 ([5, 6, 7] : List Int) hS el_uint32 (fun _ => rfl) enc_len_uint32 (by decide) rfl (by decide) (hp := rfl) (h := ?_)
     clear hS; intro b160 w hS h161
     have hS : St W g [] ([(b160, blk (([5, 6, 7] : List Int).flatMap enc_uint32) 40)] ++ ([(b155, blk (([5] : List Int).flatMap enc_uint32) 40)] ++ (LX78 ++ []))) w := hS
     refine o_gu rfl rfl rfl ?_
     obtain ⟨r163, hr163, hF⟩ := ob hF
     refine o_callS hS func16 rfl rfl (hc := (w_l6_runs (a0 := x75) (a1 := ([5, 6, 7] : List Int)) (h0 := (OwT.plus h77 hS (fun p hp => mB (mB (mA (hp)))))) (h1 := (OwT.plus h161 hS (fun p hp => mA (hp)))) (hF := hr163))) (h := ?_)
     clear hS; intro w hS
     refine oy hS y_pickT <| oy hS y_assign <| n_thenN ?_
     obtain rfl := osi hF
     exact wp_ret (wr1 hS)
   replace hF := bf c159 hF
   iterate 3 (refine o_sk rfl rfl ?_)
   refine oy hS y_pickF <| oy hS y_assign <| n_thenN ?_
   obtain rfl := osi hF
   exact wp_ret (wr1 hS)
 replace hF := bf c154 hF
 iterate 3 (refine o_sk rfl rfl ?_)
 refine oy hS y_pickF <| oy hS y_move ?_
 iterate 3 (refine o_sk rfl rfl ?_)
 refine oy hS y_pickF <| oy hS y_assign <| n_thenN ?_
 obtain rfl := osi hF
 exact wp_ret (wr1 hS)
theorem w_l6_PipePorts {g : Frag} {a0 : T_Script} {v0_ : Value} {r : Bool} (h0 : Rd_Script g a0 v0_) (hF : l6_PipePorts a0 = some r) : LCs Tryz.prog 7 #[v0_] g (.bool r) := w_l6_PipePorts_ h0 hF
end Go.Proofs.YthbpicnbkdbbmaaGreat
