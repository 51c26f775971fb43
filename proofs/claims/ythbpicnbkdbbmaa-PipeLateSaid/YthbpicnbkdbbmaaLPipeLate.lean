/- The law PipeLate, lifted. Printed by lift.py. -/
import Derived.Test.YthbpicnbkdbbmaaProg
import Derived.Test.YthbpicnbkdbbmaaP1
import Derived.Test.YthbpicnbkdbbmaaP9
import Derived.KernelRfl
namespace Go.Proofs.Ythbpicnbkdbbmaa
open Go Go.RowKit Fr
set_option linter.unusedVariables false
set_option linter.unusedSimpArgs false
set_option maxRecDepth 20000
open Try
set_option maxHeartbeats 2000000
noncomputable def l6_PipeLate_k8 (x2739 : Int) (x2001 : Int) (r2874 : (T_State × Int × Int)) (r2906 : (T_State × Int)) : Unit → Option (Step Int (Step Int (Step Unit Bool))) := fun _ => bif decide (x2739 ≤ (r3_Latency x2001)) then (at' r2874.1.Regs 1).bind fun x2952 => bif decide (x2952 ≠ 11259375) then some (.done (.done (.done (false)))) else bif decide ((r3_Latency x2001) < x2739) then (at' r2874.1.Regs 1).bind fun x2963 => (at' r2906.1.Regs 1).bind fun x2972 => bif decide (x2963 ≠ x2972) then some (.done (.done (.done (false)))) else some (.next (IntKind.i64.wrap (x2739 + 1))) else some (.next (IntKind.i64.wrap (x2739 + 1))) else bif decide ((r3_Latency x2001) < x2739) then (at' r2874.1.Regs 1).bind fun x2983 => (at' r2906.1.Regs 1).bind fun x2992 => bif decide (x2983 ≠ x2992) then some (.done (.done (.done (false)))) else some (.next (IntKind.i64.wrap (x2739 + 1))) else some (.next (IntKind.i64.wrap (x2739 + 1)))
noncomputable def l6_PipeLate_b7 (r2606 : (A4 T_Ins)) (zs2585 : (List Int)) (zs2596 : (List Int)) (r2535 : T_State) (x2001 : Int) : Int → Option (Step Int (Step Int (Step Unit Bool))) := fun x2739 => bif decide (x2739 < 6) then (pipe_Run ([r2606, (⟨(⟨0, 0, 0, 0, 0, ByteArray.empty⟩ : T_Ins), (⟨0, 0, 0, 0, 0, ByteArray.empty⟩ : T_Ins), (⟨0, 0, 0, 0, 0, ByteArray.empty⟩ : T_Ins), (⟨0, 0, 0, 0, 0, ByteArray.empty⟩ : T_Ins)⟩ : (A4 T_Ins)), (⟨(⟨0, 0, 0, 0, 0, ByteArray.empty⟩ : T_Ins), (⟨0, 0, 0, 0, 0, ByteArray.empty⟩ : T_Ins), (⟨0, 0, 0, 0, 0, ByteArray.empty⟩ : T_Ins), (⟨0, 0, 0, 0, 0, ByteArray.empty⟩ : T_Ins)⟩ : (A4 T_Ins)), (⟨(⟨0, 0, 0, 0, 0, ByteArray.empty⟩ : T_Ins), (⟨0, 0, 0, 0, 0, ByteArray.empty⟩ : T_Ins), (⟨0, 0, 0, 0, 0, ByteArray.empty⟩ : T_Ins), (⟨0, 0, 0, 0, 0, ByteArray.empty⟩ : T_Ins)⟩ : (A4 T_Ins)), (⟨(⟨0, 0, 0, 0, 0, ByteArray.empty⟩ : T_Ins), (⟨0, 0, 0, 0, 0, ByteArray.empty⟩ : T_Ins), (⟨0, 0, 0, 0, 0, ByteArray.empty⟩ : T_Ins), (⟨0, 0, 0, 0, 0, ByteArray.empty⟩ : T_Ins)⟩ : (A4 T_Ins)), (⟨(⟨0, 0, 0, 0, 0, ByteArray.empty⟩ : T_Ins), (⟨0, 0, 0, 0, 0, ByteArray.empty⟩ : T_Ins), (⟨0, 0, 0, 0, 0, ByteArray.empty⟩ : T_Ins), (⟨0, 0, 0, 0, 0, ByteArray.empty⟩ : T_Ins)⟩ : (A4 T_Ins))] : List (A4 T_Ins)) (⟨zs2585, zs2596, r2535.In_, r2535.Taken, r2535.Out, r2535.PC, r2535.Stack, r2535.Stop, r2535.Fly, r2535.Jump, r2535.Delay⟩ : T_State) x2739).bind fun r2874 => (r5_Cycles ([r2606, (⟨(⟨0, 0, 0, 0, 0, ByteArray.empty⟩ : T_Ins), (⟨0, 0, 0, 0, 0, ByteArray.empty⟩ : T_Ins), (⟨0, 0, 0, 0, 0, ByteArray.empty⟩ : T_Ins), (⟨0, 0, 0, 0, 0, ByteArray.empty⟩ : T_Ins)⟩ : (A4 T_Ins)), (⟨(⟨0, 0, 0, 0, 0, ByteArray.empty⟩ : T_Ins), (⟨0, 0, 0, 0, 0, ByteArray.empty⟩ : T_Ins), (⟨0, 0, 0, 0, 0, ByteArray.empty⟩ : T_Ins), (⟨0, 0, 0, 0, 0, ByteArray.empty⟩ : T_Ins)⟩ : (A4 T_Ins)), (⟨(⟨0, 0, 0, 0, 0, ByteArray.empty⟩ : T_Ins), (⟨0, 0, 0, 0, 0, ByteArray.empty⟩ : T_Ins), (⟨0, 0, 0, 0, 0, ByteArray.empty⟩ : T_Ins), (⟨0, 0, 0, 0, 0, ByteArray.empty⟩ : T_Ins)⟩ : (A4 T_Ins)), (⟨(⟨0, 0, 0, 0, 0, ByteArray.empty⟩ : T_Ins), (⟨0, 0, 0, 0, 0, ByteArray.empty⟩ : T_Ins), (⟨0, 0, 0, 0, 0, ByteArray.empty⟩ : T_Ins), (⟨0, 0, 0, 0, 0, ByteArray.empty⟩ : T_Ins)⟩ : (A4 T_Ins)), (⟨(⟨0, 0, 0, 0, 0, ByteArray.empty⟩ : T_Ins), (⟨0, 0, 0, 0, 0, ByteArray.empty⟩ : T_Ins), (⟨0, 0, 0, 0, 0, ByteArray.empty⟩ : T_Ins), (⟨0, 0, 0, 0, 0, ByteArray.empty⟩ : T_Ins)⟩ : (A4 T_Ins))] : List (A4 T_Ins)) (⟨zs2585, zs2596, r2535.In_, r2535.Taken, r2535.Out, r2535.PC, r2535.Stack, r2535.Stop, r2535.Fly, r2535.Jump, r2535.Delay⟩ : T_State) x2739 false).bind fun r2906 => cut (σ := Unit) (bif decide ((l6_num r2874.2.2) ≠ 0) then some (.done (.done (.done (.done (false))))) else bif decide (r2874.2.1 ≠ x2739) then some (.done (.done (.done (.done (false))))) else (r0_EqState r2874.1 r2906.1).bind fun r2947 => bif !r2947 then some (.done (.done (.done (.done (false))))) else bif decide ((r2874.1.Regs.length : Int) ≠ 16) then some (.done (.done (.done (.done (false))))) else some (.next ())) (l6_PipeLate_k8 x2739 x2001 r2874 r2906) else some (.done (.next (IntKind.i64.wrap (x2001 + 1))))
noncomputable def l6_PipeLate_k6 (x2001 : Int) (x2526 : Int) (x2518 : Int) (zs2585 : (List Int)) (zs2596 : (List Int)) (r2535 : T_State) : Int → Option (Step Int (Step Unit Bool)) := fun x2601 => (l6_at (⟨x2001, 1, x2601, x2526, x2518, ByteArray.empty⟩ : T_Ins)).bind fun r2606 => loop (σ := Int) (l6_PipeLate_b7 r2606 zs2585 zs2596 r2535 x2001) 1
noncomputable def l6_PipeLate_k5 (x2001 : Int) (x2510 : Int) (x2518 : Int) : Int → Option (Step Int (Step Unit Bool)) := fun x2526 => (r5_New ([9] : List Int)).bind fun r2535 => (set' r2535.Regs 1 11259375).bind fun zs2574 => (set' zs2574 2 3).bind fun zs2585 => (set' r2535.Mem 0 8).bind fun zs2596 => cut (σ := Int) (bif decide (x2001 = 24) then some (.next 4) else some (.next x2510)) (l6_PipeLate_k6 x2001 x2526 x2518 zs2585 zs2596 r2535)
noncomputable def l6_PipeLate_k4 (x2001 : Int) (x2510 : Int) : Int → Option (Step Int (Step Unit Bool)) := fun x2518 => cut (σ := Int) ((r3_Form x2001).bind fun r2529 => bif decide (r2529 = 1) then some (.next 2) else some (.next 0)) (l6_PipeLate_k5 x2001 x2510 x2518)
noncomputable def l6_PipeLate_k3 (x2001 : Int) : Int → Option (Step Int (Step Unit Bool)) := fun x2510 => cut (σ := Int) (bif decide (x2001 = 23) then some (.next 5) else bif decide (x2001 = 22) then some (.next 5) else some (.next 0)) (l6_PipeLate_k4 x2001 x2510)
noncomputable def l6_PipeLate_b2  : Int → Option (Step Int (Step Unit Bool)) := fun x2001 => bif decide (x2001 ≤ 26) then (r3_Form x2001).bind fun r2506 => bif !(r3_HasD r2506) then some (.next (IntKind.i64.wrap (x2001 + 1))) else cut (σ := Int) ((r3_Form x2001).bind fun r2513 => bif (r3_HasA r2513) then some (.next 2) else some (.next 0)) (l6_PipeLate_k3 x2001) else some (.done (.next ()))
noncomputable def l6_PipeLate_k1 (a0 : T_Script) : Unit → Option Bool := fun _ => bif decide (0 ≤ (a0.N.length : Int)) then (l6_wakes).bind fun r3004 => some (r3004) else some (false)
noncomputable def l6_PipeLate (a0 : T_Script) : Option Bool :=
  cut (σ := Unit) (loop (σ := Int) (l6_PipeLate_b2) 1) (l6_PipeLate_k1 a0)
theorem w_l6_PipeLate_ {g : Frag} {a0 : T_Script} {v0_ : Value} {r : Bool} (h0 : Rd_Script g a0 v0_) (hF : l6_PipeLate a0 = some r) : LCs Try.prog 3 #[v0_] g (.bool r) := by
 obtain ⟨v0_0_, v0_1_, v0_2_, v0_3_, v0_5_, v0_7_, v0_9_, v0_12_, rfl, h0_0_, h0_1_, h0_2_, h0_3_, h0_5_, h0_7_, h0_9_, h0_12_⟩ := h0
 unfold l6_PipeLate at hF
 refine lc_body (k := 132) (av := [.agg (cl_Script v0_0_ v0_1_ v0_2_ v0_3_ a0.S.Taken v0_5_ a0.S.PC v0_7_ a0.S.Stop v0_9_ a0.S.Jump a0.S.Delay v0_12_).toArray]) func3 rfl rfl (h := fun W hS => ?_)
 refine c_seq <| c_region ?_
 refine o_boxP (cl := (cl_Script v0_0_ v0_1_ v0_2_ v0_3_ a0.S.Taken v0_5_ a0.S.PC v0_7_ a0.S.Stop v0_9_ a0.S.Jump a0.S.Delay v0_12_)) rfl hS ?_
 clear hS; intro b1 w hS
 refine oy hS y_assign <| n_thenN ?_
 obtain ⟨z1501, hF, hK1502⟩ := cut_step hF
 refine c_cutP (fun a w' => l6_PipeLate_k1 a0 () = some r ∧ (∃ s : Nat → Value, a = Ac ((Fm.dead 132 s).upd 1 (.pointer (some ⟨b1, 0, none⟩)))) ∧ St W g [] ((b1, blk (cl_Script v0_0_ v0_1_ v0_2_ v0_3_ a0.S.Taken v0_5_ a0.S.PC v0_7_ a0.S.Stop v0_9_ a0.S.Jump a0.S.Delay v0_12_) 29) :: []) w') ?_ ?_
 · skip
   refine c_seq <| c_region <| oy hS y_assign <| n_thenN <| c_block ?_
   refine c_loopP hF (fun (q : Int) a w' => (∃ s : Nat → Value, a = Ac (((Fm.dead 132 s).upd 1 (.pointer (some ⟨b1, 0, none⟩))).upd 3 (.int .i64 q))) ∧ St W g [] ((b1, blk (cl_Script v0_0_ v0_1_ v0_2_ v0_3_ a0.S.Taken v0_5_ a0.S.PC v0_7_ a0.S.Stop v0_9_ a0.S.Jump a0.S.Delay v0_12_) 29) :: []) w') ⟨mk_exF, (hS.re (.b .hb .n))⟩ ?_
   clear hS hF
   intro n2502 q a w hI hq
   revert hq hI; revert q; intro x2001 hI hq
   obtain ⟨⟨s2503, rfl⟩, hS⟩ := hq
   obtain ⟨z2500, hF, hK2501⟩ := iter_step hI
   clear hI
   dsimp only [l6_PipeLate_b2] at hF
   iterate 2 (refine c_seq ?_)
   refine c_region <| oy hS y_move <| oy hS y_bin <| n_thenN ?_
   refine c_if (ht := fun c2504 => ?_) (hf := fun c2504 => ?_)
   · replace hF := bt c2504 hF
     refine wp_skip <| c_seq <| c_block <| c_seq <| c_region <| oy hS y_move ?_
     refine oy hS (y_build (cl := (enc_Ins ⟨x2001, 1, 0, 0, 0, ByteArray.empty⟩)) bt_api_Ins rfl (by kernel_rfl)) ?_
     refine o_allocP (cl := (enc_Ins ⟨0, 0, 0, 0, 0, ByteArray.empty⟩)) zr_api_Ins rfl hS ?_
     clear hS; intro b2505 w hS
     refine o_storeW (vs := (enc_Ins ⟨x2001, 1, 0, 0, 0, ByteArray.empty⟩)) hS (by exact rfl) (Upd.here _) (by exact sz_api_Ins) (enc_one_Ins _) ?_
     clear hS; intro w hS
     refine n_thenN ?_
     iterate 2 (refine c_seq ?_)
     refine c_region <| oy hS y_move ?_
     obtain ⟨r2506, hr2506, hF⟩ := ob hF
     refine o_callS hS func6 rfl rfl (hc := (w_r3_Form (a0 := x2001) (hF := hr2506))) (h := ?_)
     clear hS; intro w hS
     refine o_callS hS func5 rfl rfl (hc := (w_r3_HasD (a0 := r2506))) (h := ?_)
     clear hS; intro w hS
     refine oy hS y_not <| n_thenN ?_
     refine c_if (ht := fun c2507 => ?_) (hf := fun c2507 => ?_)
     · replace hF := bt c2507 hF
       refine wp_exit ?_
       refine c_region <| oy hS y_move <| oy hS y_bin <| oy hS y_assign <| n_thenN ?_
       obtain rfl := osi hF
       exact ⟨_, hK2501, mk_exF, (hS.re (.b (.thereb _ .hb) .n))⟩
     replace hF := bf c2507 hF
     refine wp_skip ?_
     obtain ⟨z2511, hF, hK2512⟩ := cut_step hF
     refine c_cutP (fun a w' => ∃ (x2510 : Int), l6_PipeLate_k3 x2001 x2510 = some z2500 ∧ (∃ s : Nat → Value, a = Ac ((((Fm.dead 132 s).upd 1 (.pointer (some ⟨b1, 0, none⟩))).upd 3 (.int .i64 x2001)).upd 4 (.pointer (some ⟨b2505, 0, none⟩)))) ∧ St W g [] ((b1, blk (cl_Script v0_0_ v0_1_ v0_2_ v0_3_ a0.S.Taken v0_5_ a0.S.PC v0_7_ a0.S.Stop v0_9_ a0.S.Jump a0.S.Delay v0_12_) 29) :: ((b2505, blk (enc_Ins ⟨x2001, 1, x2510, 0, 0, ByteArray.empty⟩) 31) :: [])) w') ?_ ?_
     · skip
       refine c_seq <| c_region <| oy hS y_move ?_
       obtain ⟨r2513, hr2513, hF⟩ := ob hF
       refine o_callS hS func6 rfl rfl (hc := (w_r3_Form (a0 := x2001) (hF := hr2513))) (h := ?_)
       clear hS; intro w hS
       refine o_callS hS func7 rfl rfl (hc := (w_r3_HasA (a0 := r2513))) (h := ?_)
       clear hS; intro w hS
       refine n_thenN ?_
       refine c_if (ht := fun c2514 => ?_) (hf := fun c2514 => ?_)
       · replace hF := bt c2514 hF
         refine c_region <| oy hS (y_field fa_api_Ins_2) ?_
         refine o_storeA1 (o := 2) (cl' := (enc_Ins ⟨x2001, 1, 2, 0, 0, ByteArray.empty⟩)) hS (by kernel_rfl) (by exact Nat.le_of_ble_eq_true rfl) (Upd.here _) (by exact sz_int) rfl rfl ?_
         clear hS; intro w hS
         refine n_thenN ?_
         obtain rfl := osi hF
         change ∃ _, _
         exact ⟨2, hK2512, mk_exF, (hS.re (.b (.thereb _ .hb) (.b .hb .n)))⟩
       replace hF := bf c2514 hF
       refine wp_skip ?_
       obtain rfl := osi hF
       change ∃ _, _
       exact ⟨0, hK2512, mk_exF, (hS.re (.b (.thereb _ .hb) (.b .hb .n)))⟩
     rintro a w ⟨x2510, hF, ⟨s2515, rfl⟩, hS⟩
     dsimp only [l6_PipeLate_k3] at hF
     obtain ⟨z2519, hF, hK2520⟩ := cut_step hF
     refine c_cutP (fun a w' => ∃ (x2518 : Int), l6_PipeLate_k4 x2001 x2510 x2518 = some z2500 ∧ (∃ s : Nat → Value, a = Ac ((((Fm.dead 132 s).upd 1 (.pointer (some ⟨b1, 0, none⟩))).upd 3 (.int .i64 x2001)).upd 4 (.pointer (some ⟨b2505, 0, none⟩)))) ∧ St W g [] ((b1, blk (cl_Script v0_0_ v0_1_ v0_2_ v0_3_ a0.S.Taken v0_5_ a0.S.PC v0_7_ a0.S.Stop v0_9_ a0.S.Jump a0.S.Delay v0_12_) 29) :: ((b2505, blk (enc_Ins ⟨x2001, 1, x2510, 0, x2518, ByteArray.empty⟩) 31) :: [])) w') ?_ ?_
     · skip
       refine c_seq <| c_region <| oy hS y_move <| oy hS y_bin ?_
       refine o_split (ht := fun c2521 => ?_) (hf := fun c2521 => ?_)
       · replace hF := bt c2521 hF
         iterate 2 (refine o_sk rfl rfl ?_)
         refine oy hS y_pickT <| n_thenN ?_
         refine c_if_true (h := ?_)
         refine c_region <| oy hS (y_field fa_api_Ins_4) ?_
         refine o_storeA1 (o := 4) (cl' := (enc_Ins ⟨x2001, 1, x2510, 0, 5, ByteArray.empty⟩)) hS (by kernel_rfl) (by exact Nat.le_of_ble_eq_true rfl) (Upd.there _ (Upd.here _)) (by exact sz_int) rfl rfl ?_
         clear hS; intro w hS
         refine n_thenN ?_
         obtain rfl := osi hF
         change ∃ _, _
         exact ⟨5, hK2520, mk_exF, (hS.re (.b .hb (.b .hb .n)))⟩
       replace hF := bf c2521 hF
       refine o_gu rfl rfl rfl <| oy hS y_move <| o_gu rfl rfl rfl <| oy hS y_bin <| oy hS y_pickF <| n_thenN ?_
       refine c_if (ht := fun c2522 => ?_) (hf := fun c2522 => ?_)
       · replace hF := bt c2522 hF
         refine c_region <| oy hS (y_field fa_api_Ins_4) ?_
         refine o_storeA1 (o := 4) (cl' := (enc_Ins ⟨x2001, 1, x2510, 0, 5, ByteArray.empty⟩)) hS (by kernel_rfl) (by exact Nat.le_of_ble_eq_true rfl) (Upd.there _ (Upd.here _)) (by exact sz_int) rfl rfl ?_
         clear hS; intro w hS
         refine n_thenN ?_
         obtain rfl := osi hF
         change ∃ _, _
         exact ⟨5, hK2520, mk_exF, (hS.re (.b .hb (.b .hb .n)))⟩
       replace hF := bf c2522 hF
       refine wp_skip ?_
       obtain rfl := osi hF
       change ∃ _, _
       exact ⟨0, hK2520, mk_exF, (hS.re (.b .hb (.b .hb .n)))⟩
     rintro a w ⟨x2518, hF, ⟨s2523, rfl⟩, hS⟩
     dsimp only [l6_PipeLate_k4] at hF
     obtain ⟨z2527, hF, hK2528⟩ := cut_step hF
     refine c_cutP (fun a w' => ∃ (x2526 : Int), l6_PipeLate_k5 x2001 x2510 x2518 x2526 = some z2500 ∧ (∃ s : Nat → Value, a = Ac ((((Fm.dead 132 s).upd 1 (.pointer (some ⟨b1, 0, none⟩))).upd 3 (.int .i64 x2001)).upd 4 (.pointer (some ⟨b2505, 0, none⟩)))) ∧ St W g [] ((b1, blk (cl_Script v0_0_ v0_1_ v0_2_ v0_3_ a0.S.Taken v0_5_ a0.S.PC v0_7_ a0.S.Stop v0_9_ a0.S.Jump a0.S.Delay v0_12_) 29) :: ((b2505, blk (enc_Ins ⟨x2001, 1, x2510, x2526, x2518, ByteArray.empty⟩) 31) :: [])) w') ?_ ?_
     · skip
       refine c_seq <| c_region <| oy hS y_move ?_
       obtain ⟨r2529, hr2529, hF⟩ := ob hF
       refine o_callS hS func6 rfl rfl (hc := (w_r3_Form (a0 := x2001) (hF := hr2529))) (h := ?_)
       clear hS; intro w hS
       refine oy hS y_bin <| n_thenN ?_
       refine c_if (ht := fun c2530 => ?_) (hf := fun c2530 => ?_)
       · replace hF := bt c2530 hF
         refine c_region <| oy hS (y_field fa_api_Ins_3) ?_
         refine o_storeA1 (o := 3) (cl' := (enc_Ins ⟨x2001, 1, x2510, 2, x2518, ByteArray.empty⟩)) hS (by kernel_rfl) (by exact Nat.le_of_ble_eq_true rfl) (Upd.there _ (Upd.here _)) (by exact sz_int) rfl rfl ?_
         clear hS; intro w hS
         refine n_thenN ?_
         obtain rfl := osi hF
         change ∃ _, _
         exact ⟨2, hK2528, mk_exF, (hS.re (.b .hb (.b .hb .n)))⟩
       replace hF := bf c2530 hF
       refine wp_skip ?_
       obtain rfl := osi hF
       change ∃ _, _
       exact ⟨0, hK2528, mk_exF, (hS.re (.b .hb (.b .hb .n)))⟩
     rintro a w ⟨x2526, hF, ⟨s2531, rfl⟩, hS⟩
     dsimp only [l6_PipeLate_k5] at hF
     refine c_seq <| c_region ?_
     refine o_buildT val_uint32 ([9] : List Int) hS el_uint32 (fun _ => rfl) enc_len_uint32 (by decide) rfl (by decide) (hp := rfl) (h := ?_)
     clear hS; intro b2532 w hS h2533
     have hS : St W g [] ([(b2532, blk (([9] : List Int).flatMap enc_uint32) 35)] ++ ((b1, blk (cl_Script v0_0_ v0_1_ v0_2_ v0_3_ a0.S.Taken v0_5_ a0.S.PC v0_7_ a0.S.Stop v0_9_ a0.S.Jump a0.S.Delay v0_12_) 29) :: ((b2505, blk (enc_Ins ⟨x2001, 1, x2510, x2526, x2518, ByteArray.empty⟩) 31) :: []))) w := hS
     obtain ⟨r2535, hr2535, hF⟩ := ob hF
     refine o_call0 hS func8 rfl rfl (hc := (w_r5_New (a0 := ([9] : List Int)) (h0 := (OwT.plus h2533 hS (fun p hp => mA (hp)))) (hF := hr2535))) (h := ?_)
     clear hS; intro v2536 LY2537 w hS hr2538
     obtain ⟨v_0_2539, LX_0_2540, rfl, rfl, h_0_2541⟩ := hr2538
     obtain ⟨vR0_0_2542, vR0_1_2546, vR0_2_2550, vR0_4_2554, vR0_6_2558, vR0_8_2562, LXR0_0_2543, LXR0_1_2547, LXR0_2_2551, LXR0_4_2555, LXR0_6_2559, LXR0_8_2563, rfl, rfl, hR0_0_2544, hR0_1_2548, hR0_2_2552, hR0_4_2556, hR0_6_2560, hR0_8_2564⟩ := h_0_2541
     simp only [aa, ac, al] at hS
     have hS : St W g [] (LXR0_0_2543 ++ (LXR0_1_2547 ++ (LXR0_2_2551 ++ (LXR0_4_2555 ++ (LXR0_6_2559 ++ (LXR0_8_2563 ++ ([(b2532, blk (([9] : List Int).flatMap enc_uint32) 35)] ++ ((b1, blk (cl_Script v0_0_ v0_1_ v0_2_ v0_3_ a0.S.Taken v0_5_ a0.S.PC v0_7_ a0.S.Stop v0_9_ a0.S.Jump a0.S.Delay v0_12_) 29) :: ((b2505, blk (enc_Ins ⟨x2001, 1, x2510, x2526, x2518, ByteArray.empty⟩) 31) :: []))))))))) w := hS
     refine o_allocP (cl := (cl_State (.slice none 0 0) (.slice none 0 0) (.slice none 0 0) 0 (.slice none 0 0) 0 (.slice none 0 0) 0 (.slice none 0 0) 0 0)) zr_api_State rfl hS ?_
     clear hS; intro b2566 w hS
     refine o_storeW (vs := (cl_State vR0_0_2542 vR0_1_2546 vR0_2_2550 r2535.Taken vR0_4_2554 r2535.PC vR0_6_2558 r2535.Stop vR0_8_2562 r2535.Jump r2535.Delay)) hS (by exact rfl) (Upd.here _) (by exact sz_api_State) (one_State (hR0_0_2544).one (hR0_1_2548).one (hR0_2_2552).one (hR0_4_2556).one (hR0_6_2560).one (hR0_8_2564).one) ?_
     clear hS; intro w hS
     refine n_thenN <| c_seq ?_
     refine c_heldB (CB g ((b2566, blk (cl_State vR0_0_2542 vR0_1_2546 vR0_2_2550 r2535.Taken vR0_4_2554 r2535.PC vR0_6_2558 r2535.Stop vR0_8_2562 r2535.Jump r2535.Delay) 27) :: (LXR0_2_2551 ++ (LXR0_4_2555 ++ (LXR0_6_2559 ++ (LXR0_8_2563 ++ ([(b2532, blk (([9] : List Int).flatMap enc_uint32) 35)] ++ ((b1, blk (cl_Script v0_0_ v0_1_ v0_2_ v0_3_ a0.S.Taken v0_5_ a0.S.PC v0_7_ a0.S.Stop v0_9_ a0.S.Jump a0.S.Delay v0_12_) 29) :: ((b2505, blk (enc_Ins ⟨x2001, 1, x2510, x2526, x2518, ByteArray.empty⟩) 31) :: []))))))))) 12 12 (by kernel_rfl) rfl hS ?_
     clear hS; intro w hS
     refine hy0 0 rfl wn (by kernel_rfl) (nq (P := Try.prog) (fn := Try.f3)) (fun _ => (hS.re (.b .hb (.t (.there _ (.there _ .h)) (.t (.there _ (.there _ .h)) (.t (.there _ (.there _ .h)) (.t (.there _ (.there _ .h)) (.t (.there _ (.there _ .h)) (.b (.there _ (.there _ .hb)) (.b (.there _ (.there _ .hb)) .n))))))))).cb) (y_field fa_api_State_0) ?_
     refine hy 1 rfl wn (by kernel_rfl) (nq (P := Try.prog) (fn := Try.f3)) ((hS.re (.b .hb (.t (.there _ (.there _ .h)) (.t (.there _ (.there _ .h)) (.t (.there _ (.there _ .h)) (.t (.there _ (.there _ .h)) (.t (.there _ (.there _ .h)) (.b (.there _ (.there _ .hb)) (.b (.there _ (.there _ .hb)) .n))))))))).cb) (y_load (fun w hS => hS.own (mH)) underlying23 rfl rfl) ?_
     refine hy0 2 rfl wn (by kernel_rfl) (nq (P := Try.prog) (fn := Try.f3)) (fun _ => (hS.re (.b .hb (.t (.there _ (.there _ .h)) (.t (.there _ (.there _ .h)) (.t (.there _ (.there _ .h)) (.t (.there _ (.there _ .h)) (.t (.there _ (.there _ .h)) (.b (.there _ (.there _ .hb)) (.b (.there _ (.there _ .hb)) .n))))))))).cb) (y_field fa_api_State_0) ?_
     refine hy 3 rfl wn (by kernel_rfl) (nq (P := Try.prog) (fn := Try.f3)) ((hS.re (.b .hb (.t (.there _ (.there _ .h)) (.t (.there _ (.there _ .h)) (.t (.there _ (.there _ .h)) (.t (.there _ (.there _ .h)) (.t (.there _ (.there _ .h)) (.b (.there _ (.there _ .hb)) (.b (.there _ (.there _ .hb)) .n))))))))).cb) (y_load (fun w hS => hS.own (mH)) underlying23 rfl rfl) ?_
     refine hy0 4 rfl wn (by kernel_rfl) (nq (P := Try.prog) (fn := Try.f3)) (fun _ => (hS.re (.b .hb (.t (.there _ (.there _ .h)) (.t (.there _ (.there _ .h)) (.t (.there _ (.there _ .h)) (.t (.there _ (.there _ .h)) (.t (.there _ (.there _ .h)) (.b (.there _ (.there _ .hb)) (.b (.there _ (.there _ .hb)) .n))))))))).cb) (y_field fa_api_State_1) ?_
     refine hy 5 rfl wn (by kernel_rfl) (nq (P := Try.prog) (fn := Try.f3)) ((hS.re (.b .hb (.t (.there _ (.there _ .h)) (.t (.there _ (.there _ .h)) (.t (.there _ (.there _ .h)) (.t (.there _ (.there _ .h)) (.t (.there _ (.there _ .h)) (.b (.there _ (.there _ .hb)) (.b (.there _ (.there _ .hb)) .n))))))))).cb) (y_load (fun w hS => hS.own (mH)) underlying23 rfl rfl) ?_
     obtain ⟨zs2574, hzs2574, hF⟩ := ob hF
     obtain ⟨b2567, c2568, cl2569, hv2570, ha2571, hb2572, hl2573⟩ := OwT.at_set hzs2574 hR0_0_2544 enc_len_uint32
     refine hy0 6 rfl wn (by kernel_rfl) (nq (P := Try.prog) (fn := Try.f3)) (fun _ => (hS.re (.b .hb (.t (.there _ (.there _ .h)) (.t (.there _ (.there _ .h)) (.t (.there _ (.there _ .h)) (.t (.there _ (.there _ .h)) (.t (.there _ (.there _ .h)) (.b (.there _ (.there _ .hb)) (.b (.there _ (.there _ .hb)) .n))))))))).cb) (y_index hv2570 ha2571 hb2572 underlying23 el_uint32.size) ?_
     refine hb1 7 (by kernel_rfl) (hb_op rfl wn (nl (P := Try.prog) (fn := Try.f3)) ?_)
     refine o_storeO (L' := fun X => ((b2566, blk (cl_State vR0_0_2542 vR0_1_2546 vR0_2_2550 r2535.Taken vR0_4_2554 r2535.PC vR0_6_2558 r2535.Stop vR0_8_2562 r2535.Jump r2535.Delay) 27) :: (X ++ (LXR0_1_2547 ++ (LXR0_2_2551 ++ (LXR0_4_2555 ++ (LXR0_6_2559 ++ (LXR0_8_2563 ++ ([(b2532, blk (([9] : List Int).flatMap enc_uint32) 35)] ++ ((b1, blk (cl_Script v0_0_ v0_1_ v0_2_ v0_3_ a0.S.Taken v0_5_ a0.S.PC v0_7_ a0.S.Stop v0_9_ a0.S.Jump a0.S.Delay v0_12_) 29) :: ((b2505, blk (enc_Ins ⟨x2001, 1, x2510, x2526, x2518, ByteArray.empty⟩) 31) :: []))))))))))) hzs2574 hS hR0_0_2544 hl2573 (fun X => .thereb _ (.here _)) enc_len_uint32 rfl (by exact sz_uint32) rfl rfl ?_
     clear hS; intro LX2575 w h2576 hS
     refine hb_next (fun _ => (hS.re (.b .hb (.t (.there _ (.there _ .h)) (.t (.there _ (.there _ .h)) (.t (.there _ (.there _ .h)) (.t (.there _ (.there _ .h)) (.t (.there _ (.there _ .h)) (.b (.there _ (.there _ .hb)) (.b (.there _ (.there _ .hb)) .n))))))))).cb) ?_
     obtain ⟨zs2585, hzs2585, hF⟩ := ob hF
     obtain ⟨b2578, c2579, cl2580, hv2581, ha2582, hb2583, hl2584⟩ := OwT.at_set hzs2585 h2576 enc_len_uint32
     refine hy0 8 rfl wn (by kernel_rfl) (nq (P := Try.prog) (fn := Try.f3)) (fun _ => (hS.re (.b .hb (.t (.there _ (.there _ .h)) (.t (.there _ (.there _ .h)) (.t (.there _ (.there _ .h)) (.t (.there _ (.there _ .h)) (.t (.there _ (.there _ .h)) (.b (.there _ (.there _ .hb)) (.b (.there _ (.there _ .hb)) .n))))))))).cb) (y_index hv2581 ha2582 hb2583 underlying23 el_uint32.size) ?_
     refine hb1 9 (by kernel_rfl) (hb_op rfl wn (nl (P := Try.prog) (fn := Try.f3)) ?_)
     refine o_storeO (L' := fun X => ((b2566, blk (cl_State vR0_0_2542 vR0_1_2546 vR0_2_2550 r2535.Taken vR0_4_2554 r2535.PC vR0_6_2558 r2535.Stop vR0_8_2562 r2535.Jump r2535.Delay) 27) :: (X ++ (LXR0_1_2547 ++ (LXR0_2_2551 ++ (LXR0_4_2555 ++ (LXR0_6_2559 ++ (LXR0_8_2563 ++ ([(b2532, blk (([9] : List Int).flatMap enc_uint32) 35)] ++ ((b1, blk (cl_Script v0_0_ v0_1_ v0_2_ v0_3_ a0.S.Taken v0_5_ a0.S.PC v0_7_ a0.S.Stop v0_9_ a0.S.Jump a0.S.Delay v0_12_) 29) :: ((b2505, blk (enc_Ins ⟨x2001, 1, x2510, x2526, x2518, ByteArray.empty⟩) 31) :: []))))))))))) hzs2585 hS h2576 hl2584 (fun X => .thereb _ (.here _)) enc_len_uint32 rfl (by exact sz_uint32) rfl rfl ?_
     clear hS; intro LX2586 w h2587 hS
     refine hb_next (fun _ => (hS.re (.b .hb (.t (.there _ (.there _ .h)) (.t (.there _ (.there _ .h)) (.t (.there _ (.there _ .h)) (.t (.there _ (.there _ .h)) (.t (.there _ (.there _ .h)) (.b (.there _ (.there _ .hb)) (.b (.there _ (.there _ .hb)) .n))))))))).cb) ?_
     obtain ⟨zs2596, hzs2596, hF⟩ := ob hF
     obtain ⟨b2589, c2590, cl2591, hv2592, ha2593, hb2594, hl2595⟩ := OwT.at_set hzs2596 hR0_1_2548 enc_len_uint32
     refine hy0 10 rfl wn (by kernel_rfl) (nq (P := Try.prog) (fn := Try.f3)) (fun _ => (hS.re (.b .hb (.t (.there _ (.there _ .h)) (.t (.there _ (.there _ .h)) (.t (.there _ (.there _ .h)) (.t (.there _ (.there _ .h)) (.t (.there _ (.there _ .h)) (.b (.there _ (.there _ .hb)) (.b (.there _ (.there _ .hb)) .n))))))))).cb) (y_index hv2592 ha2593 hb2594 underlying23 el_uint32.size) ?_
     refine hb1 11 (by kernel_rfl) (hb_op rfl wn (nl (P := Try.prog) (fn := Try.f3)) ?_)
     refine o_storeO (L' := fun X => ((b2566, blk (cl_State vR0_0_2542 vR0_1_2546 vR0_2_2550 r2535.Taken vR0_4_2554 r2535.PC vR0_6_2558 r2535.Stop vR0_8_2562 r2535.Jump r2535.Delay) 27) :: (LX2586 ++ (X ++ (LXR0_2_2551 ++ (LXR0_4_2555 ++ (LXR0_6_2559 ++ (LXR0_8_2563 ++ ([(b2532, blk (([9] : List Int).flatMap enc_uint32) 35)] ++ ((b1, blk (cl_Script v0_0_ v0_1_ v0_2_ v0_3_ a0.S.Taken v0_5_ a0.S.PC v0_7_ a0.S.Stop v0_9_ a0.S.Jump a0.S.Delay v0_12_) 29) :: ((b2505, blk (enc_Ins ⟨x2001, 1, x2510, x2526, x2518, ByteArray.empty⟩) 31) :: []))))))))))) hzs2596 hS hR0_1_2548 hl2595 (fun X => .thereb _ (.there _ (.here _))) enc_len_uint32 rfl (by exact sz_uint32) rfl rfl ?_
     clear hS; intro LX2597 w h2598 hS
     refine hb_next (fun _ => (hS.re (.b .hb (.t (.there _ (.there _ .h)) (.t (.there _ (.there _ .h)) (.t (.there _ (.there _ .h)) (.t (.there _ (.there _ .h)) (.t (.there _ (.there _ .h)) (.b (.there _ (.there _ .hb)) (.b (.there _ (.there _ .hb)) .n))))))))).cb) ?_
     refine hb_done (by kernel_rfl) ?_
     obtain ⟨z2602, hF, hK2603⟩ := cut_step hF
     refine c_cutP (fun a w' => ∃ (x2601 : Int), l6_PipeLate_k6 x2001 x2526 x2518 zs2585 zs2596 r2535 x2601 = some z2500 ∧ (∃ s : Nat → Value, a = Ac (((((Fm.dead 132 s).upd 1 (.pointer (some ⟨b1, 0, none⟩))).upd 3 (.int .i64 x2001)).upd 4 (.pointer (some ⟨b2505, 0, none⟩))).upd 5 (.pointer (some ⟨b2566, 0, none⟩)))) ∧ St W g [] ((b1, blk (cl_Script v0_0_ v0_1_ v0_2_ v0_3_ a0.S.Taken v0_5_ a0.S.PC v0_7_ a0.S.Stop v0_9_ a0.S.Jump a0.S.Delay v0_12_) 29) :: ((b2505, blk (enc_Ins ⟨x2001, 1, x2601, x2526, x2518, ByteArray.empty⟩) 31) :: ((b2566, blk (cl_State vR0_0_2542 vR0_1_2546 vR0_2_2550 r2535.Taken vR0_4_2554 r2535.PC vR0_6_2558 r2535.Stop vR0_8_2562 r2535.Jump r2535.Delay) 27) :: (LX2586 ++ (LX2597 ++ (LXR0_2_2551 ++ (LXR0_4_2555 ++ (LXR0_6_2559 ++ (LXR0_8_2563 ++ []))))))))) w') ?_ ?_
     · skip
       refine c_seq <| c_region <| oy hS y_move <| oy hS y_bin <| n_thenN ?_
       refine c_if (ht := fun c2604 => ?_) (hf := fun c2604 => ?_)
       · replace hF := bt c2604 hF
         refine c_region <| oy hS (y_field fa_api_Ins_2) ?_
         have hS := hS.re (.b (.thereb _ (.there _ (.there _ (.there _ (.there _ (.there _ (.there _ (.there _ (.thereb _ .hb))))))))) (.b .hb (.t .h (.t .h (.t .h (.t .h (.t .h (.t .h (.t .h (.b .hb .n))))))))))
         refine o_storeA1 (o := 2) (cl' := (enc_Ins ⟨x2001, 1, 4, x2526, x2518, ByteArray.empty⟩)) hS (by kernel_rfl) (by exact Nat.le_of_ble_eq_true rfl) (Upd.here _) (by exact sz_int) rfl rfl ?_
         clear hS; intro w hS
         refine n_thenN ?_
         obtain rfl := osi hF
         change ∃ _, _
         exact ⟨4, hK2603, mk_exF, (hS.re (.b (.thereb _ (.thereb _ (.there _ (.there _ (.there _ (.there _ (.there _ (.there _ (.there _ .hb))))))))) (.b .hb (.b .hb (.t .h (.t .h (.t .h (.t .h (.t .h (.t .h .n))))))))))⟩
       replace hF := bf c2604 hF
       refine wp_skip ?_
       obtain rfl := osi hF
       change ∃ _, _
       exact ⟨x2510, hK2603, mk_exF, (hS.re (.b (.thereb _ (.there _ (.there _ (.there _ (.there _ (.there _ (.there _ (.there _ .hb)))))))) (.b (.thereb _ (.there _ (.there _ (.there _ (.there _ (.there _ (.there _ (.there _ .hb)))))))) (.b .hb (.t .h (.t .h (.t .h (.t .h (.t .h (.t .h .n))))))))))⟩
     rintro a w ⟨x2601, hF, ⟨s2605, rfl⟩, hS⟩
     dsimp only [l6_PipeLate_k6] at hF
     refine c_seq <| c_region ?_
     refine oy hS (y_loadW (fun w hS => hS.own (mC (mH))) underlying31 rfl (by exact sz_api_Ins)) ?_
     obtain ⟨r2606, hr2606, hF⟩ := ob hF
     refine o_callS hS func9 rfl rfl (hc := (w_l6_at (a0 := (⟨x2001, 1, x2601, x2526, x2518, ByteArray.empty⟩ : T_Ins)) (hF := hr2606))) (h := ?_)
     clear hS; intro w hS
     iterate 5 (refine oy hS (y_buildA (cl := (enc_Bundle ⟨(⟨0, 0, 0, 0, 0, ByteArray.empty⟩ : T_Ins), (⟨0, 0, 0, 0, 0, ByteArray.empty⟩ : T_Ins), (⟨0, 0, 0, 0, 0, ByteArray.empty⟩ : T_Ins), (⟨0, 0, 0, 0, 0, ByteArray.empty⟩ : T_Ins)⟩)) bta_api_Bundle rfl (by kernel_rfl)) ?_)
     refine o_buildT val_Bundle ([r2606, (⟨(⟨0, 0, 0, 0, 0, ByteArray.empty⟩ : T_Ins), (⟨0, 0, 0, 0, 0, ByteArray.empty⟩ : T_Ins), (⟨0, 0, 0, 0, 0, ByteArray.empty⟩ : T_Ins), (⟨0, 0, 0, 0, 0, ByteArray.empty⟩ : T_Ins)⟩ : (A4 T_Ins)), (⟨(⟨0, 0, 0, 0, 0, ByteArray.empty⟩ : T_Ins), (⟨0, 0, 0, 0, 0, ByteArray.empty⟩ : T_Ins), (⟨0, 0, 0, 0, 0, ByteArray.empty⟩ : T_Ins), (⟨0, 0, 0, 0, 0, ByteArray.empty⟩ : T_Ins)⟩ : (A4 T_Ins)), (⟨(⟨0, 0, 0, 0, 0, ByteArray.empty⟩ : T_Ins), (⟨0, 0, 0, 0, 0, ByteArray.empty⟩ : T_Ins), (⟨0, 0, 0, 0, 0, ByteArray.empty⟩ : T_Ins), (⟨0, 0, 0, 0, 0, ByteArray.empty⟩ : T_Ins)⟩ : (A4 T_Ins)), (⟨(⟨0, 0, 0, 0, 0, ByteArray.empty⟩ : T_Ins), (⟨0, 0, 0, 0, 0, ByteArray.empty⟩ : T_Ins), (⟨0, 0, 0, 0, 0, ByteArray.empty⟩ : T_Ins), (⟨0, 0, 0, 0, 0, ByteArray.empty⟩ : T_Ins)⟩ : (A4 T_Ins)), (⟨(⟨0, 0, 0, 0, 0, ByteArray.empty⟩ : T_Ins), (⟨0, 0, 0, 0, 0, ByteArray.empty⟩ : T_Ins), (⟨0, 0, 0, 0, 0, ByteArray.empty⟩ : T_Ins), (⟨0, 0, 0, 0, 0, ByteArray.empty⟩ : T_Ins)⟩ : (A4 T_Ins))] : List (A4 T_Ins)) hS el_api_Bundle (fun _ => rfl) enc_len_Bundle (by decide) rfl (by decide) (hp := rfl) (h := ?_)
     clear hS; intro b2607 w hS h2608
     have hS : St W g [] ([(b2607, blk (([r2606, (⟨(⟨0, 0, 0, 0, 0, ByteArray.empty⟩ : T_Ins), (⟨0, 0, 0, 0, 0, ByteArray.empty⟩ : T_Ins), (⟨0, 0, 0, 0, 0, ByteArray.empty⟩ : T_Ins), (⟨0, 0, 0, 0, 0, ByteArray.empty⟩ : T_Ins)⟩ : (A4 T_Ins)), (⟨(⟨0, 0, 0, 0, 0, ByteArray.empty⟩ : T_Ins), (⟨0, 0, 0, 0, 0, ByteArray.empty⟩ : T_Ins), (⟨0, 0, 0, 0, 0, ByteArray.empty⟩ : T_Ins), (⟨0, 0, 0, 0, 0, ByteArray.empty⟩ : T_Ins)⟩ : (A4 T_Ins)), (⟨(⟨0, 0, 0, 0, 0, ByteArray.empty⟩ : T_Ins), (⟨0, 0, 0, 0, 0, ByteArray.empty⟩ : T_Ins), (⟨0, 0, 0, 0, 0, ByteArray.empty⟩ : T_Ins), (⟨0, 0, 0, 0, 0, ByteArray.empty⟩ : T_Ins)⟩ : (A4 T_Ins)), (⟨(⟨0, 0, 0, 0, 0, ByteArray.empty⟩ : T_Ins), (⟨0, 0, 0, 0, 0, ByteArray.empty⟩ : T_Ins), (⟨0, 0, 0, 0, 0, ByteArray.empty⟩ : T_Ins), (⟨0, 0, 0, 0, 0, ByteArray.empty⟩ : T_Ins)⟩ : (A4 T_Ins)), (⟨(⟨0, 0, 0, 0, 0, ByteArray.empty⟩ : T_Ins), (⟨0, 0, 0, 0, 0, ByteArray.empty⟩ : T_Ins), (⟨0, 0, 0, 0, 0, ByteArray.empty⟩ : T_Ins), (⟨0, 0, 0, 0, 0, ByteArray.empty⟩ : T_Ins)⟩ : (A4 T_Ins))] : List (A4 T_Ins)).flatMap enc_Bundle) 37)] ++ ((b1, blk (cl_Script v0_0_ v0_1_ v0_2_ v0_3_ a0.S.Taken v0_5_ a0.S.PC v0_7_ a0.S.Stop v0_9_ a0.S.Jump a0.S.Delay v0_12_) 29) :: ((b2505, blk (enc_Ins ⟨x2001, 1, x2601, x2526, x2518, ByteArray.empty⟩) 31) :: ((b2566, blk (cl_State vR0_0_2542 vR0_1_2546 vR0_2_2550 r2535.Taken vR0_4_2554 r2535.PC vR0_6_2558 r2535.Stop vR0_8_2562 r2535.Jump r2535.Delay) 27) :: (LX2586 ++ (LX2597 ++ (LXR0_2_2551 ++ (LXR0_4_2555 ++ (LXR0_6_2559 ++ (LXR0_8_2563 ++ [])))))))))) w := hS
     refine oy hS y_assign <| n_thenN <| c_seq <| c_region <| oy hS y_assign <| n_thenN <| c_block ?_
     refine c_loopP hF (fun (q : Int) a w' => (∃ s : Nat → Value, a = Ac ((((((Fm.dead 132 s).upd 1 (.pointer (some ⟨b1, 0, none⟩))).upd 3 (.int .i64 x2001)).upd 5 (.pointer (some ⟨b2566, 0, none⟩))).upd 6 (.slice (some ⟨b2607, 0, none⟩) 6 6)).upd 7 (.int .i64 q))) ∧ St W g [] ((b1, blk (cl_Script v0_0_ v0_1_ v0_2_ v0_3_ a0.S.Taken v0_5_ a0.S.PC v0_7_ a0.S.Stop v0_9_ a0.S.Jump a0.S.Delay v0_12_) 29) :: ((b2566, blk (cl_State vR0_0_2542 vR0_1_2546 vR0_2_2550 r2535.Taken vR0_4_2554 r2535.PC vR0_6_2558 r2535.Stop vR0_8_2562 r2535.Jump r2535.Delay) 27) :: (LX2586 ++ (LX2597 ++ (LXR0_2_2551 ++ (LXR0_4_2555 ++ (LXR0_6_2559 ++ (LXR0_8_2563 ++ ([(b2607, blk (([r2606, (⟨(⟨0, 0, 0, 0, 0, ByteArray.empty⟩ : T_Ins), (⟨0, 0, 0, 0, 0, ByteArray.empty⟩ : T_Ins), (⟨0, 0, 0, 0, 0, ByteArray.empty⟩ : T_Ins), (⟨0, 0, 0, 0, 0, ByteArray.empty⟩ : T_Ins)⟩ : (A4 T_Ins)), (⟨(⟨0, 0, 0, 0, 0, ByteArray.empty⟩ : T_Ins), (⟨0, 0, 0, 0, 0, ByteArray.empty⟩ : T_Ins), (⟨0, 0, 0, 0, 0, ByteArray.empty⟩ : T_Ins), (⟨0, 0, 0, 0, 0, ByteArray.empty⟩ : T_Ins)⟩ : (A4 T_Ins)), (⟨(⟨0, 0, 0, 0, 0, ByteArray.empty⟩ : T_Ins), (⟨0, 0, 0, 0, 0, ByteArray.empty⟩ : T_Ins), (⟨0, 0, 0, 0, 0, ByteArray.empty⟩ : T_Ins), (⟨0, 0, 0, 0, 0, ByteArray.empty⟩ : T_Ins)⟩ : (A4 T_Ins)), (⟨(⟨0, 0, 0, 0, 0, ByteArray.empty⟩ : T_Ins), (⟨0, 0, 0, 0, 0, ByteArray.empty⟩ : T_Ins), (⟨0, 0, 0, 0, 0, ByteArray.empty⟩ : T_Ins), (⟨0, 0, 0, 0, 0, ByteArray.empty⟩ : T_Ins)⟩ : (A4 T_Ins)), (⟨(⟨0, 0, 0, 0, 0, ByteArray.empty⟩ : T_Ins), (⟨0, 0, 0, 0, 0, ByteArray.empty⟩ : T_Ins), (⟨0, 0, 0, 0, 0, ByteArray.empty⟩ : T_Ins), (⟨0, 0, 0, 0, 0, ByteArray.empty⟩ : T_Ins)⟩ : (A4 T_Ins))] : List (A4 T_Ins)).flatMap enc_Bundle) 37)] ++ []))))))))) w') ⟨mk_exF, (hS.re (.b (.there _ .hb) (.b (.there _ (.thereb _ .hb)) (.t (.there _ (.thereb _ .h)) (.t (.there _ (.thereb _ .h)) (.t (.there _ (.thereb _ .h)) (.t (.there _ (.thereb _ .h)) (.t (.there _ (.thereb _ .h)) (.t (.there _ (.thereb _ .h)) (.t .h .n))))))))))⟩ ?_
     clear hS hF
     intro n2871 q a w hI hq
     revert hq hI; revert q; intro x2739 hI hq
     obtain ⟨⟨s2872, rfl⟩, hS⟩ := hq
     obtain ⟨z2869, hF, hK2870⟩ := iter_step hI
     clear hI
     dsimp only [l6_PipeLate_b7] at hF
     iterate 2 (refine c_seq ?_)
     refine c_region <| oy hS y_move <| oy hS y_bin <| n_thenN ?_
     refine c_if (ht := fun c2873 => ?_) (hf := fun c2873 => ?_)
     · replace hF := bt c2873 hF
       refine wp_skip <| c_seq <| c_block <| c_seq <| c_region <| oy hS y_move ?_
       refine oy hS (y_loadW (fun w hS => hS.own (mC (mH))) underlying27 rfl (by exact sz_api_State)) ?_
       refine oy hS y_move ?_
       obtain ⟨r2874, hr2874, hF⟩ := ob hF
       refine o_call0 hS func10 rfl rfl (hc := (w_pipe_Run (a0 := ([r2606, (⟨(⟨0, 0, 0, 0, 0, ByteArray.empty⟩ : T_Ins), (⟨0, 0, 0, 0, 0, ByteArray.empty⟩ : T_Ins), (⟨0, 0, 0, 0, 0, ByteArray.empty⟩ : T_Ins), (⟨0, 0, 0, 0, 0, ByteArray.empty⟩ : T_Ins)⟩ : (A4 T_Ins)), (⟨(⟨0, 0, 0, 0, 0, ByteArray.empty⟩ : T_Ins), (⟨0, 0, 0, 0, 0, ByteArray.empty⟩ : T_Ins), (⟨0, 0, 0, 0, 0, ByteArray.empty⟩ : T_Ins), (⟨0, 0, 0, 0, 0, ByteArray.empty⟩ : T_Ins)⟩ : (A4 T_Ins)), (⟨(⟨0, 0, 0, 0, 0, ByteArray.empty⟩ : T_Ins), (⟨0, 0, 0, 0, 0, ByteArray.empty⟩ : T_Ins), (⟨0, 0, 0, 0, 0, ByteArray.empty⟩ : T_Ins), (⟨0, 0, 0, 0, 0, ByteArray.empty⟩ : T_Ins)⟩ : (A4 T_Ins)), (⟨(⟨0, 0, 0, 0, 0, ByteArray.empty⟩ : T_Ins), (⟨0, 0, 0, 0, 0, ByteArray.empty⟩ : T_Ins), (⟨0, 0, 0, 0, 0, ByteArray.empty⟩ : T_Ins), (⟨0, 0, 0, 0, 0, ByteArray.empty⟩ : T_Ins)⟩ : (A4 T_Ins)), (⟨(⟨0, 0, 0, 0, 0, ByteArray.empty⟩ : T_Ins), (⟨0, 0, 0, 0, 0, ByteArray.empty⟩ : T_Ins), (⟨0, 0, 0, 0, 0, ByteArray.empty⟩ : T_Ins), (⟨0, 0, 0, 0, 0, ByteArray.empty⟩ : T_Ins)⟩ : (A4 T_Ins))] : List (A4 T_Ins))) (a1 := (⟨zs2585, zs2596, r2535.In_, r2535.Taken, r2535.Out, r2535.PC, r2535.Stack, r2535.Stop, r2535.Fly, r2535.Jump, r2535.Delay⟩ : T_State)) (a2 := x2739) (h0 := (OwT.plus h2608 hS (fun p hp => mC (mC (mB (mB (mB (mB (mB (mB (mA (hp)))))))))))) (h1 := ⟨_, _, _, _, _, _, rfl, (OwT.plus h2587 hS (fun p hp => mC (mC (mA (hp))))), (OwT.plus h2598 hS (fun p hp => mC (mC (mB (mA (hp)))))), (OwT.plus hR0_2_2552 hS (fun p hp => mC (mC (mB (mB (mA (hp))))))), (OwT.plus hR0_4_2556 hS (fun p hp => mC (mC (mB (mB (mB (mA (hp)))))))), (OwT.plus hR0_6_2560 hS (fun p hp => mC (mC (mB (mB (mB (mB (mA (hp))))))))), (OwT.plus hR0_8_2564 hS (fun p hp => mC (mC (mB (mB (mB (mB (mB (mA (hp))))))))))⟩) (hF := hr2874))) (h := ?_)
       clear hS; intro v2875 LY2876 w hS hr2877
       obtain ⟨v_0_2878, LX_0_2879, rfl, rfl, h_0_2880⟩ := hr2877
       obtain ⟨vR0_0_2881, vR0_1_2885, vR0_2_2889, vR0_4_2893, vR0_6_2897, vR0_8_2901, LXR0_0_2882, LXR0_1_2886, LXR0_2_2890, LXR0_4_2894, LXR0_6_2898, LXR0_8_2902, rfl, rfl, hR0_0_2883, hR0_1_2887, hR0_2_2891, hR0_4_2895, hR0_6_2899, hR0_8_2903⟩ := h_0_2880
       simp only [aa, ac, al] at hS
       have hS : St W g [] (LXR0_0_2882 ++ (LXR0_1_2886 ++ (LXR0_2_2890 ++ (LXR0_4_2894 ++ (LXR0_6_2898 ++ (LXR0_8_2902 ++ ((b1, blk (cl_Script v0_0_ v0_1_ v0_2_ v0_3_ a0.S.Taken v0_5_ a0.S.PC v0_7_ a0.S.Stop v0_9_ a0.S.Jump a0.S.Delay v0_12_) 29) :: ((b2566, blk (cl_State vR0_0_2542 vR0_1_2546 vR0_2_2550 r2535.Taken vR0_4_2554 r2535.PC vR0_6_2558 r2535.Stop vR0_8_2562 r2535.Jump r2535.Delay) 27) :: (LX2586 ++ (LX2597 ++ (LXR0_2_2551 ++ (LXR0_4_2555 ++ (LXR0_6_2559 ++ (LXR0_8_2563 ++ ([(b2607, blk (([r2606, (⟨(⟨0, 0, 0, 0, 0, ByteArray.empty⟩ : T_Ins), (⟨0, 0, 0, 0, 0, ByteArray.empty⟩ : T_Ins), (⟨0, 0, 0, 0, 0, ByteArray.empty⟩ : T_Ins), (⟨0, 0, 0, 0, 0, ByteArray.empty⟩ : T_Ins)⟩ : (A4 T_Ins)), (⟨(⟨0, 0, 0, 0, 0, ByteArray.empty⟩ : T_Ins), (⟨0, 0, 0, 0, 0, ByteArray.empty⟩ : T_Ins), (⟨0, 0, 0, 0, 0, ByteArray.empty⟩ : T_Ins), (⟨0, 0, 0, 0, 0, ByteArray.empty⟩ : T_Ins)⟩ : (A4 T_Ins)), (⟨(⟨0, 0, 0, 0, 0, ByteArray.empty⟩ : T_Ins), (⟨0, 0, 0, 0, 0, ByteArray.empty⟩ : T_Ins), (⟨0, 0, 0, 0, 0, ByteArray.empty⟩ : T_Ins), (⟨0, 0, 0, 0, 0, ByteArray.empty⟩ : T_Ins)⟩ : (A4 T_Ins)), (⟨(⟨0, 0, 0, 0, 0, ByteArray.empty⟩ : T_Ins), (⟨0, 0, 0, 0, 0, ByteArray.empty⟩ : T_Ins), (⟨0, 0, 0, 0, 0, ByteArray.empty⟩ : T_Ins), (⟨0, 0, 0, 0, 0, ByteArray.empty⟩ : T_Ins)⟩ : (A4 T_Ins)), (⟨(⟨0, 0, 0, 0, 0, ByteArray.empty⟩ : T_Ins), (⟨0, 0, 0, 0, 0, ByteArray.empty⟩ : T_Ins), (⟨0, 0, 0, 0, 0, ByteArray.empty⟩ : T_Ins), (⟨0, 0, 0, 0, 0, ByteArray.empty⟩ : T_Ins)⟩ : (A4 T_Ins))] : List (A4 T_Ins)).flatMap enc_Bundle) 37)] ++ []))))))))))))))) w := hS
       refine oy hS y_move ?_
       iterate 3 (refine oy hS (y_extract rfl) ?_)
       refine o_allocP (cl := (cl_State (.slice none 0 0) (.slice none 0 0) (.slice none 0 0) 0 (.slice none 0 0) 0 (.slice none 0 0) 0 (.slice none 0 0) 0 0)) zr_api_State rfl hS ?_
       clear hS; intro b2905 w hS
       refine o_storeW (vs := (cl_State vR0_0_2881 vR0_1_2885 vR0_2_2889 r2874.1.Taken vR0_4_2893 r2874.1.PC vR0_6_2897 r2874.1.Stop vR0_8_2901 r2874.1.Jump r2874.1.Delay)) hS (by exact rfl) (Upd.here _) (by exact sz_api_State) (one_State (hR0_0_2883).one (hR0_1_2887).one (hR0_2_2891).one (hR0_4_2895).one (hR0_6_2899).one (hR0_8_2903).one) ?_
       clear hS; intro w hS
       iterate 2 (refine oy hS y_assign ?_)
       refine n_thenN <| c_seq <| c_region <| oy hS y_move ?_
       refine oy hS (y_loadW (fun w hS => hS.own (mC (mB (mB (mB (mB (mB (mB (mC (mH)))))))))) underlying27 rfl (by exact sz_api_State)) ?_
       refine oy hS y_move ?_
       obtain ⟨r2906, hr2906, hF⟩ := ob hF
       refine o_call0 hS func11 rfl rfl (hc := (w_r5_Cycles (a0 := ([r2606, (⟨(⟨0, 0, 0, 0, 0, ByteArray.empty⟩ : T_Ins), (⟨0, 0, 0, 0, 0, ByteArray.empty⟩ : T_Ins), (⟨0, 0, 0, 0, 0, ByteArray.empty⟩ : T_Ins), (⟨0, 0, 0, 0, 0, ByteArray.empty⟩ : T_Ins)⟩ : (A4 T_Ins)), (⟨(⟨0, 0, 0, 0, 0, ByteArray.empty⟩ : T_Ins), (⟨0, 0, 0, 0, 0, ByteArray.empty⟩ : T_Ins), (⟨0, 0, 0, 0, 0, ByteArray.empty⟩ : T_Ins), (⟨0, 0, 0, 0, 0, ByteArray.empty⟩ : T_Ins)⟩ : (A4 T_Ins)), (⟨(⟨0, 0, 0, 0, 0, ByteArray.empty⟩ : T_Ins), (⟨0, 0, 0, 0, 0, ByteArray.empty⟩ : T_Ins), (⟨0, 0, 0, 0, 0, ByteArray.empty⟩ : T_Ins), (⟨0, 0, 0, 0, 0, ByteArray.empty⟩ : T_Ins)⟩ : (A4 T_Ins)), (⟨(⟨0, 0, 0, 0, 0, ByteArray.empty⟩ : T_Ins), (⟨0, 0, 0, 0, 0, ByteArray.empty⟩ : T_Ins), (⟨0, 0, 0, 0, 0, ByteArray.empty⟩ : T_Ins), (⟨0, 0, 0, 0, 0, ByteArray.empty⟩ : T_Ins)⟩ : (A4 T_Ins)), (⟨(⟨0, 0, 0, 0, 0, ByteArray.empty⟩ : T_Ins), (⟨0, 0, 0, 0, 0, ByteArray.empty⟩ : T_Ins), (⟨0, 0, 0, 0, 0, ByteArray.empty⟩ : T_Ins), (⟨0, 0, 0, 0, 0, ByteArray.empty⟩ : T_Ins)⟩ : (A4 T_Ins))] : List (A4 T_Ins))) (a1 := (⟨zs2585, zs2596, r2535.In_, r2535.Taken, r2535.Out, r2535.PC, r2535.Stack, r2535.Stop, r2535.Fly, r2535.Jump, r2535.Delay⟩ : T_State)) (a2 := x2739) (a3 := false) (h0 := (OwT.plus h2608 hS (fun p hp => mC (mB (mB (mB (mB (mB (mB (mC (mC (mB (mB (mB (mB (mB (mB (mA (hp))))))))))))))))))) (h1 := ⟨_, _, _, _, _, _, rfl, (OwT.plus h2587 hS (fun p hp => mC (mB (mB (mB (mB (mB (mB (mC (mC (mA (hp)))))))))))), (OwT.plus h2598 hS (fun p hp => mC (mB (mB (mB (mB (mB (mB (mC (mC (mB (mA (hp))))))))))))), (OwT.plus hR0_2_2552 hS (fun p hp => mC (mB (mB (mB (mB (mB (mB (mC (mC (mB (mB (mA (hp)))))))))))))), (OwT.plus hR0_4_2556 hS (fun p hp => mC (mB (mB (mB (mB (mB (mB (mC (mC (mB (mB (mB (mA (hp))))))))))))))), (OwT.plus hR0_6_2560 hS (fun p hp => mC (mB (mB (mB (mB (mB (mB (mC (mC (mB (mB (mB (mB (mA (hp)))))))))))))))), (OwT.plus hR0_8_2564 hS (fun p hp => mC (mB (mB (mB (mB (mB (mB (mC (mC (mB (mB (mB (mB (mB (mA (hp)))))))))))))))))⟩) (hF := hr2906))) (h := ?_)
       clear hS; intro v2907 LY2908 w hS hr2909
       obtain ⟨v_0_2910, LX_0_2911, rfl, rfl, h_0_2912⟩ := hr2909
       obtain ⟨vR0_0_2913, vR0_1_2917, vR0_2_2921, vR0_4_2925, vR0_6_2929, vR0_8_2933, LXR0_0_2914, LXR0_1_2918, LXR0_2_2922, LXR0_4_2926, LXR0_6_2930, LXR0_8_2934, rfl, rfl, hR0_0_2915, hR0_1_2919, hR0_2_2923, hR0_4_2927, hR0_6_2931, hR0_8_2935⟩ := h_0_2912
       simp only [aa, ac, al] at hS
       have hS : St W g [] (LXR0_0_2914 ++ (LXR0_1_2918 ++ (LXR0_2_2922 ++ (LXR0_4_2926 ++ (LXR0_6_2930 ++ (LXR0_8_2934 ++ ((b2905, blk (cl_State vR0_0_2881 vR0_1_2885 vR0_2_2889 r2874.1.Taken vR0_4_2893 r2874.1.PC vR0_6_2897 r2874.1.Stop vR0_8_2901 r2874.1.Jump r2874.1.Delay) 27) :: (LXR0_0_2882 ++ (LXR0_1_2886 ++ (LXR0_2_2890 ++ (LXR0_4_2894 ++ (LXR0_6_2898 ++ (LXR0_8_2902 ++ ((b1, blk (cl_Script v0_0_ v0_1_ v0_2_ v0_3_ a0.S.Taken v0_5_ a0.S.PC v0_7_ a0.S.Stop v0_9_ a0.S.Jump a0.S.Delay v0_12_) 29) :: ((b2566, blk (cl_State vR0_0_2542 vR0_1_2546 vR0_2_2550 r2535.Taken vR0_4_2554 r2535.PC vR0_6_2558 r2535.Stop vR0_8_2562 r2535.Jump r2535.Delay) 27) :: (LX2586 ++ (LX2597 ++ (LXR0_2_2551 ++ (LXR0_4_2555 ++ (LXR0_6_2559 ++ (LXR0_8_2563 ++ ([(b2607, blk (([r2606, (⟨(⟨0, 0, 0, 0, 0, ByteArray.empty⟩ : T_Ins), (⟨0, 0, 0, 0, 0, ByteArray.empty⟩ : T_Ins), (⟨0, 0, 0, 0, 0, ByteArray.empty⟩ : T_Ins), (⟨0, 0, 0, 0, 0, ByteArray.empty⟩ : T_Ins)⟩ : (A4 T_Ins)), (⟨(⟨0, 0, 0, 0, 0, ByteArray.empty⟩ : T_Ins), (⟨0, 0, 0, 0, 0, ByteArray.empty⟩ : T_Ins), (⟨0, 0, 0, 0, 0, ByteArray.empty⟩ : T_Ins), (⟨0, 0, 0, 0, 0, ByteArray.empty⟩ : T_Ins)⟩ : (A4 T_Ins)), (⟨(⟨0, 0, 0, 0, 0, ByteArray.empty⟩ : T_Ins), (⟨0, 0, 0, 0, 0, ByteArray.empty⟩ : T_Ins), (⟨0, 0, 0, 0, 0, ByteArray.empty⟩ : T_Ins), (⟨0, 0, 0, 0, 0, ByteArray.empty⟩ : T_Ins)⟩ : (A4 T_Ins)), (⟨(⟨0, 0, 0, 0, 0, ByteArray.empty⟩ : T_Ins), (⟨0, 0, 0, 0, 0, ByteArray.empty⟩ : T_Ins), (⟨0, 0, 0, 0, 0, ByteArray.empty⟩ : T_Ins), (⟨0, 0, 0, 0, 0, ByteArray.empty⟩ : T_Ins)⟩ : (A4 T_Ins)), (⟨(⟨0, 0, 0, 0, 0, ByteArray.empty⟩ : T_Ins), (⟨0, 0, 0, 0, 0, ByteArray.empty⟩ : T_Ins), (⟨0, 0, 0, 0, 0, ByteArray.empty⟩ : T_Ins), (⟨0, 0, 0, 0, 0, ByteArray.empty⟩ : T_Ins)⟩ : (A4 T_Ins))] : List (A4 T_Ins)).flatMap enc_Bundle) 37)] ++ [])))))))))))))))))))))) w := hS
       refine oy hS y_move ?_
       iterate 2 (refine oy hS (y_extract rfl) ?_)
       refine o_allocP (cl := (cl_State (.slice none 0 0) (.slice none 0 0) (.slice none 0 0) 0 (.slice none 0 0) 0 (.slice none 0 0) 0 (.slice none 0 0) 0 0)) zr_api_State rfl hS ?_
       clear hS; intro b2937 w hS
       refine o_storeW (vs := (cl_State vR0_0_2913 vR0_1_2917 vR0_2_2921 r2906.1.Taken vR0_4_2925 r2906.1.PC vR0_6_2929 r2906.1.Stop vR0_8_2933 r2906.1.Jump r2906.1.Delay)) hS (by exact rfl) (Upd.here _) (by exact sz_api_State) (one_State (hR0_0_2915).one (hR0_1_2919).one (hR0_2_2923).one (hR0_4_2927).one (hR0_6_2931).one (hR0_8_2935).one) ?_
       clear hS; intro w hS
       refine oy hS y_assign <| n_thenN ?_
       obtain ⟨z2943, hF, hK2944⟩ := cut_step hF
       refine c_cutP (fun a w' => l6_PipeLate_k8 x2739 x2001 r2874 r2906 () = some z2869 ∧ (∃ s : Nat → Value, a = Ac ((((((((Fm.dead 132 s).upd 1 (.pointer (some ⟨b1, 0, none⟩))).upd 3 (.int .i64 x2001)).upd 5 (.pointer (some ⟨b2566, 0, none⟩))).upd 6 (.slice (some ⟨b2607, 0, none⟩) 6 6)).upd 7 (.int .i64 x2739)).upd 8 (.pointer (some ⟨b2905, 0, none⟩))).upd 11 (.pointer (some ⟨b2937, 0, none⟩)))) ∧ St W g [] ((b1, blk (cl_Script v0_0_ v0_1_ v0_2_ v0_3_ a0.S.Taken v0_5_ a0.S.PC v0_7_ a0.S.Stop v0_9_ a0.S.Jump a0.S.Delay v0_12_) 29) :: ((b2566, blk (cl_State vR0_0_2542 vR0_1_2546 vR0_2_2550 r2535.Taken vR0_4_2554 r2535.PC vR0_6_2558 r2535.Stop vR0_8_2562 r2535.Jump r2535.Delay) 27) :: ((b2905, blk (cl_State vR0_0_2881 vR0_1_2885 vR0_2_2889 r2874.1.Taken vR0_4_2893 r2874.1.PC vR0_6_2897 r2874.1.Stop vR0_8_2901 r2874.1.Jump r2874.1.Delay) 27) :: ((b2937, blk (cl_State vR0_0_2913 vR0_1_2917 vR0_2_2921 r2906.1.Taken vR0_4_2925 r2906.1.PC vR0_6_2929 r2906.1.Stop vR0_8_2933 r2906.1.Jump r2906.1.Delay) 27) :: (LX2586 ++ (LX2597 ++ (LXR0_2_2551 ++ (LXR0_4_2555 ++ (LXR0_6_2559 ++ (LXR0_8_2563 ++ (LXR0_0_2882 ++ (LXR0_1_2886 ++ (LXR0_2_2890 ++ (LXR0_4_2894 ++ (LXR0_6_2898 ++ (LXR0_8_2902 ++ (LXR0_0_2914 ++ (LXR0_1_2918 ++ (LXR0_2_2922 ++ (LXR0_4_2926 ++ (LXR0_6_2930 ++ (LXR0_8_2934 ++ ([(b2607, blk (([r2606, (⟨(⟨0, 0, 0, 0, 0, ByteArray.empty⟩ : T_Ins), (⟨0, 0, 0, 0, 0, ByteArray.empty⟩ : T_Ins), (⟨0, 0, 0, 0, 0, ByteArray.empty⟩ : T_Ins), (⟨0, 0, 0, 0, 0, ByteArray.empty⟩ : T_Ins)⟩ : (A4 T_Ins)), (⟨(⟨0, 0, 0, 0, 0, ByteArray.empty⟩ : T_Ins), (⟨0, 0, 0, 0, 0, ByteArray.empty⟩ : T_Ins), (⟨0, 0, 0, 0, 0, ByteArray.empty⟩ : T_Ins), (⟨0, 0, 0, 0, 0, ByteArray.empty⟩ : T_Ins)⟩ : (A4 T_Ins)), (⟨(⟨0, 0, 0, 0, 0, ByteArray.empty⟩ : T_Ins), (⟨0, 0, 0, 0, 0, ByteArray.empty⟩ : T_Ins), (⟨0, 0, 0, 0, 0, ByteArray.empty⟩ : T_Ins), (⟨0, 0, 0, 0, 0, ByteArray.empty⟩ : T_Ins)⟩ : (A4 T_Ins)), (⟨(⟨0, 0, 0, 0, 0, ByteArray.empty⟩ : T_Ins), (⟨0, 0, 0, 0, 0, ByteArray.empty⟩ : T_Ins), (⟨0, 0, 0, 0, 0, ByteArray.empty⟩ : T_Ins), (⟨0, 0, 0, 0, 0, ByteArray.empty⟩ : T_Ins)⟩ : (A4 T_Ins)), (⟨(⟨0, 0, 0, 0, 0, ByteArray.empty⟩ : T_Ins), (⟨0, 0, 0, 0, 0, ByteArray.empty⟩ : T_Ins), (⟨0, 0, 0, 0, 0, ByteArray.empty⟩ : T_Ins), (⟨0, 0, 0, 0, 0, ByteArray.empty⟩ : T_Ins)⟩ : (A4 T_Ins))] : List (A4 T_Ins)).flatMap enc_Bundle) 37)] ++ []))))))))))))))))))))))) w') ?_ ?_
       · skip
         refine c_seq <| c_region <| oy hS y_move ?_
         refine o_callS hS func12 rfl rfl (hc := (w_l6_num (a0 := r2874.2.2))) (h := ?_)
         clear hS; intro w hS
         refine oy hS y_bin ?_
         refine o_split (ht := fun c2945 => ?_) (hf := fun c2945 => ?_)
         · replace hF := bt c2945 hF
           iterate 3 (refine o_sk rfl rfl ?_)
           refine oy hS y_pickT <| oy hS y_move ?_
           iterate 4 (refine o_sk rfl rfl ?_)
           refine oy hS y_pickT <| oy hS y_move ?_
           iterate 4 (refine o_sk rfl rfl ?_)
           refine oy hS y_pickT <| n_thenN ?_
           refine c_if_true (h := ?_)
           refine c_seq <| c_region <| oy hS y_assign <| n_thenN ?_
           obtain rfl := osi hF
           obtain rfl : _ = z2869 := hK2944
           obtain rfl : _ = z2500 := hK2870
           obtain rfl : _ = z1501 := hK2501
           obtain rfl : _ = r := hK1502
           exact wp_ret (wr1 hS)
         replace hF := bf c2945 hF
         refine o_gu rfl rfl rfl <| oy hS y_move <| o_gu rfl rfl rfl <| oy hS y_move <| o_gu rfl rfl rfl <| oy hS y_bin <| oy hS y_pickF ?_
         refine o_split (ht := fun c2946 => ?_) (hf := fun c2946 => ?_)
         · replace hF := bt c2946 hF
           iterate 4 (refine o_sk rfl rfl ?_)
           refine oy hS y_pickT <| oy hS y_move ?_
           iterate 4 (refine o_sk rfl rfl ?_)
           refine oy hS y_pickT <| n_thenN ?_
           refine c_if_true (h := ?_)
           refine c_seq <| c_region <| oy hS y_assign <| n_thenN ?_
           obtain rfl := osi hF
           obtain rfl : _ = z2869 := hK2944
           obtain rfl : _ = z2500 := hK2870
           obtain rfl : _ = z1501 := hK2501
           obtain rfl : _ = r := hK1502
           exact wp_ret (wr1 hS)
         replace hF := bf c2946 hF
         refine o_gu rfl rfl rfl ?_
         refine oy hS (y_loadW (fun w hS => hS.own (mC (mB (mB (mB (mB (mB (mB (mH))))))))) underlying27 rfl (by exact sz_api_State)) ?_
         refine o_gu rfl rfl rfl ?_
         refine oy hS (y_loadW (fun w hS => hS.own (mH)) underlying27 rfl (by exact sz_api_State)) ?_
         refine o_gu rfl rfl rfl ?_
         obtain ⟨r2947, hr2947, hF⟩ := ob hF
         refine o_callS hS func13 rfl rfl (hc := (w_r0_EqState (a0 := r2874.1) (a1 := r2906.1) (h0 := ⟨_, _, _, _, _, _, rfl, (OwT.plus hR0_0_2883 hS (fun p hp => mC (mB (mB (mB (mB (mB (mB (mC (mA (hp))))))))))), (OwT.plus hR0_1_2887 hS (fun p hp => mC (mB (mB (mB (mB (mB (mB (mC (mB (mA (hp)))))))))))), (OwT.plus hR0_2_2891 hS (fun p hp => mC (mB (mB (mB (mB (mB (mB (mC (mB (mB (mA (hp))))))))))))), (OwT.plus hR0_4_2895 hS (fun p hp => mC (mB (mB (mB (mB (mB (mB (mC (mB (mB (mB (mA (hp)))))))))))))), (OwT.plus hR0_6_2899 hS (fun p hp => mC (mB (mB (mB (mB (mB (mB (mC (mB (mB (mB (mB (mA (hp))))))))))))))), (OwT.plus hR0_8_2903 hS (fun p hp => mC (mB (mB (mB (mB (mB (mB (mC (mB (mB (mB (mB (mB (mA (hp))))))))))))))))⟩) (h1 := ⟨_, _, _, _, _, _, rfl, (OwT.plus hR0_0_2915 hS (fun p hp => mC (mA (hp)))), (OwT.plus hR0_1_2919 hS (fun p hp => mC (mB (mA (hp))))), (OwT.plus hR0_2_2923 hS (fun p hp => mC (mB (mB (mA (hp)))))), (OwT.plus hR0_4_2927 hS (fun p hp => mC (mB (mB (mB (mA (hp))))))), (OwT.plus hR0_6_2931 hS (fun p hp => mC (mB (mB (mB (mB (mA (hp)))))))), (OwT.plus hR0_8_2935 hS (fun p hp => mC (mB (mB (mB (mB (mB (mA (hp)))))))))⟩) (hF := hr2947))) (h := ?_)
         clear hS; intro w hS
         refine o_gu rfl rfl rfl <| oy hS y_not <| oy hS y_pickF ?_
         refine o_split (ht := fun c2948 => ?_) (hf := fun c2948 => ?_)
         · replace hF := bt c2948 hF
           iterate 4 (refine o_sk rfl rfl ?_)
           refine oy hS y_pickT <| n_thenN ?_
           refine c_if_true (h := ?_)
           refine c_seq <| c_region <| oy hS y_assign <| n_thenN ?_
           obtain rfl := osi hF
           obtain rfl : _ = z2869 := hK2944
           obtain rfl : _ = z2500 := hK2870
           obtain rfl : _ = z1501 := hK2501
           obtain rfl : _ = r := hK1502
           exact wp_ret (wr1 hS)
         replace hF := bf c2948 hF
         refine o_gu rfl rfl rfl <| oy hS (y_field fa_api_State_0) <| o_gu rfl rfl rfl <| oy hS (y_load (fun w hS => hS.own (mC (mB (mB (mB (mB (mB (mB (mH))))))))) underlying23 rfl rfl) <| o_gu rfl rfl rfl <| oy hS (y_lenO hR0_0_2883 underlying23) <| o_gu rfl rfl rfl <| oy hS y_bin ?_
         refine oy hS y_pickF <| n_thenN ?_
         refine c_if (ht := fun c2949 => ?_) (hf := fun c2949 => ?_)
         · replace hF := bt c2949 hF
           refine c_seq <| c_region <| oy hS y_assign <| n_thenN ?_
           obtain rfl := osi hF
           obtain rfl : _ = z2869 := hK2944
           obtain rfl : _ = z2500 := hK2870
           obtain rfl : _ = z1501 := hK2501
           obtain rfl : _ = r := hK1502
           exact wp_ret (wr1 hS)
         replace hF := bf c2949 hF
         refine wp_skip ?_
         obtain rfl := osi hF
         change _ ∧ _
         exact ⟨hK2944, mk_exF, (hS.re (.b (.thereb _ (.there _ (.there _ (.there _ (.there _ (.there _ (.there _ (.thereb _ (.there _ (.there _ (.there _ (.there _ (.there _ (.there _ .hb)))))))))))))) (.b (.thereb _ (.there _ (.there _ (.there _ (.there _ (.there _ (.there _ (.thereb _ (.there _ (.there _ (.there _ (.there _ (.there _ (.there _ .hb)))))))))))))) (.b (.thereb _ (.there _ (.there _ (.there _ (.there _ (.there _ (.there _ .hb))))))) (.b .hb (.t (.there _ (.there _ (.there _ (.there _ (.there _ (.there _ (.there _ (.there _ (.there _ (.there _ (.there _ (.there _ .h)))))))))))) (.t (.there _ (.there _ (.there _ (.there _ (.there _ (.there _ (.there _ (.there _ (.there _ (.there _ (.there _ (.there _ .h)))))))))))) (.t (.there _ (.there _ (.there _ (.there _ (.there _ (.there _ (.there _ (.there _ (.there _ (.there _ (.there _ (.there _ .h)))))))))))) (.t (.there _ (.there _ (.there _ (.there _ (.there _ (.there _ (.there _ (.there _ (.there _ (.there _ (.there _ (.there _ .h)))))))))))) (.t (.there _ (.there _ (.there _ (.there _ (.there _ (.there _ (.there _ (.there _ (.there _ (.there _ (.there _ (.there _ .h)))))))))))) (.t (.there _ (.there _ (.there _ (.there _ (.there _ (.there _ (.there _ (.there _ (.there _ (.there _ (.there _ (.there _ .h)))))))))))) (.t (.there _ (.there _ (.there _ (.there _ (.there _ (.there _ .h)))))) (.t (.there _ (.there _ (.there _ (.there _ (.there _ (.there _ .h)))))) (.t (.there _ (.there _ (.there _ (.there _ (.there _ (.there _ .h)))))) (.t (.there _ (.there _ (.there _ (.there _ (.there _ (.there _ .h)))))) (.t (.there _ (.there _ (.there _ (.there _ (.there _ (.there _ .h)))))) (.t (.there _ (.there _ (.there _ (.there _ (.there _ (.there _ .h)))))) (.t .h (.t .h (.t .h (.t .h (.t .h (.t .h (.t .h .n))))))))))))))))))))))))⟩
       rintro a w ⟨hF, ⟨s2950, rfl⟩, hS⟩
       dsimp only [l6_PipeLate_k8] at hF
       iterate 2 (refine c_seq ?_)
       refine c_region ?_
       iterate 2 (refine oy hS y_move ?_)
       refine o_callS hS func14 rfl rfl (hc := (w_r3_Latency (a0 := x2001))) (h := ?_)
       clear hS; intro w hS
       refine oy hS y_bin ?_
       refine o_split (ht := fun c2951 => ?_) (hf := fun c2951 => ?_)
       · replace hF := bt c2951 hF
         refine o_gu rfl rfl rfl <| oy hS (y_field fa_api_State_0) <| o_gu rfl rfl rfl <| oy hS (y_load (fun w hS => hS.own (mC (mC (mH)))) underlying23 rfl rfl) <| o_gu rfl rfl rfl ?_
         obtain ⟨x2952, hx2952, hF⟩ := ob hF
         obtain ⟨b2953, c2954, cl2955, hv2956, ha2957, hb2958, hl2959, hc2960⟩ := OwT.at hx2952 hR0_0_2883 enc_len_uint32
         refine oy hS (y_index hv2956 ha2957 hb2958 underlying23 el_uint32.size) <| o_gu rfl rfl rfl <| oy hS (y_load (fun w hS => hS.own (mC (mC (mC (mC (mB (mB (mB (mB (mB (mB (mA (mX hl2959))))))))))))) underlying35 rfl (hc2960 0 _ rfl)) <| o_gu rfl rfl rfl <| oy hS y_bin <| oy hS y_pickT <| n_thenN ?_
         refine c_if (ht := fun c2961 => ?_) (hf := fun c2961 => ?_)
         · replace hF := bt c2961 hF
           refine c_seq <| c_region <| oy hS y_assign <| n_thenN ?_
           obtain rfl := osi hF
           obtain rfl : _ = z2500 := hK2870
           obtain rfl : _ = z1501 := hK2501
           obtain rfl : _ = r := hK1502
           exact wp_ret (wr1 hS)
         replace hF := bf c2961 hF
         refine wp_skip <| c_seq ?_
         refine c_quiet (by kernel_rfl) (by kernel_rfl) hS ?_
         iterate 2 (refine qy y_move ?_)
         refine q_callS func14 rfl rfl (hc := (w_r3_Latency (a0 := x2001))) (h := ?_)
         refine qy y_bin ?_
         refine q_split (ht := fun c2962 => ?_) (hf := fun c2962 => ?_)
         · replace hF := bt c2962 hF
           refine q_gu rfl rfl rfl ?_
           refine qy (y_field fa_api_State_0) ?_
           refine q_gu rfl rfl rfl ?_
           refine qy (y_load (fun w hS => hS.own (mC (mC (mH)))) underlying23 rfl rfl) ?_
           refine q_gu rfl rfl rfl ?_
           obtain ⟨x2963, hx2963, hF⟩ := ob hF
           obtain ⟨b2964, c2965, cl2966, hv2967, ha2968, hb2969, hl2970, hc2971⟩ := OwT.at hx2963 hR0_0_2883 enc_len_uint32
           refine qy (y_index hv2967 ha2968 hb2969 underlying23 el_uint32.size) ?_
           refine q_gu rfl rfl rfl ?_
           refine qy (y_load (fun w hS => hS.own (mC (mC (mC (mC (mB (mB (mB (mB (mB (mB (mA (mX hl2970))))))))))))) underlying35 rfl (hc2971 0 _ rfl)) ?_
           refine q_gu rfl rfl rfl ?_
           refine qy (y_field fa_api_State_0) ?_
           refine q_gu rfl rfl rfl ?_
           refine qy (y_load (fun w hS => hS.own (mC (mC (mC (mH))))) underlying23 rfl rfl) ?_
           refine q_gu rfl rfl rfl ?_
           obtain ⟨x2972, hx2972, hF⟩ := ob hF
           obtain ⟨b2973, c2974, cl2975, hv2976, ha2977, hb2978, hl2979, hc2980⟩ := OwT.at hx2972 hR0_0_2915 enc_len_uint32
           refine qy (y_index hv2976 ha2977 hb2978 underlying23 el_uint32.size) ?_
           refine q_gu rfl rfl rfl ?_
           refine qy (y_load (fun w hS => hS.own (mC (mC (mC (mC (mB (mB (mB (mB (mB (mB (mB (mB (mB (mB (mB (mB (mA (mX hl2979))))))))))))))))))) underlying35 rfl (hc2980 0 _ rfl)) ?_
           refine q_gu rfl rfl rfl ?_
           refine qy y_bin <| qy y_pickT ?_
           refine q_nilN (h := ?_)
           clear hS; intro w hS
           refine c_if (ht := fun c2981 => ?_) (hf := fun c2981 => ?_)
           · replace hF := bt c2981 hF
             refine c_seq <| c_region <| oy hS y_assign <| n_thenN ?_
             obtain rfl := osi hF
             obtain rfl : _ = z2500 := hK2870
             obtain rfl : _ = z1501 := hK2501
             obtain rfl : _ = r := hK1502
             exact wp_ret (wr1 hS)
           replace hF := bf c2981 hF
           refine wp_skip <| c_region <| oy hS y_move <| oy hS y_bin <| oy hS y_assign <| n_thenN ?_
           obtain rfl := osi hF
           exact ⟨_, hK2870, mk_exF, (hS.re (.b .hb (.b .hb (.t (.thereb _ (.thereb _ .h)) (.t (.thereb _ (.thereb _ .h)) (.t (.thereb _ (.thereb _ .h)) (.t (.thereb _ (.thereb _ .h)) (.t (.thereb _ (.thereb _ .h)) (.t (.thereb _ (.thereb _ .h)) (.t (.thereb _ (.thereb _ (.there _ (.there _ (.there _ (.there _ (.there _ (.there _ (.there _ (.there _ (.there _ (.there _ (.there _ (.there _ .h)))))))))))))) .n))))))))))⟩
         replace hF := bf c2962 hF
         iterate 9 (refine q_sk rfl rfl ?_)
         refine qy y_pickF ?_
         refine q_nilN (h := ?_)
         clear hS; intro w hS
         refine c_if_false (h := ?_)
         refine wp_skip <| c_region <| oy hS y_move <| oy hS y_bin <| oy hS y_assign <| n_thenN ?_
         obtain rfl := osi hF
         exact ⟨_, hK2870, mk_exF, (hS.re (.b .hb (.b .hb (.t (.thereb _ (.thereb _ .h)) (.t (.thereb _ (.thereb _ .h)) (.t (.thereb _ (.thereb _ .h)) (.t (.thereb _ (.thereb _ .h)) (.t (.thereb _ (.thereb _ .h)) (.t (.thereb _ (.thereb _ .h)) (.t (.thereb _ (.thereb _ (.there _ (.there _ (.there _ (.there _ (.there _ (.there _ (.there _ (.there _ (.there _ (.there _ (.there _ (.there _ .h)))))))))))))) .n))))))))))⟩
       replace hF := bf c2951 hF
       iterate 5 (refine o_sk rfl rfl ?_)
       refine oy hS y_pickF <| n_thenN ?_
       refine c_if_false (h := ?_)
       refine wp_skip <| c_seq ?_
       refine c_quiet (by kernel_rfl) (by kernel_rfl) hS ?_
       iterate 2 (refine qy y_move ?_)
       refine q_callS func14 rfl rfl (hc := (w_r3_Latency (a0 := x2001))) (h := ?_)
       refine qy y_bin ?_
       refine q_split (ht := fun c2982 => ?_) (hf := fun c2982 => ?_)
       · replace hF := bt c2982 hF
         refine q_gu rfl rfl rfl ?_
         refine qy (y_field fa_api_State_0) ?_
         refine q_gu rfl rfl rfl ?_
         refine qy (y_load (fun w hS => hS.own (mC (mC (mH)))) underlying23 rfl rfl) ?_
         refine q_gu rfl rfl rfl ?_
         obtain ⟨x2983, hx2983, hF⟩ := ob hF
         obtain ⟨b2984, c2985, cl2986, hv2987, ha2988, hb2989, hl2990, hc2991⟩ := OwT.at hx2983 hR0_0_2883 enc_len_uint32
         refine qy (y_index hv2987 ha2988 hb2989 underlying23 el_uint32.size) ?_
         refine q_gu rfl rfl rfl ?_
         refine qy (y_load (fun w hS => hS.own (mC (mC (mC (mC (mB (mB (mB (mB (mB (mB (mA (mX hl2990))))))))))))) underlying35 rfl (hc2991 0 _ rfl)) ?_
         refine q_gu rfl rfl rfl ?_
         refine qy (y_field fa_api_State_0) ?_
         refine q_gu rfl rfl rfl ?_
         refine qy (y_load (fun w hS => hS.own (mC (mC (mC (mH))))) underlying23 rfl rfl) ?_
         refine q_gu rfl rfl rfl ?_
         obtain ⟨x2992, hx2992, hF⟩ := ob hF
         obtain ⟨b2993, c2994, cl2995, hv2996, ha2997, hb2998, hl2999, hc3000⟩ := OwT.at hx2992 hR0_0_2915 enc_len_uint32
         refine qy (y_index hv2996 ha2997 hb2998 underlying23 el_uint32.size) ?_
         refine q_gu rfl rfl rfl ?_
         refine qy (y_load (fun w hS => hS.own (mC (mC (mC (mC (mB (mB (mB (mB (mB (mB (mB (mB (mB (mB (mB (mB (mA (mX hl2999))))))))))))))))))) underlying35 rfl (hc3000 0 _ rfl)) ?_
         refine q_gu rfl rfl rfl ?_
         refine qy y_bin <| qy y_pickT ?_
         refine q_nilN (h := ?_)
         clear hS; intro w hS
         refine c_if (ht := fun c3001 => ?_) (hf := fun c3001 => ?_)
         · replace hF := bt c3001 hF
           refine c_seq <| c_region <| oy hS y_assign <| n_thenN ?_
           obtain rfl := osi hF
           obtain rfl : _ = z2500 := hK2870
           obtain rfl : _ = z1501 := hK2501
           obtain rfl : _ = r := hK1502
           exact wp_ret (wr1 hS)
         replace hF := bf c3001 hF
         refine wp_skip <| c_region <| oy hS y_move <| oy hS y_bin <| oy hS y_assign <| n_thenN ?_
         obtain rfl := osi hF
         exact ⟨_, hK2870, mk_exF, (hS.re (.b .hb (.b .hb (.t (.thereb _ (.thereb _ .h)) (.t (.thereb _ (.thereb _ .h)) (.t (.thereb _ (.thereb _ .h)) (.t (.thereb _ (.thereb _ .h)) (.t (.thereb _ (.thereb _ .h)) (.t (.thereb _ (.thereb _ .h)) (.t (.thereb _ (.thereb _ (.there _ (.there _ (.there _ (.there _ (.there _ (.there _ (.there _ (.there _ (.there _ (.there _ (.there _ (.there _ .h)))))))))))))) .n))))))))))⟩
       replace hF := bf c2982 hF
       iterate 9 (refine q_sk rfl rfl ?_)
       refine qy y_pickF ?_
       refine q_nilN (h := ?_)
       clear hS; intro w hS
       refine c_if_false (h := ?_)
       refine wp_skip <| c_region <| oy hS y_move <| oy hS y_bin <| oy hS y_assign <| n_thenN ?_
       obtain rfl := osi hF
       exact ⟨_, hK2870, mk_exF, (hS.re (.b .hb (.b .hb (.t (.thereb _ (.thereb _ .h)) (.t (.thereb _ (.thereb _ .h)) (.t (.thereb _ (.thereb _ .h)) (.t (.thereb _ (.thereb _ .h)) (.t (.thereb _ (.thereb _ .h)) (.t (.thereb _ (.thereb _ .h)) (.t (.thereb _ (.thereb _ (.there _ (.there _ (.there _ (.there _ (.there _ (.there _ (.there _ (.there _ (.there _ (.there _ (.there _ (.there _ .h)))))))))))))) .n))))))))))⟩
     replace hF := bf c2873 hF
     refine wp_exit ?_
     refine c_region <| oy hS y_move <| oy hS y_bin <| oy hS y_assign <| n_thenN ?_
     obtain rfl := osi hF
     obtain rfl : _ = z2500 := hK2870
     exact ⟨_, hK2501, mk_exF, (hS.re (.b .hb .n))⟩
   replace hF := bf c2504 hF
   refine wp_exit ?_
   obtain rfl := osi hF
   obtain rfl : _ = z1501 := hK2501
   change _ ∧ _
   exact ⟨hK1502, mk_exF, (hS.re (.b .hb .n))⟩
 rintro a w ⟨hF, ⟨s3002, rfl⟩, hS⟩
 dsimp only [l6_PipeLate_k1] at hF
 refine c_seq <| c_region <| oy hS (y_field fa_sledgelaw6_Script_2) <| oy hS (y_load (fun w hS => hS.own (mH)) underlying24 rfl rfl) <| oy hS (y_len h0_12_ underlying24) <| oy hS y_bin ?_
 refine o_split (ht := fun c3003 => ?_) (hf := fun c3003 => ?_)
 · replace hF := bt c3003 hF
   refine o_gu rfl rfl rfl ?_
   obtain ⟨r3004, hr3004, hF⟩ := ob hF
   refine o_callS hS func15 rfl rfl (hc := (w_l6_wakes  (hF := hr3004))) (h := ?_)
   clear hS; intro w hS
   refine oy hS y_pickT <| oy hS y_assign <| n_thenN ?_
   obtain rfl := osi hF
   exact wp_ret (wr1 hS)
 replace hF := bf c3003 hF
 refine o_sk rfl rfl ?_
 refine oy hS y_pickF <| oy hS y_assign <| n_thenN ?_
 obtain rfl := osi hF
 exact wp_ret (wr1 hS)
theorem w_l6_PipeLate {g : Frag} {a0 : T_Script} {v0_ : Value} {r : Bool} (h0 : Rd_Script g a0 v0_) (hF : l6_PipeLate a0 = some r) : LCs Try.prog 3 #[v0_] g (.bool r) := w_l6_PipeLate_ h0 hF
end Go.Proofs.Ythbpicnbkdbbmaa
