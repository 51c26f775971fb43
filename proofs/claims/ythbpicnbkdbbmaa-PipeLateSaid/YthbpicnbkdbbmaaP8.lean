/- Functions, lifted. Printed by lift.py. -/
import Derived.Test.YthbpicnbkdbbmaaProg
import Derived.Test.YthbpicnbkdbbmaaP7
import Derived.KernelRfl
namespace Go.Proofs.Ythbpicnbkdbbmaa
open Go Go.RowKit Fr
set_option linter.unusedVariables false
set_option linter.unusedSimpArgs false
set_option maxRecDepth 20000
open Try
set_option maxHeartbeats 2000000
noncomputable def r5_issue_k3 (x728 : Bool) (x927 : T_Ins) (x729 : Int) : ((List Int) × (List Int) × (List Int) × Int × (List Int) × Int × (List Int) × Int × (List T_Write) × Int × Int × Bool × Int × Bool × Int × Int) → Option (Step (Bool × Int × (List Int) × (List Int) × (List Int) × Int × (List Int) × Int × (List Int) × Int × (List T_Write) × Int × Int) (Step (Bool × (List Int) × (List Int) × (List Int) × Int × (List Int) × Int × (List Int) × Int × (List T_Write) × Int × Int) T_State)) := fun (x979, x984, x989, x994, x995, x1000, x1001, x1006, x1007, x1012, x1013, x1014, x1015, x1016, x1017, x1018) => bif decide (x1018 ≠ 0) then some (.done (.next (x728, x979, x984, x989, x994, x995, x1000, x1001, x1018, x1007, x1012, x1013))) else bif x1014 then (app' x1007 ([(⟨x927.D, x1015, IntKind.i64.wrap ((r3_Latency x927.Op) - 1)⟩ : T_Write)] : List T_Write)).bind fun zs1080 => bif x1016 then some (.next (true, IntKind.i64.wrap (x729 + 1), x979, x984, x989, x994, x995, x1000, x1001, x1006, zs1080, x1017, 2)) else some (.next (x728, IntKind.i64.wrap (x729 + 1), x979, x984, x989, x994, x995, x1000, x1001, x1006, zs1080, x1012, x1013)) else bif x1016 then some (.next (true, IntKind.i64.wrap (x729 + 1), x979, x984, x989, x994, x995, x1000, x1001, x1006, x1007, x1017, 2)) else some (.next (x728, IntKind.i64.wrap (x729 + 1), x979, x984, x989, x994, x995, x1000, x1001, x1006, x1007, x1012, x1013))
noncomputable def r5_issue_b2 (x2 : (A4 T_Ins)) (r15 : (List Int)) : (Bool × Int × (List Int) × (List Int) × (List Int) × Int × (List Int) × Int × (List Int) × Int × (List T_Write) × Int × Int) → Option (Step (Bool × Int × (List Int) × (List Int) × (List Int) × Int × (List Int) × Int × (List Int) × Int × (List T_Write) × Int × Int) (Step (Bool × (List Int) × (List Int) × (List Int) × Int × (List Int) × Int × (List Int) × Int × (List T_Write) × Int × Int) T_State)) := fun (x728, x729, x730, x735, x740, x745, x746, x751, x752, x757, x758, x763, x764) => bif decide (x729 < 4) then (at' [x2.x0, x2.x1, x2.x2, x2.x3] x729).bind fun x927 => cut (σ := ((List Int) × (List Int) × (List Int) × Int × (List Int) × Int × (List Int) × Int × (List T_Write) × Int × Int × Bool × Int × Bool × Int × Int)) ((at' r15 x927.A).bind fun x1021 => (at' r15 x927.B).bind fun x1030 => (r5_do (⟨x730, x735, x740, x745, x746, x751, x752, x757, x758, x763, x764⟩ : T_State) x927 x1021 x1030 (imin (IntKind.i64.wrap ((IntKind.i64.wrap (x751 + 1)) + 2)) 1024)).bind fun r1039 => some (.next (r1039.1.Regs, r1039.1.Mem, r1039.1.In_, r1039.1.Taken, r1039.1.Out, r1039.1.PC, r1039.1.Stack, r1039.1.Stop, r1039.1.Fly, r1039.1.Jump, r1039.1.Delay, r1039.2.has, r1039.2.result, r1039.2.jumps, r1039.2.to, r1039.2.stop))) (r5_issue_k3 x728 x927 x729) else some (.done (.next (x728, x730, x735, x740, x745, x746, x751, x752, x757, x758, x763, x764)))
noncomputable def r5_issue_b5  : ((List Int) × (List Int) × (List Int) × Int × (List Int) × Int × (List Int) × Int × (List T_Write) × Int × Int) → Option (Step ((List Int) × (List Int) × (List Int) × Int × (List Int) × Int × (List Int) × Int × (List T_Write) × Int × Int) (Step Unit T_State)) := fun (x1251, x1256, x1261, x1266, x1267, x1272, x1273, x1278, x1279, x1284, x1285) => bif decide (0 < (x1279.length : Int)) then (r5_lands (⟨x1251, x1256, x1261, x1266, x1267, x1272, x1273, x1278, x1279, x1284, x1285⟩ : T_State)).bind fun r1322 => some (.next (r1322.Regs, r1322.Mem, r1322.In_, r1322.Taken, r1322.Out, r1322.PC, r1322.Stack, r1322.Stop, r1322.Fly, r1322.Jump, r1322.Delay)) else some (.done (.done ((⟨x1251, x1256, x1261, x1266, x1267, x1272, x1273, x1278, x1279, x1284, x1285⟩ : T_State))))
noncomputable def r5_issue_k4 (x562 : Int) (x535 : (List Int)) (x540 : (List Int)) (x545 : (List Int)) (x550 : Int) (x551 : (List Int)) (x556 : Int) (x557 : (List Int)) (x563 : (List T_Write)) (x568 : Int) (x569 : Int) (x534 : Bool) : Unit → Option T_State := fun _ => bif decide (x562 ≠ 0) then some (⟨x535, x540, x545, x550, x551, x556, x557, x562, x563, x568, x569⟩ : T_State) else bif !x534 then bif decide (0 < x569) then bif decide ((IntKind.i64.wrap (x569 - 1)) = 0) then some (⟨x535, x540, x545, x550, x551, x568, x557, x562, x563, 0, IntKind.i64.wrap (x569 - 1)⟩ : T_State) else some (⟨x535, x540, x545, x550, x551, IntKind.i64.wrap (x556 + 1), x557, x562, x563, x568, IntKind.i64.wrap (x569 - 1)⟩ : T_State) else some (⟨x535, x540, x545, x550, x551, IntKind.i64.wrap (x556 + 1), x557, x562, x563, x568, x569⟩ : T_State) else some (⟨x535, x540, x545, x550, x551, IntKind.i64.wrap (x556 + 1), x557, x562, x563, x568, x569⟩ : T_State)
noncomputable def r5_issue_k1  : (Bool × (List Int) × (List Int) × (List Int) × Int × (List Int) × Int × (List Int) × Int × (List T_Write) × Int × Int) → Option T_State := fun (x534, x535, x540, x545, x550, x551, x556, x557, x562, x563, x568, x569) => cut (σ := Unit) (bif decide (x562 = 1) then loop (σ := ((List Int) × (List Int) × (List Int) × Int × (List Int) × Int × (List Int) × Int × (List T_Write) × Int × Int)) (r5_issue_b5) (x535, x540, x545, x550, x551, x556, x557, x562, x563, x568, x569) else some (.next ())) (r5_issue_k4 x562 x535 x540 x545 x550 x551 x556 x557 x563 x568 x569 x534)
noncomputable def r5_issue (a0 : (List (A4 T_Ins))) (a1 : T_State) : Option T_State :=
  bif decide ((a0.length : Int) ≤ a1.PC) then some (⟨a1.Regs, a1.Mem, a1.In_, a1.Taken, a1.Out, a1.PC, a1.Stack, 5, a1.Fly, a1.Jump, a1.Delay⟩ : T_State) else (at' a0 a1.PC).bind fun x2 => (r0_CopyWords a1.Regs).bind fun r15 => cut (σ := (Bool × (List Int) × (List Int) × (List Int) × Int × (List Int) × Int × (List Int) × Int × (List T_Write) × Int × Int)) (loop (σ := (Bool × Int × (List Int) × (List Int) × (List Int) × Int × (List Int) × Int × (List Int) × Int × (List T_Write) × Int × Int)) (r5_issue_b2 x2 r15) (false, 0, a1.Regs, a1.Mem, a1.In_, a1.Taken, a1.Out, a1.PC, a1.Stack, a1.Stop, a1.Fly, a1.Jump, a1.Delay)) (r5_issue_k1)
theorem w_r5_issue_ {g : Frag} {a0 : (List (A4 T_Ins))} {v0_ : Value} {a1 : T_State} {b1_ : Nat} {LB1_ : Own} {r : T_State} (h0 : SlT g enc_Bundle 24 a0 v0_) (h1 : Bx_State b1_ a1 LB1_) (hF : r5_issue a0 a1 = some r) : LC Try.prog 32 #[v0_, .pointer (some ⟨b1_, 0, none⟩)] g LB1_ (fun v L => ∃ (LB' : Own), v = .tuple #[] ∧ L = (LB' ++ []) ∧ Bx_State b1_ r LB') := by
 obtain ⟨vP1_0_1, vP1_1_5, vP1_2_9, vP1_4_13, vP1_6_17, vP1_8_21, LXP1_0_2, LXP1_1_6, LXP1_2_10, LXP1_4_14, LXP1_6_18, LXP1_8_22, hL0_, hP1_0_3, hP1_1_7, hP1_2_11, hP1_4_15, hP1_6_19, hP1_8_23⟩ := h1
 unfold r5_issue at hF
 refine lc_body (k := 155) (av := [v0_, .pointer (some ⟨b1_, 0, none⟩)]) func32 rfl rfl (h := fun W hS => ?_)
 have hS := hS.own_eq hL0_
 iterate 2 (refine c_seq ?_)
 refine c_region <| oy hS y_move <| oy hS y_nilCheck <| oy hS (y_field fa_api_State_5) <| oy hS (y_load (fun w hS => hS.own (mH)) underlying3 rfl rfl) <| oy hS y_move <| oy hS (y_len h0 underlying22) <| oy hS y_bin ?_
 refine n_thenN ?_
 refine c_if (ht := fun c1 => ?_) (hf := fun c1 => ?_)
 · replace hF := bt c1 hF
   refine c_seq <| c_region <| oy hS y_move <| oy hS y_nilCheck <| oy hS (y_field fa_api_State_7) ?_
   refine o_storeA1 (o := 7) (cl' := (cl_State vP1_0_1 vP1_1_5 vP1_2_9 a1.Taken vP1_4_13 a1.PC vP1_6_17 5 vP1_8_21 a1.Jump a1.Delay)) hS (by kernel_rfl) (by exact Nat.le_of_ble_eq_true rfl) (Upd.here _) (by exact sz_int) rfl rfl ?_
   clear hS; intro w hS
   refine n_thenN ?_
   obtain rfl := osi hF
   refine wp_ret (r_ret (vs := []) (hS.re (.b .hb (.t .h (.t .h (.t .h (.t .h (.t .h (.t .h .n)))))))) rsN rfl ⟨_, rfl, (by first | rfl | simp only [aa, ac, al, an]), ⟨_, _, _, _, _, _, _, _, _, _, _, _, rfl, hP1_0_3, hP1_1_7, hP1_2_11, hP1_4_15, hP1_6_19, hP1_8_23⟩⟩)
 replace hF := bf c1 hF
 refine wp_skip <| c_seq <| c_region ?_
 iterate 2 (refine oy hS y_move ?_)
 refine oy hS y_nilCheck <| oy hS (y_field fa_api_State_5) <| oy hS (y_load (fun w hS => hS.own (mH)) underlying3 rfl rfl) ?_
 obtain ⟨x2, hx2, hF⟩ := ob hF
 obtain ⟨b3, o4, c5, cs6, e7, fz8, hv9, ha10, hb11, hd12, hc13⟩ := SlT.at hx2 h0 enc_len_Bundle
 refine oy hS (y_index hv9 ha10 hb11 underlying22 el_api_Bundle.size) ?_
 refine oy hS (y_loadN (vs := (enc_Bundle x2)) (fun w hS => hS.block hd12) underlying37 rfl (by exact sz_api_Bundle) (fun j u hj => hc13 j u hj)) ?_
 refine o_allocP (cl := (enc_Bundle ⟨(⟨0, 0, 0, 0, 0, ByteArray.empty⟩ : T_Ins), (⟨0, 0, 0, 0, 0, ByteArray.empty⟩ : T_Ins), (⟨0, 0, 0, 0, 0, ByteArray.empty⟩ : T_Ins), (⟨0, 0, 0, 0, 0, ByteArray.empty⟩ : T_Ins)⟩)) zr_api_Bundle rfl hS ?_
 clear hS; intro b14 w hS
 refine o_storeW (vs := (enc_Bundle x2)) hS (by exact rfl) (Upd.here _) (by exact sz_api_Bundle) (enc_one_Bundle _) ?_
 clear hS; intro w hS
 refine n_thenN <| c_seq <| c_region <| oy hS y_move <| oy hS y_nilCheck <| oy hS (y_field fa_api_State_0) <| oy hS (y_load (fun w hS => hS.own (mC (mH))) underlying23 rfl rfl) ?_
 obtain ⟨r15, hr15, hF⟩ := ob hF
 refine o_call0 hS func23 rfl rfl (hc := (w_r0_CopyWords (a0 := a1.Regs) (h0 := (OwT.plus hP1_0_3 hS (fun p hp => mC (mC (mA (hp)))))) (hF := hr15))) (h := ?_)
 clear hS; intro v16 LY17 w hS hr18
 obtain ⟨v_0_19, LX_0_20, rfl, rfl, h_0_21⟩ := hr18
 simp only [aa, ac, al] at hS
 refine oy hS y_assign <| n_thenN <| c_seq <| c_region <| oy hS y_assign <| n_thenN ?_
 obtain ⟨z570, hF, hK571⟩ := cut_step hF
 refine c_cutP (fun a w' => ∃ (x534 : Bool) (x535 : (List Int)) (x540 : (List Int)) (x545 : (List Int)) (x550 : Int) (x551 : (List Int)) (x556 : Int) (x557 : (List Int)) (x562 : Int) (x563 : (List T_Write)) (x568 : Int) (x569 : Int) (v536 : Value) (v541 : Value) (v546 : Value) (v552 : Value) (v558 : Value) (v564 : Value) (LX538 : Own) (LX543 : Own) (LX548 : Own) (LX554 : Own) (LX560 : Own) (LX566 : Own), r5_issue_k1 (x534, x535, x540, x545, x550, x551, x556, x557, x562, x563, x568, x569) = some r ∧ OwT 35 enc_uint32 1 x535 v536 LX538 ∧ OwT 35 enc_uint32 1 x540 v541 LX543 ∧ OwT 35 enc_uint32 1 x545 v546 LX548 ∧ OwT 35 enc_uint32 1 x551 v552 LX554 ∧ OwT 3 enc_int 1 x557 v558 LX560 ∧ OwT 71 enc_Write 3 x563 v564 LX566 ∧ (∃ s : Nat → Value, a = Ac (((Fm.dead 155 s).upd 1 (.pointer (some ⟨b1_, 0, none⟩))).upd 6 (.bool x534))) ∧ St W g LB1_ ((b1_, blk (cl_State v536 v541 v546 x550 v552 x556 v558 x562 v564 x568 x569) 27) :: (LX538 ++ (LX543 ++ (LX548 ++ (LX554 ++ (LX560 ++ (LX566 ++ []))))))) w') ?_ ?_
 · skip
   refine c_seq <| c_region <| oy hS y_assign <| n_thenN <| c_block ?_
   refine c_loopP hF (fun (q : (Bool × Int × (List Int) × (List Int) × (List Int) × Int × (List Int) × Int × (List Int) × Int × (List T_Write) × Int × Int)) a w' => ∃ (v731 : Value) (v736 : Value) (v741 : Value) (v747 : Value) (v753 : Value) (v759 : Value) (LX733 : Own) (LX738 : Own) (LX743 : Own) (LX749 : Own) (LX755 : Own) (LX761 : Own), OwT 35 enc_uint32 1 q.2.2.1 v731 LX733 ∧ OwT 35 enc_uint32 1 q.2.2.2.1 v736 LX738 ∧ OwT 35 enc_uint32 1 q.2.2.2.2.1 v741 LX743 ∧ OwT 35 enc_uint32 1 q.2.2.2.2.2.2.1 v747 LX749 ∧ OwT 3 enc_int 1 q.2.2.2.2.2.2.2.2.1 v753 LX755 ∧ OwT 71 enc_Write 3 q.2.2.2.2.2.2.2.2.2.2.1 v759 LX761 ∧ (∃ s : Nat → Value, a = Ac ((((((Fm.dead 155 s).upd 1 (.pointer (some ⟨b1_, 0, none⟩))).upd 4 (.pointer (some ⟨b14, 0, none⟩))).upd 5 v_0_19).upd 6 (.bool q.1)).upd 7 (.int .i64 q.2.1))) ∧ St W g LB1_ ((b1_, blk (cl_State v731 v736 v741 q.2.2.2.2.2.1 v747 q.2.2.2.2.2.2.2.1 v753 q.2.2.2.2.2.2.2.2.2.1 v759 q.2.2.2.2.2.2.2.2.2.2.2.1 q.2.2.2.2.2.2.2.2.2.2.2.2) 27) :: ((b14, blk (enc_Bundle x2) 37) :: (LX733 ++ (LX738 ++ (LX743 ++ (LX749 ++ (LX755 ++ (LX761 ++ (LX_0_20 ++ []))))))))) w') ⟨vP1_0_1, vP1_1_5, vP1_2_9, vP1_4_13, vP1_6_17, vP1_8_21, LXP1_0_2, LXP1_1_6, LXP1_2_10, LXP1_4_14, LXP1_6_18, LXP1_8_22, hP1_0_3, hP1_1_7, hP1_2_11, hP1_4_15, hP1_6_19, hP1_8_23, mk_exF, (hS.re (.b (.there _ (.thereb _ .hb)) (.b (.there _ .hb) (.t (.there _ .h) (.t (.there _ .h) (.t (.there _ .h) (.t (.there _ .h) (.t (.there _ .h) (.t (.there _ .h) (.t .h .n))))))))))⟩ ?_
   clear hS hF
   intro n924 q a w hI hq
   obtain ⟨x728, x729, x730, x735, x740, x745, x746, x751, x752, x757, x758, x763, x764⟩ := q
   obtain ⟨v731, v736, v741, v747, v753, v759, LX733, LX738, LX743, LX749, LX755, LX761, h732, h737, h742, h748, h754, h760, ⟨s925, rfl⟩, hS⟩ := hq
   replace h732 : OwT 35 enc_uint32 1 x730 v731 LX733 := h732
   replace h737 : OwT 35 enc_uint32 1 x735 v736 LX738 := h737
   replace h742 : OwT 35 enc_uint32 1 x740 v741 LX743 := h742
   replace h748 : OwT 35 enc_uint32 1 x746 v747 LX749 := h748
   replace h754 : OwT 3 enc_int 1 x752 v753 LX755 := h754
   replace h760 : OwT 71 enc_Write 3 x758 v759 LX761 := h760
   obtain ⟨z922, hF, hK923⟩ := iter_step hI
   clear hI
   dsimp only [r5_issue_b2] at hF
   iterate 2 (refine c_seq ?_)
   refine c_region <| oy hS y_move <| oy hS y_bin <| n_thenN ?_
   refine c_if (ht := fun c926 => ?_) (hf := fun c926 => ?_)
   · replace hF := bt c926 hF
     refine wp_skip <| c_seq <| c_block <| c_seq <| c_region <| oy hS y_move ?_
     obtain ⟨x927, hx927, hF⟩ := ob hF
     refine oy hS (y_indexA (at'_bnd hx927 rfl).1 (at'_bnd hx927 (n := 4) rfl).2 underlying37 (by exact sz_api_Ins)) ?_
     refine oy hS (y_loadN (vs := (enc_Ins x927)) (fun w hS => hS.own (mC (mH))) underlying31 rfl (by exact sz_api_Ins) (arr_box (o := 0) (xs := [x2.x0, x2.x1, x2.x2, x2.x3]) (pre := []) (post := []) hx927 enc_len_Ins (by exact rfl) rfl)) ?_
     refine o_allocP (cl := (enc_Ins ⟨0, 0, 0, 0, 0, ByteArray.empty⟩)) zr_api_Ins rfl hS ?_
     clear hS; intro b928 w hS
     refine o_storeW (vs := (enc_Ins x927)) hS (by exact rfl) (Upd.here _) (by exact sz_api_Ins) (enc_one_Ins _) ?_
     clear hS; intro w hS
     refine n_thenN ?_
     obtain ⟨z1019, hF, hK1020⟩ := cut_step hF
     refine c_cutP (fun a w' => ∃ (x979 : (List Int)) (x984 : (List Int)) (x989 : (List Int)) (x994 : Int) (x995 : (List Int)) (x1000 : Int) (x1001 : (List Int)) (x1006 : Int) (x1007 : (List T_Write)) (x1012 : Int) (x1013 : Int) (x1014 : Bool) (x1015 : Int) (x1016 : Bool) (x1017 : Int) (x1018 : Int) (v980 : Value) (v985 : Value) (v990 : Value) (v996 : Value) (v1002 : Value) (v1008 : Value) (LX982 : Own) (LX987 : Own) (LX992 : Own) (LX998 : Own) (LX1004 : Own) (LX1010 : Own) (b978 : Nat), r5_issue_k3 x728 x927 x729 (x979, x984, x989, x994, x995, x1000, x1001, x1006, x1007, x1012, x1013, x1014, x1015, x1016, x1017, x1018) = some z922 ∧ OwT 35 enc_uint32 1 x979 v980 LX982 ∧ OwT 35 enc_uint32 1 x984 v985 LX987 ∧ OwT 35 enc_uint32 1 x989 v990 LX992 ∧ OwT 35 enc_uint32 1 x995 v996 LX998 ∧ OwT 3 enc_int 1 x1001 v1002 LX1004 ∧ OwT 71 enc_Write 3 x1007 v1008 LX1010 ∧ (∃ s : Nat → Value, a = Ac ((((((((Fm.dead 155 s).upd 1 (.pointer (some ⟨b1_, 0, none⟩))).upd 4 (.pointer (some ⟨b14, 0, none⟩))).upd 5 v_0_19).upd 6 (.bool x728)).upd 7 (.int .i64 x729)).upd 8 (.pointer (some ⟨b928, 0, none⟩))).upd 9 (.pointer (some ⟨b978, 0, none⟩)))) ∧ St W g LB1_ ((b1_, blk (cl_State v980 v985 v990 x994 v996 x1000 v1002 x1006 v1008 x1012 x1013) 27) :: ((b14, blk (enc_Bundle x2) 37) :: ((b928, blk (enc_Ins x927) 31) :: ((b978, blk (enc_deed ⟨x1014, x1015, x1016, x1017, x1018⟩) 79) :: (LX982 ++ (LX987 ++ (LX992 ++ (LX998 ++ (LX1004 ++ (LX1010 ++ (LX_0_20 ++ []))))))))))) w') ?_ ?_
     · skip
       obtain ⟨x1021, hx1021, hF⟩ := ob hF
       obtain ⟨b1022, c1023, cl1024, hv1025, ha1026, hb1027, hl1028, hc1029⟩ := OwT.at hx1021 h_0_21 enc_len_uint32
       obtain ⟨x1030, hx1030, hF⟩ := ob hF
       obtain ⟨b1031, c1032, cl1033, hv1034, ha1035, hb1036, hl1037, hc1038⟩ := OwT.at hx1030 h_0_21 enc_len_uint32
       obtain ⟨r1039, hr1039, hF⟩ := ob hF
       refine c_heldL 19 22 (by kernel_rfl) rfl hS ?_
       clear hS; intro w hS
       refine hy0 0 rfl wn (by kernel_rfl) (nq (P := Try.prog) (fn := Try.f32)) (fun _ => hS.cb) y_move ?_
       refine hy 1 rfl wn (by kernel_rfl) (nq (P := Try.prog) (fn := Try.f32)) hS.cb (y_loadW (fun w hS => hS.own (mH)) underlying31 rfl (by exact sz_api_Ins)) ?_
       refine hy0 2 rfl wn (by kernel_rfl) (nq (P := Try.prog) (fn := Try.f32)) (fun _ => hS.cb) y_move ?_
       refine hy0 3 rfl wn (by kernel_rfl) (nq (P := Try.prog) (fn := Try.f32)) (fun _ => hS.cb) (y_field fa_api_Ins_2) ?_
       refine hy 4 rfl wn (by kernel_rfl) (nq (P := Try.prog) (fn := Try.f32)) hS.cb (y_load (fun w hS => hS.own (mH)) underlying3 rfl rfl) ?_
       refine hy0 5 rfl wn (by kernel_rfl) (nq (P := Try.prog) (fn := Try.f32)) (fun _ => hS.cb) (y_index hv1025 ha1026 hb1027 underlying23 el_uint32.size) ?_
       refine hy 6 rfl wn (by kernel_rfl) (nq (P := Try.prog) (fn := Try.f32)) hS.cb (y_load (fun w hS => hS.own (mC (mC (mC (mB (mB (mB (mB (mB (mB (mA (mX hl1028)))))))))))) underlying35 rfl (hc1029 0 _ rfl)) ?_
       refine hy0 7 rfl wn (by kernel_rfl) (nq (P := Try.prog) (fn := Try.f32)) (fun _ => hS.cb) y_move ?_
       refine hy0 8 rfl wn (by kernel_rfl) (nq (P := Try.prog) (fn := Try.f32)) (fun _ => hS.cb) (y_field fa_api_Ins_3) ?_
       refine hy 9 rfl wn (by kernel_rfl) (nq (P := Try.prog) (fn := Try.f32)) hS.cb (y_load (fun w hS => hS.own (mH)) underlying3 rfl rfl) ?_
       refine hy0 10 rfl wn (by kernel_rfl) (nq (P := Try.prog) (fn := Try.f32)) (fun _ => hS.cb) (y_index hv1034 ha1035 hb1036 underlying23 el_uint32.size) ?_
       refine hy 11 rfl wn (by kernel_rfl) (nq (P := Try.prog) (fn := Try.f32)) hS.cb (y_load (fun w hS => hS.own (mC (mC (mC (mB (mB (mB (mB (mB (mB (mA (mX hl1037)))))))))))) underlying35 rfl (hc1038 0 _ rfl)) ?_
       refine hy0 12 rfl wn (by kernel_rfl) (nq (P := Try.prog) (fn := Try.f32)) (fun _ => hS.cb) y_move ?_
       refine hy0 13 rfl wn (by kernel_rfl) (nq (P := Try.prog) (fn := Try.f32)) (fun _ => hS.cb) y_nilCheck ?_
       refine hy0 14 rfl wn (by kernel_rfl) (nq (P := Try.prog) (fn := Try.f32)) (fun _ => hS.cb) (y_field fa_api_State_5) ?_
       refine hy 15 rfl wn (by kernel_rfl) (nq (P := Try.prog) (fn := Try.f32)) hS.cb (y_load (fun w hS => hS.own (mC (mH))) underlying3 rfl rfl) ?_
       refine hy0 16 rfl wn (by kernel_rfl) (nq (P := Try.prog) (fn := Try.f32)) (fun _ => hS.cb) y_bin ?_
       refine hy0 17 rfl wn (by kernel_rfl) (nq (P := Try.prog) (fn := Try.f32)) (fun _ => hS.cb) y_bin ?_
       refine hy0 18 rfl wn (by kernel_rfl) (nq (P := Try.prog) (fn := Try.f32)) (fun _ => hS.cb) y_min ?_
       refine hb2 19 20 (by kernel_rfl) (hb_op rfl wn (nl (P := Try.prog) (fn := Try.f32)) ?_) (hb_op rfl wn (nl (P := Try.prog) (fn := Try.f32)) ?_)
       · skip
         have hS := hS.re (.b (.thereb _ .hb) (.t (.thereb _ (.thereb _ .h)) (.t (.thereb _ (.thereb _ .h)) (.t (.thereb _ (.thereb _ .h)) (.t (.thereb _ (.thereb _ .h)) (.t (.thereb _ (.thereb _ .h)) (.t (.thereb _ (.thereb _ .h)) (.b .hb (.b .hb (.t .h .n))))))))))
         have hS2 := hS.spl (.cons _ (.app _ (.app _ (.app _ (.app _ (.app _ (.app _ (.nil _))))))))
         refine o_call hS2 func52 rfl rfl (hc := (w_r5_do (a0 := (⟨x730, x735, x740, x745, x746, x751, x752, x757, x758, x763, x764⟩ : T_State)) (a1 := x927) (a2 := x1021) (a3 := x1030) (a4 := (imin (IntKind.i64.wrap ((IntKind.i64.wrap (x751 + 1)) + 2)) 1024)) (h0 := (⟨_, _, _, _, _, _, _, _, _, _, _, _, rfl, h732, h737, h742, h748, h754, h760⟩ : Bx_State b1_ (⟨x730, x735, x740, x745, x746, x751, x752, x757, x758, x763, x764⟩ : T_State) ((b1_, blk (cl_State v731 v736 v741 x745 v747 x751 v753 x757 v759 x763 x764) 27) :: (LX733 ++ (LX738 ++ (LX743 ++ (LX749 ++ (LX755 ++ (LX761 ++ []))))))))) (hF := hr1039))) (h := ?_)
         clear hS; intro v1040 LY1041 w hS hr1042
         clear hS2
         obtain ⟨LB1043, rfl, rfl, hb1044⟩ := hr1042
         obtain ⟨vB_0_1045, vB_1_1049, vB_2_1053, vB_4_1057, vB_6_1061, vB_8_1065, LXB_0_1046, LXB_1_1050, LXB_2_1054, LXB_4_1058, LXB_6_1062, LXB_8_1066, rfl, hB_0_1047, hB_1_1051, hB_2_1055, hB_4_1059, hB_6_1063, hB_8_1067⟩ := hb1044
         simp only [aa, ac, al] at hS
         refine hb_next (fun h => absurd h (by decide)) ?_
         refine hb1 20 (by kernel_rfl) (hb_op rfl wn (nl (P := Try.prog) (fn := Try.f32)) ?_)
         refine o_allocP (cl := (enc_deed ⟨false, 0, false, 0, 0⟩)) zr_sledgeref5_deed rfl hS ?_
         clear hS; intro b1069 w hS
         refine hb_next (fun h => absurd h (by decide)) ?_
         refine hb1 21 (by kernel_rfl) (hb_op rfl wn (nl (P := Try.prog) (fn := Try.f32)) ?_)
         refine o_storeW (vs := (enc_deed r1039.2)) hS (by exact rfl) (Upd.here _) (by exact sz_sledgeref5_deed) (enc_one_deed _) ?_
         clear hS; intro w hS
         refine hb_next (fun h => absurd h (by decide)) ?_
         refine hb_done (by kernel_rfl) ?_
         obtain rfl := osi hF
         change ∃ _, _
         exact ⟨r1039.1.Regs, r1039.1.Mem, r1039.1.In_, r1039.1.Taken, r1039.1.Out, r1039.1.PC, r1039.1.Stack, r1039.1.Stop, r1039.1.Fly, r1039.1.Jump, r1039.1.Delay, r1039.2.has, r1039.2.result, r1039.2.jumps, r1039.2.to, r1039.2.stop, vB_0_1045, vB_1_1049, vB_2_1053, vB_4_1057, vB_6_1061, vB_8_1065, LXB_0_1046, LXB_1_1050, LXB_2_1054, LXB_4_1058, LXB_6_1062, LXB_8_1066, b1069, hK1020, hB_0_1047, hB_1_1051, hB_2_1055, hB_4_1059, hB_6_1063, hB_8_1067, mk_exF, (hS.re (.b (.thereb _ .hb) (.b (.thereb _ (.there _ (.there _ (.there _ (.there _ (.there _ (.there _ (.thereb _ .hb)))))))) (.b (.thereb _ (.there _ (.there _ (.there _ (.there _ (.there _ (.there _ .hb))))))) (.b .hb (.t .h (.t .h (.t .h (.t .h (.t .h (.t .h (.t .h .n))))))))))))⟩
       refine o_allocP (cl := (enc_deed ⟨false, 0, false, 0, 0⟩)) zr_sledgeref5_deed rfl hS ?_
       clear hS; intro b1069 w hS
       refine hb_next (fun _ => (hS.re (.b (.thereb _ .hb) (.b (.thereb _ .hb) (.b (.thereb _ .hb) (.t (.thereb _ .h) (.t (.thereb _ .h) (.t (.thereb _ .h) (.t (.thereb _ .h) (.t (.thereb _ .h) (.t (.thereb _ .h) (.t (.thereb _ .h) .n))))))))))).cb) ?_
       refine hb1 19 (by kernel_rfl) (hb_op rfl wn (nl (P := Try.prog) (fn := Try.f32)) ?_)
       have hS := hS.re (.b (.thereb _ (.thereb _ .hb)) (.t (.thereb _ (.thereb _ (.thereb _ .h))) (.t (.thereb _ (.thereb _ (.thereb _ .h))) (.t (.thereb _ (.thereb _ (.thereb _ .h))) (.t (.thereb _ (.thereb _ (.thereb _ .h))) (.t (.thereb _ (.thereb _ (.thereb _ .h))) (.t (.thereb _ (.thereb _ (.thereb _ .h))) (.b .hb (.b .hb (.b .hb (.t .h .n)))))))))))
       have hS2 := hS.spl (.cons _ (.app _ (.app _ (.app _ (.app _ (.app _ (.app _ (.nil _))))))))
       refine o_call hS2 func52 rfl rfl (hc := (w_r5_do (a0 := (⟨x730, x735, x740, x745, x746, x751, x752, x757, x758, x763, x764⟩ : T_State)) (a1 := x927) (a2 := x1021) (a3 := x1030) (a4 := (imin (IntKind.i64.wrap ((IntKind.i64.wrap (x751 + 1)) + 2)) 1024)) (h0 := (⟨_, _, _, _, _, _, _, _, _, _, _, _, rfl, h732, h737, h742, h748, h754, h760⟩ : Bx_State b1_ (⟨x730, x735, x740, x745, x746, x751, x752, x757, x758, x763, x764⟩ : T_State) ((b1_, blk (cl_State v731 v736 v741 x745 v747 x751 v753 x757 v759 x763 x764) 27) :: (LX733 ++ (LX738 ++ (LX743 ++ (LX749 ++ (LX755 ++ (LX761 ++ []))))))))) (hF := hr1039))) (h := ?_)
       clear hS; intro v1040 LY1041 w hS hr1042
       clear hS2
       obtain ⟨LB1043, rfl, rfl, hb1044⟩ := hr1042
       obtain ⟨vB_0_1045, vB_1_1049, vB_2_1053, vB_4_1057, vB_6_1061, vB_8_1065, LXB_0_1046, LXB_1_1050, LXB_2_1054, LXB_4_1058, LXB_6_1062, LXB_8_1066, rfl, hB_0_1047, hB_1_1051, hB_2_1055, hB_4_1059, hB_6_1063, hB_8_1067⟩ := hb1044
       simp only [aa, ac, al] at hS
       refine hb_next (fun h => absurd h (by decide)) ?_
       refine hb1 21 (by kernel_rfl) (hb_op rfl wn (nl (P := Try.prog) (fn := Try.f32)) ?_)
       have hS := hS.re (.b (.thereb _ (.there _ (.there _ (.there _ (.there _ (.there _ (.there _ .hb))))))) (.b .hb (.t .h (.t .h (.t .h (.t .h (.t .h (.t .h (.b .hb (.b .hb (.t .h .n)))))))))))
       refine o_storeW (vs := (enc_deed r1039.2)) hS (by exact rfl) (Upd.here _) (by exact sz_sledgeref5_deed) (enc_one_deed _) ?_
       clear hS; intro w hS
       refine hb_next (fun h => absurd h (by decide)) ?_
       refine hb_done (by kernel_rfl) ?_
       obtain rfl := osi hF
       change ∃ _, _
       exact ⟨r1039.1.Regs, r1039.1.Mem, r1039.1.In_, r1039.1.Taken, r1039.1.Out, r1039.1.PC, r1039.1.Stack, r1039.1.Stop, r1039.1.Fly, r1039.1.Jump, r1039.1.Delay, r1039.2.has, r1039.2.result, r1039.2.jumps, r1039.2.to, r1039.2.stop, vB_0_1045, vB_1_1049, vB_2_1053, vB_4_1057, vB_6_1061, vB_8_1065, LXB_0_1046, LXB_1_1050, LXB_2_1054, LXB_4_1058, LXB_6_1062, LXB_8_1066, b1069, hK1020, hB_0_1047, hB_1_1051, hB_2_1055, hB_4_1059, hB_6_1063, hB_8_1067, mk_exF, (hS.re (.b (.thereb _ .hb) (.b (.thereb _ (.there _ (.there _ (.there _ (.there _ (.there _ (.there _ (.thereb _ .hb)))))))) (.b (.thereb _ (.there _ (.there _ (.there _ (.there _ (.there _ (.there _ .hb))))))) (.b .hb (.t .h (.t .h (.t .h (.t .h (.t .h (.t .h (.t .h .n))))))))))))⟩
     rintro a w ⟨x979, x984, x989, x994, x995, x1000, x1001, x1006, x1007, x1012, x1013, x1014, x1015, x1016, x1017, x1018, v980, v985, v990, v996, v1002, v1008, LX982, LX987, LX992, LX998, LX1004, LX1010, b978, hF, h981, h986, h991, h997, h1003, h1009, ⟨s1070, rfl⟩, hS⟩
     dsimp only [r5_issue_k3] at hF
     iterate 2 (refine c_seq ?_)
     refine c_region <| oy hS (y_field fa_sledgeref5_deed_4) <| oy hS (y_load (fun w hS => hS.own (mC (mC (mC (mH))))) underlying3 rfl rfl) <| oy hS y_bin <| n_thenN ?_
     refine c_if (ht := fun c1071 => ?_) (hf := fun c1071 => ?_)
     · replace hF := bt c1071 hF
       refine c_seq <| c_region <| oy hS y_move <| oy hS (y_field fa_sledgeref5_deed_4) <| oy hS (y_load (fun w hS => hS.own (mC (mC (mC (mH))))) underlying3 rfl rfl) <| oy hS y_nilCheck <| oy hS (y_field fa_api_State_7) ?_
       refine o_storeA1 (o := 7) (cl' := (cl_State v980 v985 v990 x994 v996 x1000 v1002 x1018 v1008 x1012 x1013)) hS (by kernel_rfl) (by exact Nat.le_of_ble_eq_true rfl) (Upd.here _) (by exact sz_int) rfl rfl ?_
       clear hS; intro w hS
       refine n_thenN ?_
       refine wp_exit ?_
       obtain rfl := osi hF
       obtain rfl : _ = z570 := hK923
       change ∃ _, _
       exact ⟨x728, x979, x984, x989, x994, x995, x1000, x1001, x1018, x1007, x1012, x1013, v980, v985, v990, v996, v1002, v1008, LX982, LX987, LX992, LX998, LX1004, LX1010, hK571, h981, h986, h991, h997, h1003, h1009, mk_exF, (hS.re (.b .hb (.t (.thereb _ (.thereb _ (.thereb _ .h))) (.t (.thereb _ (.thereb _ (.thereb _ .h))) (.t (.thereb _ (.thereb _ (.thereb _ .h))) (.t (.thereb _ (.thereb _ (.thereb _ .h))) (.t (.thereb _ (.thereb _ (.thereb _ .h))) (.t (.thereb _ (.thereb _ (.thereb _ .h))) .n))))))))⟩
     replace hF := bf c1071 hF
     refine wp_skip ?_
     iterate 2 (refine c_seq ?_)
     refine c_region <| oy hS (y_field fa_sledgeref5_deed_0) <| oy hS (y_load (fun w hS => hS.own (mC (mC (mC (mH))))) underlying4 rfl rfl) <| n_thenN ?_
     refine c_if (ht := fun c1072 => ?_) (hf := fun c1072 => ?_)
     · replace hF := bt c1072 hF
       refine c_heldL 15 19 (by kernel_rfl) rfl hS ?_
       clear hS; intro w hS
       refine hy0 0 rfl wn (by kernel_rfl) (nq (P := Try.prog) (fn := Try.f32)) (fun _ => hS.cb) y_move ?_
       refine hy0 1 rfl wn (by kernel_rfl) (nq (P := Try.prog) (fn := Try.f32)) (fun _ => hS.cb) y_move ?_
       refine hy0 2 rfl wn (by kernel_rfl) (nq (P := Try.prog) (fn := Try.f32)) (fun _ => hS.cb) y_nilCheck ?_
       refine hy0 3 rfl wn (by kernel_rfl) (nq (P := Try.prog) (fn := Try.f32)) (fun _ => hS.cb) (y_field fa_api_State_8) ?_
       refine hy 4 rfl wn (by kernel_rfl) (nq (P := Try.prog) (fn := Try.f32)) hS.cb (y_load (fun w hS => hS.own (mH)) underlying25 rfl rfl) ?_
       refine hy0 5 rfl wn (by kernel_rfl) (nq (P := Try.prog) (fn := Try.f32)) (fun _ => hS.cb) (y_field fa_api_Ins_1) ?_
       refine hy 6 rfl wn (by kernel_rfl) (nq (P := Try.prog) (fn := Try.f32)) hS.cb (y_load (fun w hS => hS.own (mC (mC (mH)))) underlying3 rfl rfl) ?_
       refine hy0 7 rfl wn (by kernel_rfl) (nq (P := Try.prog) (fn := Try.f32)) (fun _ => hS.cb) (y_field fa_sledgeref5_deed_1) ?_
       refine hy 8 rfl wn (by kernel_rfl) (nq (P := Try.prog) (fn := Try.f32)) hS.cb (y_load (fun w hS => hS.own (mC (mC (mC (mH))))) underlying35 rfl rfl) ?_
       refine hy0 9 rfl wn (by kernel_rfl) (nq (P := Try.prog) (fn := Try.f32)) (fun _ => hS.cb) (y_field fa_api_Ins_0) ?_
       refine hy 10 rfl wn (by kernel_rfl) (nq (P := Try.prog) (fn := Try.f32)) hS.cb (y_load (fun w hS => hS.own (mC (mC (mH)))) underlying3 rfl rfl) ?_
       refine hb1 11 (by kernel_rfl) (hb_op rfl wn (nl (P := Try.prog) (fn := Try.f32)) ?_)
       refine o_callS hS func14 rfl rfl (hc := (w_r3_Latency (a0 := x927.Op))) (h := ?_)
       clear hS; intro w hS
       refine hb_next (fun _ => hS.cb) ?_
       refine hy0 12 rfl wn (by kernel_rfl) (nq (P := Try.prog) (fn := Try.f32)) (fun _ => hS.cb) y_bin ?_
       refine hy0 13 rfl wn (by kernel_rfl) (nq (P := Try.prog) (fn := Try.f32)) (fun _ => hS.cb) (y_build (cl := (enc_Write ⟨x927.D, x1015, IntKind.i64.wrap ((r3_Latency x927.Op) - 1)⟩)) bt_api_Write rfl (by kernel_rfl)) ?_
       refine hb1 14 (by kernel_rfl) (hb_op rfl wn (nl (P := Try.prog) (fn := Try.f32)) ?_)
       refine o_buildT val_Write ([(⟨x927.D, x1015, IntKind.i64.wrap ((r3_Latency x927.Op) - 1)⟩ : T_Write)] : List T_Write) hS el_api_Write (fun _ => rfl) enc_len_Write (by decide) rfl (by decide) (hp := rfl) (h := ?_)
       clear hS; intro b1073 w hS h1074
       have hS : St W g LB1_ ([(b1073, blk (([(⟨x927.D, x1015, IntKind.i64.wrap ((r3_Latency x927.Op) - 1)⟩ : T_Write)] : List T_Write).flatMap enc_Write) 71)] ++ ((b1_, blk (cl_State v980 v985 v990 x994 v996 x1000 v1002 x1006 v1008 x1012 x1013) 27) :: ((b14, blk (enc_Bundle x2) 37) :: ((b928, blk (enc_Ins x927) 31) :: ((b978, blk (enc_deed ⟨x1014, x1015, x1016, x1017, x1018⟩) 79) :: (LX982 ++ (LX987 ++ (LX992 ++ (LX998 ++ (LX1004 ++ (LX1010 ++ (LX_0_20 ++ [])))))))))))) w := hS
       refine hb_next (fun _ => (hS.re (.b (.there _ .hb) (.b (.there _ .hb) (.b (.there _ .hb) (.b (.there _ .hb) (.t (.there _ .h) (.t (.there _ .h) (.t (.there _ .h) (.t (.there _ .h) (.t (.there _ .h) (.t (.there _ .h) (.t (.there _ .h) .n)))))))))))).cb) ?_
       refine hb1 15 (by kernel_rfl) (hb_op rfl wn (nl (P := Try.prog) (fn := Try.f32)) ?_)
       obtain ⟨zs1080, hzs1080, hF⟩ := ob hF
       have hS := hS.re (.t .h (.t (.thereb _ (.thereb _ (.thereb _ (.thereb _ (.there _ (.there _ (.there _ (.there _ (.there _ .h))))))))) (.b .hb (.b .hb (.b .hb (.b .hb (.t .h (.t .h (.t .h (.t .h (.t .h (.t .h .n))))))))))))
       refine o_appPn (ys := ([(⟨x927.D, x1015, IntKind.i64.wrap ((r3_Latency x927.Op) - 1)⟩ : T_Write)] : List T_Write)) (LX := LX1010) hzs1080 hS el_api_Write h1009 rfl enc_len_Write (enc_ones_Write _) (by decide) ?_
       clear hS; intro v1076 LX1077 w h1078 hS
       refine hb_next (fun h => absurd h (by decide)) ?_
       refine hy0 16 rfl wn (by kernel_rfl) (nq (P := Try.prog) (fn := Try.f32)) (fun h => absurd h (by decide)) y_nilCheck ?_
       refine hy0 17 rfl wn (by kernel_rfl) (nq (P := Try.prog) (fn := Try.f32)) (fun h => absurd h (by decide)) (y_field fa_api_State_8) ?_
       refine hb1 18 (by kernel_rfl) (hb_op rfl wn (nl (P := Try.prog) (fn := Try.f32)) ?_)
       have hS := hS.re (.b (.there _ .hb) (.t .h (.b .hb (.b .hb (.b .hb (.t .h (.t .h (.t .h (.t .h (.t .h (.t .h .n)))))))))))
       refine o_storeA1 (o := 8) (cl' := (cl_State v980 v985 v990 x994 v996 x1000 v1002 x1006 v1076 x1012 x1013)) hS (by kernel_rfl) (by exact Nat.le_of_ble_eq_true rfl) (Upd.here _) (by exact sz_S_api_Write) (h1078).one (h1078).cell ?_
       clear hS; intro w hS
       refine hb_next (fun h => absurd h (by decide)) ?_
       refine hb_done (by kernel_rfl) ?_
       refine c_seq <| c_region <| oy hS (y_field fa_sledgeref5_deed_2) <| oy hS (y_load (fun w hS => hS.own (mC (mB (mC (mC (mH)))))) underlying4 rfl rfl) <| n_thenN ?_
       refine c_if (ht := fun c1081 => ?_) (hf := fun c1081 => ?_)
       · replace hF := bt c1081 hF
         refine c_region ?_
         iterate 2 (refine oy hS y_move ?_)
         refine oy hS (y_field fa_sledgeref5_deed_3) <| oy hS (y_load (fun w hS => hS.own (mC (mB (mC (mC (mH)))))) underlying3 rfl rfl) <| oy hS y_nilCheck <| oy hS (y_field fa_api_State_9) ?_
         refine o_storeA1 (o := 9) (cl' := (cl_State v980 v985 v990 x994 v996 x1000 v1002 x1006 v1076 x1017 x1013)) hS (by kernel_rfl) (by exact Nat.le_of_ble_eq_true rfl) (Upd.here _) (by exact sz_int) rfl rfl ?_
         clear hS; intro w hS
         refine oy hS y_nilCheck <| oy hS (y_field fa_api_State_10) ?_
         refine o_storeA1 (o := 10) (cl' := (cl_State v980 v985 v990 x994 v996 x1000 v1002 x1006 v1076 x1017 2)) hS (by kernel_rfl) (by exact Nat.le_of_ble_eq_true rfl) (Upd.here _) (by exact sz_int) rfl rfl ?_
         clear hS; intro w hS
         refine oy hS y_assign ?_
         refine n_anyN ?_
         refine c_region <| oy hS y_move <| oy hS y_bin <| oy hS y_assign <| n_thenN ?_
         obtain rfl := osi hF
         exact ⟨_, hK923, v980, v985, v990, v996, v1002, v1076, LX982, LX987, LX992, LX998, LX1004, LX1077, h981, h986, h991, h997, h1003, h1078, mk_exF, (hS.re (.b .hb (.b (.there _ .hb) (.t (.there _ (.thereb _ (.thereb _ .h))) (.t (.there _ (.thereb _ (.thereb _ .h))) (.t (.there _ (.thereb _ (.thereb _ .h))) (.t (.there _ (.thereb _ (.thereb _ .h))) (.t (.there _ (.thereb _ (.thereb _ .h))) (.t .h (.t (.thereb _ (.thereb _ .h)) .n))))))))))⟩
       replace hF := bf c1081 hF
       refine wp_skip <| c_region <| oy hS y_move <| oy hS y_bin <| oy hS y_assign <| n_thenN ?_
       obtain rfl := osi hF
       exact ⟨_, hK923, v980, v985, v990, v996, v1002, v1076, LX982, LX987, LX992, LX998, LX1004, LX1077, h981, h986, h991, h997, h1003, h1078, mk_exF, (hS.re (.b .hb (.b (.there _ .hb) (.t (.there _ (.thereb _ (.thereb _ .h))) (.t (.there _ (.thereb _ (.thereb _ .h))) (.t (.there _ (.thereb _ (.thereb _ .h))) (.t (.there _ (.thereb _ (.thereb _ .h))) (.t (.there _ (.thereb _ (.thereb _ .h))) (.t .h (.t (.thereb _ (.thereb _ .h)) .n))))))))))⟩
     replace hF := bf c1072 hF
     refine wp_skip <| c_seq <| c_region <| oy hS (y_field fa_sledgeref5_deed_2) <| oy hS (y_load (fun w hS => hS.own (mC (mC (mC (mH))))) underlying4 rfl rfl) <| n_thenN ?_
     refine c_if (ht := fun c1082 => ?_) (hf := fun c1082 => ?_)
     · replace hF := bt c1082 hF
       refine c_region ?_
       iterate 2 (refine oy hS y_move ?_)
       refine oy hS (y_field fa_sledgeref5_deed_3) <| oy hS (y_load (fun w hS => hS.own (mC (mC (mC (mH))))) underlying3 rfl rfl) <| oy hS y_nilCheck <| oy hS (y_field fa_api_State_9) ?_
       refine o_storeA1 (o := 9) (cl' := (cl_State v980 v985 v990 x994 v996 x1000 v1002 x1006 v1008 x1017 x1013)) hS (by kernel_rfl) (by exact Nat.le_of_ble_eq_true rfl) (Upd.here _) (by exact sz_int) rfl rfl ?_
       clear hS; intro w hS
       refine oy hS y_nilCheck <| oy hS (y_field fa_api_State_10) ?_
       refine o_storeA1 (o := 10) (cl' := (cl_State v980 v985 v990 x994 v996 x1000 v1002 x1006 v1008 x1017 2)) hS (by kernel_rfl) (by exact Nat.le_of_ble_eq_true rfl) (Upd.here _) (by exact sz_int) rfl rfl ?_
       clear hS; intro w hS
       refine oy hS y_assign ?_
       refine n_anyN ?_
       refine c_region <| oy hS y_move <| oy hS y_bin <| oy hS y_assign <| n_thenN ?_
       obtain rfl := osi hF
       exact ⟨_, hK923, v980, v985, v990, v996, v1002, v1008, LX982, LX987, LX992, LX998, LX1004, LX1010, h981, h986, h991, h997, h1003, h1009, mk_exF, (hS.re (.b .hb (.b .hb (.t (.thereb _ (.thereb _ .h)) (.t (.thereb _ (.thereb _ .h)) (.t (.thereb _ (.thereb _ .h)) (.t (.thereb _ (.thereb _ .h)) (.t (.thereb _ (.thereb _ .h)) (.t (.thereb _ (.thereb _ .h)) (.t (.thereb _ (.thereb _ .h)) .n))))))))))⟩
     replace hF := bf c1082 hF
     refine wp_skip <| c_region <| oy hS y_move <| oy hS y_bin <| oy hS y_assign <| n_thenN ?_
     obtain rfl := osi hF
     exact ⟨_, hK923, v980, v985, v990, v996, v1002, v1008, LX982, LX987, LX992, LX998, LX1004, LX1010, h981, h986, h991, h997, h1003, h1009, mk_exF, (hS.re (.b .hb (.b .hb (.t (.thereb _ (.thereb _ .h)) (.t (.thereb _ (.thereb _ .h)) (.t (.thereb _ (.thereb _ .h)) (.t (.thereb _ (.thereb _ .h)) (.t (.thereb _ (.thereb _ .h)) (.t (.thereb _ (.thereb _ .h)) (.t (.thereb _ (.thereb _ .h)) .n))))))))))⟩
   replace hF := bf c926 hF
   refine wp_exit ?_
   obtain rfl := osi hF
   obtain rfl : _ = z570 := hK923
   change ∃ _, _
   exact ⟨x728, x730, x735, x740, x745, x746, x751, x752, x757, x758, x763, x764, v731, v736, v741, v747, v753, v759, LX733, LX738, LX743, LX749, LX755, LX761, hK571, h732, h737, h742, h748, h754, h760, mk_exF, (hS.re (.b .hb (.t (.thereb _ .h) (.t (.thereb _ .h) (.t (.thereb _ .h) (.t (.thereb _ .h) (.t (.thereb _ .h) (.t (.thereb _ .h) .n))))))))⟩
 rintro a w ⟨x534, x535, x540, x545, x550, x551, x556, x557, x562, x563, x568, x569, v536, v541, v546, v552, v558, v564, LX538, LX543, LX548, LX554, LX560, LX566, hF, h537, h542, h547, h553, h559, h565, ⟨s1083, rfl⟩, hS⟩
 dsimp only [r5_issue_k1] at hF
 obtain ⟨z1217, hF, hK1218⟩ := cut_step hF
 refine c_cutP (fun a w' => r5_issue_k4 x562 x535 x540 x545 x550 x551 x556 x557 x563 x568 x569 x534 () = some r ∧ (∃ s : Nat → Value, a = Ac (((Fm.dead 155 s).upd 1 (.pointer (some ⟨b1_, 0, none⟩))).upd 6 (.bool x534))) ∧ St W g LB1_ ((b1_, blk (cl_State v536 v541 v546 x550 v552 x556 v558 x562 v564 x568 x569) 27) :: (LX538 ++ (LX543 ++ (LX548 ++ (LX554 ++ (LX560 ++ (LX566 ++ []))))))) w') ?_ ?_
 · skip
   refine c_seq <| c_region <| oy hS y_move <| oy hS y_nilCheck <| oy hS (y_field fa_api_State_7) <| oy hS (y_load (fun w hS => hS.own (mH)) underlying3 rfl rfl) <| oy hS y_bin <| n_thenN ?_
   refine c_if (ht := fun c1219 => ?_) (hf := fun c1219 => ?_)
   · replace hF := bt c1219 hF
     refine c_seq <| c_block ?_
     refine c_loopP hF (fun (q : ((List Int) × (List Int) × (List Int) × Int × (List Int) × Int × (List Int) × Int × (List T_Write) × Int × Int)) a w' => ∃ (v1252 : Value) (v1257 : Value) (v1262 : Value) (v1268 : Value) (v1274 : Value) (v1280 : Value) (LX1254 : Own) (LX1259 : Own) (LX1264 : Own) (LX1270 : Own) (LX1276 : Own) (LX1282 : Own), OwT 35 enc_uint32 1 q.1 v1252 LX1254 ∧ OwT 35 enc_uint32 1 q.2.1 v1257 LX1259 ∧ OwT 35 enc_uint32 1 q.2.2.1 v1262 LX1264 ∧ OwT 35 enc_uint32 1 q.2.2.2.2.1 v1268 LX1270 ∧ OwT 3 enc_int 1 q.2.2.2.2.2.2.1 v1274 LX1276 ∧ OwT 71 enc_Write 3 q.2.2.2.2.2.2.2.2.1 v1280 LX1282 ∧ (∃ s : Nat → Value, a = Ac ((Fm.dead 155 s).upd 1 (.pointer (some ⟨b1_, 0, none⟩)))) ∧ St W g LB1_ ((b1_, blk (cl_State v1252 v1257 v1262 q.2.2.2.1 v1268 q.2.2.2.2.2.1 v1274 q.2.2.2.2.2.2.2.1 v1280 q.2.2.2.2.2.2.2.2.2.1 q.2.2.2.2.2.2.2.2.2.2) 27) :: (LX1254 ++ (LX1259 ++ (LX1264 ++ (LX1270 ++ (LX1276 ++ (LX1282 ++ []))))))) w') ⟨v536, v541, v546, v552, v558, v564, LX538, LX543, LX548, LX554, LX560, LX566, h537, h542, h547, h553, h559, h565, mk_exF, (hS.re (.b .hb (.t .h (.t .h (.t .h (.t .h (.t .h (.t .h .n))))))))⟩ ?_
     clear hS hF
     intro n1319 q a w hI hq
     obtain ⟨x1251, x1256, x1261, x1266, x1267, x1272, x1273, x1278, x1279, x1284, x1285⟩ := q
     obtain ⟨v1252, v1257, v1262, v1268, v1274, v1280, LX1254, LX1259, LX1264, LX1270, LX1276, LX1282, h1253, h1258, h1263, h1269, h1275, h1281, ⟨s1320, rfl⟩, hS⟩ := hq
     replace h1253 : OwT 35 enc_uint32 1 x1251 v1252 LX1254 := h1253
     replace h1258 : OwT 35 enc_uint32 1 x1256 v1257 LX1259 := h1258
     replace h1263 : OwT 35 enc_uint32 1 x1261 v1262 LX1264 := h1263
     replace h1269 : OwT 35 enc_uint32 1 x1267 v1268 LX1270 := h1269
     replace h1275 : OwT 3 enc_int 1 x1273 v1274 LX1276 := h1275
     replace h1281 : OwT 71 enc_Write 3 x1279 v1280 LX1282 := h1281
     obtain ⟨z1317, hF, hK1318⟩ := iter_step hI
     clear hI
     dsimp only [r5_issue_b5] at hF
     iterate 2 (refine c_seq ?_)
     refine c_region <| oy hS y_move <| oy hS y_nilCheck <| oy hS (y_field fa_api_State_8) <| oy hS (y_load (fun w hS => hS.own (mH)) underlying25 rfl rfl) <| oy hS (y_lenO h1281 underlying25) <| oy hS y_bin <| n_thenN ?_
     refine c_if (ht := fun c1321 => ?_) (hf := fun c1321 => ?_)
     · replace hF := bt c1321 hF
       refine wp_skip <| c_block <| c_region <| oy hS y_move ?_
       have hS2 := hS.spl (.cons _ (.app _ (.app _ (.app _ (.app _ (.app _ (.app _ (.nil _))))))))
       obtain ⟨r1322, hr1322, hF⟩ := ob hF
       refine o_call hS2 func30 rfl rfl (hc := (w_r5_lands (a0 := (⟨x1251, x1256, x1261, x1266, x1267, x1272, x1273, x1278, x1279, x1284, x1285⟩ : T_State)) (h0 := (⟨_, _, _, _, _, _, _, _, _, _, _, _, rfl, h1253, h1258, h1263, h1269, h1275, h1281⟩ : Bx_State b1_ (⟨x1251, x1256, x1261, x1266, x1267, x1272, x1273, x1278, x1279, x1284, x1285⟩ : T_State) ((b1_, blk (cl_State v1252 v1257 v1262 x1266 v1268 x1272 v1274 x1278 v1280 x1284 x1285) 27) :: (LX1254 ++ (LX1259 ++ (LX1264 ++ (LX1270 ++ (LX1276 ++ (LX1282 ++ []))))))))) (hF := hr1322))) (h := ?_)
       clear hS; intro v1323 LY1324 w hS hr1325
       clear hS2
       obtain ⟨LB1326, rfl, rfl, hb1327⟩ := hr1325
       obtain ⟨vB_0_1328, vB_1_1332, vB_2_1336, vB_4_1340, vB_6_1344, vB_8_1348, LXB_0_1329, LXB_1_1333, LXB_2_1337, LXB_4_1341, LXB_6_1345, LXB_8_1349, rfl, hB_0_1330, hB_1_1334, hB_2_1338, hB_4_1342, hB_6_1346, hB_8_1350⟩ := hb1327
       simp only [aa, ac, al] at hS
       refine n_anyN ?_
       obtain rfl := osi hF
       exact ⟨_, hK1318, vB_0_1328, vB_1_1332, vB_2_1336, vB_4_1340, vB_6_1344, vB_8_1348, LXB_0_1329, LXB_1_1333, LXB_2_1337, LXB_4_1341, LXB_6_1345, LXB_8_1349, hB_0_1330, hB_1_1334, hB_2_1338, hB_4_1342, hB_6_1346, hB_8_1350, mk_exF, (hS.re (.b .hb (.t .h (.t .h (.t .h (.t .h (.t .h (.t .h .n))))))))⟩
     replace hF := bf c1321 hF
     refine wp_exit ?_
     obtain rfl := osi hF
     obtain rfl : _ = z1217 := hK1318
     obtain rfl : _ = r := hK1218
     refine wp_ret (r_ret (vs := []) (hS.re (.b .hb (.t .h (.t .h (.t .h (.t .h (.t .h (.t .h .n)))))))) rsN rfl ⟨_, rfl, (by first | rfl | simp only [aa, ac, al, an]), ⟨_, _, _, _, _, _, _, _, _, _, _, _, rfl, h1253, h1258, h1263, h1269, h1275, h1281⟩⟩)
   replace hF := bf c1219 hF
   refine wp_skip ?_
   obtain rfl := osi hF
   change _ ∧ _
   exact ⟨hK1218, mk_exF, (hS.re (.b .hb (.t .h (.t .h (.t .h (.t .h (.t .h (.t .h .n))))))))⟩
 rintro a w ⟨hF, ⟨s1352, rfl⟩, hS⟩
 dsimp only [r5_issue_k4] at hF
 iterate 2 (refine c_seq ?_)
 refine c_region <| oy hS y_move <| oy hS y_nilCheck <| oy hS (y_field fa_api_State_7) <| oy hS (y_load (fun w hS => hS.own (mH)) underlying3 rfl rfl) <| oy hS y_bin <| n_thenN ?_
 refine c_if (ht := fun c1353 => ?_) (hf := fun c1353 => ?_)
 · replace hF := bt c1353 hF
   obtain rfl := osi hF
   refine wp_ret (r_ret (vs := []) (hS.re (.b .hb (.t .h (.t .h (.t .h (.t .h (.t .h (.t .h .n)))))))) rsN rfl ⟨_, rfl, (by first | rfl | simp only [aa, ac, al, an]), ⟨_, _, _, _, _, _, _, _, _, _, _, _, rfl, h537, h542, h547, h553, h559, h565⟩⟩)
 replace hF := bf c1353 hF
 refine wp_skip <| c_seq <| c_region ?_
 iterate 2 (refine oy hS y_move ?_)
 refine oy hS y_nilCheck <| oy hS (y_field fa_api_State_5) <| oy hS (y_load (fun w hS => hS.own (mH)) underlying3 rfl rfl) <| oy hS y_bin <| oy hS y_nilCheck <| oy hS (y_field fa_api_State_5) ?_
 refine o_storeA1 (o := 5) (cl' := (cl_State v536 v541 v546 x550 v552 (IntKind.i64.wrap (x556 + 1)) v558 x562 v564 x568 x569)) hS (by kernel_rfl) (by exact Nat.le_of_ble_eq_true rfl) (Upd.here _) (by exact sz_int) rfl rfl ?_
 clear hS; intro w hS
 refine n_thenN <| c_seq <| c_region <| oy hS y_move <| oy hS y_not ?_
 refine o_split (ht := fun c1354 => ?_) (hf := fun c1354 => ?_)
 · replace hF := bt c1354 hF
   refine o_gu rfl rfl rfl <| oy hS y_move <| o_gu rfl rfl rfl <| oy hS y_nilCheck <| o_gu rfl rfl rfl <| oy hS (y_field fa_api_State_10) <| o_gu rfl rfl rfl <| oy hS (y_load (fun w hS => hS.own (mH)) underlying3 rfl rfl) ?_
   refine o_gu rfl rfl rfl <| oy hS y_bin <| oy hS y_pickT <| n_thenN ?_
   refine c_if (ht := fun c1355 => ?_) (hf := fun c1355 => ?_)
   · replace hF := bt c1355 hF
     refine c_seq <| c_region ?_
     iterate 2 (refine oy hS y_move ?_)
     refine oy hS y_nilCheck <| oy hS (y_field fa_api_State_10) <| oy hS (y_load (fun w hS => hS.own (mH)) underlying3 rfl rfl) <| oy hS y_bin <| oy hS y_nilCheck <| oy hS (y_field fa_api_State_10) ?_
     refine o_storeA1 (o := 10) (cl' := (cl_State v536 v541 v546 x550 v552 (IntKind.i64.wrap (x556 + 1)) v558 x562 v564 x568 (IntKind.i64.wrap (x569 - 1)))) hS (by kernel_rfl) (by exact Nat.le_of_ble_eq_true rfl) (Upd.here _) (by exact sz_int) rfl rfl ?_
     clear hS; intro w hS
     refine n_thenN <| c_seq <| c_region <| oy hS y_move <| oy hS y_nilCheck <| oy hS (y_field fa_api_State_10) <| oy hS (y_load (fun w hS => hS.own (mH)) underlying3 rfl rfl) <| oy hS y_bin ?_
     refine n_thenN ?_
     refine c_if (ht := fun c1356 => ?_) (hf := fun c1356 => ?_)
     · replace hF := bt c1356 hF
       refine c_region ?_
       iterate 3 (refine oy hS y_move ?_)
       refine oy hS y_nilCheck <| oy hS (y_field fa_api_State_9) <| oy hS (y_load (fun w hS => hS.own (mH)) underlying3 rfl rfl) <| oy hS y_nilCheck <| oy hS (y_field fa_api_State_5) ?_
       refine o_storeA1 (o := 5) (cl' := (cl_State v536 v541 v546 x550 v552 x568 v558 x562 v564 x568 (IntKind.i64.wrap (x569 - 1)))) hS (by kernel_rfl) (by exact Nat.le_of_ble_eq_true rfl) (Upd.here _) (by exact sz_int) rfl rfl ?_
       clear hS; intro w hS
       refine oy hS y_nilCheck <| oy hS (y_field fa_api_State_9) ?_
       refine o_storeA1 (o := 9) (cl' := (cl_State v536 v541 v546 x550 v552 x568 v558 x562 v564 0 (IntKind.i64.wrap (x569 - 1)))) hS (by kernel_rfl) (by exact Nat.le_of_ble_eq_true rfl) (Upd.here _) (by exact sz_int) rfl rfl ?_
       clear hS; intro w hS
       refine n_anyN ?_
       obtain rfl := osi hF
       refine (r_end (vs := []) (hS.re (.b .hb (.t .h (.t .h (.t .h (.t .h (.t .h (.t .h .n)))))))) rsN rfl ⟨_, rfl, (by first | rfl | simp only [aa, ac, al, an]), ⟨_, _, _, _, _, _, _, _, _, _, _, _, rfl, h537, h542, h547, h553, h559, h565⟩⟩)
     replace hF := bf c1356 hF
     refine wp_skip ?_
     obtain rfl := osi hF
     refine (r_end (vs := []) (hS.re (.b .hb (.t .h (.t .h (.t .h (.t .h (.t .h (.t .h .n)))))))) rsN rfl ⟨_, rfl, (by first | rfl | simp only [aa, ac, al, an]), ⟨_, _, _, _, _, _, _, _, _, _, _, _, rfl, h537, h542, h547, h553, h559, h565⟩⟩)
   replace hF := bf c1355 hF
   refine wp_skip ?_
   obtain rfl := osi hF
   refine (r_end (vs := []) (hS.re (.b .hb (.t .h (.t .h (.t .h (.t .h (.t .h (.t .h .n)))))))) rsN rfl ⟨_, rfl, (by first | rfl | simp only [aa, ac, al, an]), ⟨_, _, _, _, _, _, _, _, _, _, _, _, rfl, h537, h542, h547, h553, h559, h565⟩⟩)
 replace hF := bf c1354 hF
 iterate 5 (refine o_sk rfl rfl ?_)
 refine oy hS y_pickF <| n_thenN ?_
 refine c_if_false (h := ?_)
 refine wp_skip ?_
 obtain rfl := osi hF
 refine (r_end (vs := []) (hS.re (.b .hb (.t .h (.t .h (.t .h (.t .h (.t .h (.t .h .n)))))))) rsN rfl ⟨_, rfl, (by first | rfl | simp only [aa, ac, al, an]), ⟨_, _, _, _, _, _, _, _, _, _, _, _, rfl, h537, h542, h547, h553, h559, h565⟩⟩)
theorem w_r5_issue {g : Frag} {a0 : (List (A4 T_Ins))} {v0_ : Value} {a1 : T_State} {b1_ : Nat} {LB1_ : Own} {r : T_State} (h0 : SlT g enc_Bundle 24 a0 v0_) (h1 : Bx_State b1_ a1 LB1_) (hF : r5_issue a0 a1 = some r) : LC Try.prog 32 #[v0_, .pointer (some ⟨b1_, 0, none⟩)] g LB1_ (fun v L => ∃ (LB' : Own), v = .tuple #[] ∧ L = (LB' ++ []) ∧ Bx_State b1_ r LB') := w_r5_issue_ h0 h1 hF

noncomputable def r5_Cycles_b1 (a2 : Int) (a3 : Bool) (a0 : (List (A4 T_Ins))) : (Int × (List Int) × (List Int) × (List Int) × Int × (List Int) × Int × (List Int) × Int × (List T_Write) × Int × Int) → Option (Step (Int × (List Int) × (List Int) × (List Int) × Int × (List Int) × Int × (List Int) × Int × (List T_Write) × Int × Int) (T_State × Int)) := fun (x129, x130, x135, x140, x145, x146, x151, x152, x157, x158, x163, x164) => bif decide (x129 < a2) then bif decide (x157 = 0) then (r5_lands (⟨x130, x135, x140, x145, x146, x151, x152, x157, x158, x163, x164⟩ : T_State)).bind fun r266 => bif a3 then (r5_find a0 r266).bind fun r297 => bif decide (0 ≤ r297) then some (.next (IntKind.i64.wrap (x129 + 1), r266.Regs, r266.Mem, r266.In_, r266.Taken, r266.Out, r266.PC, r266.Stack, 6, r266.Fly, r266.Jump, r266.Delay)) else (r5_issue a0 r266).bind fun r299 => some (.next (IntKind.i64.wrap (x129 + 1), r299.Regs, r299.Mem, r299.In_, r299.Taken, r299.Out, r299.PC, r299.Stack, r299.Stop, r299.Fly, r299.Jump, r299.Delay)) else (r5_issue a0 r266).bind fun r329 => some (.next (IntKind.i64.wrap (x129 + 1), r329.Regs, r329.Mem, r329.In_, r329.Taken, r329.Out, r329.PC, r329.Stack, r329.Stop, r329.Fly, r329.Jump, r329.Delay)) else some (.done (((⟨x130, x135, x140, x145, x146, x151, x152, x157, x158, x163, x164⟩ : T_State), x129))) else some (.done (((⟨x130, x135, x140, x145, x146, x151, x152, x157, x158, x163, x164⟩ : T_State), x129)))
noncomputable def r5_Cycles (a0 : (List (A4 T_Ins))) (a1 : T_State) (a2 : Int) (a3 : Bool) : Option (T_State × Int) :=
  (r0_CopyState a1).bind fun r3 => loop (σ := (Int × (List Int) × (List Int) × (List Int) × Int × (List Int) × Int × (List Int) × Int × (List T_Write) × Int × Int)) (r5_Cycles_b1 a2 a3 a0) (0, r3.Regs, r3.Mem, r3.In_, r3.Taken, r3.Out, r3.PC, r3.Stack, r3.Stop, r3.Fly, r3.Jump, r3.Delay)
theorem w_r5_Cycles_ {g : Frag} {a0 : (List (A4 T_Ins))} {v0_ : Value} {a1 : T_State} {v1_ : Value} {a2 : Int} {a3 : Bool} {r : (T_State × Int)} (h0 : SlT g enc_Bundle 24 a0 v0_) (h1 : Rd_State g a1 v1_) (hF : r5_Cycles a0 a1 a2 a3 = some r) : LC Try.prog 11 #[v0_, v1_, .int .i64 a2, .bool a3] g [] (fun v L => ∃ (u0 : Value) (M0 : Own), v = .tuple #[u0, .int .i64 r.2] ∧ L = (M0 ++ []) ∧ Ow_State r.1 u0 M0) := by
 obtain ⟨v1_0_, v1_1_, v1_2_, v1_4_, v1_6_, v1_8_, rfl, h1_0_, h1_1_, h1_2_, h1_4_, h1_6_, h1_8_⟩ := h1
 unfold r5_Cycles at hF
 refine lc_body (k := 36) (av := [v0_, .agg (cl_State v1_0_ v1_1_ v1_2_ a1.Taken v1_4_ a1.PC v1_6_ a1.Stop v1_8_ a1.Jump a1.Delay).toArray, .int .i64 a2, .bool a3]) func11 rfl rfl (h := fun W hS => ?_)
 refine c_seq <| c_region ?_
 refine o_boxP (cl := (cl_State v1_0_ v1_1_ v1_2_ a1.Taken v1_4_ a1.PC v1_6_ a1.Stop v1_8_ a1.Jump a1.Delay)) rfl hS ?_
 clear hS; intro b1 w hS
 refine o_allocP (cl := (cl_State (.slice none 0 0) (.slice none 0 0) (.slice none 0 0) 0 (.slice none 0 0) 0 (.slice none 0 0) 0 (.slice none 0 0) 0 0)) zr_api_State rfl hS ?_
 clear hS; intro b2 w hS
 refine oy hS y_assign <| n_thenN <| c_seq <| c_region ?_
 refine oy hS (y_loadW (fun w hS => hS.own (mC (mH))) underlying27 rfl (by exact sz_api_State)) ?_
 obtain ⟨r3, hr3, hF⟩ := ob hF
 refine o_call0 hS func29 rfl rfl (hc := (w_r0_CopyState (a0 := a1) (h0 := ⟨_, _, _, _, _, _, rfl, h1_0_.plus, h1_1_.plus, h1_2_.plus, h1_4_.plus, h1_6_.plus, h1_8_.plus⟩) (hF := hr3))) (h := ?_)
 clear hS; intro v4 LY5 w hS hr6
 obtain ⟨v_0_7, LX_0_8, rfl, rfl, h_0_9⟩ := hr6
 obtain ⟨vR0_0_10, vR0_1_14, vR0_2_18, vR0_4_22, vR0_6_26, vR0_8_30, LXR0_0_11, LXR0_1_15, LXR0_2_19, LXR0_4_23, LXR0_6_27, LXR0_8_31, rfl, rfl, hR0_0_12, hR0_1_16, hR0_2_20, hR0_4_24, hR0_6_28, hR0_8_32⟩ := h_0_9
 simp only [aa, ac, al] at hS
 have hS := hS.re (.b (.there _ (.there _ (.there _ (.there _ (.there _ (.there _ (.thereb _ .hb))))))) (.t .h (.t .h (.t .h (.t .h (.t .h (.t .h (.b .hb .n))))))))
 refine o_storeW (vs := (cl_State vR0_0_10 vR0_1_14 vR0_2_18 r3.Taken vR0_4_22 r3.PC vR0_6_26 r3.Stop vR0_8_30 r3.Jump r3.Delay)) hS (by exact rfl) (Upd.here _) (by exact sz_api_State) (one_State (hR0_0_12).one (hR0_1_16).one (hR0_2_20).one (hR0_4_24).one (hR0_6_28).one (hR0_8_32).one) ?_
 clear hS; intro w hS
 refine n_thenN <| c_seq <| c_region <| oy hS y_assign <| n_thenN <| c_seq <| c_block ?_
 refine c_loopP hF (fun (q : (Int × (List Int) × (List Int) × (List Int) × Int × (List Int) × Int × (List Int) × Int × (List T_Write) × Int × Int)) a w' => ∃ (v131 : Value) (v136 : Value) (v141 : Value) (v147 : Value) (v153 : Value) (v159 : Value) (LX133 : Own) (LX138 : Own) (LX143 : Own) (LX149 : Own) (LX155 : Own) (LX161 : Own), OwT 35 enc_uint32 1 q.2.1 v131 LX133 ∧ OwT 35 enc_uint32 1 q.2.2.1 v136 LX138 ∧ OwT 35 enc_uint32 1 q.2.2.2.1 v141 LX143 ∧ OwT 35 enc_uint32 1 q.2.2.2.2.2.1 v147 LX149 ∧ OwT 3 enc_int 1 q.2.2.2.2.2.2.2.1 v153 LX155 ∧ OwT 71 enc_Write 3 q.2.2.2.2.2.2.2.2.2.1 v159 LX161 ∧ (∃ s : Nat → Value, a = Ac (((((((Fm.dead 36 s).upd 0 v0_).upd 2 (.int .i64 a2)).upd 3 (.bool a3)).upd 5 (.pointer (some ⟨b1, 0, none⟩))).upd 8 (.pointer (some ⟨b2, 0, none⟩))).upd 10 (.int .i64 q.1))) ∧ St W g [] ((b1, blk (cl_State v131 v136 v141 q.2.2.2.2.1 v147 q.2.2.2.2.2.2.1 v153 q.2.2.2.2.2.2.2.2.1 v159 q.2.2.2.2.2.2.2.2.2.2.1 q.2.2.2.2.2.2.2.2.2.2.2) 27) :: ((b2, blk (cl_State (.slice none 0 0) (.slice none 0 0) (.slice none 0 0) 0 (.slice none 0 0) 0 (.slice none 0 0) 0 (.slice none 0 0) 0 0) 27) :: (LX133 ++ (LX138 ++ (LX143 ++ (LX149 ++ (LX155 ++ (LX161 ++ [])))))))) w') ⟨vR0_0_10, vR0_1_14, vR0_2_18, vR0_4_22, vR0_6_26, vR0_8_30, LXR0_0_11, LXR0_1_15, LXR0_2_19, LXR0_4_23, LXR0_6_27, LXR0_8_31, hR0_0_12, hR0_1_16, hR0_2_20, hR0_4_24, hR0_6_28, hR0_8_32, mk_exF, (hS.re (.b .hb (.b (.there _ (.there _ (.there _ (.there _ (.there _ (.there _ .hb)))))) (.t .h (.t .h (.t .h (.t .h (.t .h (.t .h .n)))))))))⟩ ?_
 clear hS hF
 intro n262 q a w hI hq
 obtain ⟨x129, x130, x135, x140, x145, x146, x151, x152, x157, x158, x163, x164⟩ := q
 obtain ⟨v131, v136, v141, v147, v153, v159, LX133, LX138, LX143, LX149, LX155, LX161, h132, h137, h142, h148, h154, h160, ⟨s263, rfl⟩, hS⟩ := hq
 replace h132 : OwT 35 enc_uint32 1 x130 v131 LX133 := h132
 replace h137 : OwT 35 enc_uint32 1 x135 v136 LX138 := h137
 replace h142 : OwT 35 enc_uint32 1 x140 v141 LX143 := h142
 replace h148 : OwT 35 enc_uint32 1 x146 v147 LX149 := h148
 replace h154 : OwT 3 enc_int 1 x152 v153 LX155 := h154
 replace h160 : OwT 71 enc_Write 3 x158 v159 LX161 := h160
 obtain ⟨z260, hF, hK261⟩ := iter_step hI
 clear hI
 dsimp only [r5_Cycles_b1] at hF
 iterate 2 (refine c_seq ?_)
 refine c_region ?_
 iterate 2 (refine oy hS y_move ?_)
 refine oy hS y_bin ?_
 refine o_split (ht := fun c264 => ?_) (hf := fun c264 => ?_)
 · replace hF := bt c264 hF
   refine o_gu rfl rfl rfl <| oy hS (y_field fa_api_State_7) <| o_gu rfl rfl rfl <| oy hS (y_load (fun w hS => hS.own (mH)) underlying3 rfl rfl) <| o_gu rfl rfl rfl <| oy hS y_bin <| oy hS y_pickT <| n_thenN ?_
   refine c_if (ht := fun c265 => ?_) (hf := fun c265 => ?_)
   · replace hF := bt c265 hF
     refine wp_skip <| c_block <| c_seq <| c_region ?_
     have hS := hS.re (.b .hb (.t (.thereb _ .h) (.t (.thereb _ .h) (.t (.thereb _ .h) (.t (.thereb _ .h) (.t (.thereb _ .h) (.t (.thereb _ .h) (.b .hb .n))))))))
     have hS2 := hS.spl (.cons _ (.app _ (.app _ (.app _ (.app _ (.app _ (.app _ (.nil _))))))))
     obtain ⟨r266, hr266, hF⟩ := ob hF
     refine o_call hS2 func30 rfl rfl (hc := (w_r5_lands (a0 := (⟨x130, x135, x140, x145, x146, x151, x152, x157, x158, x163, x164⟩ : T_State)) (h0 := (⟨_, _, _, _, _, _, _, _, _, _, _, _, rfl, h132, h137, h142, h148, h154, h160⟩ : Bx_State b1 (⟨x130, x135, x140, x145, x146, x151, x152, x157, x158, x163, x164⟩ : T_State) ((b1, blk (cl_State v131 v136 v141 x145 v147 x151 v153 x157 v159 x163 x164) 27) :: (LX133 ++ (LX138 ++ (LX143 ++ (LX149 ++ (LX155 ++ (LX161 ++ []))))))))) (hF := hr266))) (h := ?_)
     clear hS; intro v267 LY268 w hS hr269
     clear hS2
     obtain ⟨LB270, rfl, rfl, hb271⟩ := hr269
     obtain ⟨vB_0_272, vB_1_276, vB_2_280, vB_4_284, vB_6_288, vB_8_292, LXB_0_273, LXB_1_277, LXB_2_281, LXB_4_285, LXB_6_289, LXB_8_293, rfl, hB_0_274, hB_1_278, hB_2_282, hB_4_286, hB_6_290, hB_8_294⟩ := hb271
     simp only [aa, ac, al] at hS
     refine n_thenN ?_
     iterate 2 (refine c_seq ?_)
     refine c_region <| oy hS y_move ?_
     refine o_split (ht := fun c296 => ?_) (hf := fun c296 => ?_)
     · replace hF := bt c296 hF
       refine o_gu rfl rfl rfl <| oy hS y_move <| o_gu rfl rfl rfl ?_
       refine oy hS (y_loadW (fun w hS => hS.own (mH)) underlying27 rfl (by exact sz_api_State)) ?_
       refine o_gu rfl rfl rfl ?_
       obtain ⟨r297, hr297, hF⟩ := ob hF
       refine o_callS hS func31 rfl rfl (hc := (w_r5_find (a0 := a0) (a1 := r266) (h0 := h0.plus) (h1 := ⟨_, _, _, _, _, _, rfl, (OwT.plus hB_0_274 hS (fun p hp => mC (mA (hp)))), (OwT.plus hB_1_278 hS (fun p hp => mC (mB (mA (hp))))), (OwT.plus hB_2_282 hS (fun p hp => mC (mB (mB (mA (hp)))))), (OwT.plus hB_4_286 hS (fun p hp => mC (mB (mB (mB (mA (hp))))))), (OwT.plus hB_6_290 hS (fun p hp => mC (mB (mB (mB (mB (mA (hp)))))))), (OwT.plus hB_8_294 hS (fun p hp => mC (mB (mB (mB (mB (mB (mA (hp)))))))))⟩) (hF := hr297))) (h := ?_)
       clear hS; intro w hS
       refine o_gu rfl rfl rfl <| oy hS y_bin <| oy hS y_pickT <| n_thenN ?_
       refine c_if (ht := fun c298 => ?_) (hf := fun c298 => ?_)
       · replace hF := bt c298 hF
         refine c_region <| oy hS (y_field fa_api_State_7) ?_
         refine o_storeA1 (o := 7) (cl' := (cl_State vB_0_272 vB_1_276 vB_2_280 r266.Taken vB_4_284 r266.PC vB_6_288 6 vB_8_292 r266.Jump r266.Delay)) hS (by kernel_rfl) (by exact Nat.le_of_ble_eq_true rfl) (Upd.here _) (by exact sz_int) rfl rfl ?_
         clear hS; intro w hS
         refine n_thenN <| c_region <| oy hS y_move <| oy hS y_bin <| oy hS y_assign ?_
         refine n_anyN ?_
         obtain rfl := osi hF
         exact ⟨_, hK261, vB_0_272, vB_1_276, vB_2_280, vB_4_284, vB_6_288, vB_8_292, LXB_0_273, LXB_1_277, LXB_2_281, LXB_4_285, LXB_6_289, LXB_8_293, hB_0_274, hB_1_278, hB_2_282, hB_4_286, hB_6_290, hB_8_294, mk_exF, (hS.re (.b .hb (.b (.there _ (.there _ (.there _ (.there _ (.there _ (.there _ .hb)))))) (.t .h (.t .h (.t .h (.t .h (.t .h (.t .h .n)))))))))⟩
       replace hF := bf c298 hF
       refine c_region <| oy hS y_move ?_
       have hS2 := hS.spl (.cons _ (.app _ (.app _ (.app _ (.app _ (.app _ (.app _ (.nil _))))))))
       obtain ⟨r299, hr299, hF⟩ := ob hF
       refine o_call hS2 func32 rfl rfl (hc := (w_r5_issue (a0 := a0) (a1 := r266) (h0 := h0.plus) (h1 := (⟨_, _, _, _, _, _, _, _, _, _, _, _, rfl, hB_0_274, hB_1_278, hB_2_282, hB_4_286, hB_6_290, hB_8_294⟩ : Bx_State b1 r266 ((b1, blk (cl_State vB_0_272 vB_1_276 vB_2_280 r266.Taken vB_4_284 r266.PC vB_6_288 r266.Stop vB_8_292 r266.Jump r266.Delay) 27) :: (LXB_0_273 ++ (LXB_1_277 ++ (LXB_2_281 ++ (LXB_4_285 ++ (LXB_6_289 ++ (LXB_8_293 ++ []))))))))) (hF := hr299))) (h := ?_)
       clear hS; intro v300 LY301 w hS hr302
       clear hS2
       obtain ⟨LB303, rfl, rfl, hb304⟩ := hr302
       obtain ⟨vB_0_305, vB_1_309, vB_2_313, vB_4_317, vB_6_321, vB_8_325, LXB_0_306, LXB_1_310, LXB_2_314, LXB_4_318, LXB_6_322, LXB_8_326, rfl, hB_0_307, hB_1_311, hB_2_315, hB_4_319, hB_6_323, hB_8_327⟩ := hb304
       simp only [aa, ac, al] at hS
       refine n_thenN <| c_region <| oy hS y_move <| oy hS y_bin <| oy hS y_assign ?_
       refine n_anyN ?_
       obtain rfl := osi hF
       exact ⟨_, hK261, vB_0_305, vB_1_309, vB_2_313, vB_4_317, vB_6_321, vB_8_325, LXB_0_306, LXB_1_310, LXB_2_314, LXB_4_318, LXB_6_322, LXB_8_326, hB_0_307, hB_1_311, hB_2_315, hB_4_319, hB_6_323, hB_8_327, mk_exF, (hS.re (.b .hb (.b (.there _ (.there _ (.there _ (.there _ (.there _ (.there _ .hb)))))) (.t .h (.t .h (.t .h (.t .h (.t .h (.t .h .n)))))))))⟩
     replace hF := bf c296 hF
     iterate 4 (refine o_sk rfl rfl ?_)
     refine oy hS y_pickF <| n_thenN ?_
     refine c_if_false (h := ?_)
     refine c_region <| oy hS y_move ?_
     have hS2 := hS.spl (.cons _ (.app _ (.app _ (.app _ (.app _ (.app _ (.app _ (.nil _))))))))
     obtain ⟨r329, hr329, hF⟩ := ob hF
     refine o_call hS2 func32 rfl rfl (hc := (w_r5_issue (a0 := a0) (a1 := r266) (h0 := h0.plus) (h1 := (⟨_, _, _, _, _, _, _, _, _, _, _, _, rfl, hB_0_274, hB_1_278, hB_2_282, hB_4_286, hB_6_290, hB_8_294⟩ : Bx_State b1 r266 ((b1, blk (cl_State vB_0_272 vB_1_276 vB_2_280 r266.Taken vB_4_284 r266.PC vB_6_288 r266.Stop vB_8_292 r266.Jump r266.Delay) 27) :: (LXB_0_273 ++ (LXB_1_277 ++ (LXB_2_281 ++ (LXB_4_285 ++ (LXB_6_289 ++ (LXB_8_293 ++ []))))))))) (hF := hr329))) (h := ?_)
     clear hS; intro v330 LY331 w hS hr332
     clear hS2
     obtain ⟨LB333, rfl, rfl, hb334⟩ := hr332
     obtain ⟨vB_0_335, vB_1_339, vB_2_343, vB_4_347, vB_6_351, vB_8_355, LXB_0_336, LXB_1_340, LXB_2_344, LXB_4_348, LXB_6_352, LXB_8_356, rfl, hB_0_337, hB_1_341, hB_2_345, hB_4_349, hB_6_353, hB_8_357⟩ := hb334
     simp only [aa, ac, al] at hS
     refine n_thenN <| c_region <| oy hS y_move <| oy hS y_bin <| oy hS y_assign ?_
     refine n_anyN ?_
     obtain rfl := osi hF
     exact ⟨_, hK261, vB_0_335, vB_1_339, vB_2_343, vB_4_347, vB_6_351, vB_8_355, LXB_0_336, LXB_1_340, LXB_2_344, LXB_4_348, LXB_6_352, LXB_8_356, hB_0_337, hB_1_341, hB_2_345, hB_4_349, hB_6_353, hB_8_357, mk_exF, (hS.re (.b .hb (.b (.there _ (.there _ (.there _ (.there _ (.there _ (.there _ .hb)))))) (.t .h (.t .h (.t .h (.t .h (.t .h (.t .h .n)))))))))⟩
   replace hF := bf c265 hF
   refine wp_exit ?_
   refine c_seq <| c_region ?_
   refine oy hS (y_loadW (fun w hS => hS.own (mH)) underlying27 rfl (by exact sz_api_State)) ?_
   refine oy hS y_move ?_
   refine o_storeW (vs := (cl_State v131 v136 v141 x145 v147 x151 v153 x157 v159 x163 x164)) hS (by exact rfl) (Upd.there _ (Upd.here _)) (by exact sz_api_State) (one_State (h132).one (h137).one (h142).one (h148).one (h154).one (h160).one) ?_
   clear hS; intro w hS
   refine oy hS y_assign <| n_thenN ?_
   obtain rfl := osi hF
   obtain rfl : _ = r := hK261
   refine wp_ret (r_ret (vs := [.agg (cl_State v131 v136 v141 x145 v147 x151 v153 x157 v159 x163 x164).toArray, .int .i64 x129]) (hS.re (.t (.thereb _ (.thereb _ .h)) (.t (.thereb _ (.thereb _ .h)) (.t (.thereb _ (.thereb _ .h)) (.t (.thereb _ (.thereb _ .h)) (.t (.thereb _ (.thereb _ .h)) (.t (.thereb _ (.thereb _ .h)) .n))))))) (rsC (res_cell (hS.own (mC (mH))) underlying27 rfl (by exact sz_api_State)) (rsC res_tmp rsN)) rfl ⟨_, _, rfl, (by first | rfl | simp only [aa, ac, al, an]), ⟨_, _, _, _, _, _, _, _, _, _, _, _, rfl, rfl, h132, h137, h142, h148, h154, h160⟩⟩)
 replace hF := bf c264 hF
 iterate 3 (refine o_sk rfl rfl ?_)
 refine oy hS y_pickF <| n_thenN ?_
 refine c_if_false (h := ?_)
 refine wp_exit ?_
 refine c_seq <| c_region ?_
 refine oy hS (y_loadW (fun w hS => hS.own (mH)) underlying27 rfl (by exact sz_api_State)) ?_
 refine oy hS y_move ?_
 refine o_storeW (vs := (cl_State v131 v136 v141 x145 v147 x151 v153 x157 v159 x163 x164)) hS (by exact rfl) (Upd.there _ (Upd.here _)) (by exact sz_api_State) (one_State (h132).one (h137).one (h142).one (h148).one (h154).one (h160).one) ?_
 clear hS; intro w hS
 refine oy hS y_assign <| n_thenN ?_
 obtain rfl := osi hF
 obtain rfl : _ = r := hK261
 refine wp_ret (r_ret (vs := [.agg (cl_State v131 v136 v141 x145 v147 x151 v153 x157 v159 x163 x164).toArray, .int .i64 x129]) (hS.re (.t (.thereb _ (.thereb _ .h)) (.t (.thereb _ (.thereb _ .h)) (.t (.thereb _ (.thereb _ .h)) (.t (.thereb _ (.thereb _ .h)) (.t (.thereb _ (.thereb _ .h)) (.t (.thereb _ (.thereb _ .h)) .n))))))) (rsC (res_cell (hS.own (mC (mH))) underlying27 rfl (by exact sz_api_State)) (rsC res_tmp rsN)) rfl ⟨_, _, rfl, (by first | rfl | simp only [aa, ac, al, an]), ⟨_, _, _, _, _, _, _, _, _, _, _, _, rfl, rfl, h132, h137, h142, h148, h154, h160⟩⟩)
theorem w_r5_Cycles {g : Frag} {a0 : (List (A4 T_Ins))} {v0_ : Value} {a1 : T_State} {v1_ : Value} {a2 : Int} {a3 : Bool} {r : (T_State × Int)} (h0 : SlT g enc_Bundle 24 a0 v0_) (h1 : Rd_State g a1 v1_) (hF : r5_Cycles a0 a1 a2 a3 = some r) : LC Try.prog 11 #[v0_, v1_, .int .i64 a2, .bool a3] g [] (fun v L => ∃ (u0 : Value) (M0 : Own), v = .tuple #[u0, .int .i64 r.2] ∧ L = (M0 ++ []) ∧ Ow_State r.1 u0 M0) := w_r5_Cycles_ h0 h1 hF

def l6_num (a0 : Int) : Int :=
  a0
theorem w_l6_num_ {g : Frag} {a0 : Int} {r : Int}  (hF : l6_num a0 = r) : LCs Try.prog 12 #[.int .i64 a0] g (.int .i64 r) := by
 unfold l6_num at hF
 refine lc_body (k := 4) (av := [.int .i64 a0]) func12 rfl rfl (h := fun W hS => ?_)
 refine c_seq <| c_region <| oy hS y_assign <| n_thenN <| c_seq <| c_region <| oy hS y_move <| oy hS y_assign ?_
 refine n_thenN ?_
 subst hF
 exact wp_ret (wr1 hS)
theorem w_l6_num {g : Frag} {a0 : Int}  : LCs Try.prog 12 #[.int .i64 a0] g (.int .i64 (l6_num a0)) := w_l6_num_  rfl

noncomputable def r0_EqWords_b1 (a0 : (List Int)) (a1 : (List Int)) : Int → Option (Step Int Bool) := fun x28 => bif decide (x28 < (a0.length : Int)) then (at' a0 x28).bind fun x60 => (at' a1 x28).bind fun x72 => bif decide (x60 ≠ x72) then some (.done (false)) else some (.next (IntKind.i64.wrap (x28 + 1))) else some (.done (true))
noncomputable def r0_EqWords (a0 : (List Int)) (a1 : (List Int)) : Option Bool :=
  bif decide ((a0.length : Int) ≠ (a1.length : Int)) then some (false) else loop (σ := Int) (r0_EqWords_b1 a0 a1) 0
theorem w_r0_EqWords_ {g : Frag} {a0 : (List Int)} {v0_ : Value} {a1 : (List Int)} {v1_ : Value} {r : Bool} (h0 : SlT g enc_uint32 1 a0 v0_) (h1 : SlT g enc_uint32 1 a1 v1_) (hF : r0_EqWords a0 a1 = some r) : LCs Try.prog 33 #[v0_, v1_] g (.bool r) := by
 unfold r0_EqWords at hF
 refine lc_body (k := 26) (av := [v0_, v1_]) func33 rfl rfl (h := fun W hS => ?_)
 refine c_seq <| c_region <| oy hS y_assign <| n_thenN ?_
 iterate 2 (refine c_seq ?_)
 refine c_region <| oy hS y_move <| oy hS (y_len h0 underlying23) <| oy hS y_move <| oy hS (y_len h1 underlying23) <| oy hS y_bin <| n_thenN ?_
 refine c_if (ht := fun c1 => ?_) (hf := fun c1 => ?_)
 · replace hF := bt c1 hF
   refine c_seq <| c_region <| oy hS y_assign <| n_thenN ?_
   obtain rfl := osi hF
   exact wp_ret (wr1 hS)
 replace hF := bf c1 hF
 refine wp_skip ?_
 iterate 2 (refine c_seq ?_)
 refine c_region <| oy hS y_assign <| n_thenN <| c_block ?_
 refine c_loopP hF (fun (q : Int) a w' => (∃ s : Nat → Value, a = Ac ((((Fm.dead 26 s).upd 0 v0_).upd 1 v1_).upd 5 (.int .i64 q))) ∧ St W g [] [] w') ⟨mk_exF, (hS.re (.n))⟩ ?_
 clear hS hF
 intro n57 q a w hI hq
 revert hq hI; revert q; intro x28 hI hq
 obtain ⟨⟨s58, rfl⟩, hS⟩ := hq
 obtain ⟨z55, hF, hK56⟩ := iter_step hI
 clear hI
 dsimp only [r0_EqWords_b1] at hF
 iterate 2 (refine c_seq ?_)
 refine c_region ?_
 iterate 2 (refine oy hS y_move ?_)
 refine oy hS (y_len h0 underlying23) <| oy hS y_bin <| n_thenN ?_
 refine c_if (ht := fun c59 => ?_) (hf := fun c59 => ?_)
 · replace hF := bt c59 hF
   refine wp_skip <| c_seq <| c_block <| c_seq ?_
   refine c_quiet (by kernel_rfl) (by kernel_rfl) hS ?_
   iterate 2 (refine qy y_move ?_)
   obtain ⟨x60, hx60, hF⟩ := ob hF
   obtain ⟨b61, o62, c63, cs64, e65, fz66, hv67, ha68, hb69, hd70, hc71⟩ := SlT.at hx60 h0 enc_len_uint32
   refine qy (y_index hv67 ha68 hb69 underlying23 el_uint32.size) <| qy (y_load (fun w hS => hS.block hd70) underlying35 rfl (hc71 0 _ rfl)) ?_
   iterate 2 (refine qy y_move ?_)
   obtain ⟨x72, hx72, hF⟩ := ob hF
   obtain ⟨b73, o74, c75, cs76, e77, fz78, hv79, ha80, hb81, hd82, hc83⟩ := SlT.at hx72 h1 enc_len_uint32
   refine qy (y_index hv79 ha80 hb81 underlying23 el_uint32.size) <| qy (y_load (fun w hS => hS.block hd82) underlying35 rfl (hc83 0 _ rfl)) <| qy y_bin ?_
   refine q_nilN (h := ?_)
   clear hS; intro w hS
   refine c_if (ht := fun c84 => ?_) (hf := fun c84 => ?_)
   · replace hF := bt c84 hF
     refine c_seq <| c_region <| oy hS y_assign <| n_thenN ?_
     obtain rfl := osi hF
     obtain rfl : _ = r := hK56
     exact wp_ret (wr1 hS)
   replace hF := bf c84 hF
   refine wp_skip <| c_region <| oy hS y_move <| oy hS y_bin <| oy hS y_assign <| n_thenN ?_
   obtain rfl := osi hF
   exact ⟨_, hK56, mk_exF, (hS.re (.n))⟩
 replace hF := bf c59 hF
 refine wp_exit ?_
 refine c_seq <| c_region <| oy hS y_assign <| n_thenN ?_
 obtain rfl := osi hF
 obtain rfl : _ = r := hK56
 exact wp_ret (wr1 hS)
theorem w_r0_EqWords {g : Frag} {a0 : (List Int)} {v0_ : Value} {a1 : (List Int)} {v1_ : Value} {r : Bool} (h0 : SlT g enc_uint32 1 a0 v0_) (h1 : SlT g enc_uint32 1 a1 v1_) (hF : r0_EqWords a0 a1 = some r) : LCs Try.prog 33 #[v0_, v1_] g (.bool r) := w_r0_EqWords_ h0 h1 hF

noncomputable def r0_EqNumbers_b1 (a0 : (List Int)) (a1 : (List Int)) : Int → Option (Step Int Bool) := fun x28 => bif decide (x28 < (a0.length : Int)) then (at' a0 x28).bind fun x60 => (at' a1 x28).bind fun x72 => bif decide (x60 ≠ x72) then some (.done (false)) else some (.next (IntKind.i64.wrap (x28 + 1))) else some (.done (true))
noncomputable def r0_EqNumbers (a0 : (List Int)) (a1 : (List Int)) : Option Bool :=
  bif decide ((a0.length : Int) ≠ (a1.length : Int)) then some (false) else loop (σ := Int) (r0_EqNumbers_b1 a0 a1) 0
theorem w_r0_EqNumbers_ {g : Frag} {a0 : (List Int)} {v0_ : Value} {a1 : (List Int)} {v1_ : Value} {r : Bool} (h0 : SlT g enc_int 1 a0 v0_) (h1 : SlT g enc_int 1 a1 v1_) (hF : r0_EqNumbers a0 a1 = some r) : LCs Try.prog 34 #[v0_, v1_] g (.bool r) := by
 unfold r0_EqNumbers at hF
 refine lc_body (k := 26) (av := [v0_, v1_]) func34 rfl rfl (h := fun W hS => ?_)
 refine c_seq <| c_region <| oy hS y_assign <| n_thenN ?_
 iterate 2 (refine c_seq ?_)
 refine c_region <| oy hS y_move <| oy hS (y_len h0 underlying24) <| oy hS y_move <| oy hS (y_len h1 underlying24) <| oy hS y_bin <| n_thenN ?_
 refine c_if (ht := fun c1 => ?_) (hf := fun c1 => ?_)
 · replace hF := bt c1 hF
   refine c_seq <| c_region <| oy hS y_assign <| n_thenN ?_
   obtain rfl := osi hF
   exact wp_ret (wr1 hS)
 replace hF := bf c1 hF
 refine wp_skip ?_
 iterate 2 (refine c_seq ?_)
 refine c_region <| oy hS y_assign <| n_thenN <| c_block ?_
 refine c_loopP hF (fun (q : Int) a w' => (∃ s : Nat → Value, a = Ac ((((Fm.dead 26 s).upd 0 v0_).upd 1 v1_).upd 5 (.int .i64 q))) ∧ St W g [] [] w') ⟨mk_exF, (hS.re (.n))⟩ ?_
 clear hS hF
 intro n57 q a w hI hq
 revert hq hI; revert q; intro x28 hI hq
 obtain ⟨⟨s58, rfl⟩, hS⟩ := hq
 obtain ⟨z55, hF, hK56⟩ := iter_step hI
 clear hI
 dsimp only [r0_EqNumbers_b1] at hF
 iterate 2 (refine c_seq ?_)
 refine c_region ?_
 iterate 2 (refine oy hS y_move ?_)
 refine oy hS (y_len h0 underlying24) <| oy hS y_bin <| n_thenN ?_
 refine c_if (ht := fun c59 => ?_) (hf := fun c59 => ?_)
 · replace hF := bt c59 hF
   refine wp_skip <| c_seq <| c_block <| c_seq ?_
   refine c_quiet (by kernel_rfl) (by kernel_rfl) hS ?_
   iterate 2 (refine qy y_move ?_)
   obtain ⟨x60, hx60, hF⟩ := ob hF
   obtain ⟨b61, o62, c63, cs64, e65, fz66, hv67, ha68, hb69, hd70, hc71⟩ := SlT.at hx60 h0 enc_len_int
   refine qy (y_index hv67 ha68 hb69 underlying24 el_int.size) <| qy (y_load (fun w hS => hS.block hd70) underlying3 rfl (hc71 0 _ rfl)) ?_
   iterate 2 (refine qy y_move ?_)
   obtain ⟨x72, hx72, hF⟩ := ob hF
   obtain ⟨b73, o74, c75, cs76, e77, fz78, hv79, ha80, hb81, hd82, hc83⟩ := SlT.at hx72 h1 enc_len_int
   refine qy (y_index hv79 ha80 hb81 underlying24 el_int.size) <| qy (y_load (fun w hS => hS.block hd82) underlying3 rfl (hc83 0 _ rfl)) <| qy y_bin ?_
   refine q_nilN (h := ?_)
   clear hS; intro w hS
   refine c_if (ht := fun c84 => ?_) (hf := fun c84 => ?_)
   · replace hF := bt c84 hF
     refine c_seq <| c_region <| oy hS y_assign <| n_thenN ?_
     obtain rfl := osi hF
     obtain rfl : _ = r := hK56
     exact wp_ret (wr1 hS)
   replace hF := bf c84 hF
   refine wp_skip <| c_region <| oy hS y_move <| oy hS y_bin <| oy hS y_assign <| n_thenN ?_
   obtain rfl := osi hF
   exact ⟨_, hK56, mk_exF, (hS.re (.n))⟩
 replace hF := bf c59 hF
 refine wp_exit ?_
 refine c_seq <| c_region <| oy hS y_assign <| n_thenN ?_
 obtain rfl := osi hF
 obtain rfl : _ = r := hK56
 exact wp_ret (wr1 hS)
theorem w_r0_EqNumbers {g : Frag} {a0 : (List Int)} {v0_ : Value} {a1 : (List Int)} {v1_ : Value} {r : Bool} (h0 : SlT g enc_int 1 a0 v0_) (h1 : SlT g enc_int 1 a1 v1_) (hF : r0_EqNumbers a0 a1 = some r) : LCs Try.prog 34 #[v0_, v1_] g (.bool r) := w_r0_EqNumbers_ h0 h1 hF

noncomputable def r0_EqFlies_b1 (a0 : (List T_Write)) (a1 : (List T_Write)) : Int → Option (Step Int Bool) := fun x28 => bif decide (x28 < (a0.length : Int)) then (at' a0 x28).bind fun x60 => (at' a1 x28).bind fun x72 => bif !(eqb_Write x60 x72) then some (.done (false)) else some (.next (IntKind.i64.wrap (x28 + 1))) else some (.done (true))
noncomputable def r0_EqFlies (a0 : (List T_Write)) (a1 : (List T_Write)) : Option Bool :=
  bif decide ((a0.length : Int) ≠ (a1.length : Int)) then some (false) else loop (σ := Int) (r0_EqFlies_b1 a0 a1) 0
theorem w_r0_EqFlies_ {g : Frag} {a0 : (List T_Write)} {v0_ : Value} {a1 : (List T_Write)} {v1_ : Value} {r : Bool} (h0 : SlT g enc_Write 3 a0 v0_) (h1 : SlT g enc_Write 3 a1 v1_) (hF : r0_EqFlies a0 a1 = some r) : LCs Try.prog 35 #[v0_, v1_] g (.bool r) := by
 unfold r0_EqFlies at hF
 refine lc_body (k := 26) (av := [v0_, v1_]) func35 rfl rfl (h := fun W hS => ?_)
 refine c_seq <| c_region <| oy hS y_assign <| n_thenN ?_
 iterate 2 (refine c_seq ?_)
 refine c_region <| oy hS y_move <| oy hS (y_len h0 underlying25) <| oy hS y_move <| oy hS (y_len h1 underlying25) <| oy hS y_bin <| n_thenN ?_
 refine c_if (ht := fun c1 => ?_) (hf := fun c1 => ?_)
 · replace hF := bt c1 hF
   refine c_seq <| c_region <| oy hS y_assign <| n_thenN ?_
   obtain rfl := osi hF
   exact wp_ret (wr1 hS)
 replace hF := bf c1 hF
 refine wp_skip ?_
 iterate 2 (refine c_seq ?_)
 refine c_region <| oy hS y_assign <| n_thenN <| c_block ?_
 refine c_loopP hF (fun (q : Int) a w' => (∃ s : Nat → Value, a = Ac ((((Fm.dead 26 s).upd 0 v0_).upd 1 v1_).upd 5 (.int .i64 q))) ∧ St W g [] [] w') ⟨mk_exF, (hS.re (.n))⟩ ?_
 clear hS hF
 intro n57 q a w hI hq
 revert hq hI; revert q; intro x28 hI hq
 obtain ⟨⟨s58, rfl⟩, hS⟩ := hq
 obtain ⟨z55, hF, hK56⟩ := iter_step hI
 clear hI
 dsimp only [r0_EqFlies_b1] at hF
 iterate 2 (refine c_seq ?_)
 refine c_region ?_
 iterate 2 (refine oy hS y_move ?_)
 refine oy hS (y_len h0 underlying25) <| oy hS y_bin <| n_thenN ?_
 refine c_if (ht := fun c59 => ?_) (hf := fun c59 => ?_)
 · replace hF := bt c59 hF
   refine wp_skip <| c_seq <| c_block <| c_seq ?_
   refine c_quiet (by kernel_rfl) (by kernel_rfl) hS ?_
   iterate 2 (refine qy y_move ?_)
   obtain ⟨x60, hx60, hF⟩ := ob hF
   obtain ⟨b61, o62, c63, cs64, e65, fz66, hv67, ha68, hb69, hd70, hc71⟩ := SlT.at hx60 h0 enc_len_Write
   refine qy (y_index hv67 ha68 hb69 underlying25 el_api_Write.size) ?_
   refine qy (y_loadN (vs := (enc_Write x60)) (fun w hS => hS.block hd70) underlying71 rfl (by exact sz_api_Write) (fun j u hj => hc71 j u hj)) ?_
   iterate 2 (refine qy y_move ?_)
   obtain ⟨x72, hx72, hF⟩ := ob hF
   obtain ⟨b73, o74, c75, cs76, e77, fz78, hv79, ha80, hb81, hd82, hc83⟩ := SlT.at hx72 h1 enc_len_Write
   refine qy (y_index hv79 ha80 hb81 underlying25 el_api_Write.size) ?_
   refine qy (y_loadN (vs := (enc_Write x72)) (fun w hS => hS.block hd82) underlying71 rfl (by exact sz_api_Write) (fun j u hj => hc83 j u hj)) ?_
   refine qy (y_neq_Write) ?_
   refine q_nilN (h := ?_)
   clear hS; intro w hS
   refine c_if (ht := fun c84 => ?_) (hf := fun c84 => ?_)
   · replace hF := bt c84 hF
     refine c_seq <| c_region <| oy hS y_assign <| n_thenN ?_
     obtain rfl := osi hF
     obtain rfl : _ = r := hK56
     exact wp_ret (wr1 hS)
   replace hF := bf c84 hF
   refine wp_skip <| c_region <| oy hS y_move <| oy hS y_bin <| oy hS y_assign <| n_thenN ?_
   obtain rfl := osi hF
   exact ⟨_, hK56, mk_exF, (hS.re (.n))⟩
 replace hF := bf c59 hF
 refine wp_exit ?_
 refine c_seq <| c_region <| oy hS y_assign <| n_thenN ?_
 obtain rfl := osi hF
 obtain rfl : _ = r := hK56
 exact wp_ret (wr1 hS)
theorem w_r0_EqFlies {g : Frag} {a0 : (List T_Write)} {v0_ : Value} {a1 : (List T_Write)} {v1_ : Value} {r : Bool} (h0 : SlT g enc_Write 3 a0 v0_) (h1 : SlT g enc_Write 3 a1 v1_) (hF : r0_EqFlies a0 a1 = some r) : LCs Try.prog 35 #[v0_, v1_] g (.bool r) := w_r0_EqFlies_ h0 h1 hF
end Go.Proofs.Ythbpicnbkdbbmaa
