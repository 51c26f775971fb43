/- The law SeqSteps, lifted. Printed by lift.py. -/
import Derived.Test.YtadajdcbeegabaaProg
import Derived.Test.YtadajdcbeegabaaP10
import Derived.KernelRfl
namespace Go.Proofs.Ytadajdcbeegabaa
open Go Go.RowKit Fr
set_option linter.unusedVariables false
set_option linter.unusedSimpArgs false
set_option maxRecDepth 20000
noncomputable def l5_SeqSteps_k7 (r1211 : (T_State × Int × Int)) (x50 : (List Int)) (x55 : (List Int)) (x60 : (List Int)) (x65 : Int) (x66 : (List Int)) (x71 : Int) (x72 : (List Int)) (x77 : Int) (x78 : (List T_Write)) (x83 : Int) (x84 : Int) (a0 : T_Script) (x45 : (List T_Ins)) (x997 : Int) : (Int × Int × (List Int) × (List Int) × (List Int) × Int × (List Int) × Int × (List Int) × Int × (List T_Write) × Int × Int) → Option (Step Int (Step Unit Bool)) := fun (x1278, x1279, x1280, x1285, x1290, x1295, x1296, x1301, x1302, x1307, x1308, x1313, x1314) => bif decide ((l5_num r1211.2.2) ≠ x1278) then some (.done (.done (false))) else bif decide (r1211.2.1 ≠ x1279) then some (.done (.done (false))) else (r0_EqState r1211.1 (⟨x1280, x1285, x1290, x1295, x1296, x1301, x1302, x1307, x1308, x1313, x1314⟩ : T_State)).bind fun r1366 => bif !r1366 then some (.done (.done (false))) else (r0_EqState (⟨x50, x55, x60, x65, x66, x71, x72, x77, x78, x83, x84⟩ : T_State) a0.S).bind fun r1368 => bif !r1368 then some (.done (.done (false))) else (r0_EqCodes x45 a0.P).bind fun r1370 => bif !r1370 then some (.done (.done (false))) else some (.next (IntKind.i64.wrap (x997 + 1)))
noncomputable def l5_SeqSteps_k6 (x45 : (List T_Ins)) (x50 : (List Int)) (x55 : (List Int)) (x60 : (List Int)) (x65 : Int) (x66 : (List Int)) (x71 : Int) (x72 : (List Int)) (x77 : Int) (x78 : (List T_Write)) (x83 : Int) (x84 : Int) (a0 : T_Script) (x997 : Int) : Int → Option (Step Int (Step Unit Bool)) := fun x1205 => (seq_Run x45 (⟨x50, x55, x60, x65, x66, x71, x72, x77, x78, x83, x84⟩ : T_State) x1205).bind fun r1211 => cut (σ := (Int × Int × (List Int) × (List Int) × (List Int) × Int × (List Int) × Int × (List Int) × Int × (List T_Write) × Int × Int)) ((l5_May a0).bind fun r1317 => bif r1317 then bif (r0_Num x1205 20000) then (r5_Run a0.P a0.S x1205).bind fun r1320 => some (.next (0, r1320.2, r1320.1.Regs, r1320.1.Mem, r1320.1.In_, r1320.1.Taken, r1320.1.Out, r1320.1.PC, r1320.1.Stack, r1320.1.Stop, r1320.1.Fly, r1320.1.Jump, r1320.1.Delay)) else some (.next (1, 0, [], [], [], 0, [], 0, [], 0, [], 0, 0)) else some (.next (1, 0, [], [], [], 0, [], 0, [], 0, [], 0, 0))) (l5_SeqSteps_k7 r1211 x50 x55 x60 x65 x66 x71 x72 x77 x78 x83 x84 a0 x45 x997)
noncomputable def l5_SeqSteps_k5 (zs249 : (List Int)) (x997 : Int) (x45 : (List T_Ins)) (x50 : (List Int)) (x55 : (List Int)) (x60 : (List Int)) (x65 : Int) (x66 : (List Int)) (x71 : Int) (x72 : (List Int)) (x77 : Int) (x78 : (List T_Write)) (x83 : Int) (x84 : Int) (a0 : T_Script) : Unit → Option (Step Int (Step Unit Bool)) := fun _ => (at' zs249 x997).bind fun x1194 => cut (σ := Int) (bif decide (200 < x1194) then bif decide (x1194 ≤ 20000) then some (.next 200) else some (.next x1194) else some (.next x1194)) (l5_SeqSteps_k6 x45 x50 x55 x60 x65 x66 x71 x72 x77 x78 x83 x84 a0 x997)
noncomputable def l5_SeqSteps_b4 (zs249 : (List Int)) (x45 : (List T_Ins)) (x50 : (List Int)) (x55 : (List Int)) (x60 : (List Int)) (x65 : Int) (x66 : (List Int)) (x71 : Int) (x72 : (List Int)) (x77 : Int) (x78 : (List T_Write)) (x83 : Int) (x84 : Int) (a0 : T_Script) : Int → Option (Step Int (Step Unit Bool)) := fun x997 => cut (σ := Unit) (bif decide (x997 < (zs249.length : Int)) then bif decide (x997 < 9) then some (.next ()) else some (.done (.done (.next ()))) else some (.done (.done (.next ())))) (l5_SeqSteps_k5 zs249 x997 x45 x50 x55 x60 x65 x66 x71 x72 x77 x78 x83 x84 a0)
noncomputable def l5_SeqSteps_b9 (x45 : (List T_Ins)) (a0 : T_Script) : (Int × (List Int) × (List Int) × (List Int) × Int × (List Int) × Int × (List Int) × Int × (List T_Write) × Int × Int) → Option (Step (Int × (List Int) × (List Int) × (List Int) × Int × (List Int) × Int × (List Int) × Int × (List T_Write) × Int × Int) (Step Unit Bool)) := fun (x1759, x1760, x1765, x1770, x1775, x1776, x1781, x1782, x1787, x1788, x1793, x1794) => bif decide (x1759 < 60) then (seq_Step x45 (⟨x1760, x1765, x1770, x1775, x1776, x1781, x1782, x1787, x1788, x1793, x1794⟩ : T_State)).bind fun r1878 => (l5_May a0).bind fun r1910 => bif !r1910 then bif decide ((l5_num r1878.2) = 1) then (r0_EqState r1878.1 (⟨[], [], [], 0, [], 0, [], 0, [], 0, 0⟩ : T_State)).bind fun r1913 => bif r1913 then (l5_wakes).bind fun r1915 => some (.done (.done (r1915))) else some (.done (.done (false))) else some (.done (.done (false))) else (r5_Run a0.P (⟨x1760, x1765, x1770, x1775, x1776, x1781, x1782, x1787, x1788, x1793, x1794⟩ : T_State) 1).bind fun r1916 => bif decide ((l5_num r1878.2) ≠ 0) then some (.done (.done (false))) else (r0_EqState r1878.1 r1916.1).bind fun r1949 => bif !r1949 then some (.done (.done (false))) else (l0_State r1878.1).bind fun r1951 => some (.next (IntKind.i64.wrap (x1759 + 1), r1916.1.Regs, r1916.1.Mem, r1916.1.In_, r1916.1.Taken, r1916.1.Out, r1916.1.PC, r1916.1.Stack, r1916.1.Stop, r1916.1.Fly, r1916.1.Jump, r1916.1.Delay)) else some (.done (.next ()))
noncomputable def l5_SeqSteps_k8 (x50 : (List Int)) (x55 : (List Int)) (x60 : (List Int)) (x65 : Int) (x66 : (List Int)) (x71 : Int) (x72 : (List Int)) (x77 : Int) (x78 : (List T_Write)) (x83 : Int) (x84 : Int) (a0 : T_Script) : Unit → Option Bool := fun _ => (r0_EqState (⟨x50, x55, x60, x65, x66, x71, x72, x77, x78, x83, x84⟩ : T_State) a0.S).bind fun r1956 => bif r1956 then (l5_wakes).bind fun r1958 => some (r1958) else some (false)
noncomputable def l5_SeqSteps_k3 (a0 : T_Script) (x45 : (List T_Ins)) (x50 : (List Int)) (x55 : (List Int)) (x60 : (List Int)) (x65 : Int) (x66 : (List Int)) (x71 : Int) (x72 : (List Int)) (x77 : Int) (x78 : (List T_Write)) (x83 : Int) (x84 : Int) : Unit → Option Bool := fun _ => (r0_CopyState a0.S).bind fun r1373 => cut (σ := Unit) (loop (σ := (Int × (List Int) × (List Int) × (List Int) × Int × (List Int) × Int × (List Int) × Int × (List T_Write) × Int × Int)) (l5_SeqSteps_b9 x45 a0) (0, r1373.Regs, r1373.Mem, r1373.In_, r1373.Taken, r1373.Out, r1373.PC, r1373.Stack, r1373.Stop, r1373.Fly, r1373.Jump, r1373.Delay)) (l5_SeqSteps_k8 x50 x55 x60 x65 x66 x71 x72 x77 x78 x83 x84 a0)
noncomputable def l5_SeqSteps_k2 (a0 : T_Script) (x45 : (List T_Ins)) (x50 : (List Int)) (x55 : (List Int)) (x60 : (List Int)) (x65 : Int) (x66 : (List Int)) (x71 : Int) (x72 : (List Int)) (x77 : Int) (x78 : (List T_Write)) (x83 : Int) (x84 : Int) : Unit → Option Bool := fun _ => (app' ([0, 1, 2, 30, (-1), 20001] : List Int) a0.N).bind fun zs249 => cut (σ := Unit) (loop (σ := Int) (l5_SeqSteps_b4 zs249 x45 x50 x55 x60 x65 x66 x71 x72 x77 x78 x83 x84 a0) 0) (l5_SeqSteps_k3 a0 x45 x50 x55 x60 x65 x66 x71 x72 x77 x78 x83 x84)
noncomputable def l5_SeqSteps_k1 (a0 : T_Script) : ((List T_Ins) × (List Int) × (List Int) × (List Int) × Int × (List Int) × Int × (List Int) × Int × (List T_Write) × Int × Int) → Option Bool := fun (x45, x50, x55, x60, x65, x66, x71, x72, x77, x78, x83, x84) => (seq_Check (⟨x50, x55, x60, x65, x66, x71, x72, x77, x78, x83, x84⟩ : T_State)).bind fun r128 => (r5_State a0.S).bind fun r129 => bif (decide ((l5_num r128) = 0)) != r129 then some (false) else (seq_New a0.In_).bind fun r131 => cut (σ := Unit) (bif decide ((a0.In_.length : Int) ≤ 100) then bif decide ((l5_num r131.2) ≠ 0) then some (.done (false)) else (r5_New a0.In_).bind fun r205 => (r0_EqState r131.1 r205).bind fun r236 => bif !r236 then some (.done (false)) else some (.next ()) else bif decide ((l5_num r131.2) ≠ 1) then some (.done (false)) else (r0_EqState r131.1 (⟨[], [], [], 0, [], 0, [], 0, [], 0, 0⟩ : T_State)).bind fun r239 => bif !r239 then some (.done (false)) else some (.next ())) (l5_SeqSteps_k2 a0 x45 x50 x55 x60 x65 x66 x71 x72 x77 x78 x83 x84)
noncomputable def l5_SeqSteps (a0 : T_Script) : Option Bool :=
  (l5_Heavy a0).bind fun r2 => bif r2 then some (true) else cut (σ := ((List T_Ins) × (List Int) × (List Int) × (List Int) × Int × (List Int) × Int × (List Int) × Int × (List T_Write) × Int × Int)) ((r0_CopyState a0.S).bind fun r87 => (r0_CopyCodes a0.P).bind fun r118 => some (.next (r118, r87.Regs, r87.Mem, r87.In_, r87.Taken, r87.Out, r87.PC, r87.Stack, r87.Stop, r87.Fly, r87.Jump, r87.Delay))) (l5_SeqSteps_k1 a0)
set_option maxHeartbeats 40000000 in
theorem w_l5_SeqSteps_ {g : Frag} {a0 : T_Script} {v0_ : Value} {r : Bool} (h0 : Rd_Script g a0 v0_) (hF : l5_SeqSteps a0 = some r) : LCs Try.prog 11 #[v0_] g (.bool r) := by
 obtain ⟨v0_0_, v0_1_, v0_2_, v0_3_, v0_5_, v0_7_, v0_9_, v0_12_, v0_13_, rfl, h0_0_, h0_1_, h0_2_, h0_3_, h0_5_, h0_7_, h0_9_, h0_12_, h0_13_⟩ := h0
 unfold l5_SeqSteps at hF
 refine lc_body (k := 197) (av := [.agg #[v0_0_, v0_1_, v0_2_, v0_3_, .int .i64 a0.S.Taken, v0_5_, .int .i64 a0.S.PC, v0_7_, .int .i64 a0.S.Stop, v0_9_, .int .i64 a0.S.Jump, .int .i64 a0.S.Delay, v0_12_, v0_13_]]) Try.func11 rfl rfl (h := fun W hS => ?_)
 refine c_seq ?_
 refine c_region ?_
 refine o_boxP (cl := [v0_0_, v0_1_, v0_2_, v0_3_, .int .i64 a0.S.Taken, v0_5_, .int .i64 a0.S.PC, v0_7_, .int .i64 a0.S.Stop, v0_9_, .int .i64 a0.S.Jump, .int .i64 a0.S.Delay, v0_12_, v0_13_]) rfl hS ?_
 clear hS; intro b1 w hS
 refine oy hS y_assign ?_
 refine n_thenN ?_
 iterate 2 (refine c_seq ?_)
 refine c_region ?_
 refine oy hS (y_loadW (fun w hS => hS.own (mH)) Try.underlying29 rfl (by exact sz_sledgelaw5_Script)) ?_
 obtain ⟨r2, hr2, hF⟩ := ob hF
 refine o_callS hS Try.func12 rfl rfl (hc := (w_l5_Heavy (a0 := a0) (h0 := ⟨_, _, _, _, _, _, _, _, _, rfl, h0_0_.plus, h0_1_.plus, h0_2_.plus, h0_3_.plus, h0_5_.plus, h0_7_.plus, h0_9_.plus, h0_12_.plus, h0_13_.plus⟩) (hF := hr2))) (h := ?_)
 clear hS; intro w hS
 refine n_thenN ?_
 refine c_if (ht := fun c3 => ?_) (hf := fun c3 => ?_)
 · replace hF := bt c3 hF
   refine c_seq ?_
   refine c_region ?_
   refine oy hS y_assign ?_
   refine n_thenN ?_
   obtain rfl := Option.some.inj hF
   exact wp_ret (wr1 hS)
 replace hF := bf c3 hF
 refine wp_skip ?_
 obtain ⟨z85, hF, hK86⟩ := cut_step hF
 refine c_cutP (fun a w' => ∃ (x45 : (List T_Ins)) (x50 : (List Int)) (x55 : (List Int)) (x60 : (List Int)) (x65 : Int) (x66 : (List Int)) (x71 : Int) (x72 : (List Int)) (x77 : Int) (x78 : (List T_Write)) (x83 : Int) (x84 : Int) (v46 : Value) (v51 : Value) (v56 : Value) (v61 : Value) (v67 : Value) (v73 : Value) (v79 : Value) (LX48 : Own) (LX53 : Own) (LX58 : Own) (LX63 : Own) (LX69 : Own) (LX75 : Own) (LX81 : Own) (b44 : Nat), l5_SeqSteps_k1 a0 (x45, x50, x55, x60, x65, x66, x71, x72, x77, x78, x83, x84) = some r ∧ OwT 43 enc_Ins 6 x45 v46 LX48 ∧ OwT 63 enc_uint32 1 x50 v51 LX53 ∧ OwT 63 enc_uint32 1 x55 v56 LX58 ∧ OwT 63 enc_uint32 1 x60 v61 LX63 ∧ OwT 63 enc_uint32 1 x66 v67 LX69 ∧ OwT 3 enc_int 1 x72 v73 LX75 ∧ OwT 71 enc_Write 3 x78 v79 LX81 ∧ (∃ s : Nat → Value, a = Ac (.lit 197 [s 0, .pointer (some ⟨b1, 0, none⟩), s 2, .pointer (some ⟨b44, 0, none⟩), v46, s 5, s 6, s 7, s 8, s 9, s 10, s 11, s 12, s 13, s 14, s 15, s 16, s 17, s 18, s 19, s 20, s 21, s 22, s 23, s 24, s 25, s 26, s 27, s 28, s 29, s 30, s 31, s 32, s 33, s 34, s 35, s 36, s 37, s 38, s 39, s 40, s 41, s 42, s 43, s 44, s 45, s 46, s 47, s 48, s 49, s 50, s 51, s 52, s 53, s 54, s 55, s 56, s 57, s 58, s 59, s 60, s 61, s 62, s 63, s 64, s 65, s 66, s 67, s 68, s 69, s 70, s 71, s 72, s 73, s 74, s 75, s 76, s 77, s 78, s 79, s 80, s 81, s 82, s 83, s 84, s 85, s 86, s 87, s 88, s 89, s 90, s 91, s 92, s 93, s 94, s 95, s 96, s 97, s 98, s 99, s 100, s 101, s 102, s 103, s 104, s 105, s 106, s 107, s 108, s 109, s 110, s 111, s 112, s 113, s 114, s 115, s 116, s 117, s 118, s 119, s 120, s 121, s 122, s 123, s 124, s 125, s 126, s 127, s 128, s 129, s 130, s 131, s 132, s 133, s 134, s 135, s 136, s 137, s 138, s 139, s 140, s 141, s 142, s 143, s 144, s 145, s 146, s 147, s 148, s 149, s 150, s 151, s 152, s 153, s 154, s 155, s 156, s 157, s 158, s 159, s 160, s 161, s 162, s 163, s 164, s 165, s 166, s 167, s 168, s 169, s 170, s 171, s 172, s 173, s 174, s 175, s 176, s 177, s 178, s 179, s 180, s 181, s 182, s 183, s 184, s 185, s 186, s 187, s 188, s 189, s 190, s 191, s 192, s 193, s 194, s 195, s 196])) ∧ St W g [] ((b1, blk [v0_0_, v0_1_, v0_2_, v0_3_, .int .i64 a0.S.Taken, v0_5_, .int .i64 a0.S.PC, v0_7_, .int .i64 a0.S.Stop, v0_9_, .int .i64 a0.S.Jump, .int .i64 a0.S.Delay, v0_12_, v0_13_] 29) :: ((b44, blk [v51, v56, v61, .int .i64 x65, v67, .int .i64 x71, v73, .int .i64 x77, v79, .int .i64 x83, .int .i64 x84] 27) :: (LX53 ++ (LX58 ++ (LX63 ++ (LX69 ++ (LX75 ++ (LX81 ++ (LX48 ++ []))))))))) w') ?_ ?_
 · skip
   obtain ⟨r87, hr87, hF⟩ := ob hF
   obtain ⟨r118, hr118, hF⟩ := ob hF
   refine c_heldB (CB g ((b1, blk [v0_0_, v0_1_, v0_2_, v0_3_, .int .i64 a0.S.Taken, v0_5_, .int .i64 a0.S.PC, v0_7_, .int .i64 a0.S.Stop, v0_9_, .int .i64 a0.S.Jump, .int .i64 a0.S.Delay, v0_12_, v0_13_] 29) :: [])) 7 9 (by kernel_rfl) rfl hS ?_
   clear hS; intro w hS
   refine hy0 0 rfl wn (by kernel_rfl) (nq (P := Try.prog) (fn := Try.f11)) (fun _ => hS.cb) (y_field fa_sledgelaw5_Script_1) ?_
   refine hy 1 rfl wn (by kernel_rfl) (nq (P := Try.prog) (fn := Try.f11)) hS.cb (y_loadN (vs := [v0_1_, v0_2_, v0_3_, .int .i64 a0.S.Taken, v0_5_, .int .i64 a0.S.PC, v0_7_, .int .i64 a0.S.Stop, v0_9_, .int .i64 a0.S.Jump, .int .i64 a0.S.Delay]) (fun w hS => hS.own (mH)) Try.underlying27 rfl (by exact sz_api_State) (subc (pre := [v0_0_]) (vs := [v0_1_, v0_2_, v0_3_, .int .i64 a0.S.Taken, v0_5_, .int .i64 a0.S.PC, v0_7_, .int .i64 a0.S.Stop, v0_9_, .int .i64 a0.S.Jump, .int .i64 a0.S.Delay]) (post := [v0_12_, v0_13_]) rfl rfl)) ?_
   refine hy0 3 rfl wn (by kernel_rfl) (nq (P := Try.prog) (fn := Try.f11)) (fun _ => hS.cb) (y_field fa_sledgelaw5_Script_0) ?_
   refine hy 4 rfl wn (by kernel_rfl) (nq (P := Try.prog) (fn := Try.f11)) hS.cb (y_load (fun w hS => hS.own (mH)) Try.underlying22 rfl rfl) ?_
   refine hb2 2 6 (by kernel_rfl) (hb_op rfl wn (nl (P := Try.prog) (fn := Try.f11)) ?_) (hb_op rfl wn (nl (P := Try.prog) (fn := Try.f11)) ?_)
   · skip
     refine o_call (L1 := []) (L2 := ((b1, blk [v0_0_, v0_1_, v0_2_, v0_3_, .int .i64 a0.S.Taken, v0_5_, .int .i64 a0.S.PC, v0_7_, .int .i64 a0.S.Stop, v0_9_, .int .i64 a0.S.Jump, .int .i64 a0.S.Delay, v0_12_, v0_13_] 29) :: [])) hS Try.func23 rfl rfl (hc := (w_r0_CopyState (a0 := a0.S) (h0 := ⟨_, _, _, _, _, _, rfl, h0_1_.plus, h0_2_.plus, h0_3_.plus, h0_5_.plus, h0_7_.plus, h0_9_.plus⟩) (hF := hr87))) (h := ?_)
     clear hS; intro v88 LY89 w hS hr90
     obtain ⟨v_0_91, LX_0_92, rfl, rfl, h_0_93⟩ := hr90
     obtain ⟨vR0_0_94, vR0_1_98, vR0_2_102, vR0_4_106, vR0_6_110, vR0_8_114, LXR0_0_95, LXR0_1_99, LXR0_2_103, LXR0_4_107, LXR0_6_111, LXR0_8_115, rfl, rfl, hR0_0_96, hR0_1_100, hR0_2_104, hR0_4_108, hR0_6_112, hR0_8_116⟩ := h_0_93
     simp only [List.append_assoc, List.cons_append, List.nil_append] at hS
     refine hb_next (fun _ => (hS.re (.takeb (.there _ (.there _ (.there _ (.there _ (.there _ (.there _ (.hereb _ _))))))) (.nil _))).cb) ?_
     refine hb2 5 6 (by kernel_rfl) (hb_op rfl wn (nl (P := Try.prog) (fn := Try.f11)) ?_) (hb_op rfl wn (nl (P := Try.prog) (fn := Try.f11)) ?_)
     · skip
       refine o_call (L1 := []) (L2 := (LXR0_0_95 ++ (LXR0_1_99 ++ (LXR0_2_103 ++ (LXR0_4_107 ++ (LXR0_6_111 ++ (LXR0_8_115 ++ ((b1, blk [v0_0_, v0_1_, v0_2_, v0_3_, .int .i64 a0.S.Taken, v0_5_, .int .i64 a0.S.PC, v0_7_, .int .i64 a0.S.Stop, v0_9_, .int .i64 a0.S.Jump, .int .i64 a0.S.Delay, v0_12_, v0_13_] 29) :: [])))))))) hS Try.func24 rfl rfl (hc := (w_r0_CopyCodes (a0 := a0.P) (h0 := h0_0_.plus) (hF := hr118))) (h := ?_)
       clear hS; intro v119 LY120 w hS hr121
       obtain ⟨v_0_122, LX_0_123, rfl, rfl, h_0_124⟩ := hr121
       simp only [List.append_assoc, List.cons_append, List.nil_append] at hS
       refine hb_next (fun _ => (hS.re (.takeb (.there _ (.there _ (.there _ (.there _ (.there _ (.there _ (.there _ (.hereb _ _)))))))) (.nil _))).cb) ?_
       refine hb1 6 (by kernel_rfl) (hb_op rfl wn (nl (P := Try.prog) (fn := Try.f11)) ?_)
       refine o_allocP (cl := [(.slice none 0 0), (.slice none 0 0), (.slice none 0 0), .int .i64 0, (.slice none 0 0), .int .i64 0, (.slice none 0 0), .int .i64 0, (.slice none 0 0), .int .i64 0, .int .i64 0]) zr_api_State rfl hS ?_
       clear hS; intro b126 w hS
       refine hb_next (fun _ => (hS.re (.takeb (.thereb _ (.there _ (.there _ (.there _ (.there _ (.there _ (.there _ (.there _ (.hereb _ _))))))))) (.nil _))).cb) ?_
       refine hb1 7 (by kernel_rfl) (hb_op rfl wn (nl (P := Try.prog) (fn := Try.f11)) ?_)
       refine o_storeP (vs := [vR0_0_94, vR0_1_98, vR0_2_102, .int .i64 r87.Taken, vR0_4_106, .int .i64 r87.PC, vR0_6_110, .int .i64 r87.Stop, vR0_8_114, .int .i64 r87.Jump, .int .i64 r87.Delay]) hS (hm := Upd.here _) (hi := by exact sz_api_State) (h1 := (onC (hR0_0_96).one (onC (hR0_1_100).one (onC (hR0_2_104).one (onC rfl (onC (hR0_4_108).one (onC rfl (onC (hR0_6_112).one (onC rfl (onC (hR0_8_116).one (onC rfl (onC rfl onN)))))))))))) ?_
       clear hS; intro w hS
       refine hb_next (fun h => absurd h (by decide)) ?_
       refine hy0 8 rfl wn (by kernel_rfl) (nq (P := Try.prog) (fn := Try.f11)) (fun h => absurd h (by decide)) y_assign ?_
       refine hb_done (by kernel_rfl) ?_
       obtain rfl := Option.some.inj hF
       change ∃ _, _
       exact ⟨r118, r87.Regs, r87.Mem, r87.In_, r87.Taken, r87.Out, r87.PC, r87.Stack, r87.Stop, r87.Fly, r87.Jump, r87.Delay, v_0_122, vR0_0_94, vR0_1_98, vR0_2_102, vR0_4_106, vR0_6_110, vR0_8_114, LX_0_123, LXR0_0_95, LXR0_1_99, LXR0_2_103, LXR0_4_107, LXR0_6_111, LXR0_8_115, b126, hK86, h_0_124, hR0_0_96, hR0_1_100, hR0_2_104, hR0_4_108, hR0_6_112, hR0_8_116, mk_ex, (hS.re (.takeb (.thereb _ (.there _ (.there _ (.there _ (.there _ (.there _ (.there _ (.there _ (.hereb _ _))))))))) (.takeb (.hereb _ _) (.take (.there _ (.here _ _)) (.take (.there _ (.here _ _)) (.take (.there _ (.here _ _)) (.take (.there _ (.here _ _)) (.take (.there _ (.here _ _)) (.take (.there _ (.here _ _)) (.take (.here _ _) (.nil _)))))))))))⟩
     refine o_allocP (cl := [(.slice none 0 0), (.slice none 0 0), (.slice none 0 0), .int .i64 0, (.slice none 0 0), .int .i64 0, (.slice none 0 0), .int .i64 0, (.slice none 0 0), .int .i64 0, .int .i64 0]) zr_api_State rfl hS ?_
     clear hS; intro b126 w hS
     refine hb_next (fun _ => (hS.re (.takeb (.thereb _ (.there _ (.there _ (.there _ (.there _ (.there _ (.there _ (.hereb _ _)))))))) (.nil _))).cb) ?_
     refine hb1 5 (by kernel_rfl) (hb_op rfl wn (nl (P := Try.prog) (fn := Try.f11)) ?_)
     refine o_call (L1 := []) (L2 := ((b126, blk [(.slice none 0 0), (.slice none 0 0), (.slice none 0 0), .int .i64 0, (.slice none 0 0), .int .i64 0, (.slice none 0 0), .int .i64 0, (.slice none 0 0), .int .i64 0, .int .i64 0] 27) :: (LXR0_0_95 ++ (LXR0_1_99 ++ (LXR0_2_103 ++ (LXR0_4_107 ++ (LXR0_6_111 ++ (LXR0_8_115 ++ ((b1, blk [v0_0_, v0_1_, v0_2_, v0_3_, .int .i64 a0.S.Taken, v0_5_, .int .i64 a0.S.PC, v0_7_, .int .i64 a0.S.Stop, v0_9_, .int .i64 a0.S.Jump, .int .i64 a0.S.Delay, v0_12_, v0_13_] 29) :: []))))))))) hS Try.func24 rfl rfl (hc := (w_r0_CopyCodes (a0 := a0.P) (h0 := h0_0_.plus) (hF := hr118))) (h := ?_)
     clear hS; intro v119 LY120 w hS hr121
     obtain ⟨v_0_122, LX_0_123, rfl, rfl, h_0_124⟩ := hr121
     simp only [List.append_assoc, List.cons_append, List.nil_append] at hS
     refine hb_next (fun _ => (hS.re (.takeb (.there _ (.thereb _ (.there _ (.there _ (.there _ (.there _ (.there _ (.there _ (.hereb _ _))))))))) (.nil _))).cb) ?_
     refine hb1 7 (by kernel_rfl) (hb_op rfl wn (nl (P := Try.prog) (fn := Try.f11)) ?_)
     have hS : St W g [] ((b126, blk [(.slice none 0 0), (.slice none 0 0), (.slice none 0 0), .int .i64 0, (.slice none 0 0), .int .i64 0, (.slice none 0 0), .int .i64 0, (.slice none 0 0), .int .i64 0, .int .i64 0] 27) :: (LX_0_123 ++ (LXR0_0_95 ++ (LXR0_1_99 ++ (LXR0_2_103 ++ (LXR0_4_107 ++ (LXR0_6_111 ++ (LXR0_8_115 ++ ((b1, blk [v0_0_, v0_1_, v0_2_, v0_3_, .int .i64 a0.S.Taken, v0_5_, .int .i64 a0.S.PC, v0_7_, .int .i64 a0.S.Stop, v0_9_, .int .i64 a0.S.Jump, .int .i64 a0.S.Delay, v0_12_, v0_13_] 29) :: []))))))))) w := hS.re (.takeb (.there _ (.hereb _ _)) (.take (.here _ _) (.take (.here _ _) (.take (.here _ _) (.take (.here _ _) (.take (.here _ _) (.take (.here _ _) (.take (.here _ _) (.takeb (.hereb _ _) (.nil _))))))))))
     refine o_storeP (vs := [vR0_0_94, vR0_1_98, vR0_2_102, .int .i64 r87.Taken, vR0_4_106, .int .i64 r87.PC, vR0_6_110, .int .i64 r87.Stop, vR0_8_114, .int .i64 r87.Jump, .int .i64 r87.Delay]) hS (hm := Upd.here _) (hi := by exact sz_api_State) (h1 := (onC (hR0_0_96).one (onC (hR0_1_100).one (onC (hR0_2_104).one (onC rfl (onC (hR0_4_108).one (onC rfl (onC (hR0_6_112).one (onC rfl (onC (hR0_8_116).one (onC rfl (onC rfl onN)))))))))))) ?_
     clear hS; intro w hS
     refine hb_next (fun h => absurd h (by decide)) ?_
     refine hy0 8 rfl wn (by kernel_rfl) (nq (P := Try.prog) (fn := Try.f11)) (fun h => absurd h (by decide)) y_assign ?_
     refine hb_done (by kernel_rfl) ?_
     obtain rfl := Option.some.inj hF
     change ∃ _, _
     exact ⟨r118, r87.Regs, r87.Mem, r87.In_, r87.Taken, r87.Out, r87.PC, r87.Stack, r87.Stop, r87.Fly, r87.Jump, r87.Delay, v_0_122, vR0_0_94, vR0_1_98, vR0_2_102, vR0_4_106, vR0_6_110, vR0_8_114, LX_0_123, LXR0_0_95, LXR0_1_99, LXR0_2_103, LXR0_4_107, LXR0_6_111, LXR0_8_115, b126, hK86, h_0_124, hR0_0_96, hR0_1_100, hR0_2_104, hR0_4_108, hR0_6_112, hR0_8_116, mk_ex, (hS.re (.takeb (.thereb _ (.there _ (.there _ (.there _ (.there _ (.there _ (.there _ (.there _ (.hereb _ _))))))))) (.takeb (.hereb _ _) (.take (.there _ (.here _ _)) (.take (.there _ (.here _ _)) (.take (.there _ (.here _ _)) (.take (.there _ (.here _ _)) (.take (.there _ (.here _ _)) (.take (.there _ (.here _ _)) (.take (.here _ _) (.nil _)))))))))))⟩
   refine o_allocP (cl := [(.slice none 0 0), (.slice none 0 0), (.slice none 0 0), .int .i64 0, (.slice none 0 0), .int .i64 0, (.slice none 0 0), .int .i64 0, (.slice none 0 0), .int .i64 0, .int .i64 0]) zr_api_State rfl hS ?_
   clear hS; intro b126 w hS
   refine hb_next (fun _ => (hS.re (.takeb (.thereb _ (.hereb _ _)) (.nil _))).cb) ?_
   refine hb1 2 (by kernel_rfl) (hb_op rfl wn (nl (P := Try.prog) (fn := Try.f11)) ?_)
   refine o_call (L1 := []) (L2 := ((b126, blk [(.slice none 0 0), (.slice none 0 0), (.slice none 0 0), .int .i64 0, (.slice none 0 0), .int .i64 0, (.slice none 0 0), .int .i64 0, (.slice none 0 0), .int .i64 0, .int .i64 0] 27) :: ((b1, blk [v0_0_, v0_1_, v0_2_, v0_3_, .int .i64 a0.S.Taken, v0_5_, .int .i64 a0.S.PC, v0_7_, .int .i64 a0.S.Stop, v0_9_, .int .i64 a0.S.Jump, .int .i64 a0.S.Delay, v0_12_, v0_13_] 29) :: []))) hS Try.func23 rfl rfl (hc := (w_r0_CopyState (a0 := a0.S) (h0 := ⟨_, _, _, _, _, _, rfl, h0_1_.plus, h0_2_.plus, h0_3_.plus, h0_5_.plus, h0_7_.plus, h0_9_.plus⟩) (hF := hr87))) (h := ?_)
   clear hS; intro v88 LY89 w hS hr90
   obtain ⟨v_0_91, LX_0_92, rfl, rfl, h_0_93⟩ := hr90
   obtain ⟨vR0_0_94, vR0_1_98, vR0_2_102, vR0_4_106, vR0_6_110, vR0_8_114, LXR0_0_95, LXR0_1_99, LXR0_2_103, LXR0_4_107, LXR0_6_111, LXR0_8_115, rfl, rfl, hR0_0_96, hR0_1_100, hR0_2_104, hR0_4_108, hR0_6_112, hR0_8_116⟩ := h_0_93
   simp only [List.append_assoc, List.cons_append, List.nil_append] at hS
   refine hb_next (fun _ => (hS.re (.takeb (.there _ (.there _ (.there _ (.there _ (.there _ (.there _ (.thereb _ (.hereb _ _)))))))) (.nil _))).cb) ?_
   refine hb1 5 (by kernel_rfl) (hb_op rfl wn (nl (P := Try.prog) (fn := Try.f11)) ?_)
   refine o_call (L1 := []) (L2 := (LXR0_0_95 ++ (LXR0_1_99 ++ (LXR0_2_103 ++ (LXR0_4_107 ++ (LXR0_6_111 ++ (LXR0_8_115 ++ ((b126, blk [(.slice none 0 0), (.slice none 0 0), (.slice none 0 0), .int .i64 0, (.slice none 0 0), .int .i64 0, (.slice none 0 0), .int .i64 0, (.slice none 0 0), .int .i64 0, .int .i64 0] 27) :: ((b1, blk [v0_0_, v0_1_, v0_2_, v0_3_, .int .i64 a0.S.Taken, v0_5_, .int .i64 a0.S.PC, v0_7_, .int .i64 a0.S.Stop, v0_9_, .int .i64 a0.S.Jump, .int .i64 a0.S.Delay, v0_12_, v0_13_] 29) :: []))))))))) hS Try.func24 rfl rfl (hc := (w_r0_CopyCodes (a0 := a0.P) (h0 := h0_0_.plus) (hF := hr118))) (h := ?_)
   clear hS; intro v119 LY120 w hS hr121
   obtain ⟨v_0_122, LX_0_123, rfl, rfl, h_0_124⟩ := hr121
   simp only [List.append_assoc, List.cons_append, List.nil_append] at hS
   refine hb_next (fun _ => (hS.re (.takeb (.there _ (.there _ (.there _ (.there _ (.there _ (.there _ (.there _ (.thereb _ (.hereb _ _))))))))) (.nil _))).cb) ?_
   refine hb1 7 (by kernel_rfl) (hb_op rfl wn (nl (P := Try.prog) (fn := Try.f11)) ?_)
   have hS : St W g [] ((b126, blk [(.slice none 0 0), (.slice none 0 0), (.slice none 0 0), .int .i64 0, (.slice none 0 0), .int .i64 0, (.slice none 0 0), .int .i64 0, (.slice none 0 0), .int .i64 0, .int .i64 0] 27) :: (LX_0_123 ++ (LXR0_0_95 ++ (LXR0_1_99 ++ (LXR0_2_103 ++ (LXR0_4_107 ++ (LXR0_6_111 ++ (LXR0_8_115 ++ ((b1, blk [v0_0_, v0_1_, v0_2_, v0_3_, .int .i64 a0.S.Taken, v0_5_, .int .i64 a0.S.PC, v0_7_, .int .i64 a0.S.Stop, v0_9_, .int .i64 a0.S.Jump, .int .i64 a0.S.Delay, v0_12_, v0_13_] 29) :: []))))))))) w := hS.re (.takeb (.there _ (.there _ (.there _ (.there _ (.there _ (.there _ (.there _ (.hereb _ _)))))))) (.take (.here _ _) (.take (.here _ _) (.take (.here _ _) (.take (.here _ _) (.take (.here _ _) (.take (.here _ _) (.take (.here _ _) (.takeb (.hereb _ _) (.nil _))))))))))
   refine o_storeP (vs := [vR0_0_94, vR0_1_98, vR0_2_102, .int .i64 r87.Taken, vR0_4_106, .int .i64 r87.PC, vR0_6_110, .int .i64 r87.Stop, vR0_8_114, .int .i64 r87.Jump, .int .i64 r87.Delay]) hS (hm := Upd.here _) (hi := by exact sz_api_State) (h1 := (onC (hR0_0_96).one (onC (hR0_1_100).one (onC (hR0_2_104).one (onC rfl (onC (hR0_4_108).one (onC rfl (onC (hR0_6_112).one (onC rfl (onC (hR0_8_116).one (onC rfl (onC rfl onN)))))))))))) ?_
   clear hS; intro w hS
   refine hb_next (fun h => absurd h (by decide)) ?_
   refine hy0 8 rfl wn (by kernel_rfl) (nq (P := Try.prog) (fn := Try.f11)) (fun h => absurd h (by decide)) y_assign ?_
   refine hb_done (by kernel_rfl) ?_
   obtain rfl := Option.some.inj hF
   change ∃ _, _
   exact ⟨r118, r87.Regs, r87.Mem, r87.In_, r87.Taken, r87.Out, r87.PC, r87.Stack, r87.Stop, r87.Fly, r87.Jump, r87.Delay, v_0_122, vR0_0_94, vR0_1_98, vR0_2_102, vR0_4_106, vR0_6_110, vR0_8_114, LX_0_123, LXR0_0_95, LXR0_1_99, LXR0_2_103, LXR0_4_107, LXR0_6_111, LXR0_8_115, b126, hK86, h_0_124, hR0_0_96, hR0_1_100, hR0_2_104, hR0_4_108, hR0_6_112, hR0_8_116, mk_ex, (hS.re (.takeb (.thereb _ (.there _ (.there _ (.there _ (.there _ (.there _ (.there _ (.there _ (.hereb _ _))))))))) (.takeb (.hereb _ _) (.take (.there _ (.here _ _)) (.take (.there _ (.here _ _)) (.take (.there _ (.here _ _)) (.take (.there _ (.here _ _)) (.take (.there _ (.here _ _)) (.take (.there _ (.here _ _)) (.take (.here _ _) (.nil _)))))))))))⟩
 rintro a w ⟨x45, x50, x55, x60, x65, x66, x71, x72, x77, x78, x83, x84, v46, v51, v56, v61, v67, v73, v79, LX48, LX53, LX58, LX63, LX69, LX75, LX81, b44, hF, h47, h52, h57, h62, h68, h74, h80, ⟨s127, rfl⟩, hS⟩
 dsimp only [l5_SeqSteps_k1] at hF
 iterate 2 (refine c_seq ?_)
 refine c_quiet (by kernel_rfl) (by kernel_rfl) hS ?_
 refine qy (y_loadW (fun w hS => hS.own (mC (mH))) Try.underlying27 rfl (by exact sz_api_State)) ?_
 obtain ⟨r128, hr128, hF⟩ := ob hF
 refine q_callS Try.func25 rfl rfl (hc := (w_seq_Check (a0 := (⟨x50, x55, x60, x65, x66, x71, x72, x77, x78, x83, x84⟩ : T_State)) (h0 := ⟨_, _, _, _, _, _, rfl, (OwT.plus h52 hS (fun p hp => mC (mC (mA (hp))))), (OwT.plus h57 hS (fun p hp => mC (mC (mB (mA (hp)))))), (OwT.plus h62 hS (fun p hp => mC (mC (mB (mB (mA (hp))))))), (OwT.plus h68 hS (fun p hp => mC (mC (mB (mB (mB (mA (hp)))))))), (OwT.plus h74 hS (fun p hp => mC (mC (mB (mB (mB (mB (mA (hp))))))))), (OwT.plus h80 hS (fun p hp => mC (mC (mB (mB (mB (mB (mB (mA (hp))))))))))⟩) (hF := hr128))) (h := ?_)
 refine q_callS Try.func15 rfl rfl (hc := (w_l5_num (a0 := r128))) (h := ?_)
 refine qy y_bin ?_
 refine qy (y_field fa_sledgelaw5_Script_1) ?_
 refine qy (y_loadN (vs := [v0_1_, v0_2_, v0_3_, .int .i64 a0.S.Taken, v0_5_, .int .i64 a0.S.PC, v0_7_, .int .i64 a0.S.Stop, v0_9_, .int .i64 a0.S.Jump, .int .i64 a0.S.Delay]) (fun w hS => hS.own (mH)) Try.underlying27 rfl (by exact sz_api_State) (subc (pre := [v0_0_]) (vs := [v0_1_, v0_2_, v0_3_, .int .i64 a0.S.Taken, v0_5_, .int .i64 a0.S.PC, v0_7_, .int .i64 a0.S.Stop, v0_9_, .int .i64 a0.S.Jump, .int .i64 a0.S.Delay]) (post := [v0_12_, v0_13_]) rfl rfl)) ?_
 obtain ⟨r129, hr129, hF⟩ := ob hF
 refine q_callS Try.func26 rfl rfl (hc := (w_r5_State (a0 := a0.S) (h0 := ⟨_, _, _, _, _, _, rfl, h0_1_.plus, h0_2_.plus, h0_3_.plus, h0_5_.plus, h0_7_.plus, h0_9_.plus⟩) (hF := hr129))) (h := ?_)
 refine qy (y_bneq Try.underlying4) ?_
 refine q_nilN (h := ?_)
 clear hS; intro w hS
 refine c_if (ht := fun c130 => ?_) (hf := fun c130 => ?_)
 · replace hF := bt c130 hF
   refine c_seq ?_
   refine c_region ?_
   refine oy hS y_assign ?_
   refine n_thenN ?_
   obtain rfl := Option.some.inj hF
   exact wp_ret (wr1 hS)
 replace hF := bf c130 hF
 refine wp_skip ?_
 refine c_seq ?_
 refine c_region ?_
 refine oy hS (y_field fa_sledgelaw5_Script_2) ?_
 refine oy hS (y_load (fun w hS => hS.own (mH)) Try.underlying23 rfl rfl) ?_
 obtain ⟨r131, hr131, hF⟩ := ob hF
 refine o_call (L1 := []) (L2 := ((b1, blk [v0_0_, v0_1_, v0_2_, v0_3_, .int .i64 a0.S.Taken, v0_5_, .int .i64 a0.S.PC, v0_7_, .int .i64 a0.S.Stop, v0_9_, .int .i64 a0.S.Jump, .int .i64 a0.S.Delay, v0_12_, v0_13_] 29) :: ((b44, blk [v51, v56, v61, .int .i64 x65, v67, .int .i64 x71, v73, .int .i64 x77, v79, .int .i64 x83, .int .i64 x84] 27) :: (LX53 ++ (LX58 ++ (LX63 ++ (LX69 ++ (LX75 ++ (LX81 ++ (LX48 ++ [])))))))))) hS Try.func27 rfl rfl (hc := (w_seq_New (a0 := a0.In_) (h0 := h0_12_.plus) (hF := hr131))) (h := ?_)
 clear hS; intro v132 LY133 w hS hr134
 obtain ⟨v_0_135, LX_0_136, rfl, rfl, h_0_137⟩ := hr134
 obtain ⟨vR0_0_138, vR0_1_142, vR0_2_146, vR0_4_150, vR0_6_154, vR0_8_158, LXR0_0_139, LXR0_1_143, LXR0_2_147, LXR0_4_151, LXR0_6_155, LXR0_8_159, rfl, rfl, hR0_0_140, hR0_1_144, hR0_2_148, hR0_4_152, hR0_6_156, hR0_8_160⟩ := h_0_137
 simp only [List.append_assoc, List.cons_append, List.nil_append] at hS
 refine oy hS y_move ?_
 iterate 2 (refine oy hS (y_extract rfl) ?_)
 refine o_allocP (cl := [(.slice none 0 0), (.slice none 0 0), (.slice none 0 0), .int .i64 0, (.slice none 0 0), .int .i64 0, (.slice none 0 0), .int .i64 0, (.slice none 0 0), .int .i64 0, .int .i64 0]) zr_api_State rfl hS ?_
 clear hS; intro b162 w hS
 refine o_storeP (vs := [vR0_0_138, vR0_1_142, vR0_2_146, .int .i64 r131.1.Taken, vR0_4_150, .int .i64 r131.1.PC, vR0_6_154, .int .i64 r131.1.Stop, vR0_8_158, .int .i64 r131.1.Jump, .int .i64 r131.1.Delay]) hS (hm := Upd.here _) (hi := by exact sz_api_State) (h1 := (onC (hR0_0_140).one (onC (hR0_1_144).one (onC (hR0_2_148).one (onC rfl (onC (hR0_4_152).one (onC rfl (onC (hR0_6_156).one (onC rfl (onC (hR0_8_160).one (onC rfl (onC rfl onN)))))))))))) ?_
 clear hS; intro w hS
 refine oy hS y_assign ?_
 refine n_thenN ?_
 obtain ⟨z201, hF, hK202⟩ := cut_step hF
 refine c_cutP (fun a w' => l5_SeqSteps_k2 a0 x45 x50 x55 x60 x65 x66 x71 x72 x77 x78 x83 x84 () = some r ∧ (∃ s : Nat → Value, a = Ac (.lit 197 [s 0, .pointer (some ⟨b1, 0, none⟩), s 2, .pointer (some ⟨b44, 0, none⟩), v46, s 5, s 6, s 7, s 8, s 9, s 10, s 11, s 12, s 13, s 14, s 15, s 16, s 17, s 18, s 19, s 20, s 21, s 22, s 23, s 24, s 25, s 26, s 27, s 28, s 29, s 30, s 31, s 32, s 33, s 34, s 35, s 36, s 37, s 38, s 39, s 40, s 41, s 42, s 43, s 44, s 45, s 46, s 47, s 48, s 49, s 50, s 51, s 52, s 53, s 54, s 55, s 56, s 57, s 58, s 59, s 60, s 61, s 62, s 63, s 64, s 65, s 66, s 67, s 68, s 69, s 70, s 71, s 72, s 73, s 74, s 75, s 76, s 77, s 78, s 79, s 80, s 81, s 82, s 83, s 84, s 85, s 86, s 87, s 88, s 89, s 90, s 91, s 92, s 93, s 94, s 95, s 96, s 97, s 98, s 99, s 100, s 101, s 102, s 103, s 104, s 105, s 106, s 107, s 108, s 109, s 110, s 111, s 112, s 113, s 114, s 115, s 116, s 117, s 118, s 119, s 120, s 121, s 122, s 123, s 124, s 125, s 126, s 127, s 128, s 129, s 130, s 131, s 132, s 133, s 134, s 135, s 136, s 137, s 138, s 139, s 140, s 141, s 142, s 143, s 144, s 145, s 146, s 147, s 148, s 149, s 150, s 151, s 152, s 153, s 154, s 155, s 156, s 157, s 158, s 159, s 160, s 161, s 162, s 163, s 164, s 165, s 166, s 167, s 168, s 169, s 170, s 171, s 172, s 173, s 174, s 175, s 176, s 177, s 178, s 179, s 180, s 181, s 182, s 183, s 184, s 185, s 186, s 187, s 188, s 189, s 190, s 191, s 192, s 193, s 194, s 195, s 196])) ∧ St W g [] ((b1, blk [v0_0_, v0_1_, v0_2_, v0_3_, .int .i64 a0.S.Taken, v0_5_, .int .i64 a0.S.PC, v0_7_, .int .i64 a0.S.Stop, v0_9_, .int .i64 a0.S.Jump, .int .i64 a0.S.Delay, v0_12_, v0_13_] 29) :: ((b44, blk [v51, v56, v61, .int .i64 x65, v67, .int .i64 x71, v73, .int .i64 x77, v79, .int .i64 x83, .int .i64 x84] 27) :: (LX53 ++ (LX58 ++ (LX63 ++ (LX69 ++ (LX75 ++ (LX81 ++ (LX48 ++ []))))))))) w') ?_ ?_
 · skip
   refine c_seq ?_
   refine c_region ?_
   refine oy hS (y_field fa_sledgelaw5_Script_2) ?_
   refine oy hS (y_load (fun w hS => hS.own (mC (mB (mB (mB (mB (mB (mB (mH))))))))) Try.underlying23 rfl rfl) ?_
   refine oy hS (y_len h0_12_ Try.underlying23) ?_
   refine oy hS y_bin ?_
   refine n_thenN ?_
   refine c_if (ht := fun c203 => ?_) (hf := fun c203 => ?_)
   · replace hF := bt c203 hF
     refine c_seq ?_
     refine c_heldB (CB g ((b162, blk [vR0_0_138, vR0_1_142, vR0_2_146, .int .i64 r131.1.Taken, vR0_4_150, .int .i64 r131.1.PC, vR0_6_154, .int .i64 r131.1.Stop, vR0_8_158, .int .i64 r131.1.Jump, .int .i64 r131.1.Delay] 27) :: (LXR0_0_139 ++ (LXR0_1_143 ++ (LXR0_2_147 ++ (LXR0_4_151 ++ (LXR0_6_155 ++ (LXR0_8_159 ++ ((b1, blk [v0_0_, v0_1_, v0_2_, v0_3_, .int .i64 a0.S.Taken, v0_5_, .int .i64 a0.S.PC, v0_7_, .int .i64 a0.S.Stop, v0_9_, .int .i64 a0.S.Jump, .int .i64 a0.S.Delay, v0_12_, v0_13_] 29) :: ((b44, blk [v51, v56, v61, .int .i64 x65, v67, .int .i64 x71, v73, .int .i64 x77, v79, .int .i64 x83, .int .i64 x84] 27) :: (LX53 ++ (LX58 ++ (LX63 ++ (LX69 ++ (LX75 ++ (LX81 ++ (LX48 ++ []))))))))))))))))) 11 11 (by kernel_rfl) rfl hS ?_
     clear hS; intro w hS
     refine hy0 0 rfl wn (by kernel_rfl) (nq (P := Try.prog) (fn := Try.f11)) (fun _ => hS.cb) y_move ?_
     refine hb1 1 (by kernel_rfl) (hb_op rfl wn (nl (P := Try.prog) (fn := Try.f11)) ?_)
     refine o_callS hS Try.func15 rfl rfl (hc := (w_l5_num (a0 := r131.2))) (h := ?_)
     clear hS; intro w hS
     refine hb_next (fun _ => hS.cb) ?_
     refine hy0 2 rfl wn (by kernel_rfl) (nq (P := Try.prog) (fn := Try.f11)) (fun _ => hS.cb) y_bin ?_
     refine hsplit 3 rfl wn (by kernel_rfl) (nq (P := Try.prog) (fn := Try.f11)) (fun _ => hS.cb) (ht := fun c204 => ?_) (hff := fun c204 => ?_)
     · replace hF := bt c204 hF
       refine hskip 4 rfl (wf rfl rfl) (by kernel_rfl) (nq (P := Try.prog) (fn := Try.f11)) (fun _ => hS.cb) ?_
       refine hskip 5 rfl (wf rfl rfl) (by kernel_rfl) (nq (P := Try.prog) (fn := Try.f11)) (fun _ => hS.cb) ?_
       refine hskip 6 rfl (wf rfl rfl) (by kernel_rfl) (nq (P := Try.prog) (fn := Try.f11)) (fun _ => hS.cb) ?_
       refine hskip 7 rfl (wf rfl rfl) (by kernel_rfl) (nq (P := Try.prog) (fn := Try.f11)) (fun _ => hS.cb) ?_
       refine hskip 8 rfl (wf rfl rfl) (by kernel_rfl) (nq (P := Try.prog) (fn := Try.f11)) (fun _ => hS.cb) ?_
       refine hskip 9 rfl (wf rfl rfl) (by kernel_rfl) (nq (P := Try.prog) (fn := Try.f11)) (fun _ => hS.cb) ?_
       refine hy0 10 rfl wn (by kernel_rfl) (nq (P := Try.prog) (fn := Try.f11)) (fun _ => hS.cb) y_pickT ?_
       refine hb_done (by kernel_rfl) ?_
       refine c_if_true (h := ?_)
       refine c_seq ?_
       refine c_region ?_
       refine oy hS y_assign ?_
       refine n_thenN ?_
       obtain rfl := Option.some.inj hF
       obtain rfl : _ = r := hK202
       exact wp_ret (wr1 hS)
     replace hF := bf c204 hF
     refine hy 4 rfl (wt rfl rfl rfl) (by kernel_rfl) (nq (P := Try.prog) (fn := Try.f11)) hS.cb (y_loadW (fun w hS => hS.own (mH)) Try.underlying27 rfl (by exact sz_api_State)) ?_
     refine hy0 5 rfl (wt rfl rfl rfl) (by kernel_rfl) (nq (P := Try.prog) (fn := Try.f11)) (fun _ => hS.cb) (y_field fa_sledgelaw5_Script_2) ?_
     refine hy 6 rfl (wt rfl rfl rfl) (by kernel_rfl) (nq (P := Try.prog) (fn := Try.f11)) hS.cb (y_load (fun w hS => hS.own (mC (mB (mB (mB (mB (mB (mB (mH))))))))) Try.underlying23 rfl rfl) ?_
     refine hb1 7 (by kernel_rfl) (hb_op rfl (wt rfl rfl rfl) (nl (P := Try.prog) (fn := Try.f11)) ?_)
     obtain ⟨r205, hr205, hF⟩ := ob hF
     refine o_call (L1 := []) (L2 := ((b162, blk [vR0_0_138, vR0_1_142, vR0_2_146, .int .i64 r131.1.Taken, vR0_4_150, .int .i64 r131.1.PC, vR0_6_154, .int .i64 r131.1.Stop, vR0_8_158, .int .i64 r131.1.Jump, .int .i64 r131.1.Delay] 27) :: (LXR0_0_139 ++ (LXR0_1_143 ++ (LXR0_2_147 ++ (LXR0_4_151 ++ (LXR0_6_155 ++ (LXR0_8_159 ++ ((b1, blk [v0_0_, v0_1_, v0_2_, v0_3_, .int .i64 a0.S.Taken, v0_5_, .int .i64 a0.S.PC, v0_7_, .int .i64 a0.S.Stop, v0_9_, .int .i64 a0.S.Jump, .int .i64 a0.S.Delay, v0_12_, v0_13_] 29) :: ((b44, blk [v51, v56, v61, .int .i64 x65, v67, .int .i64 x71, v73, .int .i64 x77, v79, .int .i64 x83, .int .i64 x84] 27) :: (LX53 ++ (LX58 ++ (LX63 ++ (LX69 ++ (LX75 ++ (LX81 ++ (LX48 ++ []))))))))))))))))) hS Try.func28 rfl rfl (hc := (w_r5_New (a0 := a0.In_) (h0 := h0_12_.plus) (hF := hr205))) (h := ?_)
     clear hS; intro v206 LY207 w hS hr208
     obtain ⟨v_0_209, LX_0_210, rfl, rfl, h_0_211⟩ := hr208
     obtain ⟨vR0_0_212, vR0_1_216, vR0_2_220, vR0_4_224, vR0_6_228, vR0_8_232, LXR0_0_213, LXR0_1_217, LXR0_2_221, LXR0_4_225, LXR0_6_229, LXR0_8_233, rfl, rfl, hR0_0_214, hR0_1_218, hR0_2_222, hR0_4_226, hR0_6_230, hR0_8_234⟩ := h_0_211
     simp only [List.append_assoc, List.cons_append, List.nil_append] at hS
     refine hb_next (fun _ => (hS.re (.takeb (.there _ (.there _ (.there _ (.there _ (.there _ (.there _ (.hereb _ _))))))) (.take (.there _ (.there _ (.there _ (.there _ (.there _ (.there _ (.here _ _))))))) (.take (.there _ (.there _ (.there _ (.there _ (.there _ (.there _ (.here _ _))))))) (.take (.there _ (.there _ (.there _ (.there _ (.there _ (.there _ (.here _ _))))))) (.take (.there _ (.there _ (.there _ (.there _ (.there _ (.there _ (.here _ _))))))) (.take (.there _ (.there _ (.there _ (.there _ (.there _ (.there _ (.here _ _))))))) (.take (.there _ (.there _ (.there _ (.there _ (.there _ (.there _ (.here _ _))))))) (.takeb (.there _ (.there _ (.there _ (.there _ (.there _ (.there _ (.hereb _ _))))))) (.takeb (.there _ (.there _ (.there _ (.there _ (.there _ (.there _ (.hereb _ _))))))) (.take (.there _ (.there _ (.there _ (.there _ (.there _ (.there _ (.here _ _))))))) (.take (.there _ (.there _ (.there _ (.there _ (.there _ (.there _ (.here _ _))))))) (.take (.there _ (.there _ (.there _ (.there _ (.there _ (.there _ (.here _ _))))))) (.take (.there _ (.there _ (.there _ (.there _ (.there _ (.there _ (.here _ _))))))) (.take (.there _ (.there _ (.there _ (.there _ (.there _ (.there _ (.here _ _))))))) (.take (.there _ (.there _ (.there _ (.there _ (.there _ (.there _ (.here _ _))))))) (.take (.there _ (.there _ (.there _ (.there _ (.there _ (.there _ (.here _ _))))))) (.nil _)))))))))))))))))).cb) ?_
     refine hb1 8 (by kernel_rfl) (hb_op rfl (wt rfl rfl rfl) (nl (P := Try.prog) (fn := Try.f11)) ?_)
     obtain ⟨r236, hr236, hF⟩ := ob hF
     refine o_callS hS Try.func16 rfl rfl (hc := (w_r0_EqState (a0 := r131.1) (a1 := r205) (h0 := ⟨_, _, _, _, _, _, rfl, (OwT.plus hR0_0_140 hS (fun p hp => mB (mB (mB (mB (mB (mB (mC (mA (hp)))))))))), (OwT.plus hR0_1_144 hS (fun p hp => mB (mB (mB (mB (mB (mB (mC (mB (mA (hp))))))))))), (OwT.plus hR0_2_148 hS (fun p hp => mB (mB (mB (mB (mB (mB (mC (mB (mB (mA (hp)))))))))))), (OwT.plus hR0_4_152 hS (fun p hp => mB (mB (mB (mB (mB (mB (mC (mB (mB (mB (mA (hp))))))))))))), (OwT.plus hR0_6_156 hS (fun p hp => mB (mB (mB (mB (mB (mB (mC (mB (mB (mB (mB (mA (hp)))))))))))))), (OwT.plus hR0_8_160 hS (fun p hp => mB (mB (mB (mB (mB (mB (mC (mB (mB (mB (mB (mB (mA (hp)))))))))))))))⟩) (h1 := ⟨_, _, _, _, _, _, rfl, (OwT.plus hR0_0_214 hS (fun p hp => mA (hp))), (OwT.plus hR0_1_218 hS (fun p hp => mB (mA (hp)))), (OwT.plus hR0_2_222 hS (fun p hp => mB (mB (mA (hp))))), (OwT.plus hR0_4_226 hS (fun p hp => mB (mB (mB (mA (hp)))))), (OwT.plus hR0_6_230 hS (fun p hp => mB (mB (mB (mB (mA (hp))))))), (OwT.plus hR0_8_234 hS (fun p hp => mB (mB (mB (mB (mB (mA (hp))))))))⟩) (hF := hr236))) (h := ?_)
     clear hS; intro w hS
     refine hb_next (fun _ => (hS.re (.takeb (.there _ (.there _ (.there _ (.there _ (.there _ (.there _ (.hereb _ _))))))) (.take (.there _ (.there _ (.there _ (.there _ (.there _ (.there _ (.here _ _))))))) (.take (.there _ (.there _ (.there _ (.there _ (.there _ (.there _ (.here _ _))))))) (.take (.there _ (.there _ (.there _ (.there _ (.there _ (.there _ (.here _ _))))))) (.take (.there _ (.there _ (.there _ (.there _ (.there _ (.there _ (.here _ _))))))) (.take (.there _ (.there _ (.there _ (.there _ (.there _ (.there _ (.here _ _))))))) (.take (.there _ (.there _ (.there _ (.there _ (.there _ (.there _ (.here _ _))))))) (.takeb (.there _ (.there _ (.there _ (.there _ (.there _ (.there _ (.hereb _ _))))))) (.takeb (.there _ (.there _ (.there _ (.there _ (.there _ (.there _ (.hereb _ _))))))) (.take (.there _ (.there _ (.there _ (.there _ (.there _ (.there _ (.here _ _))))))) (.take (.there _ (.there _ (.there _ (.there _ (.there _ (.there _ (.here _ _))))))) (.take (.there _ (.there _ (.there _ (.there _ (.there _ (.there _ (.here _ _))))))) (.take (.there _ (.there _ (.there _ (.there _ (.there _ (.there _ (.here _ _))))))) (.take (.there _ (.there _ (.there _ (.there _ (.there _ (.there _ (.here _ _))))))) (.take (.there _ (.there _ (.there _ (.there _ (.there _ (.there _ (.here _ _))))))) (.take (.there _ (.there _ (.there _ (.there _ (.there _ (.there _ (.here _ _))))))) (.nil _)))))))))))))))))).cb) ?_
     refine hy0 9 rfl (wt rfl rfl rfl) (by kernel_rfl) (nq (P := Try.prog) (fn := Try.f11)) (fun _ => (hS.re (.takeb (.there _ (.there _ (.there _ (.there _ (.there _ (.there _ (.hereb _ _))))))) (.take (.there _ (.there _ (.there _ (.there _ (.there _ (.there _ (.here _ _))))))) (.take (.there _ (.there _ (.there _ (.there _ (.there _ (.there _ (.here _ _))))))) (.take (.there _ (.there _ (.there _ (.there _ (.there _ (.there _ (.here _ _))))))) (.take (.there _ (.there _ (.there _ (.there _ (.there _ (.there _ (.here _ _))))))) (.take (.there _ (.there _ (.there _ (.there _ (.there _ (.there _ (.here _ _))))))) (.take (.there _ (.there _ (.there _ (.there _ (.there _ (.there _ (.here _ _))))))) (.takeb (.there _ (.there _ (.there _ (.there _ (.there _ (.there _ (.hereb _ _))))))) (.takeb (.there _ (.there _ (.there _ (.there _ (.there _ (.there _ (.hereb _ _))))))) (.take (.there _ (.there _ (.there _ (.there _ (.there _ (.there _ (.here _ _))))))) (.take (.there _ (.there _ (.there _ (.there _ (.there _ (.there _ (.here _ _))))))) (.take (.there _ (.there _ (.there _ (.there _ (.there _ (.there _ (.here _ _))))))) (.take (.there _ (.there _ (.there _ (.there _ (.there _ (.there _ (.here _ _))))))) (.take (.there _ (.there _ (.there _ (.there _ (.there _ (.there _ (.here _ _))))))) (.take (.there _ (.there _ (.there _ (.there _ (.there _ (.there _ (.here _ _))))))) (.take (.there _ (.there _ (.there _ (.there _ (.there _ (.there _ (.here _ _))))))) (.nil _)))))))))))))))))).cb) y_not ?_
     refine hy0 10 rfl wn (by kernel_rfl) (nq (P := Try.prog) (fn := Try.f11)) (fun _ => (hS.re (.takeb (.there _ (.there _ (.there _ (.there _ (.there _ (.there _ (.hereb _ _))))))) (.take (.there _ (.there _ (.there _ (.there _ (.there _ (.there _ (.here _ _))))))) (.take (.there _ (.there _ (.there _ (.there _ (.there _ (.there _ (.here _ _))))))) (.take (.there _ (.there _ (.there _ (.there _ (.there _ (.there _ (.here _ _))))))) (.take (.there _ (.there _ (.there _ (.there _ (.there _ (.there _ (.here _ _))))))) (.take (.there _ (.there _ (.there _ (.there _ (.there _ (.there _ (.here _ _))))))) (.take (.there _ (.there _ (.there _ (.there _ (.there _ (.there _ (.here _ _))))))) (.takeb (.there _ (.there _ (.there _ (.there _ (.there _ (.there _ (.hereb _ _))))))) (.takeb (.there _ (.there _ (.there _ (.there _ (.there _ (.there _ (.hereb _ _))))))) (.take (.there _ (.there _ (.there _ (.there _ (.there _ (.there _ (.here _ _))))))) (.take (.there _ (.there _ (.there _ (.there _ (.there _ (.there _ (.here _ _))))))) (.take (.there _ (.there _ (.there _ (.there _ (.there _ (.there _ (.here _ _))))))) (.take (.there _ (.there _ (.there _ (.there _ (.there _ (.there _ (.here _ _))))))) (.take (.there _ (.there _ (.there _ (.there _ (.there _ (.there _ (.here _ _))))))) (.take (.there _ (.there _ (.there _ (.there _ (.there _ (.there _ (.here _ _))))))) (.take (.there _ (.there _ (.there _ (.there _ (.there _ (.there _ (.here _ _))))))) (.nil _)))))))))))))))))).cb) y_pickF ?_
     refine hb_done (by kernel_rfl) ?_
     refine c_if (ht := fun c237 => ?_) (hf := fun c237 => ?_)
     · replace hF := bt c237 hF
       refine c_seq ?_
       refine c_region ?_
       refine oy hS y_assign ?_
       refine n_thenN ?_
       obtain rfl := Option.some.inj hF
       obtain rfl : _ = r := hK202
       exact wp_ret (wr1 hS)
     replace hF := bf c237 hF
     refine wp_skip ?_
     obtain rfl := Option.some.inj hF
     change _ ∧ _
     exact ⟨hK202, mk_ex, (hS.re (.takeb (.there _ (.there _ (.there _ (.there _ (.there _ (.there _ (.thereb _ (.there _ (.there _ (.there _ (.there _ (.there _ (.there _ (.hereb _ _)))))))))))))) (.takeb (.there _ (.there _ (.there _ (.there _ (.there _ (.there _ (.thereb _ (.there _ (.there _ (.there _ (.there _ (.there _ (.there _ (.hereb _ _)))))))))))))) (.take (.there _ (.there _ (.there _ (.there _ (.there _ (.there _ (.thereb _ (.there _ (.there _ (.there _ (.there _ (.there _ (.there _ (.here _ _)))))))))))))) (.take (.there _ (.there _ (.there _ (.there _ (.there _ (.there _ (.thereb _ (.there _ (.there _ (.there _ (.there _ (.there _ (.there _ (.here _ _)))))))))))))) (.take (.there _ (.there _ (.there _ (.there _ (.there _ (.there _ (.thereb _ (.there _ (.there _ (.there _ (.there _ (.there _ (.there _ (.here _ _)))))))))))))) (.take (.there _ (.there _ (.there _ (.there _ (.there _ (.there _ (.thereb _ (.there _ (.there _ (.there _ (.there _ (.there _ (.there _ (.here _ _)))))))))))))) (.take (.there _ (.there _ (.there _ (.there _ (.there _ (.there _ (.thereb _ (.there _ (.there _ (.there _ (.there _ (.there _ (.there _ (.here _ _)))))))))))))) (.take (.there _ (.there _ (.there _ (.there _ (.there _ (.there _ (.thereb _ (.there _ (.there _ (.there _ (.there _ (.there _ (.there _ (.here _ _)))))))))))))) (.take (.there _ (.there _ (.there _ (.there _ (.there _ (.there _ (.thereb _ (.there _ (.there _ (.there _ (.there _ (.there _ (.there _ (.here _ _)))))))))))))) (.nil _)))))))))))⟩
   replace hF := bf c203 hF
   refine c_seq ?_
   refine c_region ?_
   refine oy hS y_move ?_
   refine o_callS hS Try.func15 rfl rfl (hc := (w_l5_num (a0 := r131.2))) (h := ?_)
   clear hS; intro w hS
   refine oy hS y_bin ?_
   refine o_split (ht := fun c238 => ?_) (hf := fun c238 => ?_)
   · replace hF := bt c238 hF
     iterate 4 (refine o_sk rfl rfl ?_)
     refine oy hS y_pickT ?_
     refine n_thenN ?_
     refine c_if_true (h := ?_)
     refine c_seq ?_
     refine c_region ?_
     refine oy hS y_assign ?_
     refine n_thenN ?_
     obtain rfl := Option.some.inj hF
     obtain rfl : _ = r := hK202
     exact wp_ret (wr1 hS)
   replace hF := bf c238 hF
   refine o_gu rfl rfl rfl ?_
   refine oy hS (y_loadW (fun w hS => hS.own (mH)) Try.underlying27 rfl (by exact sz_api_State)) ?_
   refine o_gu rfl rfl rfl ?_
   refine oy hS (y_build (cl := [(.slice none 0 0), (.slice none 0 0), (.slice none 0 0), .int .i64 0, (.slice none 0 0), .int .i64 0, (.slice none 0 0), .int .i64 0, (.slice none 0 0), .int .i64 0, .int .i64 0]) bt_api_State rfl fillN) ?_
   refine o_gu rfl rfl rfl ?_
   obtain ⟨r239, hr239, hF⟩ := ob hF
   refine o_callS hS Try.func16 rfl rfl (hc := (w_r0_EqState (a0 := r131.1) (a1 := (⟨[], [], [], 0, [], 0, [], 0, [], 0, 0⟩ : T_State)) (h0 := ⟨_, _, _, _, _, _, rfl, (OwT.plus hR0_0_140 hS (fun p hp => mC (mA (hp)))), (OwT.plus hR0_1_144 hS (fun p hp => mC (mB (mA (hp))))), (OwT.plus hR0_2_148 hS (fun p hp => mC (mB (mB (mA (hp)))))), (OwT.plus hR0_4_152 hS (fun p hp => mC (mB (mB (mB (mA (hp))))))), (OwT.plus hR0_6_156 hS (fun p hp => mC (mB (mB (mB (mB (mA (hp)))))))), (OwT.plus hR0_8_160 hS (fun p hp => mC (mB (mB (mB (mB (mB (mA (hp)))))))))⟩) (h1 := ⟨_, _, _, _, _, _, rfl, (SlR.nil _ _), (SlR.nil _ _), (SlR.nil _ _), (SlR.nil _ _), (SlR.nil _ _), (SlR.nil _ _)⟩) (hF := hr239))) (h := ?_)
   clear hS; intro w hS
   refine o_gu rfl rfl rfl ?_
   refine oy hS y_not ?_
   refine oy hS y_pickF ?_
   refine n_thenN ?_
   refine c_if (ht := fun c240 => ?_) (hf := fun c240 => ?_)
   · replace hF := bt c240 hF
     refine c_seq ?_
     refine c_region ?_
     refine oy hS y_assign ?_
     refine n_thenN ?_
     obtain rfl := Option.some.inj hF
     obtain rfl : _ = r := hK202
     exact wp_ret (wr1 hS)
   replace hF := bf c240 hF
   refine wp_skip ?_
   obtain rfl := Option.some.inj hF
   change _ ∧ _
   exact ⟨hK202, mk_ex, (hS.re (.takeb (.thereb _ (.there _ (.there _ (.there _ (.there _ (.there _ (.there _ (.hereb _ _)))))))) (.takeb (.thereb _ (.there _ (.there _ (.there _ (.there _ (.there _ (.there _ (.hereb _ _)))))))) (.take (.thereb _ (.there _ (.there _ (.there _ (.there _ (.there _ (.there _ (.here _ _)))))))) (.take (.thereb _ (.there _ (.there _ (.there _ (.there _ (.there _ (.there _ (.here _ _)))))))) (.take (.thereb _ (.there _ (.there _ (.there _ (.there _ (.there _ (.there _ (.here _ _)))))))) (.take (.thereb _ (.there _ (.there _ (.there _ (.there _ (.there _ (.there _ (.here _ _)))))))) (.take (.thereb _ (.there _ (.there _ (.there _ (.there _ (.there _ (.there _ (.here _ _)))))))) (.take (.thereb _ (.there _ (.there _ (.there _ (.there _ (.there _ (.there _ (.here _ _)))))))) (.take (.thereb _ (.there _ (.there _ (.there _ (.there _ (.there _ (.there _ (.here _ _)))))))) (.nil _)))))))))))⟩
 rintro a w ⟨hF, ⟨s241, rfl⟩, hS⟩
 dsimp only [l5_SeqSteps_k2] at hF
 refine c_seq ?_
 refine c_region ?_
 refine o_buildT val_int ([0, 1, 2, 30, (-1), 20001] : List Int) hS el_int (fun _ => rfl) enc_len_int (by decide) rfl (by decide) (hp := rfl) (h := ?_)
 clear hS; intro b242 w hS h243
 have hS : St W g [] ([(b242, blk (([0, 1, 2, 30, (-1), 20001] : List Int).flatMap enc_int) 3)] ++ ((b1, blk [v0_0_, v0_1_, v0_2_, v0_3_, .int .i64 a0.S.Taken, v0_5_, .int .i64 a0.S.PC, v0_7_, .int .i64 a0.S.Stop, v0_9_, .int .i64 a0.S.Jump, .int .i64 a0.S.Delay, v0_12_, v0_13_] 29) :: ((b44, blk [v51, v56, v61, .int .i64 x65, v67, .int .i64 x71, v73, .int .i64 x77, v79, .int .i64 x83, .int .i64 x84] 27) :: (LX53 ++ (LX58 ++ (LX63 ++ (LX69 ++ (LX75 ++ (LX81 ++ (LX48 ++ [])))))))))) w := hS
 refine oy hS (y_field fa_sledgelaw5_Script_3) ?_
 refine oy hS (y_load (fun w hS => hS.own (mB (mH))) Try.underlying24 rfl rfl) ?_
 obtain ⟨zs249, hzs249, hF⟩ := ob hF
 refine o_appPs (LX := [(b242, blk (([0, 1, 2, 30, (-1), 20001] : List Int).flatMap enc_int) 3)]) hzs249 hS el_int h243 h0_13_.plus (enc_ones_int _) (by decide) ?_
 clear hS; intro v245 LX246 w h247 hS
 refine oy hS y_assign ?_
 refine n_thenN ?_
 obtain ⟨z810, hF, hK811⟩ := cut_step hF
 refine c_cutP (fun a w' => l5_SeqSteps_k3 a0 x45 x50 x55 x60 x65 x66 x71 x72 x77 x78 x83 x84 () = some r ∧ (∃ s : Nat → Value, a = Ac (.lit 197 [s 0, .pointer (some ⟨b1, 0, none⟩), s 2, .pointer (some ⟨b44, 0, none⟩), v46, s 5, s 6, s 7, s 8, s 9, s 10, s 11, s 12, s 13, s 14, s 15, s 16, s 17, s 18, s 19, s 20, s 21, s 22, s 23, s 24, s 25, s 26, s 27, s 28, s 29, s 30, s 31, s 32, s 33, s 34, s 35, s 36, s 37, s 38, s 39, s 40, s 41, s 42, s 43, s 44, s 45, s 46, s 47, s 48, s 49, s 50, s 51, s 52, s 53, s 54, s 55, s 56, s 57, s 58, s 59, s 60, s 61, s 62, s 63, s 64, s 65, s 66, s 67, s 68, s 69, s 70, s 71, s 72, s 73, s 74, s 75, s 76, s 77, s 78, s 79, s 80, s 81, s 82, s 83, s 84, s 85, s 86, s 87, s 88, s 89, s 90, s 91, s 92, s 93, s 94, s 95, s 96, s 97, s 98, s 99, s 100, s 101, s 102, s 103, s 104, s 105, s 106, s 107, s 108, s 109, s 110, s 111, s 112, s 113, s 114, s 115, s 116, s 117, s 118, s 119, s 120, s 121, s 122, s 123, s 124, s 125, s 126, s 127, s 128, s 129, s 130, s 131, s 132, s 133, s 134, s 135, s 136, s 137, s 138, s 139, s 140, s 141, s 142, s 143, s 144, s 145, s 146, s 147, s 148, s 149, s 150, s 151, s 152, s 153, s 154, s 155, s 156, s 157, s 158, s 159, s 160, s 161, s 162, s 163, s 164, s 165, s 166, s 167, s 168, s 169, s 170, s 171, s 172, s 173, s 174, s 175, s 176, s 177, s 178, s 179, s 180, s 181, s 182, s 183, s 184, s 185, s 186, s 187, s 188, s 189, s 190, s 191, s 192, s 193, s 194, s 195, s 196])) ∧ St W g [] ((b1, blk [v0_0_, v0_1_, v0_2_, v0_3_, .int .i64 a0.S.Taken, v0_5_, .int .i64 a0.S.PC, v0_7_, .int .i64 a0.S.Stop, v0_9_, .int .i64 a0.S.Jump, .int .i64 a0.S.Delay, v0_12_, v0_13_] 29) :: ((b44, blk [v51, v56, v61, .int .i64 x65, v67, .int .i64 x71, v73, .int .i64 x77, v79, .int .i64 x83, .int .i64 x84] 27) :: (LX53 ++ (LX58 ++ (LX63 ++ (LX69 ++ (LX75 ++ (LX81 ++ (LX48 ++ []))))))))) w') ?_ ?_
 · skip
   refine c_seq ?_
   refine c_region ?_
   refine oy hS y_assign ?_
   refine n_thenN ?_
   refine c_block ?_
   refine c_loopP hF (fun (q : Int) a w' => (∃ s : Nat → Value, a = Ac (.lit 197 [s 0, .pointer (some ⟨b1, 0, none⟩), s 2, .pointer (some ⟨b44, 0, none⟩), v46, s 5, s 6, v245, .int .i64 q, s 9, s 10, s 11, s 12, s 13, s 14, s 15, s 16, s 17, s 18, s 19, s 20, s 21, s 22, s 23, s 24, s 25, s 26, s 27, s 28, s 29, s 30, s 31, s 32, s 33, s 34, s 35, s 36, s 37, s 38, s 39, s 40, s 41, s 42, s 43, s 44, s 45, s 46, s 47, s 48, s 49, s 50, s 51, s 52, s 53, s 54, s 55, s 56, s 57, s 58, s 59, s 60, s 61, s 62, s 63, s 64, s 65, s 66, s 67, s 68, s 69, s 70, s 71, s 72, s 73, s 74, s 75, s 76, s 77, s 78, s 79, s 80, s 81, s 82, s 83, s 84, s 85, s 86, s 87, s 88, s 89, s 90, s 91, s 92, s 93, s 94, s 95, s 96, s 97, s 98, s 99, s 100, s 101, s 102, s 103, s 104, s 105, s 106, s 107, s 108, s 109, s 110, s 111, s 112, s 113, s 114, s 115, s 116, s 117, s 118, s 119, s 120, s 121, s 122, s 123, s 124, s 125, s 126, s 127, s 128, s 129, s 130, s 131, s 132, s 133, s 134, s 135, s 136, s 137, s 138, s 139, s 140, s 141, s 142, s 143, s 144, s 145, s 146, s 147, s 148, s 149, s 150, s 151, s 152, s 153, s 154, s 155, s 156, s 157, s 158, s 159, s 160, s 161, s 162, s 163, s 164, s 165, s 166, s 167, s 168, s 169, s 170, s 171, s 172, s 173, s 174, s 175, s 176, s 177, s 178, s 179, s 180, s 181, s 182, s 183, s 184, s 185, s 186, s 187, s 188, s 189, s 190, s 191, s 192, s 193, s 194, s 195, s 196])) ∧ St W g [] ((b1, blk [v0_0_, v0_1_, v0_2_, v0_3_, .int .i64 a0.S.Taken, v0_5_, .int .i64 a0.S.PC, v0_7_, .int .i64 a0.S.Stop, v0_9_, .int .i64 a0.S.Jump, .int .i64 a0.S.Delay, v0_12_, v0_13_] 29) :: ((b44, blk [v51, v56, v61, .int .i64 x65, v67, .int .i64 x71, v73, .int .i64 x77, v79, .int .i64 x83, .int .i64 x84] 27) :: (LX53 ++ (LX58 ++ (LX63 ++ (LX69 ++ (LX75 ++ (LX81 ++ (LX48 ++ (LX246 ++ [])))))))))) w') ⟨mk_ex, (hS.re (.takeb (.there _ (.hereb _ _)) (.takeb (.there _ (.hereb _ _)) (.take (.there _ (.here _ _)) (.take (.there _ (.here _ _)) (.take (.there _ (.here _ _)) (.take (.there _ (.here _ _)) (.take (.there _ (.here _ _)) (.take (.there _ (.here _ _)) (.take (.there _ (.here _ _)) (.take (.here _ _) (.nil _))))))))))))⟩ ?_
   clear hS hF
   intro n1185 q a w hI hq
   revert hq hI; revert q; intro x997 hI hq
   obtain ⟨⟨s1186, rfl⟩, hS⟩ := hq
   obtain ⟨z1183, hF, hK1184⟩ := iter_step hI
   clear hI
   dsimp only [l5_SeqSteps_b4] at hF
   obtain ⟨z1189, hF, hK1190⟩ := cut_step hF
   refine c_cutP (fun a w' => l5_SeqSteps_k5 zs249 x997 x45 x50 x55 x60 x65 x66 x71 x72 x77 x78 x83 x84 a0 () = some z1183 ∧ (∃ s : Nat → Value, a = Ac (.lit 197 [s 0, .pointer (some ⟨b1, 0, none⟩), s 2, .pointer (some ⟨b44, 0, none⟩), v46, s 5, s 6, v245, .int .i64 x997, s 9, s 10, s 11, s 12, s 13, s 14, s 15, s 16, s 17, s 18, s 19, s 20, s 21, s 22, s 23, s 24, s 25, s 26, s 27, s 28, s 29, s 30, s 31, s 32, s 33, s 34, s 35, s 36, s 37, s 38, s 39, s 40, s 41, s 42, s 43, s 44, s 45, s 46, s 47, s 48, s 49, s 50, s 51, s 52, s 53, s 54, s 55, s 56, s 57, s 58, s 59, s 60, s 61, s 62, s 63, s 64, s 65, s 66, s 67, s 68, s 69, s 70, s 71, s 72, s 73, s 74, s 75, s 76, s 77, s 78, s 79, s 80, s 81, s 82, s 83, s 84, s 85, s 86, s 87, s 88, s 89, s 90, s 91, s 92, s 93, s 94, s 95, s 96, s 97, s 98, s 99, s 100, s 101, s 102, s 103, s 104, s 105, s 106, s 107, s 108, s 109, s 110, s 111, s 112, s 113, s 114, s 115, s 116, s 117, s 118, s 119, s 120, s 121, s 122, s 123, s 124, s 125, s 126, s 127, s 128, s 129, s 130, s 131, s 132, s 133, s 134, s 135, s 136, s 137, s 138, s 139, s 140, s 141, s 142, s 143, s 144, s 145, s 146, s 147, s 148, s 149, s 150, s 151, s 152, s 153, s 154, s 155, s 156, s 157, s 158, s 159, s 160, s 161, s 162, s 163, s 164, s 165, s 166, s 167, s 168, s 169, s 170, s 171, s 172, s 173, s 174, s 175, s 176, s 177, s 178, s 179, s 180, s 181, s 182, s 183, s 184, s 185, s 186, s 187, s 188, s 189, s 190, s 191, s 192, s 193, s 194, s 195, s 196])) ∧ St W g [] ((b1, blk [v0_0_, v0_1_, v0_2_, v0_3_, .int .i64 a0.S.Taken, v0_5_, .int .i64 a0.S.PC, v0_7_, .int .i64 a0.S.Stop, v0_9_, .int .i64 a0.S.Jump, .int .i64 a0.S.Delay, v0_12_, v0_13_] 29) :: ((b44, blk [v51, v56, v61, .int .i64 x65, v67, .int .i64 x71, v73, .int .i64 x77, v79, .int .i64 x83, .int .i64 x84] 27) :: (LX53 ++ (LX58 ++ (LX63 ++ (LX69 ++ (LX75 ++ (LX81 ++ (LX48 ++ (LX246 ++ [])))))))))) w') ?_ ?_
   · skip
     refine c_seq ?_
     refine c_region ?_
     iterate 2 (refine oy hS y_move ?_)
     refine oy hS (y_lenO h247 Try.underlying24) ?_
     refine oy hS y_bin ?_
     refine o_split (ht := fun c1191 => ?_) (hf := fun c1191 => ?_)
     · replace hF := bt c1191 hF
       refine o_gu rfl rfl rfl ?_
       refine oy hS y_move ?_
       refine o_gu rfl rfl rfl ?_
       refine oy hS y_bin ?_
       refine oy hS y_pickT ?_
       refine n_thenN ?_
       refine c_if (ht := fun c1192 => ?_) (hf := fun c1192 => ?_)
       · replace hF := bt c1192 hF
         refine wp_skip ?_
         obtain rfl := Option.some.inj hF
         change _ ∧ _
         exact ⟨hK1190, mk_ex, (hS.re (.takeb (.hereb _ _) (.takeb (.hereb _ _) (.take (.here _ _) (.take (.here _ _) (.take (.here _ _) (.take (.here _ _) (.take (.here _ _) (.take (.here _ _) (.take (.here _ _) (.take (.here _ _) (.nil _))))))))))))⟩
       replace hF := bf c1192 hF
       refine wp_exit ?_
       obtain rfl := Option.some.inj hF
       obtain rfl : _ = z1183 := hK1190
       obtain rfl : _ = z810 := hK1184
       change _ ∧ _
       exact ⟨hK811, mk_ex, (hS.re (.takeb (.hereb _ _) (.takeb (.hereb _ _) (.take (.here _ _) (.take (.here _ _) (.take (.here _ _) (.take (.here _ _) (.take (.here _ _) (.take (.here _ _) (.take (.here _ _) (.nil _)))))))))))⟩
     replace hF := bf c1191 hF
     iterate 2 (refine o_sk rfl rfl ?_)
     refine oy hS y_pickF ?_
     refine n_thenN ?_
     refine c_if_false (h := ?_)
     refine wp_exit ?_
     obtain rfl := Option.some.inj hF
     obtain rfl : _ = z1183 := hK1190
     obtain rfl : _ = z810 := hK1184
     change _ ∧ _
     exact ⟨hK811, mk_ex, (hS.re (.takeb (.hereb _ _) (.takeb (.hereb _ _) (.take (.here _ _) (.take (.here _ _) (.take (.here _ _) (.take (.here _ _) (.take (.here _ _) (.take (.here _ _) (.take (.here _ _) (.nil _)))))))))))⟩
   rintro a w ⟨hF, ⟨s1193, rfl⟩, hS⟩
   dsimp only [l5_SeqSteps_k5] at hF
   refine c_seq ?_
   refine c_block ?_
   refine c_seq ?_
   refine c_region ?_
   iterate 2 (refine oy hS y_move ?_)
   obtain ⟨x1194, hx1194, hF⟩ := ob hF
   obtain ⟨b1195, c1196, cl1197, hv1198, ha1199, hb1200, hl1201, hc1202⟩ := OwT.at hx1194 h247 enc_len_int
   refine oy hS (y_index hv1198 ha1199 hb1200 Try.underlying24 el_int.size) ?_
   refine oy hS (y_load (fun w hS => hS.own (mC (mC (mB (mB (mB (mB (mB (mB (mB (mA (mX hl1201)))))))))))) Try.underlying3 rfl (hc1202 0 _ rfl)) ?_
   refine oy hS y_assign ?_
   refine n_thenN ?_
   obtain ⟨z1206, hF, hK1207⟩ := cut_step hF
   refine c_cutP (fun a w' => ∃ (x1205 : Int), l5_SeqSteps_k6 x45 x50 x55 x60 x65 x66 x71 x72 x77 x78 x83 x84 a0 x997 x1205 = some z1183 ∧ (∃ s : Nat → Value, a = Ac (.lit 197 [s 0, .pointer (some ⟨b1, 0, none⟩), s 2, .pointer (some ⟨b44, 0, none⟩), v46, s 5, s 6, v245, .int .i64 x997, .int .i64 x1205, s 10, s 11, s 12, s 13, s 14, s 15, s 16, s 17, s 18, s 19, s 20, s 21, s 22, s 23, s 24, s 25, s 26, s 27, s 28, s 29, s 30, s 31, s 32, s 33, s 34, s 35, s 36, s 37, s 38, s 39, s 40, s 41, s 42, s 43, s 44, s 45, s 46, s 47, s 48, s 49, s 50, s 51, s 52, s 53, s 54, s 55, s 56, s 57, s 58, s 59, s 60, s 61, s 62, s 63, s 64, s 65, s 66, s 67, s 68, s 69, s 70, s 71, s 72, s 73, s 74, s 75, s 76, s 77, s 78, s 79, s 80, s 81, s 82, s 83, s 84, s 85, s 86, s 87, s 88, s 89, s 90, s 91, s 92, s 93, s 94, s 95, s 96, s 97, s 98, s 99, s 100, s 101, s 102, s 103, s 104, s 105, s 106, s 107, s 108, s 109, s 110, s 111, s 112, s 113, s 114, s 115, s 116, s 117, s 118, s 119, s 120, s 121, s 122, s 123, s 124, s 125, s 126, s 127, s 128, s 129, s 130, s 131, s 132, s 133, s 134, s 135, s 136, s 137, s 138, s 139, s 140, s 141, s 142, s 143, s 144, s 145, s 146, s 147, s 148, s 149, s 150, s 151, s 152, s 153, s 154, s 155, s 156, s 157, s 158, s 159, s 160, s 161, s 162, s 163, s 164, s 165, s 166, s 167, s 168, s 169, s 170, s 171, s 172, s 173, s 174, s 175, s 176, s 177, s 178, s 179, s 180, s 181, s 182, s 183, s 184, s 185, s 186, s 187, s 188, s 189, s 190, s 191, s 192, s 193, s 194, s 195, s 196])) ∧ St W g [] ((b1, blk [v0_0_, v0_1_, v0_2_, v0_3_, .int .i64 a0.S.Taken, v0_5_, .int .i64 a0.S.PC, v0_7_, .int .i64 a0.S.Stop, v0_9_, .int .i64 a0.S.Jump, .int .i64 a0.S.Delay, v0_12_, v0_13_] 29) :: ((b44, blk [v51, v56, v61, .int .i64 x65, v67, .int .i64 x71, v73, .int .i64 x77, v79, .int .i64 x83, .int .i64 x84] 27) :: (LX53 ++ (LX58 ++ (LX63 ++ (LX69 ++ (LX75 ++ (LX81 ++ (LX48 ++ (LX246 ++ [])))))))))) w') ?_ ?_
   · skip
     refine c_seq ?_
     refine c_region ?_
     refine oy hS y_move ?_
     refine oy hS y_bin ?_
     refine o_split (ht := fun c1208 => ?_) (hf := fun c1208 => ?_)
     · replace hF := bt c1208 hF
       refine o_gu rfl rfl rfl ?_
       refine oy hS y_move ?_
       refine o_gu rfl rfl rfl ?_
       refine oy hS y_bin ?_
       refine oy hS y_pickT ?_
       refine n_thenN ?_
       refine c_if (ht := fun c1209 => ?_) (hf := fun c1209 => ?_)
       · replace hF := bt c1209 hF
         refine c_region ?_
         refine oy hS y_assign ?_
         refine n_thenN ?_
         obtain rfl := Option.some.inj hF
         change ∃ _, _
         exact ⟨200, hK1207, mk_ex, (hS.re (.takeb (.hereb _ _) (.takeb (.hereb _ _) (.take (.here _ _) (.take (.here _ _) (.take (.here _ _) (.take (.here _ _) (.take (.here _ _) (.take (.here _ _) (.take (.here _ _) (.take (.here _ _) (.nil _))))))))))))⟩
       replace hF := bf c1209 hF
       refine wp_skip ?_
       obtain rfl := Option.some.inj hF
       change ∃ _, _
       exact ⟨x1194, hK1207, mk_ex, (hS.re (.takeb (.hereb _ _) (.takeb (.hereb _ _) (.take (.here _ _) (.take (.here _ _) (.take (.here _ _) (.take (.here _ _) (.take (.here _ _) (.take (.here _ _) (.take (.here _ _) (.take (.here _ _) (.nil _))))))))))))⟩
     replace hF := bf c1208 hF
     iterate 2 (refine o_sk rfl rfl ?_)
     refine oy hS y_pickF ?_
     refine n_thenN ?_
     refine c_if_false (h := ?_)
     refine wp_skip ?_
     obtain rfl := Option.some.inj hF
     change ∃ _, _
     exact ⟨x1194, hK1207, mk_ex, (hS.re (.takeb (.hereb _ _) (.takeb (.hereb _ _) (.take (.here _ _) (.take (.here _ _) (.take (.here _ _) (.take (.here _ _) (.take (.here _ _) (.take (.here _ _) (.take (.here _ _) (.take (.here _ _) (.nil _))))))))))))⟩
   rintro a w ⟨x1205, hF, ⟨s1210, rfl⟩, hS⟩
   dsimp only [l5_SeqSteps_k6] at hF
   refine c_seq ?_
   refine c_region ?_
   refine oy hS y_move ?_
   refine oy hS (y_loadW (fun w hS => hS.own (mC (mH))) Try.underlying27 rfl (by exact sz_api_State)) ?_
   refine oy hS y_move ?_
   obtain ⟨r1211, hr1211, hF⟩ := ob hF
   refine o_call (L1 := []) (L2 := ((b1, blk [v0_0_, v0_1_, v0_2_, v0_3_, .int .i64 a0.S.Taken, v0_5_, .int .i64 a0.S.PC, v0_7_, .int .i64 a0.S.Stop, v0_9_, .int .i64 a0.S.Jump, .int .i64 a0.S.Delay, v0_12_, v0_13_] 29) :: ((b44, blk [v51, v56, v61, .int .i64 x65, v67, .int .i64 x71, v73, .int .i64 x77, v79, .int .i64 x83, .int .i64 x84] 27) :: (LX53 ++ (LX58 ++ (LX63 ++ (LX69 ++ (LX75 ++ (LX81 ++ (LX48 ++ (LX246 ++ []))))))))))) hS Try.func14 rfl rfl (hc := (w_seq_Run (a0 := x45) (a1 := (⟨x50, x55, x60, x65, x66, x71, x72, x77, x78, x83, x84⟩ : T_State)) (a2 := x1205) (h0 := (OwT.plus h47 hS (fun p hp => mC (mC (mB (mB (mB (mB (mB (mB (mA (hp)))))))))))) (h1 := ⟨_, _, _, _, _, _, rfl, (OwT.plus h52 hS (fun p hp => mC (mC (mA (hp))))), (OwT.plus h57 hS (fun p hp => mC (mC (mB (mA (hp)))))), (OwT.plus h62 hS (fun p hp => mC (mC (mB (mB (mA (hp))))))), (OwT.plus h68 hS (fun p hp => mC (mC (mB (mB (mB (mA (hp)))))))), (OwT.plus h74 hS (fun p hp => mC (mC (mB (mB (mB (mB (mA (hp))))))))), (OwT.plus h80 hS (fun p hp => mC (mC (mB (mB (mB (mB (mB (mA (hp))))))))))⟩) (hF := hr1211))) (h := ?_)
   clear hS; intro v1212 LY1213 w hS hr1214
   obtain ⟨v_0_1215, LX_0_1216, rfl, rfl, h_0_1217⟩ := hr1214
   obtain ⟨vR0_0_1218, vR0_1_1222, vR0_2_1226, vR0_4_1230, vR0_6_1234, vR0_8_1238, LXR0_0_1219, LXR0_1_1223, LXR0_2_1227, LXR0_4_1231, LXR0_6_1235, LXR0_8_1239, rfl, rfl, hR0_0_1220, hR0_1_1224, hR0_2_1228, hR0_4_1232, hR0_6_1236, hR0_8_1240⟩ := h_0_1217
   simp only [List.append_assoc, List.cons_append, List.nil_append] at hS
   refine oy hS y_move ?_
   iterate 3 (refine oy hS (y_extract rfl) ?_)
   refine o_allocP (cl := [(.slice none 0 0), (.slice none 0 0), (.slice none 0 0), .int .i64 0, (.slice none 0 0), .int .i64 0, (.slice none 0 0), .int .i64 0, (.slice none 0 0), .int .i64 0, .int .i64 0]) zr_api_State rfl hS ?_
   clear hS; intro b1242 w hS
   refine o_storeP (vs := [vR0_0_1218, vR0_1_1222, vR0_2_1226, .int .i64 r1211.1.Taken, vR0_4_1230, .int .i64 r1211.1.PC, vR0_6_1234, .int .i64 r1211.1.Stop, vR0_8_1238, .int .i64 r1211.1.Jump, .int .i64 r1211.1.Delay]) hS (hm := Upd.here _) (hi := by exact sz_api_State) (h1 := (onC (hR0_0_1220).one (onC (hR0_1_1224).one (onC (hR0_2_1228).one (onC rfl (onC (hR0_4_1232).one (onC rfl (onC (hR0_6_1236).one (onC rfl (onC (hR0_8_1240).one (onC rfl (onC rfl onN)))))))))))) ?_
   clear hS; intro w hS
   iterate 2 (refine oy hS y_assign ?_)
   refine n_thenN ?_
   refine c_seq ?_
   refine c_region ?_
   iterate 2 (refine oy hS y_assign ?_)
   refine n_thenN ?_
   refine c_seq ?_
   refine c_region ?_
   refine o_allocP (cl := [(.slice none 0 0), (.slice none 0 0), (.slice none 0 0), .int .i64 0, (.slice none 0 0), .int .i64 0, (.slice none 0 0), .int .i64 0, (.slice none 0 0), .int .i64 0, .int .i64 0]) zr_api_State rfl hS ?_
   clear hS; intro b1243 w hS
   refine n_thenN ?_
   obtain ⟨z1315, hF, hK1316⟩ := cut_step hF
   refine c_cutP (fun a w' => ∃ (x1278 : Int) (x1279 : Int) (x1280 : (List Int)) (x1285 : (List Int)) (x1290 : (List Int)) (x1295 : Int) (x1296 : (List Int)) (x1301 : Int) (x1302 : (List Int)) (x1307 : Int) (x1308 : (List T_Write)) (x1313 : Int) (x1314 : Int) (v1281 : Value) (v1286 : Value) (v1291 : Value) (v1297 : Value) (v1303 : Value) (v1309 : Value) (LX1283 : Own) (LX1288 : Own) (LX1293 : Own) (LX1299 : Own) (LX1305 : Own) (LX1311 : Own), l5_SeqSteps_k7 r1211 x50 x55 x60 x65 x66 x71 x72 x77 x78 x83 x84 a0 x45 x997 (x1278, x1279, x1280, x1285, x1290, x1295, x1296, x1301, x1302, x1307, x1308, x1313, x1314) = some z1183 ∧ OwT 63 enc_uint32 1 x1280 v1281 LX1283 ∧ OwT 63 enc_uint32 1 x1285 v1286 LX1288 ∧ OwT 63 enc_uint32 1 x1290 v1291 LX1293 ∧ OwT 63 enc_uint32 1 x1296 v1297 LX1299 ∧ OwT 3 enc_int 1 x1302 v1303 LX1305 ∧ OwT 71 enc_Write 3 x1308 v1309 LX1311 ∧ (∃ s : Nat → Value, a = Ac (.lit 197 [s 0, .pointer (some ⟨b1, 0, none⟩), s 2, .pointer (some ⟨b44, 0, none⟩), v46, s 5, s 6, v245, .int .i64 x997, s 9, .pointer (some ⟨b1242, 0, none⟩), .int .i64 r1211.2.1, .int .i64 r1211.2.2, .int .i64 x1278, .int .i64 x1279, .pointer (some ⟨b1243, 0, none⟩), s 16, s 17, s 18, s 19, s 20, s 21, s 22, s 23, s 24, s 25, s 26, s 27, s 28, s 29, s 30, s 31, s 32, s 33, s 34, s 35, s 36, s 37, s 38, s 39, s 40, s 41, s 42, s 43, s 44, s 45, s 46, s 47, s 48, s 49, s 50, s 51, s 52, s 53, s 54, s 55, s 56, s 57, s 58, s 59, s 60, s 61, s 62, s 63, s 64, s 65, s 66, s 67, s 68, s 69, s 70, s 71, s 72, s 73, s 74, s 75, s 76, s 77, s 78, s 79, s 80, s 81, s 82, s 83, s 84, s 85, s 86, s 87, s 88, s 89, s 90, s 91, s 92, s 93, s 94, s 95, s 96, s 97, s 98, s 99, s 100, s 101, s 102, s 103, s 104, s 105, s 106, s 107, s 108, s 109, s 110, s 111, s 112, s 113, s 114, s 115, s 116, s 117, s 118, s 119, s 120, s 121, s 122, s 123, s 124, s 125, s 126, s 127, s 128, s 129, s 130, s 131, s 132, s 133, s 134, s 135, s 136, s 137, s 138, s 139, s 140, s 141, s 142, s 143, s 144, s 145, s 146, s 147, s 148, s 149, s 150, s 151, s 152, s 153, s 154, s 155, s 156, s 157, s 158, s 159, s 160, s 161, s 162, s 163, s 164, s 165, s 166, s 167, s 168, s 169, s 170, s 171, s 172, s 173, s 174, s 175, s 176, s 177, s 178, s 179, s 180, s 181, s 182, s 183, s 184, s 185, s 186, s 187, s 188, s 189, s 190, s 191, s 192, s 193, s 194, s 195, s 196])) ∧ St W g [] ((b1, blk [v0_0_, v0_1_, v0_2_, v0_3_, .int .i64 a0.S.Taken, v0_5_, .int .i64 a0.S.PC, v0_7_, .int .i64 a0.S.Stop, v0_9_, .int .i64 a0.S.Jump, .int .i64 a0.S.Delay, v0_12_, v0_13_] 29) :: ((b44, blk [v51, v56, v61, .int .i64 x65, v67, .int .i64 x71, v73, .int .i64 x77, v79, .int .i64 x83, .int .i64 x84] 27) :: ((b1242, blk [vR0_0_1218, vR0_1_1222, vR0_2_1226, .int .i64 r1211.1.Taken, vR0_4_1230, .int .i64 r1211.1.PC, vR0_6_1234, .int .i64 r1211.1.Stop, vR0_8_1238, .int .i64 r1211.1.Jump, .int .i64 r1211.1.Delay] 27) :: ((b1243, blk [v1281, v1286, v1291, .int .i64 x1295, v1297, .int .i64 x1301, v1303, .int .i64 x1307, v1309, .int .i64 x1313, .int .i64 x1314] 27) :: (LX53 ++ (LX58 ++ (LX63 ++ (LX69 ++ (LX75 ++ (LX81 ++ (LXR0_0_1219 ++ (LXR0_1_1223 ++ (LXR0_2_1227 ++ (LXR0_4_1231 ++ (LXR0_6_1235 ++ (LXR0_8_1239 ++ (LX1283 ++ (LX1288 ++ (LX1293 ++ (LX1299 ++ (LX1305 ++ (LX1311 ++ (LX48 ++ (LX246 ++ [])))))))))))))))))))))))) w') ?_ ?_
   · skip
     refine c_seq ?_
     refine c_region ?_
     refine oy hS (y_loadW (fun w hS => hS.own (mC (mC (mB (mB (mB (mB (mB (mB (mH)))))))))) Try.underlying29 rfl (by exact sz_sledgelaw5_Script)) ?_
     obtain ⟨r1317, hr1317, hF⟩ := ob hF
     refine o_callS hS Try.func13 rfl rfl (hc := (w_l5_May (a0 := a0) (h0 := ⟨_, _, _, _, _, _, _, _, _, rfl, h0_0_.plus, h0_1_.plus, h0_2_.plus, h0_3_.plus, h0_5_.plus, h0_7_.plus, h0_9_.plus, h0_12_.plus, h0_13_.plus⟩) (hF := hr1317))) (h := ?_)
     clear hS; intro w hS
     refine o_split (ht := fun c1318 => ?_) (hf := fun c1318 => ?_)
     · replace hF := bt c1318 hF
       refine o_gu rfl rfl rfl ?_
       refine oy hS y_move ?_
       refine o_gu rfl rfl rfl ?_
       refine o_callS hS Try.func29 rfl rfl (hc := (w_r0_Num (a0 := x1205) (a1 := 20000))) (h := ?_)
       clear hS; intro w hS
       refine oy hS y_pickT ?_
       refine n_thenN ?_
       refine c_if (ht := fun c1319 => ?_) (hf := fun c1319 => ?_)
       · replace hF := bt c1319 hF
         refine c_seq ?_
         refine c_region ?_
         refine oy hS y_assign ?_
         refine n_thenN ?_
         refine c_region ?_
         refine oy hS (y_field fa_sledgelaw5_Script_0) ?_
         refine oy hS (y_load (fun w hS => hS.own (mC (mC (mB (mB (mB (mB (mB (mB (mH)))))))))) Try.underlying22 rfl rfl) ?_
         refine oy hS (y_field fa_sledgelaw5_Script_1) ?_
         refine oy hS (y_loadN (vs := [v0_1_, v0_2_, v0_3_, .int .i64 a0.S.Taken, v0_5_, .int .i64 a0.S.PC, v0_7_, .int .i64 a0.S.Stop, v0_9_, .int .i64 a0.S.Jump, .int .i64 a0.S.Delay]) (fun w hS => hS.own (mC (mC (mB (mB (mB (mB (mB (mB (mH)))))))))) Try.underlying27 rfl (by exact sz_api_State) (subc (pre := [v0_0_]) (vs := [v0_1_, v0_2_, v0_3_, .int .i64 a0.S.Taken, v0_5_, .int .i64 a0.S.PC, v0_7_, .int .i64 a0.S.Stop, v0_9_, .int .i64 a0.S.Jump, .int .i64 a0.S.Delay]) (post := [v0_12_, v0_13_]) rfl rfl)) ?_
         refine oy hS y_move ?_
         obtain ⟨r1320, hr1320, hF⟩ := ob hF
         refine o_call (L1 := []) (L2 := ((b1243, blk [(.slice none 0 0), (.slice none 0 0), (.slice none 0 0), .int .i64 0, (.slice none 0 0), .int .i64 0, (.slice none 0 0), .int .i64 0, (.slice none 0 0), .int .i64 0, .int .i64 0] 27) :: ((b1242, blk [vR0_0_1218, vR0_1_1222, vR0_2_1226, .int .i64 r1211.1.Taken, vR0_4_1230, .int .i64 r1211.1.PC, vR0_6_1234, .int .i64 r1211.1.Stop, vR0_8_1238, .int .i64 r1211.1.Jump, .int .i64 r1211.1.Delay] 27) :: (LXR0_0_1219 ++ (LXR0_1_1223 ++ (LXR0_2_1227 ++ (LXR0_4_1231 ++ (LXR0_6_1235 ++ (LXR0_8_1239 ++ ((b1, blk [v0_0_, v0_1_, v0_2_, v0_3_, .int .i64 a0.S.Taken, v0_5_, .int .i64 a0.S.PC, v0_7_, .int .i64 a0.S.Stop, v0_9_, .int .i64 a0.S.Jump, .int .i64 a0.S.Delay, v0_12_, v0_13_] 29) :: ((b44, blk [v51, v56, v61, .int .i64 x65, v67, .int .i64 x71, v73, .int .i64 x77, v79, .int .i64 x83, .int .i64 x84] 27) :: (LX53 ++ (LX58 ++ (LX63 ++ (LX69 ++ (LX75 ++ (LX81 ++ (LX48 ++ (LX246 ++ []))))))))))))))))))) hS Try.func30 rfl rfl (hc := (w_r5_Run (a0 := a0.P) (a1 := a0.S) (a2 := x1205) (h0 := h0_0_.plus) (h1 := ⟨_, _, _, _, _, _, rfl, h0_1_.plus, h0_2_.plus, h0_3_.plus, h0_5_.plus, h0_7_.plus, h0_9_.plus⟩) (hF := hr1320))) (h := ?_)
         clear hS; intro v1321 LY1322 w hS hr1323
         obtain ⟨v_0_1324, LX_0_1325, rfl, rfl, h_0_1326⟩ := hr1323
         obtain ⟨vR0_0_1327, vR0_1_1331, vR0_2_1335, vR0_4_1339, vR0_6_1343, vR0_8_1347, LXR0_0_1328, LXR0_1_1332, LXR0_2_1336, LXR0_4_1340, LXR0_6_1344, LXR0_8_1348, rfl, rfl, hR0_0_1329, hR0_1_1333, hR0_2_1337, hR0_4_1341, hR0_6_1345, hR0_8_1349⟩ := h_0_1326
         simp only [List.append_assoc, List.cons_append, List.nil_append] at hS
         refine oy hS y_move ?_
         iterate 2 (refine oy hS (y_extract rfl) ?_)
         have hS : St W g [] ((b1243, blk [(.slice none 0 0), (.slice none 0 0), (.slice none 0 0), .int .i64 0, (.slice none 0 0), .int .i64 0, (.slice none 0 0), .int .i64 0, (.slice none 0 0), .int .i64 0, .int .i64 0] 27) :: (LXR0_0_1328 ++ (LXR0_1_1332 ++ (LXR0_2_1336 ++ (LXR0_4_1340 ++ (LXR0_6_1344 ++ (LXR0_8_1348 ++ ((b1242, blk [vR0_0_1218, vR0_1_1222, vR0_2_1226, .int .i64 r1211.1.Taken, vR0_4_1230, .int .i64 r1211.1.PC, vR0_6_1234, .int .i64 r1211.1.Stop, vR0_8_1238, .int .i64 r1211.1.Jump, .int .i64 r1211.1.Delay] 27) :: (LXR0_0_1219 ++ (LXR0_1_1223 ++ (LXR0_2_1227 ++ (LXR0_4_1231 ++ (LXR0_6_1235 ++ (LXR0_8_1239 ++ ((b1, blk [v0_0_, v0_1_, v0_2_, v0_3_, .int .i64 a0.S.Taken, v0_5_, .int .i64 a0.S.PC, v0_7_, .int .i64 a0.S.Stop, v0_9_, .int .i64 a0.S.Jump, .int .i64 a0.S.Delay, v0_12_, v0_13_] 29) :: ((b44, blk [v51, v56, v61, .int .i64 x65, v67, .int .i64 x71, v73, .int .i64 x77, v79, .int .i64 x83, .int .i64 x84] 27) :: (LX53 ++ (LX58 ++ (LX63 ++ (LX69 ++ (LX75 ++ (LX81 ++ (LX48 ++ (LX246 ++ [])))))))))))))))))))))))) w := hS.re (.takeb (.there _ (.there _ (.there _ (.there _ (.there _ (.there _ (.hereb _ _))))))) (.take (.here _ _) (.take (.here _ _) (.take (.here _ _) (.take (.here _ _) (.take (.here _ _) (.take (.here _ _) (.takeb (.hereb _ _) (.take (.here _ _) (.take (.here _ _) (.take (.here _ _) (.take (.here _ _) (.take (.here _ _) (.take (.here _ _) (.takeb (.hereb _ _) (.takeb (.hereb _ _) (.take (.here _ _) (.take (.here _ _) (.take (.here _ _) (.take (.here _ _) (.take (.here _ _) (.take (.here _ _) (.take (.here _ _) (.take (.here _ _) (.nil _)))))))))))))))))))))))))
         refine o_storeP (vs := [vR0_0_1327, vR0_1_1331, vR0_2_1335, .int .i64 r1320.1.Taken, vR0_4_1339, .int .i64 r1320.1.PC, vR0_6_1343, .int .i64 r1320.1.Stop, vR0_8_1347, .int .i64 r1320.1.Jump, .int .i64 r1320.1.Delay]) hS (hm := Upd.here _) (hi := by exact sz_api_State) (h1 := (onC (hR0_0_1329).one (onC (hR0_1_1333).one (onC (hR0_2_1337).one (onC rfl (onC (hR0_4_1341).one (onC rfl (onC (hR0_6_1345).one (onC rfl (onC (hR0_8_1349).one (onC rfl (onC rfl onN)))))))))))) ?_
         clear hS; intro w hS
         refine oy hS y_assign ?_
         refine n_thenN ?_
         obtain rfl := Option.some.inj hF
         change ∃ _, _
         exact ⟨0, r1320.2, r1320.1.Regs, r1320.1.Mem, r1320.1.In_, r1320.1.Taken, r1320.1.Out, r1320.1.PC, r1320.1.Stack, r1320.1.Stop, r1320.1.Fly, r1320.1.Jump, r1320.1.Delay, vR0_0_1327, vR0_1_1331, vR0_2_1335, vR0_4_1339, vR0_6_1343, vR0_8_1347, LXR0_0_1328, LXR0_1_1332, LXR0_2_1336, LXR0_4_1340, LXR0_6_1344, LXR0_8_1348, hK1316, hR0_0_1329, hR0_1_1333, hR0_2_1337, hR0_4_1341, hR0_6_1345, hR0_8_1349, mk_ex, (hS.re (.takeb (.thereb _ (.there _ (.there _ (.there _ (.there _ (.there _ (.there _ (.thereb _ (.there _ (.there _ (.there _ (.there _ (.there _ (.there _ (.hereb _ _))))))))))))))) (.takeb (.thereb _ (.there _ (.there _ (.there _ (.there _ (.there _ (.there _ (.thereb _ (.there _ (.there _ (.there _ (.there _ (.there _ (.there _ (.hereb _ _))))))))))))))) (.takeb (.thereb _ (.there _ (.there _ (.there _ (.there _ (.there _ (.there _ (.hereb _ _)))))))) (.takeb (.hereb _ _) (.take (.there _ (.there _ (.there _ (.there _ (.there _ (.there _ (.there _ (.there _ (.there _ (.there _ (.there _ (.there _ (.here _ _))))))))))))) (.take (.there _ (.there _ (.there _ (.there _ (.there _ (.there _ (.there _ (.there _ (.there _ (.there _ (.there _ (.there _ (.here _ _))))))))))))) (.take (.there _ (.there _ (.there _ (.there _ (.there _ (.there _ (.there _ (.there _ (.there _ (.there _ (.there _ (.there _ (.here _ _))))))))))))) (.take (.there _ (.there _ (.there _ (.there _ (.there _ (.there _ (.there _ (.there _ (.there _ (.there _ (.there _ (.there _ (.here _ _))))))))))))) (.take (.there _ (.there _ (.there _ (.there _ (.there _ (.there _ (.there _ (.there _ (.there _ (.there _ (.there _ (.there _ (.here _ _))))))))))))) (.take (.there _ (.there _ (.there _ (.there _ (.there _ (.there _ (.there _ (.there _ (.there _ (.there _ (.there _ (.there _ (.here _ _))))))))))))) (.take (.there _ (.there _ (.there _ (.there _ (.there _ (.there _ (.here _ _))))))) (.take (.there _ (.there _ (.there _ (.there _ (.there _ (.there _ (.here _ _))))))) (.take (.there _ (.there _ (.there _ (.there _ (.there _ (.there _ (.here _ _))))))) (.take (.there _ (.there _ (.there _ (.there _ (.there _ (.there _ (.here _ _))))))) (.take (.there _ (.there _ (.there _ (.there _ (.there _ (.there _ (.here _ _))))))) (.take (.there _ (.there _ (.there _ (.there _ (.there _ (.there _ (.here _ _))))))) (.take (.here _ _) (.take (.here _ _) (.take (.here _ _) (.take (.here _ _) (.take (.here _ _) (.take (.here _ _) (.take (.here _ _) (.take (.here _ _) (.nil _))))))))))))))))))))))))))⟩
       replace hF := bf c1319 hF
       refine wp_skip ?_
       obtain rfl := Option.some.inj hF
       change ∃ _, _
       exact ⟨1, 0, [], [], [], 0, [], 0, [], 0, [], 0, 0, (.slice none 0 0), (.slice none 0 0), (.slice none 0 0), (.slice none 0 0), (.slice none 0 0), (.slice none 0 0), [], [], [], [], [], [], hK1316, (OwT.nil _ _ _), (OwT.nil _ _ _), (OwT.nil _ _ _), (OwT.nil _ _ _), (OwT.nil _ _ _), (OwT.nil _ _ _), mk_ex, (hS.re (.takeb (.thereb _ (.thereb _ (.there _ (.there _ (.there _ (.there _ (.there _ (.there _ (.hereb _ _))))))))) (.takeb (.thereb _ (.thereb _ (.there _ (.there _ (.there _ (.there _ (.there _ (.there _ (.hereb _ _))))))))) (.takeb (.thereb _ (.hereb _ _)) (.takeb (.hereb _ _) (.take (.there _ (.there _ (.there _ (.there _ (.there _ (.there _ (.here _ _))))))) (.take (.there _ (.there _ (.there _ (.there _ (.there _ (.there _ (.here _ _))))))) (.take (.there _ (.there _ (.there _ (.there _ (.there _ (.there _ (.here _ _))))))) (.take (.there _ (.there _ (.there _ (.there _ (.there _ (.there _ (.here _ _))))))) (.take (.there _ (.there _ (.there _ (.there _ (.there _ (.there _ (.here _ _))))))) (.take (.there _ (.there _ (.there _ (.there _ (.there _ (.there _ (.here _ _))))))) (.take (.here _ _) (.take (.here _ _) (.take (.here _ _) (.take (.here _ _) (.take (.here _ _) (.take (.here _ _) (.take (X := []) (.here [] _) (.take (X := []) (.here [] _) (.take (X := []) (.here [] _) (.take (X := []) (.here [] _) (.take (X := []) (.here [] _) (.take (X := []) (.here [] _) (.take (.here _ _) (.take (.here _ _) (.nil _))))))))))))))))))))))))))⟩
     replace hF := bf c1318 hF
     iterate 2 (refine o_sk rfl rfl ?_)
     refine oy hS y_pickF ?_
     refine n_thenN ?_
     refine c_if_false (h := ?_)
     refine wp_skip ?_
     obtain rfl := Option.some.inj hF
     change ∃ _, _
     exact ⟨1, 0, [], [], [], 0, [], 0, [], 0, [], 0, 0, (.slice none 0 0), (.slice none 0 0), (.slice none 0 0), (.slice none 0 0), (.slice none 0 0), (.slice none 0 0), [], [], [], [], [], [], hK1316, (OwT.nil _ _ _), (OwT.nil _ _ _), (OwT.nil _ _ _), (OwT.nil _ _ _), (OwT.nil _ _ _), (OwT.nil _ _ _), mk_ex, (hS.re (.takeb (.thereb _ (.thereb _ (.there _ (.there _ (.there _ (.there _ (.there _ (.there _ (.hereb _ _))))))))) (.takeb (.thereb _ (.thereb _ (.there _ (.there _ (.there _ (.there _ (.there _ (.there _ (.hereb _ _))))))))) (.takeb (.thereb _ (.hereb _ _)) (.takeb (.hereb _ _) (.take (.there _ (.there _ (.there _ (.there _ (.there _ (.there _ (.here _ _))))))) (.take (.there _ (.there _ (.there _ (.there _ (.there _ (.there _ (.here _ _))))))) (.take (.there _ (.there _ (.there _ (.there _ (.there _ (.there _ (.here _ _))))))) (.take (.there _ (.there _ (.there _ (.there _ (.there _ (.there _ (.here _ _))))))) (.take (.there _ (.there _ (.there _ (.there _ (.there _ (.there _ (.here _ _))))))) (.take (.there _ (.there _ (.there _ (.there _ (.there _ (.there _ (.here _ _))))))) (.take (.here _ _) (.take (.here _ _) (.take (.here _ _) (.take (.here _ _) (.take (.here _ _) (.take (.here _ _) (.take (X := []) (.here [] _) (.take (X := []) (.here [] _) (.take (X := []) (.here [] _) (.take (X := []) (.here [] _) (.take (X := []) (.here [] _) (.take (X := []) (.here [] _) (.take (.here _ _) (.take (.here _ _) (.nil _))))))))))))))))))))))))))⟩
   rintro a w ⟨x1278, x1279, x1280, x1285, x1290, x1295, x1296, x1301, x1302, x1307, x1308, x1313, x1314, v1281, v1286, v1291, v1297, v1303, v1309, LX1283, LX1288, LX1293, LX1299, LX1305, LX1311, hF, h1282, h1287, h1292, h1298, h1304, h1310, ⟨s1363, rfl⟩, hS⟩
   dsimp only [l5_SeqSteps_k7] at hF
   refine c_seq ?_
   refine c_region ?_
   refine oy hS y_move ?_
   refine o_callS hS Try.func15 rfl rfl (hc := (w_l5_num (a0 := r1211.2.2))) (h := ?_)
   clear hS; intro w hS
   refine oy hS y_move ?_
   refine oy hS y_bin ?_
   refine o_split (ht := fun c1364 => ?_) (hf := fun c1364 => ?_)
   · replace hF := bt c1364 hF
     iterate 3 (refine o_sk rfl rfl ?_)
     refine oy hS y_pickT ?_
     refine oy hS y_move ?_
     iterate 4 (refine o_sk rfl rfl ?_)
     refine oy hS y_pickT ?_
     refine oy hS y_move ?_
     iterate 5 (refine o_sk rfl rfl ?_)
     refine oy hS y_pickT ?_
     refine oy hS y_move ?_
     iterate 5 (refine o_sk rfl rfl ?_)
     refine oy hS y_pickT ?_
     refine n_thenN ?_
     refine c_if_true (h := ?_)
     refine c_seq ?_
     refine c_region ?_
     refine oy hS y_assign ?_
     refine n_thenN ?_
     obtain rfl := Option.some.inj hF
     obtain rfl : _ = z810 := hK1184
     obtain rfl : _ = r := hK811
     exact wp_ret (wr1 hS)
   replace hF := bf c1364 hF
   refine o_gu rfl rfl rfl ?_
   refine oy hS y_move ?_
   refine o_gu rfl rfl rfl ?_
   refine oy hS y_move ?_
   refine o_gu rfl rfl rfl ?_
   refine oy hS y_bin ?_
   refine oy hS y_pickF ?_
   refine o_split (ht := fun c1365 => ?_) (hf := fun c1365 => ?_)
   · replace hF := bt c1365 hF
     iterate 4 (refine o_sk rfl rfl ?_)
     refine oy hS y_pickT ?_
     refine oy hS y_move ?_
     iterate 5 (refine o_sk rfl rfl ?_)
     refine oy hS y_pickT ?_
     refine oy hS y_move ?_
     iterate 5 (refine o_sk rfl rfl ?_)
     refine oy hS y_pickT ?_
     refine n_thenN ?_
     refine c_if_true (h := ?_)
     refine c_seq ?_
     refine c_region ?_
     refine oy hS y_assign ?_
     refine n_thenN ?_
     obtain rfl := Option.some.inj hF
     obtain rfl : _ = z810 := hK1184
     obtain rfl : _ = r := hK811
     exact wp_ret (wr1 hS)
   replace hF := bf c1365 hF
   refine o_gu rfl rfl rfl ?_
   refine oy hS (y_loadW (fun w hS => hS.own (mC (mC (mH)))) Try.underlying27 rfl (by exact sz_api_State)) ?_
   refine o_gu rfl rfl rfl ?_
   refine oy hS (y_loadW (fun w hS => hS.own (mC (mC (mC (mH))))) Try.underlying27 rfl (by exact sz_api_State)) ?_
   refine o_gu rfl rfl rfl ?_
   obtain ⟨r1366, hr1366, hF⟩ := ob hF
   refine o_callS hS Try.func16 rfl rfl (hc := (w_r0_EqState (a0 := r1211.1) (a1 := (⟨x1280, x1285, x1290, x1295, x1296, x1301, x1302, x1307, x1308, x1313, x1314⟩ : T_State)) (h0 := ⟨_, _, _, _, _, _, rfl, (OwT.plus hR0_0_1220 hS (fun p hp => mC (mC (mC (mC (mB (mB (mB (mB (mB (mB (mA (hp))))))))))))), (OwT.plus hR0_1_1224 hS (fun p hp => mC (mC (mC (mC (mB (mB (mB (mB (mB (mB (mB (mA (hp)))))))))))))), (OwT.plus hR0_2_1228 hS (fun p hp => mC (mC (mC (mC (mB (mB (mB (mB (mB (mB (mB (mB (mA (hp))))))))))))))), (OwT.plus hR0_4_1232 hS (fun p hp => mC (mC (mC (mC (mB (mB (mB (mB (mB (mB (mB (mB (mB (mA (hp)))))))))))))))), (OwT.plus hR0_6_1236 hS (fun p hp => mC (mC (mC (mC (mB (mB (mB (mB (mB (mB (mB (mB (mB (mB (mA (hp))))))))))))))))), (OwT.plus hR0_8_1240 hS (fun p hp => mC (mC (mC (mC (mB (mB (mB (mB (mB (mB (mB (mB (mB (mB (mB (mA (hp))))))))))))))))))⟩) (h1 := ⟨_, _, _, _, _, _, rfl, (OwT.plus h1282 hS (fun p hp => mC (mC (mC (mC (mB (mB (mB (mB (mB (mB (mB (mB (mB (mB (mB (mB (mA (hp))))))))))))))))))), (OwT.plus h1287 hS (fun p hp => mC (mC (mC (mC (mB (mB (mB (mB (mB (mB (mB (mB (mB (mB (mB (mB (mB (mA (hp)))))))))))))))))))), (OwT.plus h1292 hS (fun p hp => mC (mC (mC (mC (mB (mB (mB (mB (mB (mB (mB (mB (mB (mB (mB (mB (mB (mB (mA (hp))))))))))))))))))))), (OwT.plus h1298 hS (fun p hp => mC (mC (mC (mC (mB (mB (mB (mB (mB (mB (mB (mB (mB (mB (mB (mB (mB (mB (mB (mA (hp)))))))))))))))))))))), (OwT.plus h1304 hS (fun p hp => mC (mC (mC (mC (mB (mB (mB (mB (mB (mB (mB (mB (mB (mB (mB (mB (mB (mB (mB (mB (mA (hp))))))))))))))))))))))), (OwT.plus h1310 hS (fun p hp => mC (mC (mC (mC (mB (mB (mB (mB (mB (mB (mB (mB (mB (mB (mB (mB (mB (mB (mB (mB (mB (mA (hp))))))))))))))))))))))))⟩) (hF := hr1366))) (h := ?_)
   clear hS; intro w hS
   refine o_gu rfl rfl rfl ?_
   refine oy hS y_not ?_
   refine oy hS y_pickF ?_
   refine o_split (ht := fun c1367 => ?_) (hf := fun c1367 => ?_)
   · replace hF := bt c1367 hF
     iterate 5 (refine o_sk rfl rfl ?_)
     refine oy hS y_pickT ?_
     refine oy hS y_move ?_
     iterate 5 (refine o_sk rfl rfl ?_)
     refine oy hS y_pickT ?_
     refine n_thenN ?_
     refine c_if_true (h := ?_)
     refine c_seq ?_
     refine c_region ?_
     refine oy hS y_assign ?_
     refine n_thenN ?_
     obtain rfl := Option.some.inj hF
     obtain rfl : _ = z810 := hK1184
     obtain rfl : _ = r := hK811
     exact wp_ret (wr1 hS)
   replace hF := bf c1367 hF
   refine o_gu rfl rfl rfl ?_
   refine oy hS (y_loadW (fun w hS => hS.own (mC (mH))) Try.underlying27 rfl (by exact sz_api_State)) ?_
   refine o_gu rfl rfl rfl ?_
   refine oy hS (y_field fa_sledgelaw5_Script_1) ?_
   refine o_gu rfl rfl rfl ?_
   refine oy hS (y_loadN (vs := [v0_1_, v0_2_, v0_3_, .int .i64 a0.S.Taken, v0_5_, .int .i64 a0.S.PC, v0_7_, .int .i64 a0.S.Stop, v0_9_, .int .i64 a0.S.Jump, .int .i64 a0.S.Delay]) (fun w hS => hS.own (mH)) Try.underlying27 rfl (by exact sz_api_State) (subc (pre := [v0_0_]) (vs := [v0_1_, v0_2_, v0_3_, .int .i64 a0.S.Taken, v0_5_, .int .i64 a0.S.PC, v0_7_, .int .i64 a0.S.Stop, v0_9_, .int .i64 a0.S.Jump, .int .i64 a0.S.Delay]) (post := [v0_12_, v0_13_]) rfl rfl)) ?_
   refine o_gu rfl rfl rfl ?_
   obtain ⟨r1368, hr1368, hF⟩ := ob hF
   refine o_callS hS Try.func16 rfl rfl (hc := (w_r0_EqState (a0 := (⟨x50, x55, x60, x65, x66, x71, x72, x77, x78, x83, x84⟩ : T_State)) (a1 := a0.S) (h0 := ⟨_, _, _, _, _, _, rfl, (OwT.plus h52 hS (fun p hp => mC (mC (mC (mC (mA (hp))))))), (OwT.plus h57 hS (fun p hp => mC (mC (mC (mC (mB (mA (hp)))))))), (OwT.plus h62 hS (fun p hp => mC (mC (mC (mC (mB (mB (mA (hp))))))))), (OwT.plus h68 hS (fun p hp => mC (mC (mC (mC (mB (mB (mB (mA (hp)))))))))), (OwT.plus h74 hS (fun p hp => mC (mC (mC (mC (mB (mB (mB (mB (mA (hp))))))))))), (OwT.plus h80 hS (fun p hp => mC (mC (mC (mC (mB (mB (mB (mB (mB (mA (hp))))))))))))⟩) (h1 := ⟨_, _, _, _, _, _, rfl, h0_1_.plus, h0_2_.plus, h0_3_.plus, h0_5_.plus, h0_7_.plus, h0_9_.plus⟩) (hF := hr1368))) (h := ?_)
   clear hS; intro w hS
   refine o_gu rfl rfl rfl ?_
   refine oy hS y_not ?_
   refine oy hS y_pickF ?_
   refine o_split (ht := fun c1369 => ?_) (hf := fun c1369 => ?_)
   · replace hF := bt c1369 hF
     iterate 5 (refine o_sk rfl rfl ?_)
     refine oy hS y_pickT ?_
     refine n_thenN ?_
     refine c_if_true (h := ?_)
     refine c_seq ?_
     refine c_region ?_
     refine oy hS y_assign ?_
     refine n_thenN ?_
     obtain rfl := Option.some.inj hF
     obtain rfl : _ = z810 := hK1184
     obtain rfl : _ = r := hK811
     exact wp_ret (wr1 hS)
   replace hF := bf c1369 hF
   refine o_gu rfl rfl rfl ?_
   refine oy hS y_move ?_
   refine o_gu rfl rfl rfl ?_
   refine oy hS (y_field fa_sledgelaw5_Script_0) ?_
   refine o_gu rfl rfl rfl ?_
   refine oy hS (y_load (fun w hS => hS.own (mH)) Try.underlying22 rfl rfl) ?_
   refine o_gu rfl rfl rfl ?_
   obtain ⟨r1370, hr1370, hF⟩ := ob hF
   refine o_callS hS Try.func31 rfl rfl (hc := (w_r0_EqCodes (a0 := x45) (a1 := a0.P) (h0 := (OwT.plus h47 hS (fun p hp => mC (mC (mC (mC (mB (mB (mB (mB (mB (mB (mB (mB (mB (mB (mB (mB (mB (mB (mB (mB (mB (mB (mA (hp)))))))))))))))))))))))))) (h1 := h0_0_.plus) (hF := hr1370))) (h := ?_)
   clear hS; intro w hS
   refine o_gu rfl rfl rfl ?_
   refine oy hS y_not ?_
   refine oy hS y_pickF ?_
   refine n_thenN ?_
   refine c_if (ht := fun c1371 => ?_) (hf := fun c1371 => ?_)
   · replace hF := bt c1371 hF
     refine c_seq ?_
     refine c_region ?_
     refine oy hS y_assign ?_
     refine n_thenN ?_
     obtain rfl := Option.some.inj hF
     obtain rfl : _ = z810 := hK1184
     obtain rfl : _ = r := hK811
     exact wp_ret (wr1 hS)
   replace hF := bf c1371 hF
   refine wp_skip ?_
   refine c_region ?_
   refine oy hS y_move ?_
   refine oy hS y_bin ?_
   refine oy hS y_assign ?_
   refine n_thenN ?_
   obtain rfl := Option.some.inj hF
   exact ⟨_, hK1184, mk_ex, (hS.re (.takeb (.hereb _ _) (.takeb (.hereb _ _) (.take (.thereb _ (.thereb _ (.here _ _))) (.take (.thereb _ (.thereb _ (.here _ _))) (.take (.thereb _ (.thereb _ (.here _ _))) (.take (.thereb _ (.thereb _ (.here _ _))) (.take (.thereb _ (.thereb _ (.here _ _))) (.take (.thereb _ (.thereb _ (.here _ _))) (.take (.thereb _ (.thereb _ (.there _ (.there _ (.there _ (.there _ (.there _ (.there _ (.there _ (.there _ (.there _ (.there _ (.there _ (.there _ (.here _ _))))))))))))))) (.take (.thereb _ (.thereb _ (.there _ (.there _ (.there _ (.there _ (.there _ (.there _ (.there _ (.there _ (.there _ (.there _ (.there _ (.there _ (.here _ _))))))))))))))) (.nil _))))))))))))⟩
 rintro a w ⟨hF, ⟨s1372, rfl⟩, hS⟩
 dsimp only [l5_SeqSteps_k3] at hF
 refine c_seq ?_
 refine c_region ?_
 refine oy hS (y_field fa_sledgelaw5_Script_1) ?_
 refine oy hS (y_loadN (vs := [v0_1_, v0_2_, v0_3_, .int .i64 a0.S.Taken, v0_5_, .int .i64 a0.S.PC, v0_7_, .int .i64 a0.S.Stop, v0_9_, .int .i64 a0.S.Jump, .int .i64 a0.S.Delay]) (fun w hS => hS.own (mH)) Try.underlying27 rfl (by exact sz_api_State) (subc (pre := [v0_0_]) (vs := [v0_1_, v0_2_, v0_3_, .int .i64 a0.S.Taken, v0_5_, .int .i64 a0.S.PC, v0_7_, .int .i64 a0.S.Stop, v0_9_, .int .i64 a0.S.Jump, .int .i64 a0.S.Delay]) (post := [v0_12_, v0_13_]) rfl rfl)) ?_
 obtain ⟨r1373, hr1373, hF⟩ := ob hF
 refine o_call (L1 := []) (L2 := ((b1, blk [v0_0_, v0_1_, v0_2_, v0_3_, .int .i64 a0.S.Taken, v0_5_, .int .i64 a0.S.PC, v0_7_, .int .i64 a0.S.Stop, v0_9_, .int .i64 a0.S.Jump, .int .i64 a0.S.Delay, v0_12_, v0_13_] 29) :: ((b44, blk [v51, v56, v61, .int .i64 x65, v67, .int .i64 x71, v73, .int .i64 x77, v79, .int .i64 x83, .int .i64 x84] 27) :: (LX53 ++ (LX58 ++ (LX63 ++ (LX69 ++ (LX75 ++ (LX81 ++ (LX48 ++ [])))))))))) hS Try.func23 rfl rfl (hc := (w_r0_CopyState (a0 := a0.S) (h0 := ⟨_, _, _, _, _, _, rfl, h0_1_.plus, h0_2_.plus, h0_3_.plus, h0_5_.plus, h0_7_.plus, h0_9_.plus⟩) (hF := hr1373))) (h := ?_)
 clear hS; intro v1374 LY1375 w hS hr1376
 obtain ⟨v_0_1377, LX_0_1378, rfl, rfl, h_0_1379⟩ := hr1376
 obtain ⟨vR0_0_1380, vR0_1_1384, vR0_2_1388, vR0_4_1392, vR0_6_1396, vR0_8_1400, LXR0_0_1381, LXR0_1_1385, LXR0_2_1389, LXR0_4_1393, LXR0_6_1397, LXR0_8_1401, rfl, rfl, hR0_0_1382, hR0_1_1386, hR0_2_1390, hR0_4_1394, hR0_6_1398, hR0_8_1402⟩ := h_0_1379
 simp only [List.append_assoc, List.cons_append, List.nil_append] at hS
 refine o_allocP (cl := [(.slice none 0 0), (.slice none 0 0), (.slice none 0 0), .int .i64 0, (.slice none 0 0), .int .i64 0, (.slice none 0 0), .int .i64 0, (.slice none 0 0), .int .i64 0, .int .i64 0]) zr_api_State rfl hS ?_
 clear hS; intro b1404 w hS
 refine o_storeP (vs := [vR0_0_1380, vR0_1_1384, vR0_2_1388, .int .i64 r1373.Taken, vR0_4_1392, .int .i64 r1373.PC, vR0_6_1396, .int .i64 r1373.Stop, vR0_8_1400, .int .i64 r1373.Jump, .int .i64 r1373.Delay]) hS (hm := Upd.here _) (hi := by exact sz_api_State) (h1 := (onC (hR0_0_1382).one (onC (hR0_1_1386).one (onC (hR0_2_1390).one (onC rfl (onC (hR0_4_1394).one (onC rfl (onC (hR0_6_1398).one (onC rfl (onC (hR0_8_1402).one (onC rfl (onC rfl onN)))))))))))) ?_
 clear hS; intro w hS
 refine n_thenN ?_
 obtain ⟨z1679, hF, hK1680⟩ := cut_step hF
 refine c_cutP (fun a w' => l5_SeqSteps_k8 x50 x55 x60 x65 x66 x71 x72 x77 x78 x83 x84 a0 () = some r ∧ (∃ s : Nat → Value, a = Ac (.lit 197 [s 0, .pointer (some ⟨b1, 0, none⟩), s 2, .pointer (some ⟨b44, 0, none⟩), s 4, s 5, s 6, s 7, s 8, s 9, s 10, s 11, s 12, s 13, s 14, s 15, s 16, s 17, s 18, s 19, s 20, s 21, s 22, s 23, s 24, s 25, s 26, s 27, s 28, s 29, s 30, s 31, s 32, s 33, s 34, s 35, s 36, s 37, s 38, s 39, s 40, s 41, s 42, s 43, s 44, s 45, s 46, s 47, s 48, s 49, s 50, s 51, s 52, s 53, s 54, s 55, s 56, s 57, s 58, s 59, s 60, s 61, s 62, s 63, s 64, s 65, s 66, s 67, s 68, s 69, s 70, s 71, s 72, s 73, s 74, s 75, s 76, s 77, s 78, s 79, s 80, s 81, s 82, s 83, s 84, s 85, s 86, s 87, s 88, s 89, s 90, s 91, s 92, s 93, s 94, s 95, s 96, s 97, s 98, s 99, s 100, s 101, s 102, s 103, s 104, s 105, s 106, s 107, s 108, s 109, s 110, s 111, s 112, s 113, s 114, s 115, s 116, s 117, s 118, s 119, s 120, s 121, s 122, s 123, s 124, s 125, s 126, s 127, s 128, s 129, s 130, s 131, s 132, s 133, s 134, s 135, s 136, s 137, s 138, s 139, s 140, s 141, s 142, s 143, s 144, s 145, s 146, s 147, s 148, s 149, s 150, s 151, s 152, s 153, s 154, s 155, s 156, s 157, s 158, s 159, s 160, s 161, s 162, s 163, s 164, s 165, s 166, s 167, s 168, s 169, s 170, s 171, s 172, s 173, s 174, s 175, s 176, s 177, s 178, s 179, s 180, s 181, s 182, s 183, s 184, s 185, s 186, s 187, s 188, s 189, s 190, s 191, s 192, s 193, s 194, s 195, s 196])) ∧ St W g [] ((b1, blk [v0_0_, v0_1_, v0_2_, v0_3_, .int .i64 a0.S.Taken, v0_5_, .int .i64 a0.S.PC, v0_7_, .int .i64 a0.S.Stop, v0_9_, .int .i64 a0.S.Jump, .int .i64 a0.S.Delay, v0_12_, v0_13_] 29) :: ((b44, blk [v51, v56, v61, .int .i64 x65, v67, .int .i64 x71, v73, .int .i64 x77, v79, .int .i64 x83, .int .i64 x84] 27) :: (LX53 ++ (LX58 ++ (LX63 ++ (LX69 ++ (LX75 ++ (LX81 ++ [])))))))) w') ?_ ?_
 · skip
   refine c_seq ?_
   refine c_region ?_
   refine oy hS y_assign ?_
   refine n_thenN ?_
   refine c_block ?_
   refine c_loopP hF (fun (q : (Int × (List Int) × (List Int) × (List Int) × Int × (List Int) × Int × (List Int) × Int × (List T_Write) × Int × Int)) a w' => ∃ (v1761 : Value) (v1766 : Value) (v1771 : Value) (v1777 : Value) (v1783 : Value) (v1789 : Value) (LX1763 : Own) (LX1768 : Own) (LX1773 : Own) (LX1779 : Own) (LX1785 : Own) (LX1791 : Own), OwT 63 enc_uint32 1 q.2.1 v1761 LX1763 ∧ OwT 63 enc_uint32 1 q.2.2.1 v1766 LX1768 ∧ OwT 63 enc_uint32 1 q.2.2.2.1 v1771 LX1773 ∧ OwT 63 enc_uint32 1 q.2.2.2.2.2.1 v1777 LX1779 ∧ OwT 3 enc_int 1 q.2.2.2.2.2.2.2.1 v1783 LX1785 ∧ OwT 71 enc_Write 3 q.2.2.2.2.2.2.2.2.2.1 v1789 LX1791 ∧ (∃ s : Nat → Value, a = Ac (.lit 197 [s 0, .pointer (some ⟨b1, 0, none⟩), s 2, .pointer (some ⟨b44, 0, none⟩), v46, s 5, s 6, s 7, s 8, s 9, s 10, s 11, s 12, s 13, s 14, s 15, .pointer (some ⟨b1404, 0, none⟩), .int .i64 q.1, s 18, s 19, s 20, s 21, s 22, s 23, s 24, s 25, s 26, s 27, s 28, s 29, s 30, s 31, s 32, s 33, s 34, s 35, s 36, s 37, s 38, s 39, s 40, s 41, s 42, s 43, s 44, s 45, s 46, s 47, s 48, s 49, s 50, s 51, s 52, s 53, s 54, s 55, s 56, s 57, s 58, s 59, s 60, s 61, s 62, s 63, s 64, s 65, s 66, s 67, s 68, s 69, s 70, s 71, s 72, s 73, s 74, s 75, s 76, s 77, s 78, s 79, s 80, s 81, s 82, s 83, s 84, s 85, s 86, s 87, s 88, s 89, s 90, s 91, s 92, s 93, s 94, s 95, s 96, s 97, s 98, s 99, s 100, s 101, s 102, s 103, s 104, s 105, s 106, s 107, s 108, s 109, s 110, s 111, s 112, s 113, s 114, s 115, s 116, s 117, s 118, s 119, s 120, s 121, s 122, s 123, s 124, s 125, s 126, s 127, s 128, s 129, s 130, s 131, s 132, s 133, s 134, s 135, s 136, s 137, s 138, s 139, s 140, s 141, s 142, s 143, s 144, s 145, s 146, s 147, s 148, s 149, s 150, s 151, s 152, s 153, s 154, s 155, s 156, s 157, s 158, s 159, s 160, s 161, s 162, s 163, s 164, s 165, s 166, s 167, s 168, s 169, s 170, s 171, s 172, s 173, s 174, s 175, s 176, s 177, s 178, s 179, s 180, s 181, s 182, s 183, s 184, s 185, s 186, s 187, s 188, s 189, s 190, s 191, s 192, s 193, s 194, s 195, s 196])) ∧ St W g [] ((b1, blk [v0_0_, v0_1_, v0_2_, v0_3_, .int .i64 a0.S.Taken, v0_5_, .int .i64 a0.S.PC, v0_7_, .int .i64 a0.S.Stop, v0_9_, .int .i64 a0.S.Jump, .int .i64 a0.S.Delay, v0_12_, v0_13_] 29) :: ((b44, blk [v51, v56, v61, .int .i64 x65, v67, .int .i64 x71, v73, .int .i64 x77, v79, .int .i64 x83, .int .i64 x84] 27) :: ((b1404, blk [v1761, v1766, v1771, .int .i64 q.2.2.2.2.1, v1777, .int .i64 q.2.2.2.2.2.2.1, v1783, .int .i64 q.2.2.2.2.2.2.2.2.1, v1789, .int .i64 q.2.2.2.2.2.2.2.2.2.2.1, .int .i64 q.2.2.2.2.2.2.2.2.2.2.2] 27) :: (LX53 ++ (LX58 ++ (LX63 ++ (LX69 ++ (LX75 ++ (LX81 ++ (LX1763 ++ (LX1768 ++ (LX1773 ++ (LX1779 ++ (LX1785 ++ (LX1791 ++ (LX48 ++ [])))))))))))))))) w') ⟨vR0_0_1380, vR0_1_1384, vR0_2_1388, vR0_4_1392, vR0_6_1396, vR0_8_1400, LXR0_0_1381, LXR0_1_1385, LXR0_2_1389, LXR0_4_1393, LXR0_6_1397, LXR0_8_1401, hR0_0_1382, hR0_1_1386, hR0_2_1390, hR0_4_1394, hR0_6_1398, hR0_8_1402, mk_ex, (hS.re (.takeb (.thereb _ (.there _ (.there _ (.there _ (.there _ (.there _ (.there _ (.hereb _ _)))))))) (.takeb (.thereb _ (.there _ (.there _ (.there _ (.there _ (.there _ (.there _ (.hereb _ _)))))))) (.takeb (.hereb _ _) (.take (.there _ (.there _ (.there _ (.there _ (.there _ (.there _ (.here _ _))))))) (.take (.there _ (.there _ (.there _ (.there _ (.there _ (.there _ (.here _ _))))))) (.take (.there _ (.there _ (.there _ (.there _ (.there _ (.there _ (.here _ _))))))) (.take (.there _ (.there _ (.there _ (.there _ (.there _ (.there _ (.here _ _))))))) (.take (.there _ (.there _ (.there _ (.there _ (.there _ (.there _ (.here _ _))))))) (.take (.there _ (.there _ (.there _ (.there _ (.there _ (.there _ (.here _ _))))))) (.take (.here _ _) (.take (.here _ _) (.take (.here _ _) (.take (.here _ _) (.take (.here _ _) (.take (.here _ _) (.take (.here _ _) (.nil _))))))))))))))))))⟩ ?_
   clear hS hF
   intro n1875 q a w hI hq
   obtain ⟨x1759, x1760, x1765, x1770, x1775, x1776, x1781, x1782, x1787, x1788, x1793, x1794⟩ := q
   obtain ⟨v1761, v1766, v1771, v1777, v1783, v1789, LX1763, LX1768, LX1773, LX1779, LX1785, LX1791, h1762, h1767, h1772, h1778, h1784, h1790, ⟨s1876, rfl⟩, hS⟩ := hq
   replace h1762 : OwT 63 enc_uint32 1 x1760 v1761 LX1763 := h1762
   replace h1767 : OwT 63 enc_uint32 1 x1765 v1766 LX1768 := h1767
   replace h1772 : OwT 63 enc_uint32 1 x1770 v1771 LX1773 := h1772
   replace h1778 : OwT 63 enc_uint32 1 x1776 v1777 LX1779 := h1778
   replace h1784 : OwT 3 enc_int 1 x1782 v1783 LX1785 := h1784
   replace h1790 : OwT 71 enc_Write 3 x1788 v1789 LX1791 := h1790
   obtain ⟨z1873, hF, hK1874⟩ := iter_step hI
   clear hI
   dsimp only [l5_SeqSteps_b9] at hF
   iterate 2 (refine c_seq ?_)
   refine c_region ?_
   refine oy hS y_move ?_
   refine oy hS y_bin ?_
   refine n_thenN ?_
   refine c_if (ht := fun c1877 => ?_) (hf := fun c1877 => ?_)
   · replace hF := bt c1877 hF
     refine wp_skip ?_
     refine c_seq ?_
     refine c_block ?_
     refine c_seq ?_
     refine c_region ?_
     refine oy hS y_move ?_
     refine oy hS (y_loadW (fun w hS => hS.own (mC (mC (mH)))) Try.underlying27 rfl (by exact sz_api_State)) ?_
     obtain ⟨r1878, hr1878, hF⟩ := ob hF
     refine o_call (L1 := []) (L2 := ((b1, blk [v0_0_, v0_1_, v0_2_, v0_3_, .int .i64 a0.S.Taken, v0_5_, .int .i64 a0.S.PC, v0_7_, .int .i64 a0.S.Stop, v0_9_, .int .i64 a0.S.Jump, .int .i64 a0.S.Delay, v0_12_, v0_13_] 29) :: ((b44, blk [v51, v56, v61, .int .i64 x65, v67, .int .i64 x71, v73, .int .i64 x77, v79, .int .i64 x83, .int .i64 x84] 27) :: ((b1404, blk [v1761, v1766, v1771, .int .i64 x1775, v1777, .int .i64 x1781, v1783, .int .i64 x1787, v1789, .int .i64 x1793, .int .i64 x1794] 27) :: (LX53 ++ (LX58 ++ (LX63 ++ (LX69 ++ (LX75 ++ (LX81 ++ (LX1763 ++ (LX1768 ++ (LX1773 ++ (LX1779 ++ (LX1785 ++ (LX1791 ++ (LX48 ++ []))))))))))))))))) hS Try.func19 rfl rfl (hc := (w_seq_Step (a0 := x45) (a1 := (⟨x1760, x1765, x1770, x1775, x1776, x1781, x1782, x1787, x1788, x1793, x1794⟩ : T_State)) (h0 := (OwT.plus h47 hS (fun p hp => mC (mC (mC (mB (mB (mB (mB (mB (mB (mB (mB (mB (mB (mB (mB (mA (hp))))))))))))))))))) (h1 := ⟨_, _, _, _, _, _, rfl, (OwT.plus h1762 hS (fun p hp => mC (mC (mC (mB (mB (mB (mB (mB (mB (mA (hp)))))))))))), (OwT.plus h1767 hS (fun p hp => mC (mC (mC (mB (mB (mB (mB (mB (mB (mB (mA (hp))))))))))))), (OwT.plus h1772 hS (fun p hp => mC (mC (mC (mB (mB (mB (mB (mB (mB (mB (mB (mA (hp)))))))))))))), (OwT.plus h1778 hS (fun p hp => mC (mC (mC (mB (mB (mB (mB (mB (mB (mB (mB (mB (mA (hp))))))))))))))), (OwT.plus h1784 hS (fun p hp => mC (mC (mC (mB (mB (mB (mB (mB (mB (mB (mB (mB (mB (mA (hp)))))))))))))))), (OwT.plus h1790 hS (fun p hp => mC (mC (mC (mB (mB (mB (mB (mB (mB (mB (mB (mB (mB (mB (mA (hp)))))))))))))))))⟩) (hF := hr1878))) (h := ?_)
     clear hS; intro v1879 LY1880 w hS hr1881
     obtain ⟨v_0_1882, LX_0_1883, rfl, rfl, h_0_1884⟩ := hr1881
     obtain ⟨vR0_0_1885, vR0_1_1889, vR0_2_1893, vR0_4_1897, vR0_6_1901, vR0_8_1905, LXR0_0_1886, LXR0_1_1890, LXR0_2_1894, LXR0_4_1898, LXR0_6_1902, LXR0_8_1906, rfl, rfl, hR0_0_1887, hR0_1_1891, hR0_2_1895, hR0_4_1899, hR0_6_1903, hR0_8_1907⟩ := h_0_1884
     simp only [List.append_assoc, List.cons_append, List.nil_append] at hS
     refine oy hS y_move ?_
     iterate 2 (refine oy hS (y_extract rfl) ?_)
     refine o_allocP (cl := [(.slice none 0 0), (.slice none 0 0), (.slice none 0 0), .int .i64 0, (.slice none 0 0), .int .i64 0, (.slice none 0 0), .int .i64 0, (.slice none 0 0), .int .i64 0, .int .i64 0]) zr_api_State rfl hS ?_
     clear hS; intro b1909 w hS
     refine o_storeP (vs := [vR0_0_1885, vR0_1_1889, vR0_2_1893, .int .i64 r1878.1.Taken, vR0_4_1897, .int .i64 r1878.1.PC, vR0_6_1901, .int .i64 r1878.1.Stop, vR0_8_1905, .int .i64 r1878.1.Jump, .int .i64 r1878.1.Delay]) hS (hm := Upd.here _) (hi := by exact sz_api_State) (h1 := (onC (hR0_0_1887).one (onC (hR0_1_1891).one (onC (hR0_2_1895).one (onC rfl (onC (hR0_4_1899).one (onC rfl (onC (hR0_6_1903).one (onC rfl (onC (hR0_8_1907).one (onC rfl (onC rfl onN)))))))))))) ?_
     clear hS; intro w hS
     refine oy hS y_assign ?_
     refine n_thenN ?_
     iterate 2 (refine c_seq ?_)
     refine c_region ?_
     refine oy hS (y_loadW (fun w hS => hS.own (mC (mB (mB (mB (mB (mB (mB (mH))))))))) Try.underlying29 rfl (by exact sz_sledgelaw5_Script)) ?_
     obtain ⟨r1910, hr1910, hF⟩ := ob hF
     refine o_callS hS Try.func13 rfl rfl (hc := (w_l5_May (a0 := a0) (h0 := ⟨_, _, _, _, _, _, _, _, _, rfl, h0_0_.plus, h0_1_.plus, h0_2_.plus, h0_3_.plus, h0_5_.plus, h0_7_.plus, h0_9_.plus, h0_12_.plus, h0_13_.plus⟩) (hF := hr1910))) (h := ?_)
     clear hS; intro w hS
     refine oy hS y_not ?_
     refine n_thenN ?_
     refine c_if (ht := fun c1911 => ?_) (hf := fun c1911 => ?_)
     · replace hF := bt c1911 hF
       refine c_seq ?_
       refine c_region ?_
       refine oy hS y_move ?_
       refine o_callS hS Try.func15 rfl rfl (hc := (w_l5_num (a0 := r1878.2))) (h := ?_)
       clear hS; intro w hS
       refine oy hS y_bin ?_
       refine o_split (ht := fun c1912 => ?_) (hf := fun c1912 => ?_)
       · replace hF := bt c1912 hF
         refine o_gu rfl rfl rfl ?_
         refine oy hS (y_loadW (fun w hS => hS.own (mH)) Try.underlying27 rfl (by exact sz_api_State)) ?_
         refine o_gu rfl rfl rfl ?_
         refine oy hS (y_build (cl := [(.slice none 0 0), (.slice none 0 0), (.slice none 0 0), .int .i64 0, (.slice none 0 0), .int .i64 0, (.slice none 0 0), .int .i64 0, (.slice none 0 0), .int .i64 0, .int .i64 0]) bt_api_State rfl fillN) ?_
         refine o_gu rfl rfl rfl ?_
         obtain ⟨r1913, hr1913, hF⟩ := ob hF
         refine o_callS hS Try.func16 rfl rfl (hc := (w_r0_EqState (a0 := r1878.1) (a1 := (⟨[], [], [], 0, [], 0, [], 0, [], 0, 0⟩ : T_State)) (h0 := ⟨_, _, _, _, _, _, rfl, (OwT.plus hR0_0_1887 hS (fun p hp => mC (mA (hp)))), (OwT.plus hR0_1_1891 hS (fun p hp => mC (mB (mA (hp))))), (OwT.plus hR0_2_1895 hS (fun p hp => mC (mB (mB (mA (hp)))))), (OwT.plus hR0_4_1899 hS (fun p hp => mC (mB (mB (mB (mA (hp))))))), (OwT.plus hR0_6_1903 hS (fun p hp => mC (mB (mB (mB (mB (mA (hp)))))))), (OwT.plus hR0_8_1907 hS (fun p hp => mC (mB (mB (mB (mB (mB (mA (hp)))))))))⟩) (h1 := ⟨_, _, _, _, _, _, rfl, (SlR.nil _ _), (SlR.nil _ _), (SlR.nil _ _), (SlR.nil _ _), (SlR.nil _ _), (SlR.nil _ _)⟩) (hF := hr1913))) (h := ?_)
         clear hS; intro w hS
         refine oy hS y_pickT ?_
         refine o_split (ht := fun c1914 => ?_) (hf := fun c1914 => ?_)
         · replace hF := bt c1914 hF
           refine o_gu rfl rfl rfl ?_
           obtain ⟨r1915, hr1915, hF⟩ := ob hF
           refine o_callS hS Try.func20 rfl rfl (hc := (w_l5_wakes  (hF := hr1915))) (h := ?_)
           clear hS; intro w hS
           refine oy hS y_pickT ?_
           refine oy hS y_assign ?_
           refine n_thenN ?_
           obtain rfl := Option.some.inj hF
           obtain rfl : _ = z1679 := hK1874
           obtain rfl : _ = r := hK1680
           exact wp_ret (wr1 hS)
         replace hF := bf c1914 hF
         refine o_sk rfl rfl ?_
         refine oy hS y_pickF ?_
         refine oy hS y_assign ?_
         refine n_thenN ?_
         obtain rfl := Option.some.inj hF
         obtain rfl : _ = z1679 := hK1874
         obtain rfl : _ = r := hK1680
         exact wp_ret (wr1 hS)
       replace hF := bf c1912 hF
       iterate 3 (refine o_sk rfl rfl ?_)
       refine oy hS y_pickF ?_
       refine oy hS y_move ?_
       refine o_sk rfl rfl ?_
       refine oy hS y_pickF ?_
       refine oy hS y_assign ?_
       refine n_thenN ?_
       obtain rfl := Option.some.inj hF
       obtain rfl : _ = z1679 := hK1874
       obtain rfl : _ = r := hK1680
       exact wp_ret (wr1 hS)
     replace hF := bf c1911 hF
     refine wp_skip ?_
     refine c_seq ?_
     refine c_region ?_
     refine oy hS (y_field fa_sledgelaw5_Script_0) ?_
     refine oy hS (y_load (fun w hS => hS.own (mC (mB (mB (mB (mB (mB (mB (mH))))))))) Try.underlying22 rfl rfl) ?_
     refine oy hS (y_loadW (fun w hS => hS.own (mC (mB (mB (mB (mB (mB (mB (mC (mC (mH))))))))))) Try.underlying27 rfl (by exact sz_api_State)) ?_
     obtain ⟨r1916, hr1916, hF⟩ := ob hF
     refine o_call (L1 := []) (L2 := ((b1909, blk [vR0_0_1885, vR0_1_1889, vR0_2_1893, .int .i64 r1878.1.Taken, vR0_4_1897, .int .i64 r1878.1.PC, vR0_6_1901, .int .i64 r1878.1.Stop, vR0_8_1905, .int .i64 r1878.1.Jump, .int .i64 r1878.1.Delay] 27) :: (LXR0_0_1886 ++ (LXR0_1_1890 ++ (LXR0_2_1894 ++ (LXR0_4_1898 ++ (LXR0_6_1902 ++ (LXR0_8_1906 ++ ((b1, blk [v0_0_, v0_1_, v0_2_, v0_3_, .int .i64 a0.S.Taken, v0_5_, .int .i64 a0.S.PC, v0_7_, .int .i64 a0.S.Stop, v0_9_, .int .i64 a0.S.Jump, .int .i64 a0.S.Delay, v0_12_, v0_13_] 29) :: ((b44, blk [v51, v56, v61, .int .i64 x65, v67, .int .i64 x71, v73, .int .i64 x77, v79, .int .i64 x83, .int .i64 x84] 27) :: ((b1404, blk [v1761, v1766, v1771, .int .i64 x1775, v1777, .int .i64 x1781, v1783, .int .i64 x1787, v1789, .int .i64 x1793, .int .i64 x1794] 27) :: (LX53 ++ (LX58 ++ (LX63 ++ (LX69 ++ (LX75 ++ (LX81 ++ (LX1763 ++ (LX1768 ++ (LX1773 ++ (LX1779 ++ (LX1785 ++ (LX1791 ++ (LX48 ++ [])))))))))))))))))))))))) hS Try.func30 rfl rfl (hc := (w_r5_Run (a0 := a0.P) (a1 := (⟨x1760, x1765, x1770, x1775, x1776, x1781, x1782, x1787, x1788, x1793, x1794⟩ : T_State)) (a2 := 1) (h0 := h0_0_.plus) (h1 := ⟨_, _, _, _, _, _, rfl, (OwT.plus h1762 hS (fun p hp => mC (mB (mB (mB (mB (mB (mB (mC (mC (mC (mB (mB (mB (mB (mB (mB (mA (hp))))))))))))))))))), (OwT.plus h1767 hS (fun p hp => mC (mB (mB (mB (mB (mB (mB (mC (mC (mC (mB (mB (mB (mB (mB (mB (mB (mA (hp)))))))))))))))))))), (OwT.plus h1772 hS (fun p hp => mC (mB (mB (mB (mB (mB (mB (mC (mC (mC (mB (mB (mB (mB (mB (mB (mB (mB (mA (hp))))))))))))))))))))), (OwT.plus h1778 hS (fun p hp => mC (mB (mB (mB (mB (mB (mB (mC (mC (mC (mB (mB (mB (mB (mB (mB (mB (mB (mB (mA (hp)))))))))))))))))))))), (OwT.plus h1784 hS (fun p hp => mC (mB (mB (mB (mB (mB (mB (mC (mC (mC (mB (mB (mB (mB (mB (mB (mB (mB (mB (mB (mA (hp))))))))))))))))))))))), (OwT.plus h1790 hS (fun p hp => mC (mB (mB (mB (mB (mB (mB (mC (mC (mC (mB (mB (mB (mB (mB (mB (mB (mB (mB (mB (mB (mA (hp))))))))))))))))))))))))⟩) (hF := hr1916))) (h := ?_)
     clear hS; intro v1917 LY1918 w hS hr1919
     obtain ⟨v_0_1920, LX_0_1921, rfl, rfl, h_0_1922⟩ := hr1919
     obtain ⟨vR0_0_1923, vR0_1_1927, vR0_2_1931, vR0_4_1935, vR0_6_1939, vR0_8_1943, LXR0_0_1924, LXR0_1_1928, LXR0_2_1932, LXR0_4_1936, LXR0_6_1940, LXR0_8_1944, rfl, rfl, hR0_0_1925, hR0_1_1929, hR0_2_1933, hR0_4_1937, hR0_6_1941, hR0_8_1945⟩ := h_0_1922
     simp only [List.append_assoc, List.cons_append, List.nil_append] at hS
     refine oy hS y_move ?_
     iterate 2 (refine oy hS (y_extract rfl) ?_)
     refine o_allocP (cl := [(.slice none 0 0), (.slice none 0 0), (.slice none 0 0), .int .i64 0, (.slice none 0 0), .int .i64 0, (.slice none 0 0), .int .i64 0, (.slice none 0 0), .int .i64 0, .int .i64 0]) zr_api_State rfl hS ?_
     clear hS; intro b1947 w hS
     refine o_storeP (vs := [vR0_0_1923, vR0_1_1927, vR0_2_1931, .int .i64 r1916.1.Taken, vR0_4_1935, .int .i64 r1916.1.PC, vR0_6_1939, .int .i64 r1916.1.Stop, vR0_8_1943, .int .i64 r1916.1.Jump, .int .i64 r1916.1.Delay]) hS (hm := Upd.here _) (hi := by exact sz_api_State) (h1 := (onC (hR0_0_1925).one (onC (hR0_1_1929).one (onC (hR0_2_1933).one (onC rfl (onC (hR0_4_1937).one (onC rfl (onC (hR0_6_1941).one (onC rfl (onC (hR0_8_1945).one (onC rfl (onC rfl onN)))))))))))) ?_
     clear hS; intro w hS
     refine oy hS y_assign ?_
     refine n_thenN ?_
     iterate 2 (refine c_seq ?_)
     refine c_region ?_
     refine oy hS y_move ?_
     refine o_callS hS Try.func15 rfl rfl (hc := (w_l5_num (a0 := r1878.2))) (h := ?_)
     clear hS; intro w hS
     refine oy hS y_bin ?_
     refine o_split (ht := fun c1948 => ?_) (hf := fun c1948 => ?_)
     · replace hF := bt c1948 hF
       iterate 4 (refine o_sk rfl rfl ?_)
       refine oy hS y_pickT ?_
       refine n_thenN ?_
       refine c_if_true (h := ?_)
       refine c_seq ?_
       refine c_region ?_
       refine oy hS y_assign ?_
       refine n_thenN ?_
       obtain rfl := Option.some.inj hF
       obtain rfl : _ = z1679 := hK1874
       obtain rfl : _ = r := hK1680
       exact wp_ret (wr1 hS)
     replace hF := bf c1948 hF
     refine o_gu rfl rfl rfl ?_
     refine oy hS (y_loadW (fun w hS => hS.own (mC (mB (mB (mB (mB (mB (mB (mH))))))))) Try.underlying27 rfl (by exact sz_api_State)) ?_
     refine o_gu rfl rfl rfl ?_
     refine oy hS (y_loadW (fun w hS => hS.own (mH)) Try.underlying27 rfl (by exact sz_api_State)) ?_
     refine o_gu rfl rfl rfl ?_
     obtain ⟨r1949, hr1949, hF⟩ := ob hF
     refine o_callS hS Try.func16 rfl rfl (hc := (w_r0_EqState (a0 := r1878.1) (a1 := r1916.1) (h0 := ⟨_, _, _, _, _, _, rfl, (OwT.plus hR0_0_1887 hS (fun p hp => mC (mB (mB (mB (mB (mB (mB (mC (mA (hp))))))))))), (OwT.plus hR0_1_1891 hS (fun p hp => mC (mB (mB (mB (mB (mB (mB (mC (mB (mA (hp)))))))))))), (OwT.plus hR0_2_1895 hS (fun p hp => mC (mB (mB (mB (mB (mB (mB (mC (mB (mB (mA (hp))))))))))))), (OwT.plus hR0_4_1899 hS (fun p hp => mC (mB (mB (mB (mB (mB (mB (mC (mB (mB (mB (mA (hp)))))))))))))), (OwT.plus hR0_6_1903 hS (fun p hp => mC (mB (mB (mB (mB (mB (mB (mC (mB (mB (mB (mB (mA (hp))))))))))))))), (OwT.plus hR0_8_1907 hS (fun p hp => mC (mB (mB (mB (mB (mB (mB (mC (mB (mB (mB (mB (mB (mA (hp))))))))))))))))⟩) (h1 := ⟨_, _, _, _, _, _, rfl, (OwT.plus hR0_0_1925 hS (fun p hp => mC (mA (hp)))), (OwT.plus hR0_1_1929 hS (fun p hp => mC (mB (mA (hp))))), (OwT.plus hR0_2_1933 hS (fun p hp => mC (mB (mB (mA (hp)))))), (OwT.plus hR0_4_1937 hS (fun p hp => mC (mB (mB (mB (mA (hp))))))), (OwT.plus hR0_6_1941 hS (fun p hp => mC (mB (mB (mB (mB (mA (hp)))))))), (OwT.plus hR0_8_1945 hS (fun p hp => mC (mB (mB (mB (mB (mB (mA (hp)))))))))⟩) (hF := hr1949))) (h := ?_)
     clear hS; intro w hS
     refine o_gu rfl rfl rfl ?_
     refine oy hS y_not ?_
     refine oy hS y_pickF ?_
     refine n_thenN ?_
     refine c_if (ht := fun c1950 => ?_) (hf := fun c1950 => ?_)
     · replace hF := bt c1950 hF
       refine c_seq ?_
       refine c_region ?_
       refine oy hS y_assign ?_
       refine n_thenN ?_
       obtain rfl := Option.some.inj hF
       obtain rfl : _ = z1679 := hK1874
       obtain rfl : _ = r := hK1680
       exact wp_ret (wr1 hS)
     replace hF := bf c1950 hF
     refine wp_skip ?_
     refine c_seq ?_
     refine c_region ?_
     refine oy hS (y_loadW (fun w hS => hS.own (mC (mB (mB (mB (mB (mB (mB (mH))))))))) Try.underlying27 rfl (by exact sz_api_State)) ?_
     have hS : St W g [] (LXR0_0_1886 ++ (LXR0_1_1890 ++ (LXR0_2_1894 ++ (LXR0_4_1898 ++ (LXR0_6_1902 ++ (LXR0_8_1906 ++ ((b1947, blk [vR0_0_1923, vR0_1_1927, vR0_2_1931, .int .i64 r1916.1.Taken, vR0_4_1935, .int .i64 r1916.1.PC, vR0_6_1939, .int .i64 r1916.1.Stop, vR0_8_1943, .int .i64 r1916.1.Jump, .int .i64 r1916.1.Delay] 27) :: (LXR0_0_1924 ++ (LXR0_1_1928 ++ (LXR0_2_1932 ++ (LXR0_4_1936 ++ (LXR0_6_1940 ++ (LXR0_8_1944 ++ ((b1909, blk [vR0_0_1885, vR0_1_1889, vR0_2_1893, .int .i64 r1878.1.Taken, vR0_4_1897, .int .i64 r1878.1.PC, vR0_6_1901, .int .i64 r1878.1.Stop, vR0_8_1905, .int .i64 r1878.1.Jump, .int .i64 r1878.1.Delay] 27) :: ((b1, blk [v0_0_, v0_1_, v0_2_, v0_3_, .int .i64 a0.S.Taken, v0_5_, .int .i64 a0.S.PC, v0_7_, .int .i64 a0.S.Stop, v0_9_, .int .i64 a0.S.Jump, .int .i64 a0.S.Delay, v0_12_, v0_13_] 29) :: ((b44, blk [v51, v56, v61, .int .i64 x65, v67, .int .i64 x71, v73, .int .i64 x77, v79, .int .i64 x83, .int .i64 x84] 27) :: ((b1404, blk [v1761, v1766, v1771, .int .i64 x1775, v1777, .int .i64 x1781, v1783, .int .i64 x1787, v1789, .int .i64 x1793, .int .i64 x1794] 27) :: (LX53 ++ (LX58 ++ (LX63 ++ (LX69 ++ (LX75 ++ (LX81 ++ (LX1763 ++ (LX1768 ++ (LX1773 ++ (LX1779 ++ (LX1785 ++ (LX1791 ++ (LX48 ++ [])))))))))))))))))))))))))))))) w := hS.re (.take (.thereb _ (.there _ (.there _ (.there _ (.there _ (.there _ (.there _ (.thereb _ (.here _ _))))))))) (.take (.thereb _ (.there _ (.there _ (.there _ (.there _ (.there _ (.there _ (.thereb _ (.here _ _))))))))) (.take (.thereb _ (.there _ (.there _ (.there _ (.there _ (.there _ (.there _ (.thereb _ (.here _ _))))))))) (.take (.thereb _ (.there _ (.there _ (.there _ (.there _ (.there _ (.there _ (.thereb _ (.here _ _))))))))) (.take (.thereb _ (.there _ (.there _ (.there _ (.there _ (.there _ (.there _ (.thereb _ (.here _ _))))))))) (.take (.thereb _ (.there _ (.there _ (.there _ (.there _ (.there _ (.there _ (.thereb _ (.here _ _))))))))) (.takeb (.hereb _ _) (.take (.here _ _) (.take (.here _ _) (.take (.here _ _) (.take (.here _ _) (.take (.here _ _) (.take (.here _ _) (.takeb (.hereb _ _) (.takeb (.hereb _ _) (.takeb (.hereb _ _) (.takeb (.hereb _ _) (.take (.here _ _) (.take (.here _ _) (.take (.here _ _) (.take (.here _ _) (.take (.here _ _) (.take (.here _ _) (.take (.here _ _) (.take (.here _ _) (.take (.here _ _) (.take (.here _ _) (.take (.here _ _) (.take (.here _ _) (.take (.here _ _) (.nil _)))))))))))))))))))))))))))))))
     have hS2 : St W g [] ((LXR0_0_1886 ++ (LXR0_1_1890 ++ (LXR0_2_1894 ++ (LXR0_4_1898 ++ (LXR0_6_1902 ++ (LXR0_8_1906 ++ [])))))) ++ ((b1947, blk [vR0_0_1923, vR0_1_1927, vR0_2_1931, .int .i64 r1916.1.Taken, vR0_4_1935, .int .i64 r1916.1.PC, vR0_6_1939, .int .i64 r1916.1.Stop, vR0_8_1943, .int .i64 r1916.1.Jump, .int .i64 r1916.1.Delay] 27) :: (LXR0_0_1924 ++ (LXR0_1_1928 ++ (LXR0_2_1932 ++ (LXR0_4_1936 ++ (LXR0_6_1940 ++ (LXR0_8_1944 ++ ((b1909, blk [vR0_0_1885, vR0_1_1889, vR0_2_1893, .int .i64 r1878.1.Taken, vR0_4_1897, .int .i64 r1878.1.PC, vR0_6_1901, .int .i64 r1878.1.Stop, vR0_8_1905, .int .i64 r1878.1.Jump, .int .i64 r1878.1.Delay] 27) :: ((b1, blk [v0_0_, v0_1_, v0_2_, v0_3_, .int .i64 a0.S.Taken, v0_5_, .int .i64 a0.S.PC, v0_7_, .int .i64 a0.S.Stop, v0_9_, .int .i64 a0.S.Jump, .int .i64 a0.S.Delay, v0_12_, v0_13_] 29) :: ((b44, blk [v51, v56, v61, .int .i64 x65, v67, .int .i64 x71, v73, .int .i64 x77, v79, .int .i64 x83, .int .i64 x84] 27) :: ((b1404, blk [v1761, v1766, v1771, .int .i64 x1775, v1777, .int .i64 x1781, v1783, .int .i64 x1787, v1789, .int .i64 x1793, .int .i64 x1794] 27) :: (LX53 ++ (LX58 ++ (LX63 ++ (LX69 ++ (LX75 ++ (LX81 ++ (LX1763 ++ (LX1768 ++ (LX1773 ++ (LX1779 ++ (LX1785 ++ (LX1791 ++ (LX48 ++ []))))))))))))))))))))))))) w := by simpa only [List.append_assoc, List.cons_append, List.nil_append, List.append_nil] using hS
     obtain ⟨r1951, hr1951, hF⟩ := ob hF
     refine o_call (L1 := (LXR0_0_1886 ++ (LXR0_1_1890 ++ (LXR0_2_1894 ++ (LXR0_4_1898 ++ (LXR0_6_1902 ++ (LXR0_8_1906 ++ []))))))) (L2 := ((b1947, blk [vR0_0_1923, vR0_1_1927, vR0_2_1931, .int .i64 r1916.1.Taken, vR0_4_1935, .int .i64 r1916.1.PC, vR0_6_1939, .int .i64 r1916.1.Stop, vR0_8_1943, .int .i64 r1916.1.Jump, .int .i64 r1916.1.Delay] 27) :: (LXR0_0_1924 ++ (LXR0_1_1928 ++ (LXR0_2_1932 ++ (LXR0_4_1936 ++ (LXR0_6_1940 ++ (LXR0_8_1944 ++ ((b1909, blk [vR0_0_1885, vR0_1_1889, vR0_2_1893, .int .i64 r1878.1.Taken, vR0_4_1897, .int .i64 r1878.1.PC, vR0_6_1901, .int .i64 r1878.1.Stop, vR0_8_1905, .int .i64 r1878.1.Jump, .int .i64 r1878.1.Delay] 27) :: ((b1, blk [v0_0_, v0_1_, v0_2_, v0_3_, .int .i64 a0.S.Taken, v0_5_, .int .i64 a0.S.PC, v0_7_, .int .i64 a0.S.Stop, v0_9_, .int .i64 a0.S.Jump, .int .i64 a0.S.Delay, v0_12_, v0_13_] 29) :: ((b44, blk [v51, v56, v61, .int .i64 x65, v67, .int .i64 x71, v73, .int .i64 x77, v79, .int .i64 x83, .int .i64 x84] 27) :: ((b1404, blk [v1761, v1766, v1771, .int .i64 x1775, v1777, .int .i64 x1781, v1783, .int .i64 x1787, v1789, .int .i64 x1793, .int .i64 x1794] 27) :: (LX53 ++ (LX58 ++ (LX63 ++ (LX69 ++ (LX75 ++ (LX81 ++ (LX1763 ++ (LX1768 ++ (LX1773 ++ (LX1779 ++ (LX1785 ++ (LX1791 ++ (LX48 ++ []))))))))))))))))))))))))) hS2 Try.func32 rfl rfl (hc := (w_l0_State (a0 := r1878.1) (h0 := (⟨_, _, _, _, _, _, _, _, _, _, _, _, rfl, rfl, hR0_0_1887, hR0_1_1891, hR0_2_1895, hR0_4_1899, hR0_6_1903, hR0_8_1907⟩ : Ow_State r1878.1 (.agg #[vR0_0_1885, vR0_1_1889, vR0_2_1893, .int .i64 r1878.1.Taken, vR0_4_1897, .int .i64 r1878.1.PC, vR0_6_1901, .int .i64 r1878.1.Stop, vR0_8_1905, .int .i64 r1878.1.Jump, .int .i64 r1878.1.Delay]) (LXR0_0_1886 ++ (LXR0_1_1890 ++ (LXR0_2_1894 ++ (LXR0_4_1898 ++ (LXR0_6_1902 ++ (LXR0_8_1906 ++ [])))))))) (hF := hr1951))) (h := ?_)
     clear hS; intro v1952 LY1953 w hS hr1954
     clear hS2
     obtain ⟨rfl, rfl⟩ := hr1954
     refine n_thenN ?_
     refine c_region ?_
     refine oy hS (y_loadW (fun w hS => hS.own (mH)) Try.underlying27 rfl (by exact sz_api_State)) ?_
     have hS : St W g [] ((b1404, blk [v1761, v1766, v1771, .int .i64 x1775, v1777, .int .i64 x1781, v1783, .int .i64 x1787, v1789, .int .i64 x1793, .int .i64 x1794] 27) :: ((b1947, blk [vR0_0_1923, vR0_1_1927, vR0_2_1931, .int .i64 r1916.1.Taken, vR0_4_1935, .int .i64 r1916.1.PC, vR0_6_1939, .int .i64 r1916.1.Stop, vR0_8_1943, .int .i64 r1916.1.Jump, .int .i64 r1916.1.Delay] 27) :: (LXR0_0_1924 ++ (LXR0_1_1928 ++ (LXR0_2_1932 ++ (LXR0_4_1936 ++ (LXR0_6_1940 ++ (LXR0_8_1944 ++ ((b1909, blk [vR0_0_1885, vR0_1_1889, vR0_2_1893, .int .i64 r1878.1.Taken, vR0_4_1897, .int .i64 r1878.1.PC, vR0_6_1901, .int .i64 r1878.1.Stop, vR0_8_1905, .int .i64 r1878.1.Jump, .int .i64 r1878.1.Delay] 27) :: ((b1, blk [v0_0_, v0_1_, v0_2_, v0_3_, .int .i64 a0.S.Taken, v0_5_, .int .i64 a0.S.PC, v0_7_, .int .i64 a0.S.Stop, v0_9_, .int .i64 a0.S.Jump, .int .i64 a0.S.Delay, v0_12_, v0_13_] 29) :: ((b44, blk [v51, v56, v61, .int .i64 x65, v67, .int .i64 x71, v73, .int .i64 x77, v79, .int .i64 x83, .int .i64 x84] 27) :: (LX53 ++ (LX58 ++ (LX63 ++ (LX69 ++ (LX75 ++ (LX81 ++ (LX1763 ++ (LX1768 ++ (LX1773 ++ (LX1779 ++ (LX1785 ++ (LX1791 ++ (LX48 ++ [])))))))))))))))))))))))) w := hS.re (.takeb (.thereb _ (.there _ (.there _ (.there _ (.there _ (.there _ (.there _ (.thereb _ (.thereb _ (.thereb _ (.hereb _ _))))))))))) (.takeb (.hereb _ _) (.take (.here _ _) (.take (.here _ _) (.take (.here _ _) (.take (.here _ _) (.take (.here _ _) (.take (.here _ _) (.takeb (.hereb _ _) (.takeb (.hereb _ _) (.takeb (.hereb _ _) (.take (.here _ _) (.take (.here _ _) (.take (.here _ _) (.take (.here _ _) (.take (.here _ _) (.take (.here _ _) (.take (.here _ _) (.take (.here _ _) (.take (.here _ _) (.take (.here _ _) (.take (.here _ _) (.take (.here _ _) (.take (.here _ _) (.nil _)))))))))))))))))))))))))
     refine o_storeP (vs := [vR0_0_1923, vR0_1_1927, vR0_2_1931, .int .i64 r1916.1.Taken, vR0_4_1935, .int .i64 r1916.1.PC, vR0_6_1939, .int .i64 r1916.1.Stop, vR0_8_1943, .int .i64 r1916.1.Jump, .int .i64 r1916.1.Delay]) hS (hm := Upd.here _) (hi := by exact sz_api_State) (h1 := (onC (hR0_0_1925).one (onC (hR0_1_1929).one (onC (hR0_2_1933).one (onC rfl (onC (hR0_4_1937).one (onC rfl (onC (hR0_6_1941).one (onC rfl (onC (hR0_8_1945).one (onC rfl (onC rfl onN)))))))))))) ?_
     clear hS; intro w hS
     refine n_anyN ?_
     refine c_region ?_
     refine oy hS y_move ?_
     refine oy hS y_bin ?_
     refine oy hS y_assign ?_
     refine n_thenN ?_
     obtain rfl := Option.some.inj hF
     exact ⟨_, hK1874, vR0_0_1923, vR0_1_1927, vR0_2_1931, vR0_4_1935, vR0_6_1939, vR0_8_1943, LXR0_0_1924, LXR0_1_1928, LXR0_2_1932, LXR0_4_1936, LXR0_6_1940, LXR0_8_1944, hR0_0_1925, hR0_1_1929, hR0_2_1933, hR0_4_1937, hR0_6_1941, hR0_8_1945, mk_ex, (hS.re (.takeb (.thereb _ (.thereb _ (.there _ (.there _ (.there _ (.there _ (.there _ (.there _ (.thereb _ (.hereb _ _)))))))))) (.takeb (.thereb _ (.thereb _ (.there _ (.there _ (.there _ (.there _ (.there _ (.there _ (.thereb _ (.hereb _ _)))))))))) (.takeb (.hereb _ _) (.take (.thereb _ (.there _ (.there _ (.there _ (.there _ (.there _ (.there _ (.thereb _ (.here _ _))))))))) (.take (.thereb _ (.there _ (.there _ (.there _ (.there _ (.there _ (.there _ (.thereb _ (.here _ _))))))))) (.take (.thereb _ (.there _ (.there _ (.there _ (.there _ (.there _ (.there _ (.thereb _ (.here _ _))))))))) (.take (.thereb _ (.there _ (.there _ (.there _ (.there _ (.there _ (.there _ (.thereb _ (.here _ _))))))))) (.take (.thereb _ (.there _ (.there _ (.there _ (.there _ (.there _ (.there _ (.thereb _ (.here _ _))))))))) (.take (.thereb _ (.there _ (.there _ (.there _ (.there _ (.there _ (.there _ (.thereb _ (.here _ _))))))))) (.take (.thereb _ (.here _ _)) (.take (.thereb _ (.here _ _)) (.take (.thereb _ (.here _ _)) (.take (.thereb _ (.here _ _)) (.take (.thereb _ (.here _ _)) (.take (.thereb _ (.here _ _)) (.take (.thereb _ (.thereb _ (.there _ (.there _ (.there _ (.there _ (.there _ (.there _ (.here _ _))))))))) (.nil _))))))))))))))))))⟩
   replace hF := bf c1877 hF
   refine wp_exit ?_
   obtain rfl := Option.some.inj hF
   obtain rfl : _ = z1679 := hK1874
   change _ ∧ _
   exact ⟨hK1680, mk_ex, (hS.re (.takeb (.hereb _ _) (.takeb (.hereb _ _) (.take (.thereb _ (.here _ _)) (.take (.thereb _ (.here _ _)) (.take (.thereb _ (.here _ _)) (.take (.thereb _ (.here _ _)) (.take (.thereb _ (.here _ _)) (.take (.thereb _ (.here _ _)) (.nil _))))))))))⟩
 rintro a w ⟨hF, ⟨s1955, rfl⟩, hS⟩
 dsimp only [l5_SeqSteps_k8] at hF
 refine c_seq ?_
 refine c_region ?_
 refine oy hS (y_loadW (fun w hS => hS.own (mC (mH))) Try.underlying27 rfl (by exact sz_api_State)) ?_
 refine oy hS (y_field fa_sledgelaw5_Script_1) ?_
 refine oy hS (y_loadN (vs := [v0_1_, v0_2_, v0_3_, .int .i64 a0.S.Taken, v0_5_, .int .i64 a0.S.PC, v0_7_, .int .i64 a0.S.Stop, v0_9_, .int .i64 a0.S.Jump, .int .i64 a0.S.Delay]) (fun w hS => hS.own (mH)) Try.underlying27 rfl (by exact sz_api_State) (subc (pre := [v0_0_]) (vs := [v0_1_, v0_2_, v0_3_, .int .i64 a0.S.Taken, v0_5_, .int .i64 a0.S.PC, v0_7_, .int .i64 a0.S.Stop, v0_9_, .int .i64 a0.S.Jump, .int .i64 a0.S.Delay]) (post := [v0_12_, v0_13_]) rfl rfl)) ?_
 obtain ⟨r1956, hr1956, hF⟩ := ob hF
 refine o_callS hS Try.func16 rfl rfl (hc := (w_r0_EqState (a0 := (⟨x50, x55, x60, x65, x66, x71, x72, x77, x78, x83, x84⟩ : T_State)) (a1 := a0.S) (h0 := ⟨_, _, _, _, _, _, rfl, (OwT.plus h52 hS (fun p hp => mC (mC (mA (hp))))), (OwT.plus h57 hS (fun p hp => mC (mC (mB (mA (hp)))))), (OwT.plus h62 hS (fun p hp => mC (mC (mB (mB (mA (hp))))))), (OwT.plus h68 hS (fun p hp => mC (mC (mB (mB (mB (mA (hp)))))))), (OwT.plus h74 hS (fun p hp => mC (mC (mB (mB (mB (mB (mA (hp))))))))), (OwT.plus h80 hS (fun p hp => mC (mC (mB (mB (mB (mB (mB (mA (hp))))))))))⟩) (h1 := ⟨_, _, _, _, _, _, rfl, h0_1_.plus, h0_2_.plus, h0_3_.plus, h0_5_.plus, h0_7_.plus, h0_9_.plus⟩) (hF := hr1956))) (h := ?_)
 clear hS; intro w hS
 refine o_split (ht := fun c1957 => ?_) (hf := fun c1957 => ?_)
 · replace hF := bt c1957 hF
   refine o_gu rfl rfl rfl ?_
   obtain ⟨r1958, hr1958, hF⟩ := ob hF
   refine o_callS hS Try.func20 rfl rfl (hc := (w_l5_wakes  (hF := hr1958))) (h := ?_)
   clear hS; intro w hS
   refine oy hS y_pickT ?_
   refine oy hS y_assign ?_
   refine n_thenN ?_
   obtain rfl := Option.some.inj hF
   exact wp_ret (wr1 hS)
 replace hF := bf c1957 hF
 refine o_sk rfl rfl ?_
 refine oy hS y_pickF ?_
 refine oy hS y_assign ?_
 refine n_thenN ?_
 obtain rfl := Option.some.inj hF
 exact wp_ret (wr1 hS)
theorem w_l5_SeqSteps {g : Frag} {a0 : T_Script} {v0_ : Value} {r : Bool} (h0 : Rd_Script g a0 v0_) (hF : l5_SeqSteps a0 = some r) : LCs Try.prog 11 #[v0_] g (.bool r) := w_l5_SeqSteps_ h0 hF
end Go.Proofs.Ytadajdcbeegabaa
