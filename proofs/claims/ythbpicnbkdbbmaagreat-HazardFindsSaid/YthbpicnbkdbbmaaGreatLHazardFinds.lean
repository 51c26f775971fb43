/- The law HazardFinds, lifted. Printed by lift.py. -/
import Derived.Test.YthbpicnbkdbbmaaGreatProg
import Derived.Test.YthbpicnbkdbbmaaGreatP11
import Derived.KernelRfl
namespace Go.Proofs.YthbpicnbkdbbmaaGreat
open Go Go.RowKit Fr
set_option linter.unusedVariables false
set_option linter.unusedSimpArgs false
set_option maxRecDepth 20000
open Tryz
set_option maxHeartbeats 2000000
noncomputable def l7_HazardFinds_k5 (x45 : (List (A4 T_Ins))) (x50 : (List Int)) (x55 : (List Int)) (x60 : (List Int)) (x65 : Int) (x66 : (List Int)) (x71 : Int) (x72 : (List Int)) (x77 : Int) (x78 : (List T_Write)) (x83 : Int) (x84 : Int) (r128 : Bool) (a0 : T_Script) (x552 : Int) : Int → Option (Step Int (Step Unit Bool)) := fun x677 => (hazard_Run x45 (⟨x50, x55, x60, x65, x66, x71, x72, x77, x78, x83, x84⟩ : T_State) x677).bind fun r683 => bif r128 then bif (r0_Num x677 20000) then (r5_Cycles a0.C a0.S x677 true).bind fun r718 => bif decide ((l7_num r683.2.2) ≠ 0) then some (.done (.done (false))) else bif decide (r683.2.1 ≠ r718.2) then some (.done (.done (false))) else (r0_EqState r683.1 r718.1).bind fun r751 => bif !r751 then some (.done (.done (false))) else some (.next (IntKind.i64.wrap (x552 + 1))) else bif decide ((l7_num r683.2.2) ≠ 1) then some (.done (.done (false))) else bif decide (r683.2.1 ≠ 0) then some (.done (.done (false))) else (r0_EqState r683.1 (⟨[], [], [], 0, [], 0, [], 0, [], 0, 0⟩ : T_State)).bind fun r755 => bif !r755 then some (.done (.done (false))) else some (.next (IntKind.i64.wrap (x552 + 1))) else bif decide ((l7_num r683.2.2) ≠ 1) then some (.done (.done (false))) else bif decide (r683.2.1 ≠ 0) then some (.done (.done (false))) else (r0_EqState r683.1 (⟨[], [], [], 0, [], 0, [], 0, [], 0, 0⟩ : T_State)).bind fun r759 => bif !r759 then some (.done (.done (false))) else some (.next (IntKind.i64.wrap (x552 + 1)))
noncomputable def l7_HazardFinds_k4 (zs136 : (List Int)) (x552 : Int) (x45 : (List (A4 T_Ins))) (x50 : (List Int)) (x55 : (List Int)) (x60 : (List Int)) (x65 : Int) (x66 : (List Int)) (x71 : Int) (x72 : (List Int)) (x77 : Int) (x78 : (List T_Write)) (x83 : Int) (x84 : Int) (r128 : Bool) (a0 : T_Script) : Unit → Option (Step Int (Step Unit Bool)) := fun _ => (at' zs136 x552).bind fun x666 => cut (σ := Int) (bif decide (150 < x666) then bif decide (x666 ≤ 20000) then some (.next 150) else some (.next x666) else some (.next x666)) (l7_HazardFinds_k5 x45 x50 x55 x60 x65 x66 x71 x72 x77 x78 x83 x84 r128 a0 x552)
noncomputable def l7_HazardFinds_b3 (zs136 : (List Int)) (x45 : (List (A4 T_Ins))) (x50 : (List Int)) (x55 : (List Int)) (x60 : (List Int)) (x65 : Int) (x66 : (List Int)) (x71 : Int) (x72 : (List Int)) (x77 : Int) (x78 : (List T_Write)) (x83 : Int) (x84 : Int) (r128 : Bool) (a0 : T_Script) : Int → Option (Step Int (Step Unit Bool)) := fun x552 => cut (σ := Unit) (bif decide (x552 < (zs136.length : Int)) then bif decide (x552 < 8) then some (.next ()) else some (.done (.done (.next ()))) else some (.done (.done (.next ())))) (l7_HazardFinds_k4 zs136 x552 x45 x50 x55 x60 x65 x66 x71 x72 x77 x78 x83 x84 r128 a0)
noncomputable def l7_HazardFinds_b7 (x45 : (List (A4 T_Ins))) (r128 : Bool) (a0 : T_Script) : (Int × (List Int) × (List Int) × (List Int) × Int × (List Int) × Int × (List Int) × Int × (List T_Write) × Int × Int) → Option (Step (Int × (List Int) × (List Int) × (List Int) × Int × (List Int) × Int × (List Int) × Int × (List T_Write) × Int × Int) (Step Unit Bool)) := fun (x1296, x1297, x1302, x1307, x1312, x1313, x1318, x1319, x1324, x1325, x1330, x1331) => bif decide (x1296 < 30) then (hazard_Find x45 (⟨x1297, x1302, x1307, x1312, x1313, x1318, x1319, x1324, x1325, x1330, x1331⟩ : T_State)).bind fun r1452 => (hazard_Cycle x45 (⟨x1297, x1302, x1307, x1312, x1313, x1318, x1319, x1324, x1325, x1330, x1331⟩ : T_State)).bind fun r1453 => bif !r128 then bif decide ((l7_num r1452.2) = 1) then bif decide (r1452.1 = 0) then bif decide ((l7_num r1453.2) = 1) then (r0_EqState r1453.1 (⟨[], [], [], 0, [], 0, [], 0, [], 0, 0⟩ : T_State)).bind fun r1489 => bif r1489 then (l7_wakes).bind fun r1491 => some (.done (.done (r1491))) else some (.done (.done (false))) else some (.done (.done (false))) else some (.done (.done (false))) else some (.done (.done (false))) else (r5_Cycles a0.C (⟨x1297, x1302, x1307, x1312, x1313, x1318, x1319, x1324, x1325, x1330, x1331⟩ : T_State) 1 true).bind fun r1492 => bif decide ((l7_num r1452.2) ≠ 0) then some (.done (.done (false))) else (r5_Find a0.C (⟨x1297, x1302, x1307, x1312, x1313, x1318, x1319, x1324, x1325, x1330, x1331⟩ : T_State)).bind fun r1525 => bif decide (r1452.1 ≠ r1525) then some (.done (.done (false))) else bif decide ((l7_num r1453.2) ≠ 0) then some (.done (.done (false))) else (r0_EqState r1453.1 r1492.1).bind fun r1528 => bif !r1528 then some (.done (.done (false))) else (l0_State r1453.1).bind fun r1530 => (rem' x1296 2).bind fun x1534 => (r5_Cycles a0.C (⟨x1297, x1302, x1307, x1312, x1313, x1318, x1319, x1324, x1325, x1330, x1331⟩ : T_State) 1 (decide (x1534 = 0))).bind fun r1535 => some (.next (IntKind.i64.wrap (x1296 + 1), r1535.1.Regs, r1535.1.Mem, r1535.1.In_, r1535.1.Taken, r1535.1.Out, r1535.1.PC, r1535.1.Stack, r1535.1.Stop, r1535.1.Fly, r1535.1.Jump, r1535.1.Delay)) else some (.done (.next ()))
noncomputable def l7_HazardFinds_k6 (x50 : (List Int)) (x55 : (List Int)) (x60 : (List Int)) (x65 : Int) (x66 : (List Int)) (x71 : Int) (x72 : (List Int)) (x77 : Int) (x78 : (List T_Write)) (x83 : Int) (x84 : Int) (a0 : T_Script) (x45 : (List (A4 T_Ins))) : Unit → Option Bool := fun _ => (r0_EqState (⟨x50, x55, x60, x65, x66, x71, x72, x77, x78, x83, x84⟩ : T_State) a0.S).bind fun r1567 => bif r1567 then (r0_EqBundles x45 a0.C).bind fun r1569 => bif r1569 then (l7_wakes).bind fun r1571 => some (r1571) else some (false) else some (false)
noncomputable def l7_HazardFinds_k2 (a0 : T_Script) (x45 : (List (A4 T_Ins))) (r128 : Bool) (x50 : (List Int)) (x55 : (List Int)) (x60 : (List Int)) (x65 : Int) (x66 : (List Int)) (x71 : Int) (x72 : (List Int)) (x77 : Int) (x78 : (List T_Write)) (x83 : Int) (x84 : Int) : Unit → Option Bool := fun _ => (r0_CopyState a0.S).bind fun r762 => cut (σ := Unit) (loop (σ := (Int × (List Int) × (List Int) × (List Int) × Int × (List Int) × Int × (List Int) × Int × (List T_Write) × Int × Int)) (l7_HazardFinds_b7 x45 r128 a0) (0, r762.Regs, r762.Mem, r762.In_, r762.Taken, r762.Out, r762.PC, r762.Stack, r762.Stop, r762.Fly, r762.Jump, r762.Delay)) (l7_HazardFinds_k6 x50 x55 x60 x65 x66 x71 x72 x77 x78 x83 x84 a0 x45)
noncomputable def l7_HazardFinds_k1 (a0 : T_Script) : ((List (A4 T_Ins)) × (List Int) × (List Int) × (List Int) × Int × (List Int) × Int × (List Int) × Int × (List T_Write) × Int × Int) → Option Bool := fun (x45, x50, x55, x60, x65, x66, x71, x72, x77, x78, x83, x84) => (l6_May a0).bind fun r128 => (app' ([0, 1, 25, (-1), 20001] : List Int) a0.N).bind fun zs136 => cut (σ := Unit) (loop (σ := Int) (l7_HazardFinds_b3 zs136 x45 x50 x55 x60 x65 x66 x71 x72 x77 x78 x83 x84 r128 a0) 0) (l7_HazardFinds_k2 a0 x45 r128 x50 x55 x60 x65 x66 x71 x72 x77 x78 x83 x84)
noncomputable def l7_HazardFinds (a0 : T_Script) : Option Bool :=
  (l6_Heavy a0).bind fun r2 => bif r2 then some (true) else cut (σ := ((List (A4 T_Ins)) × (List Int) × (List Int) × (List Int) × Int × (List Int) × Int × (List Int) × Int × (List T_Write) × Int × Int)) ((r0_CopyState a0.S).bind fun r87 => (r0_CopyBundles a0.C).bind fun r118 => some (.next (r118, r87.Regs, r87.Mem, r87.In_, r87.Taken, r87.Out, r87.PC, r87.Stack, r87.Stop, r87.Fly, r87.Jump, r87.Delay))) (l7_HazardFinds_k1 a0)
theorem w_l7_HazardFinds_ {g : Frag} {a0 : T_Script} {v0_ : Value} {r : Bool} (h0 : Rd_Script g a0 v0_) (hF : l7_HazardFinds a0 = some r) : LCs Tryz.prog 9 #[v0_] g (.bool r) := by
 obtain ⟨v0_0_, v0_1_, v0_2_, v0_3_, v0_5_, v0_7_, v0_9_, v0_12_, rfl, h0_0_, h0_1_, h0_2_, h0_3_, h0_5_, h0_7_, h0_9_, h0_12_⟩ := h0
 unfold l7_HazardFinds at hF
 refine lc_body (k := 189) (av := [.agg (cl_Script v0_0_ v0_1_ v0_2_ v0_3_ a0.S.Taken v0_5_ a0.S.PC v0_7_ a0.S.Stop v0_9_ a0.S.Jump a0.S.Delay v0_12_).toArray]) func9 rfl rfl (h := fun W hS => ?_)
 refine c_seq <| c_region ?_
 refine o_boxP (cl := (cl_Script v0_0_ v0_1_ v0_2_ v0_3_ a0.S.Taken v0_5_ a0.S.PC v0_7_ a0.S.Stop v0_9_ a0.S.Jump a0.S.Delay v0_12_)) rfl hS ?_
 clear hS; intro b1 w hS
 refine oy hS y_assign <| n_thenN ?_
 iterate 2 (refine c_seq ?_)
 refine c_region ?_
 refine oy hS (y_loadW (fun w hS => hS.own (mH)) underlying29 rfl (by exact sz_sledgelaw6_Script)) ?_
 obtain ⟨r2, hr2, hF⟩ := ob hF
 refine o_callS hS func18 rfl rfl (hc := (w_l6_Heavy (a0 := a0) (h0 := ⟨_, _, _, _, _, _, _, _, rfl, h0_0_.plus, h0_1_.plus, h0_2_.plus, h0_3_.plus, h0_5_.plus, h0_7_.plus, h0_9_.plus, h0_12_.plus⟩) (hF := hr2))) (h := ?_)
 clear hS; intro w hS
 refine n_thenN ?_
 refine c_if (ht := fun c3 => ?_) (hf := fun c3 => ?_)
 · replace hF := bt c3 hF
   refine c_seq <| c_region <| oy hS y_assign <| n_thenN ?_
   obtain rfl := osi hF
   exact wp_ret (wr1 hS)
 replace hF := bf c3 hF
 refine wp_skip ?_
 obtain ⟨z85, hF, hK86⟩ := cut_step hF
 refine c_cutP (fun a w' => ∃ (x45 : (List (A4 T_Ins))) (x50 : (List Int)) (x55 : (List Int)) (x60 : (List Int)) (x65 : Int) (x66 : (List Int)) (x71 : Int) (x72 : (List Int)) (x77 : Int) (x78 : (List T_Write)) (x83 : Int) (x84 : Int) (v46 : Value) (v51 : Value) (v56 : Value) (v61 : Value) (v67 : Value) (v73 : Value) (v79 : Value) (LX48 : Own) (LX53 : Own) (LX58 : Own) (LX63 : Own) (LX69 : Own) (LX75 : Own) (LX81 : Own) (b44 : Nat), l7_HazardFinds_k1 a0 (x45, x50, x55, x60, x65, x66, x71, x72, x77, x78, x83, x84) = some r ∧ OwT 34 enc_Bundle 24 x45 v46 LX48 ∧ OwT 40 enc_uint32 1 x50 v51 LX53 ∧ OwT 40 enc_uint32 1 x55 v56 LX58 ∧ OwT 40 enc_uint32 1 x60 v61 LX63 ∧ OwT 40 enc_uint32 1 x66 v67 LX69 ∧ OwT 3 enc_int 1 x72 v73 LX75 ∧ OwT 73 enc_Write 3 x78 v79 LX81 ∧ (∃ s : Nat → Value, a = Ac ((((Fm.dead 189 s).upd 1 (.pointer (some ⟨b1, 0, none⟩))).upd 3 (.pointer (some ⟨b44, 0, none⟩))).upd 4 v46)) ∧ St W g [] ((b1, blk (cl_Script v0_0_ v0_1_ v0_2_ v0_3_ a0.S.Taken v0_5_ a0.S.PC v0_7_ a0.S.Stop v0_9_ a0.S.Jump a0.S.Delay v0_12_) 29) :: ((b44, blk (cl_State v51 v56 v61 x65 v67 x71 v73 x77 v79 x83 x84) 27) :: (LX53 ++ (LX58 ++ (LX63 ++ (LX69 ++ (LX75 ++ (LX81 ++ (LX48 ++ []))))))))) w') ?_ ?_
 · skip
   obtain ⟨r87, hr87, hF⟩ := ob hF
   obtain ⟨r118, hr118, hF⟩ := ob hF
   refine c_heldL 7 9 (by kernel_rfl) rfl hS ?_
   clear hS; intro w hS
   refine hy0 0 rfl wn (by kernel_rfl) (nq (P := Tryz.prog) (fn := Tryz.f9)) (fun _ => hS.cb) (y_field fa_sledgelaw6_Script_1) ?_
   refine hy 1 rfl wn (by kernel_rfl) (nq (P := Tryz.prog) (fn := Tryz.f9)) hS.cb (y_loadN (vs := (cl_State v0_1_ v0_2_ v0_3_ a0.S.Taken v0_5_ a0.S.PC v0_7_ a0.S.Stop v0_9_ a0.S.Jump a0.S.Delay)) (fun w hS => hS.own (mH)) underlying27 rfl (by exact sz_api_State) (subd (o := 0 + 1) (by exact rfl))) ?_
   refine hy0 3 rfl wn (by kernel_rfl) (nq (P := Tryz.prog) (fn := Tryz.f9)) (fun _ => hS.cb) (y_field fa_sledgelaw6_Script_0) ?_
   refine hy 4 rfl wn (by kernel_rfl) (nq (P := Tryz.prog) (fn := Tryz.f9)) hS.cb (y_load (fun w hS => hS.own (mH)) underlying22 rfl rfl) ?_
   refine hb2 2 6 (by kernel_rfl) (hb_op rfl wn (nl (P := Tryz.prog) (fn := Tryz.f9)) ?_) (hb_op rfl wn (nl (P := Tryz.prog) (fn := Tryz.f9)) ?_)
   · skip
     refine o_call0 hS func19 rfl rfl (hc := (w_r0_CopyState (a0 := a0.S) (h0 := ⟨_, _, _, _, _, _, rfl, h0_1_.plus, h0_2_.plus, h0_3_.plus, h0_5_.plus, h0_7_.plus, h0_9_.plus⟩) (hF := hr87))) (h := ?_)
     clear hS; intro v88 LY89 w hS hr90
     obtain ⟨v_0_91, LX_0_92, rfl, rfl, h_0_93⟩ := hr90
     obtain ⟨vR0_0_94, vR0_1_98, vR0_2_102, vR0_4_106, vR0_6_110, vR0_8_114, LXR0_0_95, LXR0_1_99, LXR0_2_103, LXR0_4_107, LXR0_6_111, LXR0_8_115, rfl, rfl, hR0_0_96, hR0_1_100, hR0_2_104, hR0_4_108, hR0_6_112, hR0_8_116⟩ := h_0_93
     simp only [aa, ac, al] at hS
     refine hb_next (fun _ => (hS.re (.b (.there _ (.there _ (.there _ (.there _ (.there _ (.there _ .hb)))))) .n)).cb) ?_
     refine hb2 5 6 (by kernel_rfl) (hb_op rfl wn (nl (P := Tryz.prog) (fn := Tryz.f9)) ?_) (hb_op rfl wn (nl (P := Tryz.prog) (fn := Tryz.f9)) ?_)
     · skip
       refine o_call0 hS func20 rfl rfl (hc := (w_r0_CopyBundles (a0 := a0.C) (h0 := h0_0_.plus) (hF := hr118))) (h := ?_)
       clear hS; intro v119 LY120 w hS hr121
       obtain ⟨v_0_122, LX_0_123, rfl, rfl, h_0_124⟩ := hr121
       simp only [aa, ac, al] at hS
       refine hb_next (fun _ => (hS.re (.b (.there _ (.there _ (.there _ (.there _ (.there _ (.there _ (.there _ .hb))))))) .n)).cb) ?_
       refine hb1 6 (by kernel_rfl) (hb_op rfl wn (nl (P := Tryz.prog) (fn := Tryz.f9)) ?_)
       refine o_allocP (cl := (cl_State (.slice none 0 0) (.slice none 0 0) (.slice none 0 0) 0 (.slice none 0 0) 0 (.slice none 0 0) 0 (.slice none 0 0) 0 0)) zr_api_State rfl hS ?_
       clear hS; intro b126 w hS
       refine hb_next (fun _ => (hS.re (.b (.thereb _ (.there _ (.there _ (.there _ (.there _ (.there _ (.there _ (.there _ .hb)))))))) .n)).cb) ?_
       refine hb1 7 (by kernel_rfl) (hb_op rfl wn (nl (P := Tryz.prog) (fn := Tryz.f9)) ?_)
       refine o_storeW (vs := (cl_State vR0_0_94 vR0_1_98 vR0_2_102 r87.Taken vR0_4_106 r87.PC vR0_6_110 r87.Stop vR0_8_114 r87.Jump r87.Delay)) hS (by exact rfl) (Upd.here _) (by exact sz_api_State) (one_State (hR0_0_96).one (hR0_1_100).one (hR0_2_104).one (hR0_4_108).one (hR0_6_112).one (hR0_8_116).one) ?_
       clear hS; intro w hS
       refine hb_next (fun h => absurd h (by decide)) ?_
       refine hy0 8 rfl wn (by kernel_rfl) (nq (P := Tryz.prog) (fn := Tryz.f9)) (fun h => absurd h (by decide)) y_assign ?_
       refine hb_done (by kernel_rfl) ?_
       obtain rfl := osi hF
       change ∃ _, _
       exact ⟨r118, r87.Regs, r87.Mem, r87.In_, r87.Taken, r87.Out, r87.PC, r87.Stack, r87.Stop, r87.Fly, r87.Jump, r87.Delay, v_0_122, vR0_0_94, vR0_1_98, vR0_2_102, vR0_4_106, vR0_6_110, vR0_8_114, LX_0_123, LXR0_0_95, LXR0_1_99, LXR0_2_103, LXR0_4_107, LXR0_6_111, LXR0_8_115, b126, hK86, h_0_124, hR0_0_96, hR0_1_100, hR0_2_104, hR0_4_108, hR0_6_112, hR0_8_116, mk_exF, (hS.re (.b (.thereb _ (.there _ (.there _ (.there _ (.there _ (.there _ (.there _ (.there _ .hb)))))))) (.b .hb (.t (.there _ .h) (.t (.there _ .h) (.t (.there _ .h) (.t (.there _ .h) (.t (.there _ .h) (.t (.there _ .h) (.t .h .n))))))))))⟩
     refine o_allocP (cl := (cl_State (.slice none 0 0) (.slice none 0 0) (.slice none 0 0) 0 (.slice none 0 0) 0 (.slice none 0 0) 0 (.slice none 0 0) 0 0)) zr_api_State rfl hS ?_
     clear hS; intro b126 w hS
     refine hb_next (fun _ => (hS.re (.b (.thereb _ (.there _ (.there _ (.there _ (.there _ (.there _ (.there _ .hb))))))) .n)).cb) ?_
     refine hb1 5 (by kernel_rfl) (hb_op rfl wn (nl (P := Tryz.prog) (fn := Tryz.f9)) ?_)
     refine o_call0 hS func20 rfl rfl (hc := (w_r0_CopyBundles (a0 := a0.C) (h0 := h0_0_.plus) (hF := hr118))) (h := ?_)
     clear hS; intro v119 LY120 w hS hr121
     obtain ⟨v_0_122, LX_0_123, rfl, rfl, h_0_124⟩ := hr121
     simp only [aa, ac, al] at hS
     refine hb_next (fun _ => (hS.re (.b (.there _ (.thereb _ (.there _ (.there _ (.there _ (.there _ (.there _ (.there _ .hb)))))))) .n)).cb) ?_
     refine hb1 7 (by kernel_rfl) (hb_op rfl wn (nl (P := Tryz.prog) (fn := Tryz.f9)) ?_)
     have hS := hS.re (.b (.there _ .hb) (.t .h (.t .h (.t .h (.t .h (.t .h (.t .h (.t .h (.b .hb .n)))))))))
     refine o_storeW (vs := (cl_State vR0_0_94 vR0_1_98 vR0_2_102 r87.Taken vR0_4_106 r87.PC vR0_6_110 r87.Stop vR0_8_114 r87.Jump r87.Delay)) hS (by exact rfl) (Upd.here _) (by exact sz_api_State) (one_State (hR0_0_96).one (hR0_1_100).one (hR0_2_104).one (hR0_4_108).one (hR0_6_112).one (hR0_8_116).one) ?_
     clear hS; intro w hS
     refine hb_next (fun h => absurd h (by decide)) ?_
     refine hy0 8 rfl wn (by kernel_rfl) (nq (P := Tryz.prog) (fn := Tryz.f9)) (fun h => absurd h (by decide)) y_assign ?_
     refine hb_done (by kernel_rfl) ?_
     obtain rfl := osi hF
     change ∃ _, _
     exact ⟨r118, r87.Regs, r87.Mem, r87.In_, r87.Taken, r87.Out, r87.PC, r87.Stack, r87.Stop, r87.Fly, r87.Jump, r87.Delay, v_0_122, vR0_0_94, vR0_1_98, vR0_2_102, vR0_4_106, vR0_6_110, vR0_8_114, LX_0_123, LXR0_0_95, LXR0_1_99, LXR0_2_103, LXR0_4_107, LXR0_6_111, LXR0_8_115, b126, hK86, h_0_124, hR0_0_96, hR0_1_100, hR0_2_104, hR0_4_108, hR0_6_112, hR0_8_116, mk_exF, (hS.re (.b (.thereb _ (.there _ (.there _ (.there _ (.there _ (.there _ (.there _ (.there _ .hb)))))))) (.b .hb (.t (.there _ .h) (.t (.there _ .h) (.t (.there _ .h) (.t (.there _ .h) (.t (.there _ .h) (.t (.there _ .h) (.t .h .n))))))))))⟩
   refine o_allocP (cl := (cl_State (.slice none 0 0) (.slice none 0 0) (.slice none 0 0) 0 (.slice none 0 0) 0 (.slice none 0 0) 0 (.slice none 0 0) 0 0)) zr_api_State rfl hS ?_
   clear hS; intro b126 w hS
   refine hb_next (fun _ => (hS.re (.b (.thereb _ .hb) .n)).cb) ?_
   refine hb1 2 (by kernel_rfl) (hb_op rfl wn (nl (P := Tryz.prog) (fn := Tryz.f9)) ?_)
   refine o_call0 hS func19 rfl rfl (hc := (w_r0_CopyState (a0 := a0.S) (h0 := ⟨_, _, _, _, _, _, rfl, h0_1_.plus, h0_2_.plus, h0_3_.plus, h0_5_.plus, h0_7_.plus, h0_9_.plus⟩) (hF := hr87))) (h := ?_)
   clear hS; intro v88 LY89 w hS hr90
   obtain ⟨v_0_91, LX_0_92, rfl, rfl, h_0_93⟩ := hr90
   obtain ⟨vR0_0_94, vR0_1_98, vR0_2_102, vR0_4_106, vR0_6_110, vR0_8_114, LXR0_0_95, LXR0_1_99, LXR0_2_103, LXR0_4_107, LXR0_6_111, LXR0_8_115, rfl, rfl, hR0_0_96, hR0_1_100, hR0_2_104, hR0_4_108, hR0_6_112, hR0_8_116⟩ := h_0_93
   simp only [aa, ac, al] at hS
   refine hb_next (fun _ => (hS.re (.b (.there _ (.there _ (.there _ (.there _ (.there _ (.there _ (.thereb _ .hb))))))) .n)).cb) ?_
   refine hb1 5 (by kernel_rfl) (hb_op rfl wn (nl (P := Tryz.prog) (fn := Tryz.f9)) ?_)
   refine o_call0 hS func20 rfl rfl (hc := (w_r0_CopyBundles (a0 := a0.C) (h0 := h0_0_.plus) (hF := hr118))) (h := ?_)
   clear hS; intro v119 LY120 w hS hr121
   obtain ⟨v_0_122, LX_0_123, rfl, rfl, h_0_124⟩ := hr121
   simp only [aa, ac, al] at hS
   refine hb_next (fun _ => (hS.re (.b (.there _ (.there _ (.there _ (.there _ (.there _ (.there _ (.there _ (.thereb _ .hb)))))))) .n)).cb) ?_
   refine hb1 7 (by kernel_rfl) (hb_op rfl wn (nl (P := Tryz.prog) (fn := Tryz.f9)) ?_)
   have hS := hS.re (.b (.there _ (.there _ (.there _ (.there _ (.there _ (.there _ (.there _ .hb))))))) (.t .h (.t .h (.t .h (.t .h (.t .h (.t .h (.t .h (.b .hb .n)))))))))
   refine o_storeW (vs := (cl_State vR0_0_94 vR0_1_98 vR0_2_102 r87.Taken vR0_4_106 r87.PC vR0_6_110 r87.Stop vR0_8_114 r87.Jump r87.Delay)) hS (by exact rfl) (Upd.here _) (by exact sz_api_State) (one_State (hR0_0_96).one (hR0_1_100).one (hR0_2_104).one (hR0_4_108).one (hR0_6_112).one (hR0_8_116).one) ?_
   clear hS; intro w hS
   refine hb_next (fun h => absurd h (by decide)) ?_
   refine hy0 8 rfl wn (by kernel_rfl) (nq (P := Tryz.prog) (fn := Tryz.f9)) (fun h => absurd h (by decide)) y_assign ?_
   refine hb_done (by kernel_rfl) ?_
   obtain rfl := osi hF
   change ∃ _, _
   exact ⟨r118, r87.Regs, r87.Mem, r87.In_, r87.Taken, r87.Out, r87.PC, r87.Stack, r87.Stop, r87.Fly, r87.Jump, r87.Delay, v_0_122, vR0_0_94, vR0_1_98, vR0_2_102, vR0_4_106, vR0_6_110, vR0_8_114, LX_0_123, LXR0_0_95, LXR0_1_99, LXR0_2_103, LXR0_4_107, LXR0_6_111, LXR0_8_115, b126, hK86, h_0_124, hR0_0_96, hR0_1_100, hR0_2_104, hR0_4_108, hR0_6_112, hR0_8_116, mk_exF, (hS.re (.b (.thereb _ (.there _ (.there _ (.there _ (.there _ (.there _ (.there _ (.there _ .hb)))))))) (.b .hb (.t (.there _ .h) (.t (.there _ .h) (.t (.there _ .h) (.t (.there _ .h) (.t (.there _ .h) (.t (.there _ .h) (.t .h .n))))))))))⟩
 rintro a w ⟨x45, x50, x55, x60, x65, x66, x71, x72, x77, x78, x83, x84, v46, v51, v56, v61, v67, v73, v79, LX48, LX53, LX58, LX63, LX69, LX75, LX81, b44, hF, h47, h52, h57, h62, h68, h74, h80, ⟨s127, rfl⟩, hS⟩
 dsimp only [l7_HazardFinds_k1] at hF
 refine c_seq <| c_region ?_
 refine oy hS (y_loadW (fun w hS => hS.own (mH)) underlying29 rfl (by exact sz_sledgelaw6_Script)) ?_
 obtain ⟨r128, hr128, hF⟩ := ob hF
 refine o_callS hS func25 rfl rfl (hc := (w_l6_May (a0 := a0) (h0 := ⟨_, _, _, _, _, _, _, _, rfl, h0_0_.plus, h0_1_.plus, h0_2_.plus, h0_3_.plus, h0_5_.plus, h0_7_.plus, h0_9_.plus, h0_12_.plus⟩) (hF := hr128))) (h := ?_)
 clear hS; intro w hS
 refine oy hS y_assign <| n_thenN <| c_seq <| c_region ?_
 refine o_buildT val_int ([0, 1, 25, (-1), 20001] : List Int) hS el_int (fun _ => rfl) enc_len_int (by decide) rfl (by decide) (hp := rfl) (h := ?_)
 clear hS; intro b129 w hS h130
 have hS : St W g [] ([(b129, blk (([0, 1, 25, (-1), 20001] : List Int).flatMap enc_int) 3)] ++ ((b1, blk (cl_Script v0_0_ v0_1_ v0_2_ v0_3_ a0.S.Taken v0_5_ a0.S.PC v0_7_ a0.S.Stop v0_9_ a0.S.Jump a0.S.Delay v0_12_) 29) :: ((b44, blk (cl_State v51 v56 v61 x65 v67 x71 v73 x77 v79 x83 x84) 27) :: (LX53 ++ (LX58 ++ (LX63 ++ (LX69 ++ (LX75 ++ (LX81 ++ (LX48 ++ [])))))))))) w := hS
 refine oy hS (y_field fa_sledgelaw6_Script_2) <| oy hS (y_load (fun w hS => hS.own (mB (mH))) underlying24 rfl rfl) ?_
 obtain ⟨zs136, hzs136, hF⟩ := ob hF
 refine o_appPs (LX := [(b129, blk (([0, 1, 25, (-1), 20001] : List Int).flatMap enc_int) 3)]) hzs136 hS el_int h130 h0_12_.plus (enc_ones_int _) (by decide) ?_
 clear hS; intro v132 LX133 w h134 hS
 refine oy hS y_assign <| n_thenN ?_
 obtain ⟨z448, hF, hK449⟩ := cut_step hF
 refine c_cutP (fun a w' => l7_HazardFinds_k2 a0 x45 r128 x50 x55 x60 x65 x66 x71 x72 x77 x78 x83 x84 () = some r ∧ (∃ s : Nat → Value, a = Ac (((((Fm.dead 189 s).upd 1 (.pointer (some ⟨b1, 0, none⟩))).upd 3 (.pointer (some ⟨b44, 0, none⟩))).upd 4 v46).upd 5 (.bool r128))) ∧ St W g [] ((b1, blk (cl_Script v0_0_ v0_1_ v0_2_ v0_3_ a0.S.Taken v0_5_ a0.S.PC v0_7_ a0.S.Stop v0_9_ a0.S.Jump a0.S.Delay v0_12_) 29) :: ((b44, blk (cl_State v51 v56 v61 x65 v67 x71 v73 x77 v79 x83 x84) 27) :: (LX53 ++ (LX58 ++ (LX63 ++ (LX69 ++ (LX75 ++ (LX81 ++ (LX48 ++ []))))))))) w') ?_ ?_
 · skip
   refine c_seq <| c_region <| oy hS y_assign <| n_thenN <| c_block ?_
   refine c_loopP hF (fun (q : Int) a w' => (∃ s : Nat → Value, a = Ac (((((((Fm.dead 189 s).upd 1 (.pointer (some ⟨b1, 0, none⟩))).upd 3 (.pointer (some ⟨b44, 0, none⟩))).upd 4 v46).upd 5 (.bool r128)).upd 6 v132).upd 7 (.int .i64 q))) ∧ St W g [] ((b1, blk (cl_Script v0_0_ v0_1_ v0_2_ v0_3_ a0.S.Taken v0_5_ a0.S.PC v0_7_ a0.S.Stop v0_9_ a0.S.Jump a0.S.Delay v0_12_) 29) :: ((b44, blk (cl_State v51 v56 v61 x65 v67 x71 v73 x77 v79 x83 x84) 27) :: (LX53 ++ (LX58 ++ (LX63 ++ (LX69 ++ (LX75 ++ (LX81 ++ (LX48 ++ (LX133 ++ [])))))))))) w') ⟨mk_exF, (hS.re (.b (.there _ .hb) (.b (.there _ .hb) (.t (.there _ .h) (.t (.there _ .h) (.t (.there _ .h) (.t (.there _ .h) (.t (.there _ .h) (.t (.there _ .h) (.t (.there _ .h) (.t .h .n)))))))))))⟩ ?_
   clear hS hF
   intro n657 q a w hI hq
   revert hq hI; revert q; intro x552 hI hq
   obtain ⟨⟨s658, rfl⟩, hS⟩ := hq
   obtain ⟨z655, hF, hK656⟩ := iter_step hI
   clear hI
   dsimp only [l7_HazardFinds_b3] at hF
   obtain ⟨z661, hF, hK662⟩ := cut_step hF
   refine c_cutP (fun a w' => l7_HazardFinds_k4 zs136 x552 x45 x50 x55 x60 x65 x66 x71 x72 x77 x78 x83 x84 r128 a0 () = some z655 ∧ (∃ s : Nat → Value, a = Ac (((((((Fm.dead 189 s).upd 1 (.pointer (some ⟨b1, 0, none⟩))).upd 3 (.pointer (some ⟨b44, 0, none⟩))).upd 4 v46).upd 5 (.bool r128)).upd 6 v132).upd 7 (.int .i64 x552))) ∧ St W g [] ((b1, blk (cl_Script v0_0_ v0_1_ v0_2_ v0_3_ a0.S.Taken v0_5_ a0.S.PC v0_7_ a0.S.Stop v0_9_ a0.S.Jump a0.S.Delay v0_12_) 29) :: ((b44, blk (cl_State v51 v56 v61 x65 v67 x71 v73 x77 v79 x83 x84) 27) :: (LX53 ++ (LX58 ++ (LX63 ++ (LX69 ++ (LX75 ++ (LX81 ++ (LX48 ++ (LX133 ++ [])))))))))) w') ?_ ?_
   · skip
     refine c_seq <| c_region ?_
     iterate 2 (refine oy hS y_move ?_)
     refine oy hS (y_lenO h134 underlying24) <| oy hS y_bin ?_
     refine o_split (ht := fun c663 => ?_) (hf := fun c663 => ?_)
     · replace hF := bt c663 hF
       refine o_gu rfl rfl rfl <| oy hS y_move <| o_gu rfl rfl rfl <| oy hS y_bin <| oy hS y_pickT <| n_thenN ?_
       refine c_if (ht := fun c664 => ?_) (hf := fun c664 => ?_)
       · replace hF := bt c664 hF
         refine wp_skip ?_
         obtain rfl := osi hF
         change _ ∧ _
         exact ⟨hK662, mk_exF, (hS.re (.b .hb (.b .hb (.t .h (.t .h (.t .h (.t .h (.t .h (.t .h (.t .h (.t .h .n)))))))))))⟩
       replace hF := bf c664 hF
       refine wp_exit ?_
       obtain rfl := osi hF
       obtain rfl : _ = z655 := hK662
       obtain rfl : _ = z448 := hK656
       change _ ∧ _
       exact ⟨hK449, mk_exF, (hS.re (.b .hb (.b .hb (.t .h (.t .h (.t .h (.t .h (.t .h (.t .h (.t .h .n))))))))))⟩
     replace hF := bf c663 hF
     iterate 2 (refine o_sk rfl rfl ?_)
     refine oy hS y_pickF <| n_thenN ?_
     refine c_if_false (h := ?_)
     refine wp_exit ?_
     obtain rfl := osi hF
     obtain rfl : _ = z655 := hK662
     obtain rfl : _ = z448 := hK656
     change _ ∧ _
     exact ⟨hK449, mk_exF, (hS.re (.b .hb (.b .hb (.t .h (.t .h (.t .h (.t .h (.t .h (.t .h (.t .h .n))))))))))⟩
   rintro a w ⟨hF, ⟨s665, rfl⟩, hS⟩
   dsimp only [l7_HazardFinds_k4] at hF
   refine c_seq <| c_block <| c_seq <| c_region ?_
   iterate 2 (refine oy hS y_move ?_)
   obtain ⟨x666, hx666, hF⟩ := ob hF
   obtain ⟨b667, c668, cl669, hv670, ha671, hb672, hl673, hc674⟩ := OwT.at hx666 h134 enc_len_int
   refine oy hS (y_index hv670 ha671 hb672 underlying24 el_int.size) <| oy hS (y_load (fun w hS => hS.own (mC (mC (mB (mB (mB (mB (mB (mB (mB (mA (mX hl673)))))))))))) underlying3 rfl (hc674 0 _ rfl)) <| oy hS y_assign <| n_thenN ?_
   obtain ⟨z678, hF, hK679⟩ := cut_step hF
   refine c_cutP (fun a w' => ∃ (x677 : Int), l7_HazardFinds_k5 x45 x50 x55 x60 x65 x66 x71 x72 x77 x78 x83 x84 r128 a0 x552 x677 = some z655 ∧ (∃ s : Nat → Value, a = Ac ((((((((Fm.dead 189 s).upd 1 (.pointer (some ⟨b1, 0, none⟩))).upd 3 (.pointer (some ⟨b44, 0, none⟩))).upd 4 v46).upd 5 (.bool r128)).upd 6 v132).upd 7 (.int .i64 x552)).upd 8 (.int .i64 x677))) ∧ St W g [] ((b1, blk (cl_Script v0_0_ v0_1_ v0_2_ v0_3_ a0.S.Taken v0_5_ a0.S.PC v0_7_ a0.S.Stop v0_9_ a0.S.Jump a0.S.Delay v0_12_) 29) :: ((b44, blk (cl_State v51 v56 v61 x65 v67 x71 v73 x77 v79 x83 x84) 27) :: (LX53 ++ (LX58 ++ (LX63 ++ (LX69 ++ (LX75 ++ (LX81 ++ (LX48 ++ (LX133 ++ [])))))))))) w') ?_ ?_
   · skip
     refine c_seq <| c_region <| oy hS y_move <| oy hS y_bin ?_
     refine o_split (ht := fun c680 => ?_) (hf := fun c680 => ?_)
     · replace hF := bt c680 hF
       refine o_gu rfl rfl rfl <| oy hS y_move <| o_gu rfl rfl rfl <| oy hS y_bin <| oy hS y_pickT <| n_thenN ?_
       refine c_if (ht := fun c681 => ?_) (hf := fun c681 => ?_)
       · replace hF := bt c681 hF
         refine c_region <| oy hS y_assign <| n_thenN ?_
         obtain rfl := osi hF
         change ∃ _, _
         exact ⟨150, hK679, mk_exF, (hS.re (.b .hb (.b .hb (.t .h (.t .h (.t .h (.t .h (.t .h (.t .h (.t .h (.t .h .n)))))))))))⟩
       replace hF := bf c681 hF
       refine wp_skip ?_
       obtain rfl := osi hF
       change ∃ _, _
       exact ⟨x666, hK679, mk_exF, (hS.re (.b .hb (.b .hb (.t .h (.t .h (.t .h (.t .h (.t .h (.t .h (.t .h (.t .h .n)))))))))))⟩
     replace hF := bf c680 hF
     iterate 2 (refine o_sk rfl rfl ?_)
     refine oy hS y_pickF <| n_thenN ?_
     refine c_if_false (h := ?_)
     refine wp_skip ?_
     obtain rfl := osi hF
     change ∃ _, _
     exact ⟨x666, hK679, mk_exF, (hS.re (.b .hb (.b .hb (.t .h (.t .h (.t .h (.t .h (.t .h (.t .h (.t .h (.t .h .n)))))))))))⟩
   rintro a w ⟨x677, hF, ⟨s682, rfl⟩, hS⟩
   dsimp only [l7_HazardFinds_k5] at hF
   refine c_seq <| c_region <| oy hS y_move ?_
   refine oy hS (y_loadW (fun w hS => hS.own (mC (mH))) underlying27 rfl (by exact sz_api_State)) ?_
   refine oy hS y_move ?_
   obtain ⟨r683, hr683, hF⟩ := ob hF
   refine o_call0 hS func32 rfl rfl (hc := (w_hazard_Run (a0 := x45) (a1 := (⟨x50, x55, x60, x65, x66, x71, x72, x77, x78, x83, x84⟩ : T_State)) (a2 := x677) (h0 := (OwT.plus h47 hS (fun p hp => mC (mC (mB (mB (mB (mB (mB (mB (mA (hp)))))))))))) (h1 := ⟨_, _, _, _, _, _, rfl, (OwT.plus h52 hS (fun p hp => mC (mC (mA (hp))))), (OwT.plus h57 hS (fun p hp => mC (mC (mB (mA (hp)))))), (OwT.plus h62 hS (fun p hp => mC (mC (mB (mB (mA (hp))))))), (OwT.plus h68 hS (fun p hp => mC (mC (mB (mB (mB (mA (hp)))))))), (OwT.plus h74 hS (fun p hp => mC (mC (mB (mB (mB (mB (mA (hp))))))))), (OwT.plus h80 hS (fun p hp => mC (mC (mB (mB (mB (mB (mB (mA (hp))))))))))⟩) (hF := hr683))) (h := ?_)
   clear hS; intro v684 LY685 w hS hr686
   obtain ⟨v_0_687, LX_0_688, rfl, rfl, h_0_689⟩ := hr686
   obtain ⟨vR0_0_690, vR0_1_694, vR0_2_698, vR0_4_702, vR0_6_706, vR0_8_710, LXR0_0_691, LXR0_1_695, LXR0_2_699, LXR0_4_703, LXR0_6_707, LXR0_8_711, rfl, rfl, hR0_0_692, hR0_1_696, hR0_2_700, hR0_4_704, hR0_6_708, hR0_8_712⟩ := h_0_689
   simp only [aa, ac, al] at hS
   refine oy hS y_move ?_
   iterate 3 (refine oy hS (y_extract rfl) ?_)
   refine o_allocP (cl := (cl_State (.slice none 0 0) (.slice none 0 0) (.slice none 0 0) 0 (.slice none 0 0) 0 (.slice none 0 0) 0 (.slice none 0 0) 0 0)) zr_api_State rfl hS ?_
   clear hS; intro b714 w hS
   refine o_storeW (vs := (cl_State vR0_0_690 vR0_1_694 vR0_2_698 r683.1.Taken vR0_4_702 r683.1.PC vR0_6_706 r683.1.Stop vR0_8_710 r683.1.Jump r683.1.Delay)) hS (by exact rfl) (Upd.here _) (by exact sz_api_State) (one_State (hR0_0_692).one (hR0_1_696).one (hR0_2_700).one (hR0_4_704).one (hR0_6_708).one (hR0_8_712).one) ?_
   clear hS; intro w hS
   iterate 2 (refine oy hS y_assign ?_)
   refine n_thenN <| c_seq <| c_region ?_
   iterate 2 (refine oy hS y_assign ?_)
   refine n_thenN <| c_seq <| c_region ?_
   refine o_allocP (cl := (cl_State (.slice none 0 0) (.slice none 0 0) (.slice none 0 0) 0 (.slice none 0 0) 0 (.slice none 0 0) 0 (.slice none 0 0) 0 0)) zr_api_State rfl hS ?_
   clear hS; intro b715 w hS
   refine n_thenN ?_
   iterate 2 (refine c_seq ?_)
   refine c_region <| oy hS y_move ?_
   refine o_split (ht := fun c716 => ?_) (hf := fun c716 => ?_)
   · replace hF := bt c716 hF
     refine o_gu rfl rfl rfl <| oy hS y_move <| o_gu rfl rfl rfl ?_
     refine o_callS hS func26 rfl rfl (hc := (w_r0_Num (a0 := x677) (a1 := 20000))) (h := ?_)
     clear hS; intro w hS
     refine oy hS y_pickT <| n_thenN ?_
     refine c_if (ht := fun c717 => ?_) (hf := fun c717 => ?_)
     · replace hF := bt c717 hF
       refine c_seq <| c_region <| oy hS y_assign <| n_thenN <| c_region <| oy hS (y_field fa_sledgelaw6_Script_0) <| oy hS (y_load (fun w hS => hS.own (mC (mC (mB (mB (mB (mB (mB (mB (mH)))))))))) underlying22 rfl rfl) <| oy hS (y_field fa_sledgelaw6_Script_1) ?_
       refine oy hS (y_loadN (vs := (cl_State v0_1_ v0_2_ v0_3_ a0.S.Taken v0_5_ a0.S.PC v0_7_ a0.S.Stop v0_9_ a0.S.Jump a0.S.Delay)) (fun w hS => hS.own (mC (mC (mB (mB (mB (mB (mB (mB (mH)))))))))) underlying27 rfl (by exact sz_api_State) (subd (o := 0 + 1) (by exact rfl))) ?_
       refine oy hS y_move ?_
       obtain ⟨r718, hr718, hF⟩ := ob hF
       refine o_call0 hS func27 rfl rfl (hc := (w_r5_Cycles (a0 := a0.C) (a1 := a0.S) (a2 := x677) (a3 := true) (h0 := h0_0_.plus) (h1 := ⟨_, _, _, _, _, _, rfl, h0_1_.plus, h0_2_.plus, h0_3_.plus, h0_5_.plus, h0_7_.plus, h0_9_.plus⟩) (hF := hr718))) (h := ?_)
       clear hS; intro v719 LY720 w hS hr721
       obtain ⟨v_0_722, LX_0_723, rfl, rfl, h_0_724⟩ := hr721
       obtain ⟨vR0_0_725, vR0_1_729, vR0_2_733, vR0_4_737, vR0_6_741, vR0_8_745, LXR0_0_726, LXR0_1_730, LXR0_2_734, LXR0_4_738, LXR0_6_742, LXR0_8_746, rfl, rfl, hR0_0_727, hR0_1_731, hR0_2_735, hR0_4_739, hR0_6_743, hR0_8_747⟩ := h_0_724
       simp only [aa, ac, al] at hS
       refine oy hS y_move ?_
       iterate 2 (refine oy hS (y_extract rfl) ?_)
       have hS := hS.re (.b (.there _ (.there _ (.there _ (.there _ (.there _ (.there _ .hb)))))) (.t .h (.t .h (.t .h (.t .h (.t .h (.t .h (.b .hb (.t .h (.t .h (.t .h (.t .h (.t .h (.t .h (.b .hb (.b .hb (.t .h (.t .h (.t .h (.t .h (.t .h (.t .h (.t .h (.t .h .n))))))))))))))))))))))))
       refine o_storeW (vs := (cl_State vR0_0_725 vR0_1_729 vR0_2_733 r718.1.Taken vR0_4_737 r718.1.PC vR0_6_741 r718.1.Stop vR0_8_745 r718.1.Jump r718.1.Delay)) hS (by exact rfl) (Upd.here _) (by exact sz_api_State) (one_State (hR0_0_727).one (hR0_1_731).one (hR0_2_735).one (hR0_4_739).one (hR0_6_743).one (hR0_8_747).one) ?_
       clear hS; intro w hS
       refine oy hS y_assign <| n_thenN <| c_seq <| c_region <| oy hS y_move ?_
       refine o_callS hS func33 rfl rfl (hc := (w_l7_num (a0 := r683.2.2))) (h := ?_)
       clear hS; intro w hS
       refine oy hS y_move <| oy hS y_bin ?_
       refine o_split (ht := fun c749 => ?_) (hf := fun c749 => ?_)
       · replace hF := bt c749 hF
         iterate 3 (refine o_sk rfl rfl ?_)
         refine oy hS y_pickT <| oy hS y_move ?_
         iterate 4 (refine o_sk rfl rfl ?_)
         refine oy hS y_pickT <| n_thenN ?_
         refine c_if_true (h := ?_)
         refine c_seq <| c_region <| oy hS y_assign <| n_thenN ?_
         obtain rfl := osi hF
         obtain rfl : _ = z448 := hK656
         obtain rfl : _ = r := hK449
         exact wp_ret (wr1 hS)
       replace hF := bf c749 hF
       refine o_gu rfl rfl rfl <| oy hS y_move <| o_gu rfl rfl rfl <| oy hS y_move <| o_gu rfl rfl rfl <| oy hS y_bin <| oy hS y_pickF ?_
       refine o_split (ht := fun c750 => ?_) (hf := fun c750 => ?_)
       · replace hF := bt c750 hF
         iterate 4 (refine o_sk rfl rfl ?_)
         refine oy hS y_pickT <| n_thenN ?_
         refine c_if_true (h := ?_)
         refine c_seq <| c_region <| oy hS y_assign <| n_thenN ?_
         obtain rfl := osi hF
         obtain rfl : _ = z448 := hK656
         obtain rfl : _ = r := hK449
         exact wp_ret (wr1 hS)
       replace hF := bf c750 hF
       refine o_gu rfl rfl rfl ?_
       refine oy hS (y_loadW (fun w hS => hS.own (mC (mB (mB (mB (mB (mB (mB (mH))))))))) underlying27 rfl (by exact sz_api_State)) ?_
       refine o_gu rfl rfl rfl ?_
       refine oy hS (y_loadW (fun w hS => hS.own (mH)) underlying27 rfl (by exact sz_api_State)) ?_
       refine o_gu rfl rfl rfl ?_
       obtain ⟨r751, hr751, hF⟩ := ob hF
       refine o_callS hS func28 rfl rfl (hc := (w_r0_EqState (a0 := r683.1) (a1 := r718.1) (h0 := ⟨_, _, _, _, _, _, rfl, (OwT.plus hR0_0_692 hS (fun p hp => mC (mB (mB (mB (mB (mB (mB (mC (mA (hp))))))))))), (OwT.plus hR0_1_696 hS (fun p hp => mC (mB (mB (mB (mB (mB (mB (mC (mB (mA (hp)))))))))))), (OwT.plus hR0_2_700 hS (fun p hp => mC (mB (mB (mB (mB (mB (mB (mC (mB (mB (mA (hp))))))))))))), (OwT.plus hR0_4_704 hS (fun p hp => mC (mB (mB (mB (mB (mB (mB (mC (mB (mB (mB (mA (hp)))))))))))))), (OwT.plus hR0_6_708 hS (fun p hp => mC (mB (mB (mB (mB (mB (mB (mC (mB (mB (mB (mB (mA (hp))))))))))))))), (OwT.plus hR0_8_712 hS (fun p hp => mC (mB (mB (mB (mB (mB (mB (mC (mB (mB (mB (mB (mB (mA (hp))))))))))))))))⟩) (h1 := ⟨_, _, _, _, _, _, rfl, (OwT.plus hR0_0_727 hS (fun p hp => mC (mA (hp)))), (OwT.plus hR0_1_731 hS (fun p hp => mC (mB (mA (hp))))), (OwT.plus hR0_2_735 hS (fun p hp => mC (mB (mB (mA (hp)))))), (OwT.plus hR0_4_739 hS (fun p hp => mC (mB (mB (mB (mA (hp))))))), (OwT.plus hR0_6_743 hS (fun p hp => mC (mB (mB (mB (mB (mA (hp)))))))), (OwT.plus hR0_8_747 hS (fun p hp => mC (mB (mB (mB (mB (mB (mA (hp)))))))))⟩) (hF := hr751))) (h := ?_)
       clear hS; intro w hS
       refine o_gu rfl rfl rfl <| oy hS y_not <| oy hS y_pickF <| n_thenN ?_
       refine c_if (ht := fun c752 => ?_) (hf := fun c752 => ?_)
       · replace hF := bt c752 hF
         refine c_seq <| c_region <| oy hS y_assign <| n_thenN ?_
         obtain rfl := osi hF
         obtain rfl : _ = z448 := hK656
         obtain rfl : _ = r := hK449
         exact wp_ret (wr1 hS)
       replace hF := bf c752 hF
       refine wp_skip <| c_region <| oy hS y_move <| oy hS y_bin <| oy hS y_assign <| n_thenN ?_
       obtain rfl := osi hF
       exact ⟨_, hK656, mk_exF, (hS.re (.b (.thereb _ (.there _ (.there _ (.there _ (.there _ (.there _ (.there _ (.thereb _ (.there _ (.there _ (.there _ (.there _ (.there _ (.there _ .hb)))))))))))))) (.b (.thereb _ (.there _ (.there _ (.there _ (.there _ (.there _ (.there _ (.thereb _ (.there _ (.there _ (.there _ (.there _ (.there _ (.there _ .hb)))))))))))))) (.t (.thereb _ (.there _ (.there _ (.there _ (.there _ (.there _ (.there _ (.thereb _ (.there _ (.there _ (.there _ (.there _ (.there _ (.there _ .h)))))))))))))) (.t (.thereb _ (.there _ (.there _ (.there _ (.there _ (.there _ (.there _ (.thereb _ (.there _ (.there _ (.there _ (.there _ (.there _ (.there _ .h)))))))))))))) (.t (.thereb _ (.there _ (.there _ (.there _ (.there _ (.there _ (.there _ (.thereb _ (.there _ (.there _ (.there _ (.there _ (.there _ (.there _ .h)))))))))))))) (.t (.thereb _ (.there _ (.there _ (.there _ (.there _ (.there _ (.there _ (.thereb _ (.there _ (.there _ (.there _ (.there _ (.there _ (.there _ .h)))))))))))))) (.t (.thereb _ (.there _ (.there _ (.there _ (.there _ (.there _ (.there _ (.thereb _ (.there _ (.there _ (.there _ (.there _ (.there _ (.there _ .h)))))))))))))) (.t (.thereb _ (.there _ (.there _ (.there _ (.there _ (.there _ (.there _ (.thereb _ (.there _ (.there _ (.there _ (.there _ (.there _ (.there _ .h)))))))))))))) (.t (.thereb _ (.there _ (.there _ (.there _ (.there _ (.there _ (.there _ (.thereb _ (.there _ (.there _ (.there _ (.there _ (.there _ (.there _ .h)))))))))))))) (.t (.thereb _ (.there _ (.there _ (.there _ (.there _ (.there _ (.there _ (.thereb _ (.there _ (.there _ (.there _ (.there _ (.there _ (.there _ .h)))))))))))))) .n)))))))))))⟩
     replace hF := bf c717 hF
     refine wp_skip <| c_seq <| c_region <| oy hS y_move ?_
     refine o_callS hS func33 rfl rfl (hc := (w_l7_num (a0 := r683.2.2))) (h := ?_)
     clear hS; intro w hS
     refine oy hS y_move <| oy hS y_bin ?_
     refine o_split (ht := fun c753 => ?_) (hf := fun c753 => ?_)
     · replace hF := bt c753 hF
       iterate 3 (refine o_sk rfl rfl ?_)
       refine oy hS y_pickT <| oy hS y_move ?_
       iterate 4 (refine o_sk rfl rfl ?_)
       refine oy hS y_pickT <| n_thenN ?_
       refine c_if_true (h := ?_)
       refine c_seq <| c_region <| oy hS y_assign <| n_thenN ?_
       obtain rfl := osi hF
       obtain rfl : _ = z448 := hK656
       obtain rfl : _ = r := hK449
       exact wp_ret (wr1 hS)
     replace hF := bf c753 hF
     refine o_gu rfl rfl rfl <| oy hS y_move <| o_gu rfl rfl rfl <| oy hS y_move <| o_gu rfl rfl rfl <| oy hS y_bin <| oy hS y_pickF ?_
     refine o_split (ht := fun c754 => ?_) (hf := fun c754 => ?_)
     · replace hF := bt c754 hF
       iterate 4 (refine o_sk rfl rfl ?_)
       refine oy hS y_pickT <| n_thenN ?_
       refine c_if_true (h := ?_)
       refine c_seq <| c_region <| oy hS y_assign <| n_thenN ?_
       obtain rfl := osi hF
       obtain rfl : _ = z448 := hK656
       obtain rfl : _ = r := hK449
       exact wp_ret (wr1 hS)
     replace hF := bf c754 hF
     refine o_gu rfl rfl rfl ?_
     refine oy hS (y_loadW (fun w hS => hS.own (mC (mH))) underlying27 rfl (by exact sz_api_State)) ?_
     refine o_gu rfl rfl rfl ?_
     refine oy hS (y_loadW (fun w hS => hS.own (mH)) underlying27 rfl (by exact sz_api_State)) ?_
     refine o_gu rfl rfl rfl ?_
     obtain ⟨r755, hr755, hF⟩ := ob hF
     refine o_callS hS func28 rfl rfl (hc := (w_r0_EqState (a0 := r683.1) (a1 := (⟨[], [], [], 0, [], 0, [], 0, [], 0, 0⟩ : T_State)) (h0 := ⟨_, _, _, _, _, _, rfl, (OwT.plus hR0_0_692 hS (fun p hp => mC (mC (mA (hp))))), (OwT.plus hR0_1_696 hS (fun p hp => mC (mC (mB (mA (hp)))))), (OwT.plus hR0_2_700 hS (fun p hp => mC (mC (mB (mB (mA (hp))))))), (OwT.plus hR0_4_704 hS (fun p hp => mC (mC (mB (mB (mB (mA (hp)))))))), (OwT.plus hR0_6_708 hS (fun p hp => mC (mC (mB (mB (mB (mB (mA (hp))))))))), (OwT.plus hR0_8_712 hS (fun p hp => mC (mC (mB (mB (mB (mB (mB (mA (hp))))))))))⟩) (h1 := ⟨_, _, _, _, _, _, rfl, (SlR.nil _ _), (SlR.nil _ _), (SlR.nil _ _), (SlR.nil _ _), (SlR.nil _ _), (SlR.nil _ _)⟩) (hF := hr755))) (h := ?_)
     clear hS; intro w hS
     refine o_gu rfl rfl rfl <| oy hS y_not <| oy hS y_pickF <| n_thenN ?_
     refine c_if (ht := fun c756 => ?_) (hf := fun c756 => ?_)
     · replace hF := bt c756 hF
       refine c_seq <| c_region <| oy hS y_assign <| n_thenN ?_
       obtain rfl := osi hF
       obtain rfl : _ = z448 := hK656
       obtain rfl : _ = r := hK449
       exact wp_ret (wr1 hS)
     replace hF := bf c756 hF
     refine wp_skip <| c_region <| oy hS y_move <| oy hS y_bin <| oy hS y_assign <| n_thenN ?_
     obtain rfl := osi hF
     exact ⟨_, hK656, mk_exF, (hS.re (.b (.thereb _ (.thereb _ (.there _ (.there _ (.there _ (.there _ (.there _ (.there _ .hb)))))))) (.b (.thereb _ (.thereb _ (.there _ (.there _ (.there _ (.there _ (.there _ (.there _ .hb)))))))) (.t (.thereb _ (.thereb _ (.there _ (.there _ (.there _ (.there _ (.there _ (.there _ .h)))))))) (.t (.thereb _ (.thereb _ (.there _ (.there _ (.there _ (.there _ (.there _ (.there _ .h)))))))) (.t (.thereb _ (.thereb _ (.there _ (.there _ (.there _ (.there _ (.there _ (.there _ .h)))))))) (.t (.thereb _ (.thereb _ (.there _ (.there _ (.there _ (.there _ (.there _ (.there _ .h)))))))) (.t (.thereb _ (.thereb _ (.there _ (.there _ (.there _ (.there _ (.there _ (.there _ .h)))))))) (.t (.thereb _ (.thereb _ (.there _ (.there _ (.there _ (.there _ (.there _ (.there _ .h)))))))) (.t (.thereb _ (.thereb _ (.there _ (.there _ (.there _ (.there _ (.there _ (.there _ .h)))))))) (.t (.thereb _ (.thereb _ (.there _ (.there _ (.there _ (.there _ (.there _ (.there _ .h)))))))) .n)))))))))))⟩
   replace hF := bf c716 hF
   iterate 2 (refine o_sk rfl rfl ?_)
   refine oy hS y_pickF <| n_thenN ?_
   refine c_if_false (h := ?_)
   refine wp_skip <| c_seq <| c_region <| oy hS y_move ?_
   refine o_callS hS func33 rfl rfl (hc := (w_l7_num (a0 := r683.2.2))) (h := ?_)
   clear hS; intro w hS
   refine oy hS y_move <| oy hS y_bin ?_
   refine o_split (ht := fun c757 => ?_) (hf := fun c757 => ?_)
   · replace hF := bt c757 hF
     iterate 3 (refine o_sk rfl rfl ?_)
     refine oy hS y_pickT <| oy hS y_move ?_
     iterate 4 (refine o_sk rfl rfl ?_)
     refine oy hS y_pickT <| n_thenN ?_
     refine c_if_true (h := ?_)
     refine c_seq <| c_region <| oy hS y_assign <| n_thenN ?_
     obtain rfl := osi hF
     obtain rfl : _ = z448 := hK656
     obtain rfl : _ = r := hK449
     exact wp_ret (wr1 hS)
   replace hF := bf c757 hF
   refine o_gu rfl rfl rfl <| oy hS y_move <| o_gu rfl rfl rfl <| oy hS y_move <| o_gu rfl rfl rfl <| oy hS y_bin <| oy hS y_pickF ?_
   refine o_split (ht := fun c758 => ?_) (hf := fun c758 => ?_)
   · replace hF := bt c758 hF
     iterate 4 (refine o_sk rfl rfl ?_)
     refine oy hS y_pickT <| n_thenN ?_
     refine c_if_true (h := ?_)
     refine c_seq <| c_region <| oy hS y_assign <| n_thenN ?_
     obtain rfl := osi hF
     obtain rfl : _ = z448 := hK656
     obtain rfl : _ = r := hK449
     exact wp_ret (wr1 hS)
   replace hF := bf c758 hF
   refine o_gu rfl rfl rfl ?_
   refine oy hS (y_loadW (fun w hS => hS.own (mC (mH))) underlying27 rfl (by exact sz_api_State)) ?_
   refine o_gu rfl rfl rfl ?_
   refine oy hS (y_loadW (fun w hS => hS.own (mH)) underlying27 rfl (by exact sz_api_State)) ?_
   refine o_gu rfl rfl rfl ?_
   obtain ⟨r759, hr759, hF⟩ := ob hF
   refine o_callS hS func28 rfl rfl (hc := (w_r0_EqState (a0 := r683.1) (a1 := (⟨[], [], [], 0, [], 0, [], 0, [], 0, 0⟩ : T_State)) (h0 := ⟨_, _, _, _, _, _, rfl, (OwT.plus hR0_0_692 hS (fun p hp => mC (mC (mA (hp))))), (OwT.plus hR0_1_696 hS (fun p hp => mC (mC (mB (mA (hp)))))), (OwT.plus hR0_2_700 hS (fun p hp => mC (mC (mB (mB (mA (hp))))))), (OwT.plus hR0_4_704 hS (fun p hp => mC (mC (mB (mB (mB (mA (hp)))))))), (OwT.plus hR0_6_708 hS (fun p hp => mC (mC (mB (mB (mB (mB (mA (hp))))))))), (OwT.plus hR0_8_712 hS (fun p hp => mC (mC (mB (mB (mB (mB (mB (mA (hp))))))))))⟩) (h1 := ⟨_, _, _, _, _, _, rfl, (SlR.nil _ _), (SlR.nil _ _), (SlR.nil _ _), (SlR.nil _ _), (SlR.nil _ _), (SlR.nil _ _)⟩) (hF := hr759))) (h := ?_)
   clear hS; intro w hS
   refine o_gu rfl rfl rfl <| oy hS y_not <| oy hS y_pickF <| n_thenN ?_
   refine c_if (ht := fun c760 => ?_) (hf := fun c760 => ?_)
   · replace hF := bt c760 hF
     refine c_seq <| c_region <| oy hS y_assign <| n_thenN ?_
     obtain rfl := osi hF
     obtain rfl : _ = z448 := hK656
     obtain rfl : _ = r := hK449
     exact wp_ret (wr1 hS)
   replace hF := bf c760 hF
   refine wp_skip <| c_region <| oy hS y_move <| oy hS y_bin <| oy hS y_assign <| n_thenN ?_
   obtain rfl := osi hF
   exact ⟨_, hK656, mk_exF, (hS.re (.b (.thereb _ (.thereb _ (.there _ (.there _ (.there _ (.there _ (.there _ (.there _ .hb)))))))) (.b (.thereb _ (.thereb _ (.there _ (.there _ (.there _ (.there _ (.there _ (.there _ .hb)))))))) (.t (.thereb _ (.thereb _ (.there _ (.there _ (.there _ (.there _ (.there _ (.there _ .h)))))))) (.t (.thereb _ (.thereb _ (.there _ (.there _ (.there _ (.there _ (.there _ (.there _ .h)))))))) (.t (.thereb _ (.thereb _ (.there _ (.there _ (.there _ (.there _ (.there _ (.there _ .h)))))))) (.t (.thereb _ (.thereb _ (.there _ (.there _ (.there _ (.there _ (.there _ (.there _ .h)))))))) (.t (.thereb _ (.thereb _ (.there _ (.there _ (.there _ (.there _ (.there _ (.there _ .h)))))))) (.t (.thereb _ (.thereb _ (.there _ (.there _ (.there _ (.there _ (.there _ (.there _ .h)))))))) (.t (.thereb _ (.thereb _ (.there _ (.there _ (.there _ (.there _ (.there _ (.there _ .h)))))))) (.t (.thereb _ (.thereb _ (.there _ (.there _ (.there _ (.there _ (.there _ (.there _ .h)))))))) .n)))))))))))⟩
 rintro a w ⟨hF, ⟨s761, rfl⟩, hS⟩
 dsimp only [l7_HazardFinds_k2] at hF
 refine c_seq <| c_region <| oy hS (y_field fa_sledgelaw6_Script_1) ?_
 refine oy hS (y_loadN (vs := (cl_State v0_1_ v0_2_ v0_3_ a0.S.Taken v0_5_ a0.S.PC v0_7_ a0.S.Stop v0_9_ a0.S.Jump a0.S.Delay)) (fun w hS => hS.own (mH)) underlying27 rfl (by exact sz_api_State) (subd (o := 0 + 1) (by exact rfl))) ?_
 obtain ⟨r762, hr762, hF⟩ := ob hF
 refine o_call0 hS func19 rfl rfl (hc := (w_r0_CopyState (a0 := a0.S) (h0 := ⟨_, _, _, _, _, _, rfl, h0_1_.plus, h0_2_.plus, h0_3_.plus, h0_5_.plus, h0_7_.plus, h0_9_.plus⟩) (hF := hr762))) (h := ?_)
 clear hS; intro v763 LY764 w hS hr765
 obtain ⟨v_0_766, LX_0_767, rfl, rfl, h_0_768⟩ := hr765
 obtain ⟨vR0_0_769, vR0_1_773, vR0_2_777, vR0_4_781, vR0_6_785, vR0_8_789, LXR0_0_770, LXR0_1_774, LXR0_2_778, LXR0_4_782, LXR0_6_786, LXR0_8_790, rfl, rfl, hR0_0_771, hR0_1_775, hR0_2_779, hR0_4_783, hR0_6_787, hR0_8_791⟩ := h_0_768
 simp only [aa, ac, al] at hS
 refine o_allocP (cl := (cl_State (.slice none 0 0) (.slice none 0 0) (.slice none 0 0) 0 (.slice none 0 0) 0 (.slice none 0 0) 0 (.slice none 0 0) 0 0)) zr_api_State rfl hS ?_
 clear hS; intro b793 w hS
 refine o_storeW (vs := (cl_State vR0_0_769 vR0_1_773 vR0_2_777 r762.Taken vR0_4_781 r762.PC vR0_6_785 r762.Stop vR0_8_789 r762.Jump r762.Delay)) hS (by exact rfl) (Upd.here _) (by exact sz_api_State) (one_State (hR0_0_771).one (hR0_1_775).one (hR0_2_779).one (hR0_4_783).one (hR0_6_787).one (hR0_8_791).one) ?_
 clear hS; intro w hS
 refine n_thenN ?_
 obtain ⟨z1179, hF, hK1180⟩ := cut_step hF
 refine c_cutP (fun a w' => l7_HazardFinds_k6 x50 x55 x60 x65 x66 x71 x72 x77 x78 x83 x84 a0 x45 () = some r ∧ (∃ s : Nat → Value, a = Ac ((((Fm.dead 189 s).upd 1 (.pointer (some ⟨b1, 0, none⟩))).upd 3 (.pointer (some ⟨b44, 0, none⟩))).upd 4 v46)) ∧ St W g [] ((b1, blk (cl_Script v0_0_ v0_1_ v0_2_ v0_3_ a0.S.Taken v0_5_ a0.S.PC v0_7_ a0.S.Stop v0_9_ a0.S.Jump a0.S.Delay v0_12_) 29) :: ((b44, blk (cl_State v51 v56 v61 x65 v67 x71 v73 x77 v79 x83 x84) 27) :: (LX53 ++ (LX58 ++ (LX63 ++ (LX69 ++ (LX75 ++ (LX81 ++ (LX48 ++ []))))))))) w') ?_ ?_
 · skip
   refine c_seq <| c_region <| oy hS y_assign <| n_thenN <| c_block ?_
   refine c_loopP hF (fun (q : (Int × (List Int) × (List Int) × (List Int) × Int × (List Int) × Int × (List Int) × Int × (List T_Write) × Int × Int)) a w' => ∃ (v1298 : Value) (v1303 : Value) (v1308 : Value) (v1314 : Value) (v1320 : Value) (v1326 : Value) (LX1300 : Own) (LX1305 : Own) (LX1310 : Own) (LX1316 : Own) (LX1322 : Own) (LX1328 : Own), OwT 40 enc_uint32 1 q.2.1 v1298 LX1300 ∧ OwT 40 enc_uint32 1 q.2.2.1 v1303 LX1305 ∧ OwT 40 enc_uint32 1 q.2.2.2.1 v1308 LX1310 ∧ OwT 40 enc_uint32 1 q.2.2.2.2.2.1 v1314 LX1316 ∧ OwT 3 enc_int 1 q.2.2.2.2.2.2.2.1 v1320 LX1322 ∧ OwT 73 enc_Write 3 q.2.2.2.2.2.2.2.2.2.1 v1326 LX1328 ∧ (∃ s : Nat → Value, a = Ac (((((((Fm.dead 189 s).upd 1 (.pointer (some ⟨b1, 0, none⟩))).upd 3 (.pointer (some ⟨b44, 0, none⟩))).upd 4 v46).upd 5 (.bool r128)).upd 15 (.pointer (some ⟨b793, 0, none⟩))).upd 16 (.int .i64 q.1))) ∧ St W g [] ((b1, blk (cl_Script v0_0_ v0_1_ v0_2_ v0_3_ a0.S.Taken v0_5_ a0.S.PC v0_7_ a0.S.Stop v0_9_ a0.S.Jump a0.S.Delay v0_12_) 29) :: ((b44, blk (cl_State v51 v56 v61 x65 v67 x71 v73 x77 v79 x83 x84) 27) :: ((b793, blk (cl_State v1298 v1303 v1308 q.2.2.2.2.1 v1314 q.2.2.2.2.2.2.1 v1320 q.2.2.2.2.2.2.2.2.1 v1326 q.2.2.2.2.2.2.2.2.2.2.1 q.2.2.2.2.2.2.2.2.2.2.2) 27) :: (LX53 ++ (LX58 ++ (LX63 ++ (LX69 ++ (LX75 ++ (LX81 ++ (LX1300 ++ (LX1305 ++ (LX1310 ++ (LX1316 ++ (LX1322 ++ (LX1328 ++ (LX48 ++ [])))))))))))))))) w') ⟨vR0_0_769, vR0_1_773, vR0_2_777, vR0_4_781, vR0_6_785, vR0_8_789, LXR0_0_770, LXR0_1_774, LXR0_2_778, LXR0_4_782, LXR0_6_786, LXR0_8_790, hR0_0_771, hR0_1_775, hR0_2_779, hR0_4_783, hR0_6_787, hR0_8_791, mk_exF, (hS.re (.b (.thereb _ (.there _ (.there _ (.there _ (.there _ (.there _ (.there _ .hb))))))) (.b (.thereb _ (.there _ (.there _ (.there _ (.there _ (.there _ (.there _ .hb))))))) (.b .hb (.t (.there _ (.there _ (.there _ (.there _ (.there _ (.there _ .h)))))) (.t (.there _ (.there _ (.there _ (.there _ (.there _ (.there _ .h)))))) (.t (.there _ (.there _ (.there _ (.there _ (.there _ (.there _ .h)))))) (.t (.there _ (.there _ (.there _ (.there _ (.there _ (.there _ .h)))))) (.t (.there _ (.there _ (.there _ (.there _ (.there _ (.there _ .h)))))) (.t (.there _ (.there _ (.there _ (.there _ (.there _ (.there _ .h)))))) (.t .h (.t .h (.t .h (.t .h (.t .h (.t .h (.t .h .n)))))))))))))))))⟩ ?_
   clear hS hF
   intro n1449 q a w hI hq
   obtain ⟨x1296, x1297, x1302, x1307, x1312, x1313, x1318, x1319, x1324, x1325, x1330, x1331⟩ := q
   obtain ⟨v1298, v1303, v1308, v1314, v1320, v1326, LX1300, LX1305, LX1310, LX1316, LX1322, LX1328, h1299, h1304, h1309, h1315, h1321, h1327, ⟨s1450, rfl⟩, hS⟩ := hq
   replace h1299 : OwT 40 enc_uint32 1 x1297 v1298 LX1300 := h1299
   replace h1304 : OwT 40 enc_uint32 1 x1302 v1303 LX1305 := h1304
   replace h1309 : OwT 40 enc_uint32 1 x1307 v1308 LX1310 := h1309
   replace h1315 : OwT 40 enc_uint32 1 x1313 v1314 LX1316 := h1315
   replace h1321 : OwT 3 enc_int 1 x1319 v1320 LX1322 := h1321
   replace h1327 : OwT 73 enc_Write 3 x1325 v1326 LX1328 := h1327
   obtain ⟨z1447, hF, hK1448⟩ := iter_step hI
   clear hI
   dsimp only [l7_HazardFinds_b7] at hF
   iterate 2 (refine c_seq ?_)
   refine c_region <| oy hS y_move <| oy hS y_bin <| n_thenN ?_
   refine c_if (ht := fun c1451 => ?_) (hf := fun c1451 => ?_)
   · replace hF := bt c1451 hF
     refine wp_skip <| c_seq <| c_block <| c_seq <| c_region <| oy hS y_move ?_
     refine oy hS (y_loadW (fun w hS => hS.own (mC (mC (mH)))) underlying27 rfl (by exact sz_api_State)) ?_
     obtain ⟨r1452, hr1452, hF⟩ := ob hF
     refine o_callS hS func34 rfl rfl (hc := (w_hazard_Find (a0 := x45) (a1 := (⟨x1297, x1302, x1307, x1312, x1313, x1318, x1319, x1324, x1325, x1330, x1331⟩ : T_State)) (h0 := (OwT.plus h47 hS (fun p hp => mC (mC (mC (mB (mB (mB (mB (mB (mB (mB (mB (mB (mB (mB (mB (mA (hp))))))))))))))))))) (h1 := ⟨_, _, _, _, _, _, rfl, (OwT.plus h1299 hS (fun p hp => mC (mC (mC (mB (mB (mB (mB (mB (mB (mA (hp)))))))))))), (OwT.plus h1304 hS (fun p hp => mC (mC (mC (mB (mB (mB (mB (mB (mB (mB (mA (hp))))))))))))), (OwT.plus h1309 hS (fun p hp => mC (mC (mC (mB (mB (mB (mB (mB (mB (mB (mB (mA (hp)))))))))))))), (OwT.plus h1315 hS (fun p hp => mC (mC (mC (mB (mB (mB (mB (mB (mB (mB (mB (mB (mA (hp))))))))))))))), (OwT.plus h1321 hS (fun p hp => mC (mC (mC (mB (mB (mB (mB (mB (mB (mB (mB (mB (mB (mA (hp)))))))))))))))), (OwT.plus h1327 hS (fun p hp => mC (mC (mC (mB (mB (mB (mB (mB (mB (mB (mB (mB (mB (mB (mA (hp)))))))))))))))))⟩) (hF := hr1452))) (h := ?_)
     clear hS; intro w hS
     refine oy hS y_move ?_
     iterate 2 (refine oy hS (y_extract rfl) ?_)
     iterate 2 (refine oy hS y_assign ?_)
     refine n_thenN <| c_seq <| c_region <| oy hS y_move ?_
     refine oy hS (y_loadW (fun w hS => hS.own (mC (mC (mH)))) underlying27 rfl (by exact sz_api_State)) ?_
     obtain ⟨r1453, hr1453, hF⟩ := ob hF
     refine o_call0 hS func35 rfl rfl (hc := (w_hazard_Cycle (a0 := x45) (a1 := (⟨x1297, x1302, x1307, x1312, x1313, x1318, x1319, x1324, x1325, x1330, x1331⟩ : T_State)) (h0 := (OwT.plus h47 hS (fun p hp => mC (mC (mC (mB (mB (mB (mB (mB (mB (mB (mB (mB (mB (mB (mB (mA (hp))))))))))))))))))) (h1 := ⟨_, _, _, _, _, _, rfl, (OwT.plus h1299 hS (fun p hp => mC (mC (mC (mB (mB (mB (mB (mB (mB (mA (hp)))))))))))), (OwT.plus h1304 hS (fun p hp => mC (mC (mC (mB (mB (mB (mB (mB (mB (mB (mA (hp))))))))))))), (OwT.plus h1309 hS (fun p hp => mC (mC (mC (mB (mB (mB (mB (mB (mB (mB (mB (mA (hp)))))))))))))), (OwT.plus h1315 hS (fun p hp => mC (mC (mC (mB (mB (mB (mB (mB (mB (mB (mB (mB (mA (hp))))))))))))))), (OwT.plus h1321 hS (fun p hp => mC (mC (mC (mB (mB (mB (mB (mB (mB (mB (mB (mB (mB (mA (hp)))))))))))))))), (OwT.plus h1327 hS (fun p hp => mC (mC (mC (mB (mB (mB (mB (mB (mB (mB (mB (mB (mB (mB (mA (hp)))))))))))))))))⟩) (hF := hr1453))) (h := ?_)
     clear hS; intro v1454 LY1455 w hS hr1456
     obtain ⟨v_0_1457, LX_0_1458, rfl, rfl, h_0_1459⟩ := hr1456
     obtain ⟨vR0_0_1460, vR0_1_1464, vR0_2_1468, vR0_4_1472, vR0_6_1476, vR0_8_1480, LXR0_0_1461, LXR0_1_1465, LXR0_2_1469, LXR0_4_1473, LXR0_6_1477, LXR0_8_1481, rfl, rfl, hR0_0_1462, hR0_1_1466, hR0_2_1470, hR0_4_1474, hR0_6_1478, hR0_8_1482⟩ := h_0_1459
     simp only [aa, ac, al] at hS
     refine oy hS y_move ?_
     iterate 2 (refine oy hS (y_extract rfl) ?_)
     refine o_allocP (cl := (cl_State (.slice none 0 0) (.slice none 0 0) (.slice none 0 0) 0 (.slice none 0 0) 0 (.slice none 0 0) 0 (.slice none 0 0) 0 0)) zr_api_State rfl hS ?_
     clear hS; intro b1484 w hS
     refine o_storeW (vs := (cl_State vR0_0_1460 vR0_1_1464 vR0_2_1468 r1453.1.Taken vR0_4_1472 r1453.1.PC vR0_6_1476 r1453.1.Stop vR0_8_1480 r1453.1.Jump r1453.1.Delay)) hS (by exact rfl) (Upd.here _) (by exact sz_api_State) (one_State (hR0_0_1462).one (hR0_1_1466).one (hR0_2_1470).one (hR0_4_1474).one (hR0_6_1478).one (hR0_8_1482).one) ?_
     clear hS; intro w hS
     refine oy hS y_assign <| n_thenN ?_
     iterate 2 (refine c_seq ?_)
     refine c_region <| oy hS y_move <| oy hS y_not <| n_thenN ?_
     refine c_if (ht := fun c1485 => ?_) (hf := fun c1485 => ?_)
     · replace hF := bt c1485 hF
       refine c_seq <| c_region <| oy hS y_move ?_
       refine o_callS hS func33 rfl rfl (hc := (w_l7_num (a0 := r1452.2))) (h := ?_)
       clear hS; intro w hS
       refine oy hS y_bin ?_
       refine o_split (ht := fun c1486 => ?_) (hf := fun c1486 => ?_)
       · replace hF := bt c1486 hF
         refine o_gu rfl rfl rfl <| oy hS y_move <| o_gu rfl rfl rfl <| oy hS y_bin <| oy hS y_pickT ?_
         refine o_split (ht := fun c1487 => ?_) (hf := fun c1487 => ?_)
         · replace hF := bt c1487 hF
           refine o_gu rfl rfl rfl <| oy hS y_move <| o_gu rfl rfl rfl ?_
           refine o_callS hS func33 rfl rfl (hc := (w_l7_num (a0 := r1453.2))) (h := ?_)
           clear hS; intro w hS
           refine o_gu rfl rfl rfl <| oy hS y_bin <| oy hS y_pickT ?_
           refine o_split (ht := fun c1488 => ?_) (hf := fun c1488 => ?_)
           · replace hF := bt c1488 hF
             refine o_gu rfl rfl rfl ?_
             refine oy hS (y_loadW (fun w hS => hS.own (mH)) underlying27 rfl (by exact sz_api_State)) ?_
             refine o_gu rfl rfl rfl <| oy hS (y_build (cl := (cl_State (.slice none 0 0) (.slice none 0 0) (.slice none 0 0) 0 (.slice none 0 0) 0 (.slice none 0 0) 0 (.slice none 0 0) 0 0)) bt_api_State rfl fillN) <| o_gu rfl rfl rfl ?_
             obtain ⟨r1489, hr1489, hF⟩ := ob hF
             refine o_callS hS func28 rfl rfl (hc := (w_r0_EqState (a0 := r1453.1) (a1 := (⟨[], [], [], 0, [], 0, [], 0, [], 0, 0⟩ : T_State)) (h0 := ⟨_, _, _, _, _, _, rfl, (OwT.plus hR0_0_1462 hS (fun p hp => mC (mA (hp)))), (OwT.plus hR0_1_1466 hS (fun p hp => mC (mB (mA (hp))))), (OwT.plus hR0_2_1470 hS (fun p hp => mC (mB (mB (mA (hp)))))), (OwT.plus hR0_4_1474 hS (fun p hp => mC (mB (mB (mB (mA (hp))))))), (OwT.plus hR0_6_1478 hS (fun p hp => mC (mB (mB (mB (mB (mA (hp)))))))), (OwT.plus hR0_8_1482 hS (fun p hp => mC (mB (mB (mB (mB (mB (mA (hp)))))))))⟩) (h1 := ⟨_, _, _, _, _, _, rfl, (SlR.nil _ _), (SlR.nil _ _), (SlR.nil _ _), (SlR.nil _ _), (SlR.nil _ _), (SlR.nil _ _)⟩) (hF := hr1489))) (h := ?_)
             clear hS; intro w hS
             refine oy hS y_pickT ?_
             refine o_split (ht := fun c1490 => ?_) (hf := fun c1490 => ?_)
             · replace hF := bt c1490 hF
               refine o_gu rfl rfl rfl ?_
               obtain ⟨r1491, hr1491, hF⟩ := ob hF
               refine o_callS hS func36 rfl rfl (hc := (w_l7_wakes  (hF := hr1491))) (h := ?_)
               clear hS; intro w hS
               refine oy hS y_pickT <| oy hS y_assign <| n_thenN ?_
               obtain rfl := osi hF
               obtain rfl : _ = z1179 := hK1448
               obtain rfl : _ = r := hK1180
               exact wp_ret (wr1 hS)
             replace hF := bf c1490 hF
             refine o_sk rfl rfl ?_
             refine oy hS y_pickF <| oy hS y_assign <| n_thenN ?_
             obtain rfl := osi hF
             obtain rfl : _ = z1179 := hK1448
             obtain rfl : _ = r := hK1180
             exact wp_ret (wr1 hS)
           replace hF := bf c1488 hF
           iterate 3 (refine o_sk rfl rfl ?_)
           refine oy hS y_pickF <| oy hS y_move ?_
           refine o_sk rfl rfl ?_
           refine oy hS y_pickF <| oy hS y_assign <| n_thenN ?_
           obtain rfl := osi hF
           obtain rfl : _ = z1179 := hK1448
           obtain rfl : _ = r := hK1180
           exact wp_ret (wr1 hS)
         replace hF := bf c1487 hF
         iterate 3 (refine o_sk rfl rfl ?_)
         refine oy hS y_pickF <| oy hS y_move ?_
         iterate 3 (refine o_sk rfl rfl ?_)
         refine oy hS y_pickF <| oy hS y_move ?_
         refine o_sk rfl rfl ?_
         refine oy hS y_pickF <| oy hS y_assign <| n_thenN ?_
         obtain rfl := osi hF
         obtain rfl : _ = z1179 := hK1448
         obtain rfl : _ = r := hK1180
         exact wp_ret (wr1 hS)
       replace hF := bf c1486 hF
       iterate 2 (refine o_sk rfl rfl ?_)
       refine oy hS y_pickF <| oy hS y_move ?_
       iterate 3 (refine o_sk rfl rfl ?_)
       refine oy hS y_pickF <| oy hS y_move ?_
       iterate 3 (refine o_sk rfl rfl ?_)
       refine oy hS y_pickF <| oy hS y_move ?_
       refine o_sk rfl rfl ?_
       refine oy hS y_pickF <| oy hS y_assign <| n_thenN ?_
       obtain rfl := osi hF
       obtain rfl : _ = z1179 := hK1448
       obtain rfl : _ = r := hK1180
       exact wp_ret (wr1 hS)
     replace hF := bf c1485 hF
     refine wp_skip <| c_seq <| c_region <| oy hS (y_field fa_sledgelaw6_Script_0) <| oy hS (y_load (fun w hS => hS.own (mC (mB (mB (mB (mB (mB (mB (mH))))))))) underlying22 rfl rfl) ?_
     refine oy hS (y_loadW (fun w hS => hS.own (mC (mB (mB (mB (mB (mB (mB (mC (mC (mH))))))))))) underlying27 rfl (by exact sz_api_State)) ?_
     obtain ⟨r1492, hr1492, hF⟩ := ob hF
     refine o_call0 hS func27 rfl rfl (hc := (w_r5_Cycles (a0 := a0.C) (a1 := (⟨x1297, x1302, x1307, x1312, x1313, x1318, x1319, x1324, x1325, x1330, x1331⟩ : T_State)) (a2 := 1) (a3 := true) (h0 := h0_0_.plus) (h1 := ⟨_, _, _, _, _, _, rfl, (OwT.plus h1299 hS (fun p hp => mC (mB (mB (mB (mB (mB (mB (mC (mC (mC (mB (mB (mB (mB (mB (mB (mA (hp))))))))))))))))))), (OwT.plus h1304 hS (fun p hp => mC (mB (mB (mB (mB (mB (mB (mC (mC (mC (mB (mB (mB (mB (mB (mB (mB (mA (hp)))))))))))))))))))), (OwT.plus h1309 hS (fun p hp => mC (mB (mB (mB (mB (mB (mB (mC (mC (mC (mB (mB (mB (mB (mB (mB (mB (mB (mA (hp))))))))))))))))))))), (OwT.plus h1315 hS (fun p hp => mC (mB (mB (mB (mB (mB (mB (mC (mC (mC (mB (mB (mB (mB (mB (mB (mB (mB (mB (mA (hp)))))))))))))))))))))), (OwT.plus h1321 hS (fun p hp => mC (mB (mB (mB (mB (mB (mB (mC (mC (mC (mB (mB (mB (mB (mB (mB (mB (mB (mB (mB (mA (hp))))))))))))))))))))))), (OwT.plus h1327 hS (fun p hp => mC (mB (mB (mB (mB (mB (mB (mC (mC (mC (mB (mB (mB (mB (mB (mB (mB (mB (mB (mB (mB (mA (hp))))))))))))))))))))))))⟩) (hF := hr1492))) (h := ?_)
     clear hS; intro v1493 LY1494 w hS hr1495
     obtain ⟨v_0_1496, LX_0_1497, rfl, rfl, h_0_1498⟩ := hr1495
     obtain ⟨vR0_0_1499, vR0_1_1503, vR0_2_1507, vR0_4_1511, vR0_6_1515, vR0_8_1519, LXR0_0_1500, LXR0_1_1504, LXR0_2_1508, LXR0_4_1512, LXR0_6_1516, LXR0_8_1520, rfl, rfl, hR0_0_1501, hR0_1_1505, hR0_2_1509, hR0_4_1513, hR0_6_1517, hR0_8_1521⟩ := h_0_1498
     simp only [aa, ac, al] at hS
     refine oy hS y_move ?_
     iterate 2 (refine oy hS (y_extract rfl) ?_)
     refine o_allocP (cl := (cl_State (.slice none 0 0) (.slice none 0 0) (.slice none 0 0) 0 (.slice none 0 0) 0 (.slice none 0 0) 0 (.slice none 0 0) 0 0)) zr_api_State rfl hS ?_
     clear hS; intro b1523 w hS
     refine o_storeW (vs := (cl_State vR0_0_1499 vR0_1_1503 vR0_2_1507 r1492.1.Taken vR0_4_1511 r1492.1.PC vR0_6_1515 r1492.1.Stop vR0_8_1519 r1492.1.Jump r1492.1.Delay)) hS (by exact rfl) (Upd.here _) (by exact sz_api_State) (one_State (hR0_0_1501).one (hR0_1_1505).one (hR0_2_1509).one (hR0_4_1513).one (hR0_6_1517).one (hR0_8_1521).one) ?_
     clear hS; intro w hS
     refine oy hS y_assign <| n_thenN ?_
     iterate 2 (refine c_seq ?_)
     refine c_region <| oy hS y_move ?_
     refine o_callS hS func33 rfl rfl (hc := (w_l7_num (a0 := r1452.2))) (h := ?_)
     clear hS; intro w hS
     refine oy hS y_bin ?_
     refine o_split (ht := fun c1524 => ?_) (hf := fun c1524 => ?_)
     · replace hF := bt c1524 hF
       iterate 6 (refine o_sk rfl rfl ?_)
       refine oy hS y_pickT <| oy hS y_move ?_
       iterate 3 (refine o_sk rfl rfl ?_)
       refine oy hS y_pickT <| oy hS y_move ?_
       iterate 4 (refine o_sk rfl rfl ?_)
       refine oy hS y_pickT <| n_thenN ?_
       refine c_if_true (h := ?_)
       refine c_seq <| c_region <| oy hS y_assign <| n_thenN ?_
       obtain rfl := osi hF
       obtain rfl : _ = z1179 := hK1448
       obtain rfl : _ = r := hK1180
       exact wp_ret (wr1 hS)
     replace hF := bf c1524 hF
     refine o_gu rfl rfl rfl <| oy hS y_move <| o_gu rfl rfl rfl <| oy hS (y_field fa_sledgelaw6_Script_0) <| o_gu rfl rfl rfl <| oy hS (y_load (fun w hS => hS.own (mC (mB (mB (mB (mB (mB (mB (mC (mB (mB (mB (mB (mB (mB (mH)))))))))))))))) underlying22 rfl rfl) <| o_gu rfl rfl rfl ?_
     refine oy hS (y_loadW (fun w hS => hS.own (mC (mB (mB (mB (mB (mB (mB (mC (mB (mB (mB (mB (mB (mB (mC (mC (mH)))))))))))))))))) underlying27 rfl (by exact sz_api_State)) ?_
     refine o_gu rfl rfl rfl ?_
     obtain ⟨r1525, hr1525, hF⟩ := ob hF
     refine o_callS hS func37 rfl rfl (hc := (w_r5_Find (a0 := a0.C) (a1 := (⟨x1297, x1302, x1307, x1312, x1313, x1318, x1319, x1324, x1325, x1330, x1331⟩ : T_State)) (h0 := h0_0_.plus) (h1 := ⟨_, _, _, _, _, _, rfl, (OwT.plus h1299 hS (fun p hp => mC (mB (mB (mB (mB (mB (mB (mC (mB (mB (mB (mB (mB (mB (mC (mC (mC (mB (mB (mB (mB (mB (mB (mA (hp)))))))))))))))))))))))))), (OwT.plus h1304 hS (fun p hp => mC (mB (mB (mB (mB (mB (mB (mC (mB (mB (mB (mB (mB (mB (mC (mC (mC (mB (mB (mB (mB (mB (mB (mB (mA (hp))))))))))))))))))))))))))), (OwT.plus h1309 hS (fun p hp => mC (mB (mB (mB (mB (mB (mB (mC (mB (mB (mB (mB (mB (mB (mC (mC (mC (mB (mB (mB (mB (mB (mB (mB (mB (mA (hp)))))))))))))))))))))))))))), (OwT.plus h1315 hS (fun p hp => mC (mB (mB (mB (mB (mB (mB (mC (mB (mB (mB (mB (mB (mB (mC (mC (mC (mB (mB (mB (mB (mB (mB (mB (mB (mB (mA (hp))))))))))))))))))))))))))))), (OwT.plus h1321 hS (fun p hp => mC (mB (mB (mB (mB (mB (mB (mC (mB (mB (mB (mB (mB (mB (mC (mC (mC (mB (mB (mB (mB (mB (mB (mB (mB (mB (mB (mA (hp)))))))))))))))))))))))))))))), (OwT.plus h1327 hS (fun p hp => mC (mB (mB (mB (mB (mB (mB (mC (mB (mB (mB (mB (mB (mB (mC (mC (mC (mB (mB (mB (mB (mB (mB (mB (mB (mB (mB (mB (mA (hp)))))))))))))))))))))))))))))))⟩) (hF := hr1525))) (h := ?_)
     clear hS; intro w hS
     refine o_gu rfl rfl rfl <| oy hS y_bin <| oy hS y_pickF ?_
     refine o_split (ht := fun c1526 => ?_) (hf := fun c1526 => ?_)
     · replace hF := bt c1526 hF
       iterate 3 (refine o_sk rfl rfl ?_)
       refine oy hS y_pickT <| oy hS y_move ?_
       iterate 4 (refine o_sk rfl rfl ?_)
       refine oy hS y_pickT <| n_thenN ?_
       refine c_if_true (h := ?_)
       refine c_seq <| c_region <| oy hS y_assign <| n_thenN ?_
       obtain rfl := osi hF
       obtain rfl : _ = z1179 := hK1448
       obtain rfl : _ = r := hK1180
       exact wp_ret (wr1 hS)
     replace hF := bf c1526 hF
     refine o_gu rfl rfl rfl <| oy hS y_move <| o_gu rfl rfl rfl ?_
     refine o_callS hS func33 rfl rfl (hc := (w_l7_num (a0 := r1453.2))) (h := ?_)
     clear hS; intro w hS
     refine o_gu rfl rfl rfl <| oy hS y_bin <| oy hS y_pickF ?_
     refine o_split (ht := fun c1527 => ?_) (hf := fun c1527 => ?_)
     · replace hF := bt c1527 hF
       iterate 4 (refine o_sk rfl rfl ?_)
       refine oy hS y_pickT <| n_thenN ?_
       refine c_if_true (h := ?_)
       refine c_seq <| c_region <| oy hS y_assign <| n_thenN ?_
       obtain rfl := osi hF
       obtain rfl : _ = z1179 := hK1448
       obtain rfl : _ = r := hK1180
       exact wp_ret (wr1 hS)
     replace hF := bf c1527 hF
     refine o_gu rfl rfl rfl ?_
     refine oy hS (y_loadW (fun w hS => hS.own (mC (mB (mB (mB (mB (mB (mB (mH))))))))) underlying27 rfl (by exact sz_api_State)) ?_
     refine o_gu rfl rfl rfl ?_
     refine oy hS (y_loadW (fun w hS => hS.own (mH)) underlying27 rfl (by exact sz_api_State)) ?_
     refine o_gu rfl rfl rfl ?_
     obtain ⟨r1528, hr1528, hF⟩ := ob hF
     refine o_callS hS func28 rfl rfl (hc := (w_r0_EqState (a0 := r1453.1) (a1 := r1492.1) (h0 := ⟨_, _, _, _, _, _, rfl, (OwT.plus hR0_0_1462 hS (fun p hp => mC (mB (mB (mB (mB (mB (mB (mC (mA (hp))))))))))), (OwT.plus hR0_1_1466 hS (fun p hp => mC (mB (mB (mB (mB (mB (mB (mC (mB (mA (hp)))))))))))), (OwT.plus hR0_2_1470 hS (fun p hp => mC (mB (mB (mB (mB (mB (mB (mC (mB (mB (mA (hp))))))))))))), (OwT.plus hR0_4_1474 hS (fun p hp => mC (mB (mB (mB (mB (mB (mB (mC (mB (mB (mB (mA (hp)))))))))))))), (OwT.plus hR0_6_1478 hS (fun p hp => mC (mB (mB (mB (mB (mB (mB (mC (mB (mB (mB (mB (mA (hp))))))))))))))), (OwT.plus hR0_8_1482 hS (fun p hp => mC (mB (mB (mB (mB (mB (mB (mC (mB (mB (mB (mB (mB (mA (hp))))))))))))))))⟩) (h1 := ⟨_, _, _, _, _, _, rfl, (OwT.plus hR0_0_1501 hS (fun p hp => mC (mA (hp)))), (OwT.plus hR0_1_1505 hS (fun p hp => mC (mB (mA (hp))))), (OwT.plus hR0_2_1509 hS (fun p hp => mC (mB (mB (mA (hp)))))), (OwT.plus hR0_4_1513 hS (fun p hp => mC (mB (mB (mB (mA (hp))))))), (OwT.plus hR0_6_1517 hS (fun p hp => mC (mB (mB (mB (mB (mA (hp)))))))), (OwT.plus hR0_8_1521 hS (fun p hp => mC (mB (mB (mB (mB (mB (mA (hp)))))))))⟩) (hF := hr1528))) (h := ?_)
     clear hS; intro w hS
     refine o_gu rfl rfl rfl <| oy hS y_not <| oy hS y_pickF <| n_thenN ?_
     refine c_if (ht := fun c1529 => ?_) (hf := fun c1529 => ?_)
     · replace hF := bt c1529 hF
       refine c_seq <| c_region <| oy hS y_assign <| n_thenN ?_
       obtain rfl := osi hF
       obtain rfl : _ = z1179 := hK1448
       obtain rfl : _ = r := hK1180
       exact wp_ret (wr1 hS)
     replace hF := bf c1529 hF
     refine wp_skip <| c_seq <| c_region ?_
     refine oy hS (y_loadW (fun w hS => hS.own (mC (mB (mB (mB (mB (mB (mB (mH))))))))) underlying27 rfl (by exact sz_api_State)) ?_
     have hS := hS.re (.t (.thereb _ (.there _ (.there _ (.there _ (.there _ (.there _ (.there _ (.thereb _ .h)))))))) (.t (.thereb _ (.there _ (.there _ (.there _ (.there _ (.there _ (.there _ (.thereb _ .h)))))))) (.t (.thereb _ (.there _ (.there _ (.there _ (.there _ (.there _ (.there _ (.thereb _ .h)))))))) (.t (.thereb _ (.there _ (.there _ (.there _ (.there _ (.there _ (.there _ (.thereb _ .h)))))))) (.t (.thereb _ (.there _ (.there _ (.there _ (.there _ (.there _ (.there _ (.thereb _ .h)))))))) (.t (.thereb _ (.there _ (.there _ (.there _ (.there _ (.there _ (.there _ (.thereb _ .h)))))))) (.b .hb (.t .h (.t .h (.t .h (.t .h (.t .h (.t .h (.b .hb (.b .hb (.b .hb (.b .hb (.t .h (.t .h (.t .h (.t .h (.t .h (.t .h (.t .h (.t .h (.t .h (.t .h (.t .h (.t .h (.t .h .n))))))))))))))))))))))))))))))
     have hS2 := hS.spl (.app _ (.app _ (.app _ (.app _ (.app _ (.app _ (.nil _)))))))
     obtain ⟨r1530, hr1530, hF⟩ := ob hF
     refine o_call hS2 func31 rfl rfl (hc := (w_l0_State (a0 := r1453.1) (h0 := (⟨_, _, _, _, _, _, _, _, _, _, _, _, rfl, rfl, hR0_0_1462, hR0_1_1466, hR0_2_1470, hR0_4_1474, hR0_6_1478, hR0_8_1482⟩ : Ow_State r1453.1 (.agg (cl_State vR0_0_1460 vR0_1_1464 vR0_2_1468 r1453.1.Taken vR0_4_1472 r1453.1.PC vR0_6_1476 r1453.1.Stop vR0_8_1480 r1453.1.Jump r1453.1.Delay).toArray) (LXR0_0_1461 ++ (LXR0_1_1465 ++ (LXR0_2_1469 ++ (LXR0_4_1473 ++ (LXR0_6_1477 ++ (LXR0_8_1481 ++ [])))))))) (hF := hr1530))) (h := ?_)
     clear hS; intro v1531 LY1532 w hS hr1533
     clear hS2
     obtain ⟨rfl, rfl⟩ := hr1533
     refine n_thenN <| c_region <| oy hS (y_field fa_sledgelaw6_Script_0) <| oy hS (y_load (fun w hS => hS.own (mC (mB (mB (mB (mB (mB (mB (mC (mH)))))))))) underlying22 rfl rfl) ?_
     refine oy hS (y_loadW (fun w hS => hS.own (mC (mB (mB (mB (mB (mB (mB (mC (mC (mC (mH)))))))))))) underlying27 rfl (by exact sz_api_State)) ?_
     refine oy hS y_move ?_
     obtain ⟨x1534, hx1534, hF⟩ := ob hF
     refine oy hS (y_rem hx1534) <| oy hS y_bin ?_
     obtain ⟨r1535, hr1535, hF⟩ := ob hF
     refine o_call0 hS func27 rfl rfl (hc := (w_r5_Cycles (a0 := a0.C) (a1 := (⟨x1297, x1302, x1307, x1312, x1313, x1318, x1319, x1324, x1325, x1330, x1331⟩ : T_State)) (a2 := 1) (a3 := (decide (x1534 = 0))) (h0 := h0_0_.plus) (h1 := ⟨_, _, _, _, _, _, rfl, (OwT.plus h1299 hS (fun p hp => mC (mB (mB (mB (mB (mB (mB (mC (mC (mC (mC (mB (mB (mB (mB (mB (mB (mA (hp)))))))))))))))))))), (OwT.plus h1304 hS (fun p hp => mC (mB (mB (mB (mB (mB (mB (mC (mC (mC (mC (mB (mB (mB (mB (mB (mB (mB (mA (hp))))))))))))))))))))), (OwT.plus h1309 hS (fun p hp => mC (mB (mB (mB (mB (mB (mB (mC (mC (mC (mC (mB (mB (mB (mB (mB (mB (mB (mB (mA (hp)))))))))))))))))))))), (OwT.plus h1315 hS (fun p hp => mC (mB (mB (mB (mB (mB (mB (mC (mC (mC (mC (mB (mB (mB (mB (mB (mB (mB (mB (mB (mA (hp))))))))))))))))))))))), (OwT.plus h1321 hS (fun p hp => mC (mB (mB (mB (mB (mB (mB (mC (mC (mC (mC (mB (mB (mB (mB (mB (mB (mB (mB (mB (mB (mA (hp)))))))))))))))))))))))), (OwT.plus h1327 hS (fun p hp => mC (mB (mB (mB (mB (mB (mB (mC (mC (mC (mC (mB (mB (mB (mB (mB (mB (mB (mB (mB (mB (mB (mA (hp)))))))))))))))))))))))))⟩) (hF := hr1535))) (h := ?_)
     clear hS; intro v1536 LY1537 w hS hr1538
     obtain ⟨v_0_1539, LX_0_1540, rfl, rfl, h_0_1541⟩ := hr1538
     obtain ⟨vR0_0_1542, vR0_1_1546, vR0_2_1550, vR0_4_1554, vR0_6_1558, vR0_8_1562, LXR0_0_1543, LXR0_1_1547, LXR0_2_1551, LXR0_4_1555, LXR0_6_1559, LXR0_8_1563, rfl, rfl, hR0_0_1544, hR0_1_1548, hR0_2_1552, hR0_4_1556, hR0_6_1560, hR0_8_1564⟩ := h_0_1541
     simp only [aa, ac, al] at hS
     refine oy hS y_move ?_
     iterate 2 (refine oy hS (y_extract rfl) ?_)
     have hS := hS.re (.b (.there _ (.there _ (.there _ (.there _ (.there _ (.there _ (.thereb _ (.there _ (.there _ (.there _ (.there _ (.there _ (.there _ (.thereb _ (.thereb _ (.thereb _ .hb)))))))))))))))) (.t .h (.t .h (.t .h (.t .h (.t .h (.t .h (.b .hb (.t .h (.t .h (.t .h (.t .h (.t .h (.t .h (.b .hb (.b .hb (.b .hb (.t .h (.t .h (.t .h (.t .h (.t .h (.t .h (.t .h (.t .h (.t .h (.t .h (.t .h (.t .h (.t .h .n))))))))))))))))))))))))))))))
     refine o_storeW (vs := (cl_State vR0_0_1542 vR0_1_1546 vR0_2_1550 r1535.1.Taken vR0_4_1554 r1535.1.PC vR0_6_1558 r1535.1.Stop vR0_8_1562 r1535.1.Jump r1535.1.Delay)) hS (by exact rfl) (Upd.here _) (by exact sz_api_State) (one_State (hR0_0_1544).one (hR0_1_1548).one (hR0_2_1552).one (hR0_4_1556).one (hR0_6_1560).one (hR0_8_1564).one) ?_
     clear hS; intro w hS
     refine n_anyN ?_
     refine c_region <| oy hS y_move <| oy hS y_bin <| oy hS y_assign <| n_thenN ?_
     obtain rfl := osi hF
     exact ⟨_, hK1448, vR0_0_1542, vR0_1_1546, vR0_2_1550, vR0_4_1554, vR0_6_1558, vR0_8_1562, LXR0_0_1543, LXR0_1_1547, LXR0_2_1551, LXR0_4_1555, LXR0_6_1559, LXR0_8_1563, hR0_0_1544, hR0_1_1548, hR0_2_1552, hR0_4_1556, hR0_6_1560, hR0_8_1564, mk_exF, (hS.re (.b (.thereb _ (.there _ (.there _ (.there _ (.there _ (.there _ (.there _ (.thereb _ (.there _ (.there _ (.there _ (.there _ (.there _ (.there _ (.thereb _ .hb))))))))))))))) (.b (.thereb _ (.there _ (.there _ (.there _ (.there _ (.there _ (.there _ (.thereb _ (.there _ (.there _ (.there _ (.there _ (.there _ (.there _ (.thereb _ .hb))))))))))))))) (.b .hb (.t (.there _ (.there _ (.there _ (.there _ (.there _ (.there _ (.thereb _ (.there _ (.there _ (.there _ (.there _ (.there _ (.there _ (.thereb _ .h)))))))))))))) (.t (.there _ (.there _ (.there _ (.there _ (.there _ (.there _ (.thereb _ (.there _ (.there _ (.there _ (.there _ (.there _ (.there _ (.thereb _ .h)))))))))))))) (.t (.there _ (.there _ (.there _ (.there _ (.there _ (.there _ (.thereb _ (.there _ (.there _ (.there _ (.there _ (.there _ (.there _ (.thereb _ .h)))))))))))))) (.t (.there _ (.there _ (.there _ (.there _ (.there _ (.there _ (.thereb _ (.there _ (.there _ (.there _ (.there _ (.there _ (.there _ (.thereb _ .h)))))))))))))) (.t (.there _ (.there _ (.there _ (.there _ (.there _ (.there _ (.thereb _ (.there _ (.there _ (.there _ (.there _ (.there _ (.there _ (.thereb _ .h)))))))))))))) (.t (.there _ (.there _ (.there _ (.there _ (.there _ (.there _ (.thereb _ (.there _ (.there _ (.there _ (.there _ (.there _ (.there _ (.thereb _ .h)))))))))))))) (.t .h (.t .h (.t .h (.t .h (.t .h (.t .h (.t (.thereb _ (.there _ (.there _ (.there _ (.there _ (.there _ (.there _ (.thereb _ (.there _ (.there _ (.there _ (.there _ (.there _ (.there _ .h)))))))))))))) .n)))))))))))))))))⟩
   replace hF := bf c1451 hF
   refine wp_exit ?_
   obtain rfl := osi hF
   obtain rfl : _ = z1179 := hK1448
   change _ ∧ _
   exact ⟨hK1180, mk_exF, (hS.re (.b .hb (.b .hb (.t (.thereb _ .h) (.t (.thereb _ .h) (.t (.thereb _ .h) (.t (.thereb _ .h) (.t (.thereb _ .h) (.t (.thereb _ .h) (.t (.thereb _ (.there _ (.there _ (.there _ (.there _ (.there _ (.there _ .h))))))) .n))))))))))⟩
 rintro a w ⟨hF, ⟨s1566, rfl⟩, hS⟩
 dsimp only [l7_HazardFinds_k6] at hF
 refine c_seq <| c_region ?_
 refine oy hS (y_loadW (fun w hS => hS.own (mC (mH))) underlying27 rfl (by exact sz_api_State)) ?_
 refine oy hS (y_field fa_sledgelaw6_Script_1) ?_
 refine oy hS (y_loadN (vs := (cl_State v0_1_ v0_2_ v0_3_ a0.S.Taken v0_5_ a0.S.PC v0_7_ a0.S.Stop v0_9_ a0.S.Jump a0.S.Delay)) (fun w hS => hS.own (mH)) underlying27 rfl (by exact sz_api_State) (subd (o := 0 + 1) (by exact rfl))) ?_
 obtain ⟨r1567, hr1567, hF⟩ := ob hF
 refine o_callS hS func28 rfl rfl (hc := (w_r0_EqState (a0 := (⟨x50, x55, x60, x65, x66, x71, x72, x77, x78, x83, x84⟩ : T_State)) (a1 := a0.S) (h0 := ⟨_, _, _, _, _, _, rfl, (OwT.plus h52 hS (fun p hp => mC (mC (mA (hp))))), (OwT.plus h57 hS (fun p hp => mC (mC (mB (mA (hp)))))), (OwT.plus h62 hS (fun p hp => mC (mC (mB (mB (mA (hp))))))), (OwT.plus h68 hS (fun p hp => mC (mC (mB (mB (mB (mA (hp)))))))), (OwT.plus h74 hS (fun p hp => mC (mC (mB (mB (mB (mB (mA (hp))))))))), (OwT.plus h80 hS (fun p hp => mC (mC (mB (mB (mB (mB (mB (mA (hp))))))))))⟩) (h1 := ⟨_, _, _, _, _, _, rfl, h0_1_.plus, h0_2_.plus, h0_3_.plus, h0_5_.plus, h0_7_.plus, h0_9_.plus⟩) (hF := hr1567))) (h := ?_)
 clear hS; intro w hS
 refine o_split (ht := fun c1568 => ?_) (hf := fun c1568 => ?_)
 · replace hF := bt c1568 hF
   refine o_gu rfl rfl rfl <| oy hS y_move <| o_gu rfl rfl rfl <| oy hS (y_field fa_sledgelaw6_Script_0) <| o_gu rfl rfl rfl <| oy hS (y_load (fun w hS => hS.own (mH)) underlying22 rfl rfl) <| o_gu rfl rfl rfl ?_
   obtain ⟨r1569, hr1569, hF⟩ := ob hF
   refine o_callS hS func29 rfl rfl (hc := (w_r0_EqBundles (a0 := x45) (a1 := a0.C) (h0 := (OwT.plus h47 hS (fun p hp => mC (mC (mB (mB (mB (mB (mB (mB (mA (hp)))))))))))) (h1 := h0_0_.plus) (hF := hr1569))) (h := ?_)
   clear hS; intro w hS
   refine oy hS y_pickT ?_
   refine o_split (ht := fun c1570 => ?_) (hf := fun c1570 => ?_)
   · replace hF := bt c1570 hF
     refine o_gu rfl rfl rfl ?_
     obtain ⟨r1571, hr1571, hF⟩ := ob hF
     refine o_callS hS func36 rfl rfl (hc := (w_l7_wakes  (hF := hr1571))) (h := ?_)
     clear hS; intro w hS
     refine oy hS y_pickT <| oy hS y_assign <| n_thenN ?_
     obtain rfl := osi hF
     exact wp_ret (wr1 hS)
   replace hF := bf c1570 hF
   refine o_sk rfl rfl ?_
   refine oy hS y_pickF <| oy hS y_assign <| n_thenN ?_
   obtain rfl := osi hF
   exact wp_ret (wr1 hS)
 replace hF := bf c1568 hF
 iterate 4 (refine o_sk rfl rfl ?_)
 refine oy hS y_pickF <| oy hS y_move ?_
 refine o_sk rfl rfl ?_
 refine oy hS y_pickF <| oy hS y_assign <| n_thenN ?_
 obtain rfl := osi hF
 exact wp_ret (wr1 hS)
theorem w_l7_HazardFinds {g : Frag} {a0 : T_Script} {v0_ : Value} {r : Bool} (h0 : Rd_Script g a0 v0_) (hF : l7_HazardFinds a0 = some r) : LCs Tryz.prog 9 #[v0_] g (.bool r) := w_l7_HazardFinds_ h0 hF
end Go.Proofs.YthbpicnbkdbbmaaGreat
