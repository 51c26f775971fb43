/- The law PipeCycles, lifted. Printed by lift.py. -/
import Derived.Test.YthbpicnbkdbbmaaGreatProg
import Derived.Test.YthbpicnbkdbbmaaGreatP10
import Derived.KernelRfl
namespace Go.Proofs.YthbpicnbkdbbmaaGreat
open Go Go.RowKit Fr
set_option linter.unusedVariables false
set_option linter.unusedSimpArgs false
set_option maxRecDepth 20000
open Tryz
set_option maxHeartbeats 2000000
noncomputable def l6_PipeCycles_k6 (r1100 : (T_State × Int × Int)) (x50 : (List Int)) (x55 : (List Int)) (x60 : (List Int)) (x65 : Int) (x66 : (List Int)) (x71 : Int) (x72 : (List Int)) (x77 : Int) (x78 : (List T_Write)) (x83 : Int) (x84 : Int) (a0 : T_Script) (x45 : (List (A4 T_Ins))) (x886 : Int) : (Int × Int × (List Int) × (List Int) × (List Int) × Int × (List Int) × Int × (List Int) × Int × (List T_Write) × Int × Int) → Option (Step Int (Step Unit Bool)) := fun (x1167, x1168, x1169, x1174, x1179, x1184, x1185, x1190, x1191, x1196, x1197, x1202, x1203) => bif decide ((l6_num r1100.2.2) ≠ x1167) then some (.done (.done (false))) else bif decide (r1100.2.1 ≠ x1168) then some (.done (.done (false))) else (r0_EqState r1100.1 (⟨x1169, x1174, x1179, x1184, x1185, x1190, x1191, x1196, x1197, x1202, x1203⟩ : T_State)).bind fun r1255 => bif !r1255 then some (.done (.done (false))) else (r0_EqState (⟨x50, x55, x60, x65, x66, x71, x72, x77, x78, x83, x84⟩ : T_State) a0.S).bind fun r1257 => bif !r1257 then some (.done (.done (false))) else (r0_EqBundles x45 a0.C).bind fun r1259 => bif !r1259 then some (.done (.done (false))) else some (.next (IntKind.i64.wrap (x886 + 1)))
noncomputable def l6_PipeCycles_k5 (x45 : (List (A4 T_Ins))) (x50 : (List Int)) (x55 : (List Int)) (x60 : (List Int)) (x65 : Int) (x66 : (List Int)) (x71 : Int) (x72 : (List Int)) (x77 : Int) (x78 : (List T_Write)) (x83 : Int) (x84 : Int) (a0 : T_Script) (x886 : Int) : Int → Option (Step Int (Step Unit Bool)) := fun x1094 => (pipe_Run x45 (⟨x50, x55, x60, x65, x66, x71, x72, x77, x78, x83, x84⟩ : T_State) x1094).bind fun r1100 => cut (σ := (Int × Int × (List Int) × (List Int) × (List Int) × Int × (List Int) × Int × (List Int) × Int × (List T_Write) × Int × Int)) ((l6_May a0).bind fun r1206 => bif r1206 then bif (r0_Num x1094 20000) then (r5_Cycles a0.C a0.S x1094 false).bind fun r1209 => some (.next (0, r1209.2, r1209.1.Regs, r1209.1.Mem, r1209.1.In_, r1209.1.Taken, r1209.1.Out, r1209.1.PC, r1209.1.Stack, r1209.1.Stop, r1209.1.Fly, r1209.1.Jump, r1209.1.Delay)) else some (.next (1, 0, [], [], [], 0, [], 0, [], 0, [], 0, 0)) else some (.next (1, 0, [], [], [], 0, [], 0, [], 0, [], 0, 0))) (l6_PipeCycles_k6 r1100 x50 x55 x60 x65 x66 x71 x72 x77 x78 x83 x84 a0 x45 x886)
noncomputable def l6_PipeCycles_k4 (zs138 : (List Int)) (x886 : Int) (x45 : (List (A4 T_Ins))) (x50 : (List Int)) (x55 : (List Int)) (x60 : (List Int)) (x65 : Int) (x66 : (List Int)) (x71 : Int) (x72 : (List Int)) (x77 : Int) (x78 : (List T_Write)) (x83 : Int) (x84 : Int) (a0 : T_Script) : Unit → Option (Step Int (Step Unit Bool)) := fun _ => (at' zs138 x886).bind fun x1083 => cut (σ := Int) (bif decide (150 < x1083) then bif decide (x1083 ≤ 20000) then some (.next 150) else some (.next x1083) else some (.next x1083)) (l6_PipeCycles_k5 x45 x50 x55 x60 x65 x66 x71 x72 x77 x78 x83 x84 a0 x886)
noncomputable def l6_PipeCycles_b3 (zs138 : (List Int)) (x45 : (List (A4 T_Ins))) (x50 : (List Int)) (x55 : (List Int)) (x60 : (List Int)) (x65 : Int) (x66 : (List Int)) (x71 : Int) (x72 : (List Int)) (x77 : Int) (x78 : (List T_Write)) (x83 : Int) (x84 : Int) (a0 : T_Script) : Int → Option (Step Int (Step Unit Bool)) := fun x886 => cut (σ := Unit) (bif decide (x886 < (zs138.length : Int)) then bif decide (x886 < 9) then some (.next ()) else some (.done (.done (.next ()))) else some (.done (.done (.next ())))) (l6_PipeCycles_k4 zs138 x886 x45 x50 x55 x60 x65 x66 x71 x72 x77 x78 x83 x84 a0)
noncomputable def l6_PipeCycles_b8 (x45 : (List (A4 T_Ins))) (a0 : T_Script) : (Int × (List Int) × (List Int) × (List Int) × Int × (List Int) × Int × (List Int) × Int × (List T_Write) × Int × Int) → Option (Step (Int × (List Int) × (List Int) × (List Int) × Int × (List Int) × Int × (List Int) × Int × (List T_Write) × Int × Int) (Step Unit Bool)) := fun (x1648, x1649, x1654, x1659, x1664, x1665, x1670, x1671, x1676, x1677, x1682, x1683) => bif decide (x1648 < 40) then (pipe_Cycle x45 (⟨x1649, x1654, x1659, x1664, x1665, x1670, x1671, x1676, x1677, x1682, x1683⟩ : T_State)).bind fun r1767 => (l6_May a0).bind fun r1799 => bif !r1799 then bif decide ((l6_num r1767.2) = 1) then (r0_EqState r1767.1 (⟨[], [], [], 0, [], 0, [], 0, [], 0, 0⟩ : T_State)).bind fun r1802 => bif r1802 then (l6_wakes).bind fun r1804 => some (.done (.done (r1804))) else some (.done (.done (false))) else some (.done (.done (false))) else (r5_Cycles a0.C (⟨x1649, x1654, x1659, x1664, x1665, x1670, x1671, x1676, x1677, x1682, x1683⟩ : T_State) 1 false).bind fun r1805 => bif decide ((l6_num r1767.2) ≠ 0) then some (.done (.done (false))) else (r0_EqState r1767.1 r1805.1).bind fun r1838 => bif !r1838 then some (.done (.done (false))) else (l0_State r1767.1).bind fun r1840 => some (.next (IntKind.i64.wrap (x1648 + 1), r1805.1.Regs, r1805.1.Mem, r1805.1.In_, r1805.1.Taken, r1805.1.Out, r1805.1.PC, r1805.1.Stack, r1805.1.Stop, r1805.1.Fly, r1805.1.Jump, r1805.1.Delay)) else some (.done (.next ()))
noncomputable def l6_PipeCycles_k7 (x50 : (List Int)) (x55 : (List Int)) (x60 : (List Int)) (x65 : Int) (x66 : (List Int)) (x71 : Int) (x72 : (List Int)) (x77 : Int) (x78 : (List T_Write)) (x83 : Int) (x84 : Int) (a0 : T_Script) : Unit → Option Bool := fun _ => (r0_EqState (⟨x50, x55, x60, x65, x66, x71, x72, x77, x78, x83, x84⟩ : T_State) a0.S).bind fun r1845 => bif r1845 then (l6_wakes).bind fun r1847 => some (r1847) else some (false)
noncomputable def l6_PipeCycles_k2 (a0 : T_Script) (x45 : (List (A4 T_Ins))) (x50 : (List Int)) (x55 : (List Int)) (x60 : (List Int)) (x65 : Int) (x66 : (List Int)) (x71 : Int) (x72 : (List Int)) (x77 : Int) (x78 : (List T_Write)) (x83 : Int) (x84 : Int) : Unit → Option Bool := fun _ => (r0_CopyState a0.S).bind fun r1262 => cut (σ := Unit) (loop (σ := (Int × (List Int) × (List Int) × (List Int) × Int × (List Int) × Int × (List Int) × Int × (List T_Write) × Int × Int)) (l6_PipeCycles_b8 x45 a0) (0, r1262.Regs, r1262.Mem, r1262.In_, r1262.Taken, r1262.Out, r1262.PC, r1262.Stack, r1262.Stop, r1262.Fly, r1262.Jump, r1262.Delay)) (l6_PipeCycles_k7 x50 x55 x60 x65 x66 x71 x72 x77 x78 x83 x84 a0)
noncomputable def l6_PipeCycles_k1 (a0 : T_Script) : ((List (A4 T_Ins)) × (List Int) × (List Int) × (List Int) × Int × (List Int) × Int × (List Int) × Int × (List T_Write) × Int × Int) → Option Bool := fun (x45, x50, x55, x60, x65, x66, x71, x72, x77, x78, x83, x84) => (pipe_Check (⟨x50, x55, x60, x65, x66, x71, x72, x77, x78, x83, x84⟩ : T_State)).bind fun r128 => (r5_Pipe a0.S).bind fun r129 => bif (decide ((l6_num r128) = 0)) != r129 then some (false) else (app' ([0, 1, 2, 30, (-1), 20001] : List Int) a0.N).bind fun zs138 => cut (σ := Unit) (loop (σ := Int) (l6_PipeCycles_b3 zs138 x45 x50 x55 x60 x65 x66 x71 x72 x77 x78 x83 x84 a0) 0) (l6_PipeCycles_k2 a0 x45 x50 x55 x60 x65 x66 x71 x72 x77 x78 x83 x84)
noncomputable def l6_PipeCycles (a0 : T_Script) : Option Bool :=
  (l6_Heavy a0).bind fun r2 => bif r2 then some (true) else cut (σ := ((List (A4 T_Ins)) × (List Int) × (List Int) × (List Int) × Int × (List Int) × Int × (List Int) × Int × (List T_Write) × Int × Int)) ((r0_CopyState a0.S).bind fun r87 => (r0_CopyBundles a0.C).bind fun r118 => some (.next (r118, r87.Regs, r87.Mem, r87.In_, r87.Taken, r87.Out, r87.PC, r87.Stack, r87.Stop, r87.Fly, r87.Jump, r87.Delay))) (l6_PipeCycles_k1 a0)
theorem w_l6_PipeCycles_ {g : Frag} {a0 : T_Script} {v0_ : Value} {r : Bool} (h0 : Rd_Script g a0 v0_) (hF : l6_PipeCycles a0 = some r) : LCs Tryz.prog 8 #[v0_] g (.bool r) := by
 obtain ⟨v0_0_, v0_1_, v0_2_, v0_3_, v0_5_, v0_7_, v0_9_, v0_12_, rfl, h0_0_, h0_1_, h0_2_, h0_3_, h0_5_, h0_7_, h0_9_, h0_12_⟩ := h0
 unfold l6_PipeCycles at hF
 refine lc_body (k := 165) (av := [.agg (cl_Script v0_0_ v0_1_ v0_2_ v0_3_ a0.S.Taken v0_5_ a0.S.PC v0_7_ a0.S.Stop v0_9_ a0.S.Jump a0.S.Delay v0_12_).toArray]) func8 rfl rfl (h := fun W hS => ?_)
 refine c_seq <| c_region ?_
 refine o_boxP (cl := (cl_Script v0_0_ v0_1_ v0_2_ v0_3_ a0.S.Taken v0_5_ a0.S.PC v0_7_ a0.S.Stop v0_9_ a0.S.Jump a0.S.Delay v0_12_)) rfl hS ?_
 clear hS; intro b1 w hS
 refine oy hS y_assign <| n_thenN ?_
 iterate 2 (refine c_seq ?_)
 refine c_region ?_
 refine oy hS (y_loadW (fun w hS => hS.own (mH)) underlying29 rfl (by exact sz_sledgelaw6_Script)) ?_
 obtain ⟨r2, hr2, hF⟩ := ob hF
 refine o_callS hS func18 rfl rfl (hc := (w_l6_Heavy (a0 := a0) (h0 := ⟨_, _, _, _, _, _, _, _, rfl, h0_0_.plus, h0_1_.plus, h0_2_.plus, h0_3_.plus, h0_5_.plus, h0_7_.plus, h0_9_.plus, h0_12_.plus⟩) (hF := hr2))) (h := ?_)
 clear hS; intro w hS
 refine n_thenN ?_
 refine c_if (ht := fun c3 => ?_) (hf := fun c3 => ?_)
 · replace hF := bt c3 hF
   refine c_seq <| c_region <| oy hS y_assign <| n_thenN ?_
   obtain rfl := osi hF
   exact wp_ret (wr1 hS)
 replace hF := bf c3 hF
 refine wp_skip ?_
 obtain ⟨z85, hF, hK86⟩ := cut_step hF
 refine c_cutP (fun a w' => ∃ (x45 : (List (A4 T_Ins))) (x50 : (List Int)) (x55 : (List Int)) (x60 : (List Int)) (x65 : Int) (x66 : (List Int)) (x71 : Int) (x72 : (List Int)) (x77 : Int) (x78 : (List T_Write)) (x83 : Int) (x84 : Int) (v46 : Value) (v51 : Value) (v56 : Value) (v61 : Value) (v67 : Value) (v73 : Value) (v79 : Value) (LX48 : Own) (LX53 : Own) (LX58 : Own) (LX63 : Own) (LX69 : Own) (LX75 : Own) (LX81 : Own) (b44 : Nat), l6_PipeCycles_k1 a0 (x45, x50, x55, x60, x65, x66, x71, x72, x77, x78, x83, x84) = some r ∧ OwT 34 enc_Bundle 24 x45 v46 LX48 ∧ OwT 40 enc_uint32 1 x50 v51 LX53 ∧ OwT 40 enc_uint32 1 x55 v56 LX58 ∧ OwT 40 enc_uint32 1 x60 v61 LX63 ∧ OwT 40 enc_uint32 1 x66 v67 LX69 ∧ OwT 3 enc_int 1 x72 v73 LX75 ∧ OwT 73 enc_Write 3 x78 v79 LX81 ∧ (∃ s : Nat → Value, a = Ac ((((Fm.dead 165 s).upd 1 (.pointer (some ⟨b1, 0, none⟩))).upd 3 (.pointer (some ⟨b44, 0, none⟩))).upd 4 v46)) ∧ St W g [] ((b1, blk (cl_Script v0_0_ v0_1_ v0_2_ v0_3_ a0.S.Taken v0_5_ a0.S.PC v0_7_ a0.S.Stop v0_9_ a0.S.Jump a0.S.Delay v0_12_) 29) :: ((b44, blk (cl_State v51 v56 v61 x65 v67 x71 v73 x77 v79 x83 x84) 27) :: (LX53 ++ (LX58 ++ (LX63 ++ (LX69 ++ (LX75 ++ (LX81 ++ (LX48 ++ []))))))))) w') ?_ ?_
 · skip
   obtain ⟨r87, hr87, hF⟩ := ob hF
   obtain ⟨r118, hr118, hF⟩ := ob hF
   refine c_heldL 7 9 (by kernel_rfl) rfl hS ?_
   clear hS; intro w hS
   refine hy0 0 rfl wn (by kernel_rfl) (nq (P := Tryz.prog) (fn := Tryz.f8)) (fun _ => hS.cb) (y_field fa_sledgelaw6_Script_1) ?_
   refine hy 1 rfl wn (by kernel_rfl) (nq (P := Tryz.prog) (fn := Tryz.f8)) hS.cb (y_loadN (vs := (cl_State v0_1_ v0_2_ v0_3_ a0.S.Taken v0_5_ a0.S.PC v0_7_ a0.S.Stop v0_9_ a0.S.Jump a0.S.Delay)) (fun w hS => hS.own (mH)) underlying27 rfl (by exact sz_api_State) (subd (o := 0 + 1) (by exact rfl))) ?_
   refine hy0 3 rfl wn (by kernel_rfl) (nq (P := Tryz.prog) (fn := Tryz.f8)) (fun _ => hS.cb) (y_field fa_sledgelaw6_Script_0) ?_
   refine hy 4 rfl wn (by kernel_rfl) (nq (P := Tryz.prog) (fn := Tryz.f8)) hS.cb (y_load (fun w hS => hS.own (mH)) underlying22 rfl rfl) ?_
   refine hb2 2 6 (by kernel_rfl) (hb_op rfl wn (nl (P := Tryz.prog) (fn := Tryz.f8)) ?_) (hb_op rfl wn (nl (P := Tryz.prog) (fn := Tryz.f8)) ?_)
   · skip
     refine o_call0 hS func19 rfl rfl (hc := (w_r0_CopyState (a0 := a0.S) (h0 := ⟨_, _, _, _, _, _, rfl, h0_1_.plus, h0_2_.plus, h0_3_.plus, h0_5_.plus, h0_7_.plus, h0_9_.plus⟩) (hF := hr87))) (h := ?_)
     clear hS; intro v88 LY89 w hS hr90
     obtain ⟨v_0_91, LX_0_92, rfl, rfl, h_0_93⟩ := hr90
     obtain ⟨vR0_0_94, vR0_1_98, vR0_2_102, vR0_4_106, vR0_6_110, vR0_8_114, LXR0_0_95, LXR0_1_99, LXR0_2_103, LXR0_4_107, LXR0_6_111, LXR0_8_115, rfl, rfl, hR0_0_96, hR0_1_100, hR0_2_104, hR0_4_108, hR0_6_112, hR0_8_116⟩ := h_0_93
     simp only [aa, ac, al] at hS
     refine hb_next (fun _ => (hS.re (.b (.there _ (.there _ (.there _ (.there _ (.there _ (.there _ .hb)))))) .n)).cb) ?_
     refine hb2 5 6 (by kernel_rfl) (hb_op rfl wn (nl (P := Tryz.prog) (fn := Tryz.f8)) ?_) (hb_op rfl wn (nl (P := Tryz.prog) (fn := Tryz.f8)) ?_)
     · skip
       refine o_call0 hS func20 rfl rfl (hc := (w_r0_CopyBundles (a0 := a0.C) (h0 := h0_0_.plus) (hF := hr118))) (h := ?_)
       clear hS; intro v119 LY120 w hS hr121
       obtain ⟨v_0_122, LX_0_123, rfl, rfl, h_0_124⟩ := hr121
       simp only [aa, ac, al] at hS
       refine hb_next (fun _ => (hS.re (.b (.there _ (.there _ (.there _ (.there _ (.there _ (.there _ (.there _ .hb))))))) .n)).cb) ?_
       refine hb1 6 (by kernel_rfl) (hb_op rfl wn (nl (P := Tryz.prog) (fn := Tryz.f8)) ?_)
       refine o_allocP (cl := (cl_State (.slice none 0 0) (.slice none 0 0) (.slice none 0 0) 0 (.slice none 0 0) 0 (.slice none 0 0) 0 (.slice none 0 0) 0 0)) zr_api_State rfl hS ?_
       clear hS; intro b126 w hS
       refine hb_next (fun _ => (hS.re (.b (.thereb _ (.there _ (.there _ (.there _ (.there _ (.there _ (.there _ (.there _ .hb)))))))) .n)).cb) ?_
       refine hb1 7 (by kernel_rfl) (hb_op rfl wn (nl (P := Tryz.prog) (fn := Tryz.f8)) ?_)
       refine o_storeW (vs := (cl_State vR0_0_94 vR0_1_98 vR0_2_102 r87.Taken vR0_4_106 r87.PC vR0_6_110 r87.Stop vR0_8_114 r87.Jump r87.Delay)) hS (by exact rfl) (Upd.here _) (by exact sz_api_State) (one_State (hR0_0_96).one (hR0_1_100).one (hR0_2_104).one (hR0_4_108).one (hR0_6_112).one (hR0_8_116).one) ?_
       clear hS; intro w hS
       refine hb_next (fun h => absurd h (by decide)) ?_
       refine hy0 8 rfl wn (by kernel_rfl) (nq (P := Tryz.prog) (fn := Tryz.f8)) (fun h => absurd h (by decide)) y_assign ?_
       refine hb_done (by kernel_rfl) ?_
       obtain rfl := osi hF
       change ∃ _, _
       exact ⟨r118, r87.Regs, r87.Mem, r87.In_, r87.Taken, r87.Out, r87.PC, r87.Stack, r87.Stop, r87.Fly, r87.Jump, r87.Delay, v_0_122, vR0_0_94, vR0_1_98, vR0_2_102, vR0_4_106, vR0_6_110, vR0_8_114, LX_0_123, LXR0_0_95, LXR0_1_99, LXR0_2_103, LXR0_4_107, LXR0_6_111, LXR0_8_115, b126, hK86, h_0_124, hR0_0_96, hR0_1_100, hR0_2_104, hR0_4_108, hR0_6_112, hR0_8_116, mk_exF, (hS.re (.b (.thereb _ (.there _ (.there _ (.there _ (.there _ (.there _ (.there _ (.there _ .hb)))))))) (.b .hb (.t (.there _ .h) (.t (.there _ .h) (.t (.there _ .h) (.t (.there _ .h) (.t (.there _ .h) (.t (.there _ .h) (.t .h .n))))))))))⟩
     refine o_allocP (cl := (cl_State (.slice none 0 0) (.slice none 0 0) (.slice none 0 0) 0 (.slice none 0 0) 0 (.slice none 0 0) 0 (.slice none 0 0) 0 0)) zr_api_State rfl hS ?_
     clear hS; intro b126 w hS
     refine hb_next (fun _ => (hS.re (.b (.thereb _ (.there _ (.there _ (.there _ (.there _ (.there _ (.there _ .hb))))))) .n)).cb) ?_
     refine hb1 5 (by kernel_rfl) (hb_op rfl wn (nl (P := Tryz.prog) (fn := Tryz.f8)) ?_)
     refine o_call0 hS func20 rfl rfl (hc := (w_r0_CopyBundles (a0 := a0.C) (h0 := h0_0_.plus) (hF := hr118))) (h := ?_)
     clear hS; intro v119 LY120 w hS hr121
     obtain ⟨v_0_122, LX_0_123, rfl, rfl, h_0_124⟩ := hr121
     simp only [aa, ac, al] at hS
     refine hb_next (fun _ => (hS.re (.b (.there _ (.thereb _ (.there _ (.there _ (.there _ (.there _ (.there _ (.there _ .hb)))))))) .n)).cb) ?_
     refine hb1 7 (by kernel_rfl) (hb_op rfl wn (nl (P := Tryz.prog) (fn := Tryz.f8)) ?_)
     have hS := hS.re (.b (.there _ .hb) (.t .h (.t .h (.t .h (.t .h (.t .h (.t .h (.t .h (.b .hb .n)))))))))
     refine o_storeW (vs := (cl_State vR0_0_94 vR0_1_98 vR0_2_102 r87.Taken vR0_4_106 r87.PC vR0_6_110 r87.Stop vR0_8_114 r87.Jump r87.Delay)) hS (by exact rfl) (Upd.here _) (by exact sz_api_State) (one_State (hR0_0_96).one (hR0_1_100).one (hR0_2_104).one (hR0_4_108).one (hR0_6_112).one (hR0_8_116).one) ?_
     clear hS; intro w hS
     refine hb_next (fun h => absurd h (by decide)) ?_
     refine hy0 8 rfl wn (by kernel_rfl) (nq (P := Tryz.prog) (fn := Tryz.f8)) (fun h => absurd h (by decide)) y_assign ?_
     refine hb_done (by kernel_rfl) ?_
     obtain rfl := osi hF
     change ∃ _, _
     exact ⟨r118, r87.Regs, r87.Mem, r87.In_, r87.Taken, r87.Out, r87.PC, r87.Stack, r87.Stop, r87.Fly, r87.Jump, r87.Delay, v_0_122, vR0_0_94, vR0_1_98, vR0_2_102, vR0_4_106, vR0_6_110, vR0_8_114, LX_0_123, LXR0_0_95, LXR0_1_99, LXR0_2_103, LXR0_4_107, LXR0_6_111, LXR0_8_115, b126, hK86, h_0_124, hR0_0_96, hR0_1_100, hR0_2_104, hR0_4_108, hR0_6_112, hR0_8_116, mk_exF, (hS.re (.b (.thereb _ (.there _ (.there _ (.there _ (.there _ (.there _ (.there _ (.there _ .hb)))))))) (.b .hb (.t (.there _ .h) (.t (.there _ .h) (.t (.there _ .h) (.t (.there _ .h) (.t (.there _ .h) (.t (.there _ .h) (.t .h .n))))))))))⟩
   refine o_allocP (cl := (cl_State (.slice none 0 0) (.slice none 0 0) (.slice none 0 0) 0 (.slice none 0 0) 0 (.slice none 0 0) 0 (.slice none 0 0) 0 0)) zr_api_State rfl hS ?_
   clear hS; intro b126 w hS
   refine hb_next (fun _ => (hS.re (.b (.thereb _ .hb) .n)).cb) ?_
   refine hb1 2 (by kernel_rfl) (hb_op rfl wn (nl (P := Tryz.prog) (fn := Tryz.f8)) ?_)
   refine o_call0 hS func19 rfl rfl (hc := (w_r0_CopyState (a0 := a0.S) (h0 := ⟨_, _, _, _, _, _, rfl, h0_1_.plus, h0_2_.plus, h0_3_.plus, h0_5_.plus, h0_7_.plus, h0_9_.plus⟩) (hF := hr87))) (h := ?_)
   clear hS; intro v88 LY89 w hS hr90
   obtain ⟨v_0_91, LX_0_92, rfl, rfl, h_0_93⟩ := hr90
   obtain ⟨vR0_0_94, vR0_1_98, vR0_2_102, vR0_4_106, vR0_6_110, vR0_8_114, LXR0_0_95, LXR0_1_99, LXR0_2_103, LXR0_4_107, LXR0_6_111, LXR0_8_115, rfl, rfl, hR0_0_96, hR0_1_100, hR0_2_104, hR0_4_108, hR0_6_112, hR0_8_116⟩ := h_0_93
   simp only [aa, ac, al] at hS
   refine hb_next (fun _ => (hS.re (.b (.there _ (.there _ (.there _ (.there _ (.there _ (.there _ (.thereb _ .hb))))))) .n)).cb) ?_
   refine hb1 5 (by kernel_rfl) (hb_op rfl wn (nl (P := Tryz.prog) (fn := Tryz.f8)) ?_)
   refine o_call0 hS func20 rfl rfl (hc := (w_r0_CopyBundles (a0 := a0.C) (h0 := h0_0_.plus) (hF := hr118))) (h := ?_)
   clear hS; intro v119 LY120 w hS hr121
   obtain ⟨v_0_122, LX_0_123, rfl, rfl, h_0_124⟩ := hr121
   simp only [aa, ac, al] at hS
   refine hb_next (fun _ => (hS.re (.b (.there _ (.there _ (.there _ (.there _ (.there _ (.there _ (.there _ (.thereb _ .hb)))))))) .n)).cb) ?_
   refine hb1 7 (by kernel_rfl) (hb_op rfl wn (nl (P := Tryz.prog) (fn := Tryz.f8)) ?_)
   have hS := hS.re (.b (.there _ (.there _ (.there _ (.there _ (.there _ (.there _ (.there _ .hb))))))) (.t .h (.t .h (.t .h (.t .h (.t .h (.t .h (.t .h (.b .hb .n)))))))))
   refine o_storeW (vs := (cl_State vR0_0_94 vR0_1_98 vR0_2_102 r87.Taken vR0_4_106 r87.PC vR0_6_110 r87.Stop vR0_8_114 r87.Jump r87.Delay)) hS (by exact rfl) (Upd.here _) (by exact sz_api_State) (one_State (hR0_0_96).one (hR0_1_100).one (hR0_2_104).one (hR0_4_108).one (hR0_6_112).one (hR0_8_116).one) ?_
   clear hS; intro w hS
   refine hb_next (fun h => absurd h (by decide)) ?_
   refine hy0 8 rfl wn (by kernel_rfl) (nq (P := Tryz.prog) (fn := Tryz.f8)) (fun h => absurd h (by decide)) y_assign ?_
   refine hb_done (by kernel_rfl) ?_
   obtain rfl := osi hF
   change ∃ _, _
   exact ⟨r118, r87.Regs, r87.Mem, r87.In_, r87.Taken, r87.Out, r87.PC, r87.Stack, r87.Stop, r87.Fly, r87.Jump, r87.Delay, v_0_122, vR0_0_94, vR0_1_98, vR0_2_102, vR0_4_106, vR0_6_110, vR0_8_114, LX_0_123, LXR0_0_95, LXR0_1_99, LXR0_2_103, LXR0_4_107, LXR0_6_111, LXR0_8_115, b126, hK86, h_0_124, hR0_0_96, hR0_1_100, hR0_2_104, hR0_4_108, hR0_6_112, hR0_8_116, mk_exF, (hS.re (.b (.thereb _ (.there _ (.there _ (.there _ (.there _ (.there _ (.there _ (.there _ .hb)))))))) (.b .hb (.t (.there _ .h) (.t (.there _ .h) (.t (.there _ .h) (.t (.there _ .h) (.t (.there _ .h) (.t (.there _ .h) (.t .h .n))))))))))⟩
 rintro a w ⟨x45, x50, x55, x60, x65, x66, x71, x72, x77, x78, x83, x84, v46, v51, v56, v61, v67, v73, v79, LX48, LX53, LX58, LX63, LX69, LX75, LX81, b44, hF, h47, h52, h57, h62, h68, h74, h80, ⟨s127, rfl⟩, hS⟩
 dsimp only [l6_PipeCycles_k1] at hF
 iterate 2 (refine c_seq ?_)
 refine c_quiet (by kernel_rfl) (by kernel_rfl) hS ?_
 refine qy (y_loadW (fun w hS => hS.own (mC (mH))) underlying27 rfl (by exact sz_api_State)) ?_
 obtain ⟨r128, hr128, hF⟩ := ob hF
 refine q_callS func22 rfl rfl (hc := (w_pipe_Check (a0 := (⟨x50, x55, x60, x65, x66, x71, x72, x77, x78, x83, x84⟩ : T_State)) (h0 := ⟨_, _, _, _, _, _, rfl, (OwT.plus h52 hS (fun p hp => mC (mC (mA (hp))))), (OwT.plus h57 hS (fun p hp => mC (mC (mB (mA (hp)))))), (OwT.plus h62 hS (fun p hp => mC (mC (mB (mB (mA (hp))))))), (OwT.plus h68 hS (fun p hp => mC (mC (mB (mB (mB (mA (hp)))))))), (OwT.plus h74 hS (fun p hp => mC (mC (mB (mB (mB (mB (mA (hp))))))))), (OwT.plus h80 hS (fun p hp => mC (mC (mB (mB (mB (mB (mB (mA (hp))))))))))⟩) (hF := hr128))) (h := ?_)
 refine q_callS func21 rfl rfl (hc := (w_l6_num (a0 := r128))) (h := ?_)
 refine qy y_bin <| qy (y_field fa_sledgelaw6_Script_1) ?_
 refine qy (y_loadN (vs := (cl_State v0_1_ v0_2_ v0_3_ a0.S.Taken v0_5_ a0.S.PC v0_7_ a0.S.Stop v0_9_ a0.S.Jump a0.S.Delay)) (fun w hS => hS.own (mH)) underlying27 rfl (by exact sz_api_State) (subd (o := 0 + 1) (by exact rfl))) ?_
 obtain ⟨r129, hr129, hF⟩ := ob hF
 refine q_callS func23 rfl rfl (hc := (w_r5_Pipe (a0 := a0.S) (h0 := ⟨_, _, _, _, _, _, rfl, h0_1_.plus, h0_2_.plus, h0_3_.plus, h0_5_.plus, h0_7_.plus, h0_9_.plus⟩) (hF := hr129))) (h := ?_)
 refine qy (y_bneq underlying4) ?_
 refine q_nilN (h := ?_)
 clear hS; intro w hS
 refine c_if (ht := fun c130 => ?_) (hf := fun c130 => ?_)
 · replace hF := bt c130 hF
   refine c_seq <| c_region <| oy hS y_assign <| n_thenN ?_
   obtain rfl := osi hF
   exact wp_ret (wr1 hS)
 replace hF := bf c130 hF
 refine wp_skip <| c_seq <| c_region ?_
 refine o_buildT val_int ([0, 1, 2, 30, (-1), 20001] : List Int) hS el_int (fun _ => rfl) enc_len_int (by decide) rfl (by decide) (hp := rfl) (h := ?_)
 clear hS; intro b131 w hS h132
 have hS : St W g [] ([(b131, blk (([0, 1, 2, 30, (-1), 20001] : List Int).flatMap enc_int) 3)] ++ ((b1, blk (cl_Script v0_0_ v0_1_ v0_2_ v0_3_ a0.S.Taken v0_5_ a0.S.PC v0_7_ a0.S.Stop v0_9_ a0.S.Jump a0.S.Delay v0_12_) 29) :: ((b44, blk (cl_State v51 v56 v61 x65 v67 x71 v73 x77 v79 x83 x84) 27) :: (LX53 ++ (LX58 ++ (LX63 ++ (LX69 ++ (LX75 ++ (LX81 ++ (LX48 ++ [])))))))))) w := hS
 refine oy hS (y_field fa_sledgelaw6_Script_2) <| oy hS (y_load (fun w hS => hS.own (mB (mH))) underlying24 rfl rfl) ?_
 obtain ⟨zs138, hzs138, hF⟩ := ob hF
 refine o_appPs (LX := [(b131, blk (([0, 1, 2, 30, (-1), 20001] : List Int).flatMap enc_int) 3)]) hzs138 hS el_int h132 h0_12_.plus (enc_ones_int _) (by decide) ?_
 clear hS; intro v134 LX135 w h136 hS
 refine oy hS y_assign <| n_thenN ?_
 obtain ⟨z699, hF, hK700⟩ := cut_step hF
 refine c_cutP (fun a w' => l6_PipeCycles_k2 a0 x45 x50 x55 x60 x65 x66 x71 x72 x77 x78 x83 x84 () = some r ∧ (∃ s : Nat → Value, a = Ac ((((Fm.dead 165 s).upd 1 (.pointer (some ⟨b1, 0, none⟩))).upd 3 (.pointer (some ⟨b44, 0, none⟩))).upd 4 v46)) ∧ St W g [] ((b1, blk (cl_Script v0_0_ v0_1_ v0_2_ v0_3_ a0.S.Taken v0_5_ a0.S.PC v0_7_ a0.S.Stop v0_9_ a0.S.Jump a0.S.Delay v0_12_) 29) :: ((b44, blk (cl_State v51 v56 v61 x65 v67 x71 v73 x77 v79 x83 x84) 27) :: (LX53 ++ (LX58 ++ (LX63 ++ (LX69 ++ (LX75 ++ (LX81 ++ (LX48 ++ []))))))))) w') ?_ ?_
 · skip
   refine c_seq <| c_region <| oy hS y_assign <| n_thenN <| c_block ?_
   refine c_loopP hF (fun (q : Int) a w' => (∃ s : Nat → Value, a = Ac ((((((Fm.dead 165 s).upd 1 (.pointer (some ⟨b1, 0, none⟩))).upd 3 (.pointer (some ⟨b44, 0, none⟩))).upd 4 v46).upd 5 v134).upd 6 (.int .i64 q))) ∧ St W g [] ((b1, blk (cl_Script v0_0_ v0_1_ v0_2_ v0_3_ a0.S.Taken v0_5_ a0.S.PC v0_7_ a0.S.Stop v0_9_ a0.S.Jump a0.S.Delay v0_12_) 29) :: ((b44, blk (cl_State v51 v56 v61 x65 v67 x71 v73 x77 v79 x83 x84) 27) :: (LX53 ++ (LX58 ++ (LX63 ++ (LX69 ++ (LX75 ++ (LX81 ++ (LX48 ++ (LX135 ++ [])))))))))) w') ⟨mk_exF, (hS.re (.b (.there _ .hb) (.b (.there _ .hb) (.t (.there _ .h) (.t (.there _ .h) (.t (.there _ .h) (.t (.there _ .h) (.t (.there _ .h) (.t (.there _ .h) (.t (.there _ .h) (.t .h .n)))))))))))⟩ ?_
   clear hS hF
   intro n1074 q a w hI hq
   revert hq hI; revert q; intro x886 hI hq
   obtain ⟨⟨s1075, rfl⟩, hS⟩ := hq
   obtain ⟨z1072, hF, hK1073⟩ := iter_step hI
   clear hI
   dsimp only [l6_PipeCycles_b3] at hF
   obtain ⟨z1078, hF, hK1079⟩ := cut_step hF
   refine c_cutP (fun a w' => l6_PipeCycles_k4 zs138 x886 x45 x50 x55 x60 x65 x66 x71 x72 x77 x78 x83 x84 a0 () = some z1072 ∧ (∃ s : Nat → Value, a = Ac ((((((Fm.dead 165 s).upd 1 (.pointer (some ⟨b1, 0, none⟩))).upd 3 (.pointer (some ⟨b44, 0, none⟩))).upd 4 v46).upd 5 v134).upd 6 (.int .i64 x886))) ∧ St W g [] ((b1, blk (cl_Script v0_0_ v0_1_ v0_2_ v0_3_ a0.S.Taken v0_5_ a0.S.PC v0_7_ a0.S.Stop v0_9_ a0.S.Jump a0.S.Delay v0_12_) 29) :: ((b44, blk (cl_State v51 v56 v61 x65 v67 x71 v73 x77 v79 x83 x84) 27) :: (LX53 ++ (LX58 ++ (LX63 ++ (LX69 ++ (LX75 ++ (LX81 ++ (LX48 ++ (LX135 ++ [])))))))))) w') ?_ ?_
   · skip
     refine c_seq <| c_region ?_
     iterate 2 (refine oy hS y_move ?_)
     refine oy hS (y_lenO h136 underlying24) <| oy hS y_bin ?_
     refine o_split (ht := fun c1080 => ?_) (hf := fun c1080 => ?_)
     · replace hF := bt c1080 hF
       refine o_gu rfl rfl rfl <| oy hS y_move <| o_gu rfl rfl rfl <| oy hS y_bin <| oy hS y_pickT <| n_thenN ?_
       refine c_if (ht := fun c1081 => ?_) (hf := fun c1081 => ?_)
       · replace hF := bt c1081 hF
         refine wp_skip ?_
         obtain rfl := osi hF
         change _ ∧ _
         exact ⟨hK1079, mk_exF, (hS.re (.b .hb (.b .hb (.t .h (.t .h (.t .h (.t .h (.t .h (.t .h (.t .h (.t .h .n)))))))))))⟩
       replace hF := bf c1081 hF
       refine wp_exit ?_
       obtain rfl := osi hF
       obtain rfl : _ = z1072 := hK1079
       obtain rfl : _ = z699 := hK1073
       change _ ∧ _
       exact ⟨hK700, mk_exF, (hS.re (.b .hb (.b .hb (.t .h (.t .h (.t .h (.t .h (.t .h (.t .h (.t .h .n))))))))))⟩
     replace hF := bf c1080 hF
     iterate 2 (refine o_sk rfl rfl ?_)
     refine oy hS y_pickF <| n_thenN ?_
     refine c_if_false (h := ?_)
     refine wp_exit ?_
     obtain rfl := osi hF
     obtain rfl : _ = z1072 := hK1079
     obtain rfl : _ = z699 := hK1073
     change _ ∧ _
     exact ⟨hK700, mk_exF, (hS.re (.b .hb (.b .hb (.t .h (.t .h (.t .h (.t .h (.t .h (.t .h (.t .h .n))))))))))⟩
   rintro a w ⟨hF, ⟨s1082, rfl⟩, hS⟩
   dsimp only [l6_PipeCycles_k4] at hF
   refine c_seq <| c_block <| c_seq <| c_region ?_
   iterate 2 (refine oy hS y_move ?_)
   obtain ⟨x1083, hx1083, hF⟩ := ob hF
   obtain ⟨b1084, c1085, cl1086, hv1087, ha1088, hb1089, hl1090, hc1091⟩ := OwT.at hx1083 h136 enc_len_int
   refine oy hS (y_index hv1087 ha1088 hb1089 underlying24 el_int.size) <| oy hS (y_load (fun w hS => hS.own (mC (mC (mB (mB (mB (mB (mB (mB (mB (mA (mX hl1090)))))))))))) underlying3 rfl (hc1091 0 _ rfl)) <| oy hS y_assign <| n_thenN ?_
   obtain ⟨z1095, hF, hK1096⟩ := cut_step hF
   refine c_cutP (fun a w' => ∃ (x1094 : Int), l6_PipeCycles_k5 x45 x50 x55 x60 x65 x66 x71 x72 x77 x78 x83 x84 a0 x886 x1094 = some z1072 ∧ (∃ s : Nat → Value, a = Ac (((((((Fm.dead 165 s).upd 1 (.pointer (some ⟨b1, 0, none⟩))).upd 3 (.pointer (some ⟨b44, 0, none⟩))).upd 4 v46).upd 5 v134).upd 6 (.int .i64 x886)).upd 7 (.int .i64 x1094))) ∧ St W g [] ((b1, blk (cl_Script v0_0_ v0_1_ v0_2_ v0_3_ a0.S.Taken v0_5_ a0.S.PC v0_7_ a0.S.Stop v0_9_ a0.S.Jump a0.S.Delay v0_12_) 29) :: ((b44, blk (cl_State v51 v56 v61 x65 v67 x71 v73 x77 v79 x83 x84) 27) :: (LX53 ++ (LX58 ++ (LX63 ++ (LX69 ++ (LX75 ++ (LX81 ++ (LX48 ++ (LX135 ++ [])))))))))) w') ?_ ?_
   · skip
     refine c_seq <| c_region <| oy hS y_move <| oy hS y_bin ?_
     refine o_split (ht := fun c1097 => ?_) (hf := fun c1097 => ?_)
     · replace hF := bt c1097 hF
       refine o_gu rfl rfl rfl <| oy hS y_move <| o_gu rfl rfl rfl <| oy hS y_bin <| oy hS y_pickT <| n_thenN ?_
       refine c_if (ht := fun c1098 => ?_) (hf := fun c1098 => ?_)
       · replace hF := bt c1098 hF
         refine c_region <| oy hS y_assign <| n_thenN ?_
         obtain rfl := osi hF
         change ∃ _, _
         exact ⟨150, hK1096, mk_exF, (hS.re (.b .hb (.b .hb (.t .h (.t .h (.t .h (.t .h (.t .h (.t .h (.t .h (.t .h .n)))))))))))⟩
       replace hF := bf c1098 hF
       refine wp_skip ?_
       obtain rfl := osi hF
       change ∃ _, _
       exact ⟨x1083, hK1096, mk_exF, (hS.re (.b .hb (.b .hb (.t .h (.t .h (.t .h (.t .h (.t .h (.t .h (.t .h (.t .h .n)))))))))))⟩
     replace hF := bf c1097 hF
     iterate 2 (refine o_sk rfl rfl ?_)
     refine oy hS y_pickF <| n_thenN ?_
     refine c_if_false (h := ?_)
     refine wp_skip ?_
     obtain rfl := osi hF
     change ∃ _, _
     exact ⟨x1083, hK1096, mk_exF, (hS.re (.b .hb (.b .hb (.t .h (.t .h (.t .h (.t .h (.t .h (.t .h (.t .h (.t .h .n)))))))))))⟩
   rintro a w ⟨x1094, hF, ⟨s1099, rfl⟩, hS⟩
   dsimp only [l6_PipeCycles_k5] at hF
   refine c_seq <| c_region <| oy hS y_move ?_
   refine oy hS (y_loadW (fun w hS => hS.own (mC (mH))) underlying27 rfl (by exact sz_api_State)) ?_
   refine oy hS y_move ?_
   obtain ⟨r1100, hr1100, hF⟩ := ob hF
   refine o_call0 hS func24 rfl rfl (hc := (w_pipe_Run (a0 := x45) (a1 := (⟨x50, x55, x60, x65, x66, x71, x72, x77, x78, x83, x84⟩ : T_State)) (a2 := x1094) (h0 := (OwT.plus h47 hS (fun p hp => mC (mC (mB (mB (mB (mB (mB (mB (mA (hp)))))))))))) (h1 := ⟨_, _, _, _, _, _, rfl, (OwT.plus h52 hS (fun p hp => mC (mC (mA (hp))))), (OwT.plus h57 hS (fun p hp => mC (mC (mB (mA (hp)))))), (OwT.plus h62 hS (fun p hp => mC (mC (mB (mB (mA (hp))))))), (OwT.plus h68 hS (fun p hp => mC (mC (mB (mB (mB (mA (hp)))))))), (OwT.plus h74 hS (fun p hp => mC (mC (mB (mB (mB (mB (mA (hp))))))))), (OwT.plus h80 hS (fun p hp => mC (mC (mB (mB (mB (mB (mB (mA (hp))))))))))⟩) (hF := hr1100))) (h := ?_)
   clear hS; intro v1101 LY1102 w hS hr1103
   obtain ⟨v_0_1104, LX_0_1105, rfl, rfl, h_0_1106⟩ := hr1103
   obtain ⟨vR0_0_1107, vR0_1_1111, vR0_2_1115, vR0_4_1119, vR0_6_1123, vR0_8_1127, LXR0_0_1108, LXR0_1_1112, LXR0_2_1116, LXR0_4_1120, LXR0_6_1124, LXR0_8_1128, rfl, rfl, hR0_0_1109, hR0_1_1113, hR0_2_1117, hR0_4_1121, hR0_6_1125, hR0_8_1129⟩ := h_0_1106
   simp only [aa, ac, al] at hS
   refine oy hS y_move ?_
   iterate 3 (refine oy hS (y_extract rfl) ?_)
   refine o_allocP (cl := (cl_State (.slice none 0 0) (.slice none 0 0) (.slice none 0 0) 0 (.slice none 0 0) 0 (.slice none 0 0) 0 (.slice none 0 0) 0 0)) zr_api_State rfl hS ?_
   clear hS; intro b1131 w hS
   refine o_storeW (vs := (cl_State vR0_0_1107 vR0_1_1111 vR0_2_1115 r1100.1.Taken vR0_4_1119 r1100.1.PC vR0_6_1123 r1100.1.Stop vR0_8_1127 r1100.1.Jump r1100.1.Delay)) hS (by exact rfl) (Upd.here _) (by exact sz_api_State) (one_State (hR0_0_1109).one (hR0_1_1113).one (hR0_2_1117).one (hR0_4_1121).one (hR0_6_1125).one (hR0_8_1129).one) ?_
   clear hS; intro w hS
   iterate 2 (refine oy hS y_assign ?_)
   refine n_thenN <| c_seq <| c_region ?_
   iterate 2 (refine oy hS y_assign ?_)
   refine n_thenN <| c_seq <| c_region ?_
   refine o_allocP (cl := (cl_State (.slice none 0 0) (.slice none 0 0) (.slice none 0 0) 0 (.slice none 0 0) 0 (.slice none 0 0) 0 (.slice none 0 0) 0 0)) zr_api_State rfl hS ?_
   clear hS; intro b1132 w hS
   refine n_thenN ?_
   obtain ⟨z1204, hF, hK1205⟩ := cut_step hF
   refine c_cutP (fun a w' => ∃ (x1167 : Int) (x1168 : Int) (x1169 : (List Int)) (x1174 : (List Int)) (x1179 : (List Int)) (x1184 : Int) (x1185 : (List Int)) (x1190 : Int) (x1191 : (List Int)) (x1196 : Int) (x1197 : (List T_Write)) (x1202 : Int) (x1203 : Int) (v1170 : Value) (v1175 : Value) (v1180 : Value) (v1186 : Value) (v1192 : Value) (v1198 : Value) (LX1172 : Own) (LX1177 : Own) (LX1182 : Own) (LX1188 : Own) (LX1194 : Own) (LX1200 : Own), l6_PipeCycles_k6 r1100 x50 x55 x60 x65 x66 x71 x72 x77 x78 x83 x84 a0 x45 x886 (x1167, x1168, x1169, x1174, x1179, x1184, x1185, x1190, x1191, x1196, x1197, x1202, x1203) = some z1072 ∧ OwT 40 enc_uint32 1 x1169 v1170 LX1172 ∧ OwT 40 enc_uint32 1 x1174 v1175 LX1177 ∧ OwT 40 enc_uint32 1 x1179 v1180 LX1182 ∧ OwT 40 enc_uint32 1 x1185 v1186 LX1188 ∧ OwT 3 enc_int 1 x1191 v1192 LX1194 ∧ OwT 73 enc_Write 3 x1197 v1198 LX1200 ∧ (∃ s : Nat → Value, a = Ac ((((((((((((Fm.dead 165 s).upd 1 (.pointer (some ⟨b1, 0, none⟩))).upd 3 (.pointer (some ⟨b44, 0, none⟩))).upd 4 v46).upd 5 v134).upd 6 (.int .i64 x886)).upd 8 (.pointer (some ⟨b1131, 0, none⟩))).upd 9 (.int .i64 r1100.2.1)).upd 10 (.int .i64 r1100.2.2)).upd 11 (.int .i64 x1167)).upd 12 (.int .i64 x1168)).upd 13 (.pointer (some ⟨b1132, 0, none⟩)))) ∧ St W g [] ((b1, blk (cl_Script v0_0_ v0_1_ v0_2_ v0_3_ a0.S.Taken v0_5_ a0.S.PC v0_7_ a0.S.Stop v0_9_ a0.S.Jump a0.S.Delay v0_12_) 29) :: ((b44, blk (cl_State v51 v56 v61 x65 v67 x71 v73 x77 v79 x83 x84) 27) :: ((b1131, blk (cl_State vR0_0_1107 vR0_1_1111 vR0_2_1115 r1100.1.Taken vR0_4_1119 r1100.1.PC vR0_6_1123 r1100.1.Stop vR0_8_1127 r1100.1.Jump r1100.1.Delay) 27) :: ((b1132, blk (cl_State v1170 v1175 v1180 x1184 v1186 x1190 v1192 x1196 v1198 x1202 x1203) 27) :: (LX53 ++ (LX58 ++ (LX63 ++ (LX69 ++ (LX75 ++ (LX81 ++ (LXR0_0_1108 ++ (LXR0_1_1112 ++ (LXR0_2_1116 ++ (LXR0_4_1120 ++ (LXR0_6_1124 ++ (LXR0_8_1128 ++ (LX1172 ++ (LX1177 ++ (LX1182 ++ (LX1188 ++ (LX1194 ++ (LX1200 ++ (LX48 ++ (LX135 ++ [])))))))))))))))))))))))) w') ?_ ?_
   · skip
     refine c_seq <| c_region ?_
     refine oy hS (y_loadW (fun w hS => hS.own (mC (mC (mB (mB (mB (mB (mB (mB (mH)))))))))) underlying29 rfl (by exact sz_sledgelaw6_Script)) ?_
     obtain ⟨r1206, hr1206, hF⟩ := ob hF
     refine o_callS hS func25 rfl rfl (hc := (w_l6_May (a0 := a0) (h0 := ⟨_, _, _, _, _, _, _, _, rfl, h0_0_.plus, h0_1_.plus, h0_2_.plus, h0_3_.plus, h0_5_.plus, h0_7_.plus, h0_9_.plus, h0_12_.plus⟩) (hF := hr1206))) (h := ?_)
     clear hS; intro w hS
     refine o_split (ht := fun c1207 => ?_) (hf := fun c1207 => ?_)
     · replace hF := bt c1207 hF
       refine o_gu rfl rfl rfl <| oy hS y_move <| o_gu rfl rfl rfl ?_
       refine o_callS hS func26 rfl rfl (hc := (w_r0_Num (a0 := x1094) (a1 := 20000))) (h := ?_)
       clear hS; intro w hS
       refine oy hS y_pickT <| n_thenN ?_
       refine c_if (ht := fun c1208 => ?_) (hf := fun c1208 => ?_)
       · replace hF := bt c1208 hF
         refine c_seq <| c_region <| oy hS y_assign <| n_thenN <| c_region <| oy hS (y_field fa_sledgelaw6_Script_0) <| oy hS (y_load (fun w hS => hS.own (mC (mC (mB (mB (mB (mB (mB (mB (mH)))))))))) underlying22 rfl rfl) <| oy hS (y_field fa_sledgelaw6_Script_1) ?_
         refine oy hS (y_loadN (vs := (cl_State v0_1_ v0_2_ v0_3_ a0.S.Taken v0_5_ a0.S.PC v0_7_ a0.S.Stop v0_9_ a0.S.Jump a0.S.Delay)) (fun w hS => hS.own (mC (mC (mB (mB (mB (mB (mB (mB (mH)))))))))) underlying27 rfl (by exact sz_api_State) (subd (o := 0 + 1) (by exact rfl))) ?_
         refine oy hS y_move ?_
         obtain ⟨r1209, hr1209, hF⟩ := ob hF
         refine o_call0 hS func27 rfl rfl (hc := (w_r5_Cycles (a0 := a0.C) (a1 := a0.S) (a2 := x1094) (a3 := false) (h0 := h0_0_.plus) (h1 := ⟨_, _, _, _, _, _, rfl, h0_1_.plus, h0_2_.plus, h0_3_.plus, h0_5_.plus, h0_7_.plus, h0_9_.plus⟩) (hF := hr1209))) (h := ?_)
         clear hS; intro v1210 LY1211 w hS hr1212
         obtain ⟨v_0_1213, LX_0_1214, rfl, rfl, h_0_1215⟩ := hr1212
         obtain ⟨vR0_0_1216, vR0_1_1220, vR0_2_1224, vR0_4_1228, vR0_6_1232, vR0_8_1236, LXR0_0_1217, LXR0_1_1221, LXR0_2_1225, LXR0_4_1229, LXR0_6_1233, LXR0_8_1237, rfl, rfl, hR0_0_1218, hR0_1_1222, hR0_2_1226, hR0_4_1230, hR0_6_1234, hR0_8_1238⟩ := h_0_1215
         simp only [aa, ac, al] at hS
         refine oy hS y_move ?_
         iterate 2 (refine oy hS (y_extract rfl) ?_)
         have hS := hS.re (.b (.there _ (.there _ (.there _ (.there _ (.there _ (.there _ .hb)))))) (.t .h (.t .h (.t .h (.t .h (.t .h (.t .h (.b .hb (.t .h (.t .h (.t .h (.t .h (.t .h (.t .h (.b .hb (.b .hb (.t .h (.t .h (.t .h (.t .h (.t .h (.t .h (.t .h (.t .h .n))))))))))))))))))))))))
         refine o_storeW (vs := (cl_State vR0_0_1216 vR0_1_1220 vR0_2_1224 r1209.1.Taken vR0_4_1228 r1209.1.PC vR0_6_1232 r1209.1.Stop vR0_8_1236 r1209.1.Jump r1209.1.Delay)) hS (by exact rfl) (Upd.here _) (by exact sz_api_State) (one_State (hR0_0_1218).one (hR0_1_1222).one (hR0_2_1226).one (hR0_4_1230).one (hR0_6_1234).one (hR0_8_1238).one) ?_
         clear hS; intro w hS
         refine oy hS y_assign <| n_thenN ?_
         obtain rfl := osi hF
         change ∃ _, _
         exact ⟨0, r1209.2, r1209.1.Regs, r1209.1.Mem, r1209.1.In_, r1209.1.Taken, r1209.1.Out, r1209.1.PC, r1209.1.Stack, r1209.1.Stop, r1209.1.Fly, r1209.1.Jump, r1209.1.Delay, vR0_0_1216, vR0_1_1220, vR0_2_1224, vR0_4_1228, vR0_6_1232, vR0_8_1236, LXR0_0_1217, LXR0_1_1221, LXR0_2_1225, LXR0_4_1229, LXR0_6_1233, LXR0_8_1237, hK1205, hR0_0_1218, hR0_1_1222, hR0_2_1226, hR0_4_1230, hR0_6_1234, hR0_8_1238, mk_exF, (hS.re (.b (.thereb _ (.there _ (.there _ (.there _ (.there _ (.there _ (.there _ (.thereb _ (.there _ (.there _ (.there _ (.there _ (.there _ (.there _ .hb)))))))))))))) (.b (.thereb _ (.there _ (.there _ (.there _ (.there _ (.there _ (.there _ (.thereb _ (.there _ (.there _ (.there _ (.there _ (.there _ (.there _ .hb)))))))))))))) (.b (.thereb _ (.there _ (.there _ (.there _ (.there _ (.there _ (.there _ .hb))))))) (.b .hb (.t (.there _ (.there _ (.there _ (.there _ (.there _ (.there _ (.there _ (.there _ (.there _ (.there _ (.there _ (.there _ .h)))))))))))) (.t (.there _ (.there _ (.there _ (.there _ (.there _ (.there _ (.there _ (.there _ (.there _ (.there _ (.there _ (.there _ .h)))))))))))) (.t (.there _ (.there _ (.there _ (.there _ (.there _ (.there _ (.there _ (.there _ (.there _ (.there _ (.there _ (.there _ .h)))))))))))) (.t (.there _ (.there _ (.there _ (.there _ (.there _ (.there _ (.there _ (.there _ (.there _ (.there _ (.there _ (.there _ .h)))))))))))) (.t (.there _ (.there _ (.there _ (.there _ (.there _ (.there _ (.there _ (.there _ (.there _ (.there _ (.there _ (.there _ .h)))))))))))) (.t (.there _ (.there _ (.there _ (.there _ (.there _ (.there _ (.there _ (.there _ (.there _ (.there _ (.there _ (.there _ .h)))))))))))) (.t (.there _ (.there _ (.there _ (.there _ (.there _ (.there _ .h)))))) (.t (.there _ (.there _ (.there _ (.there _ (.there _ (.there _ .h)))))) (.t (.there _ (.there _ (.there _ (.there _ (.there _ (.there _ .h)))))) (.t (.there _ (.there _ (.there _ (.there _ (.there _ (.there _ .h)))))) (.t (.there _ (.there _ (.there _ (.there _ (.there _ (.there _ .h)))))) (.t (.there _ (.there _ (.there _ (.there _ (.there _ (.there _ .h)))))) (.t .h (.t .h (.t .h (.t .h (.t .h (.t .h (.t .h (.t .h .n)))))))))))))))))))))))))⟩
       replace hF := bf c1208 hF
       refine wp_skip ?_
       obtain rfl := osi hF
       change ∃ _, _
       exact ⟨1, 0, [], [], [], 0, [], 0, [], 0, [], 0, 0, (.slice none 0 0), (.slice none 0 0), (.slice none 0 0), (.slice none 0 0), (.slice none 0 0), (.slice none 0 0), [], [], [], [], [], [], hK1205, (OwT.nil _ _ _), (OwT.nil _ _ _), (OwT.nil _ _ _), (OwT.nil _ _ _), (OwT.nil _ _ _), (OwT.nil _ _ _), mk_exF, (hS.re (.b (.thereb _ (.thereb _ (.there _ (.there _ (.there _ (.there _ (.there _ (.there _ .hb)))))))) (.b (.thereb _ (.thereb _ (.there _ (.there _ (.there _ (.there _ (.there _ (.there _ .hb)))))))) (.b (.thereb _ .hb) (.b .hb (.t (.there _ (.there _ (.there _ (.there _ (.there _ (.there _ .h)))))) (.t (.there _ (.there _ (.there _ (.there _ (.there _ (.there _ .h)))))) (.t (.there _ (.there _ (.there _ (.there _ (.there _ (.there _ .h)))))) (.t (.there _ (.there _ (.there _ (.there _ (.there _ (.there _ .h)))))) (.t (.there _ (.there _ (.there _ (.there _ (.there _ (.there _ .h)))))) (.t (.there _ (.there _ (.there _ (.there _ (.there _ (.there _ .h)))))) (.t .h (.t .h (.t .h (.t .h (.t .h (.t .h (.take (X := []) (.here [] _) (.take (X := []) (.here [] _) (.take (X := []) (.here [] _) (.take (X := []) (.here [] _) (.take (X := []) (.here [] _) (.take (X := []) (.here [] _) (.t .h (.t .h .n)))))))))))))))))))))))))⟩
     replace hF := bf c1207 hF
     iterate 2 (refine o_sk rfl rfl ?_)
     refine oy hS y_pickF <| n_thenN ?_
     refine c_if_false (h := ?_)
     refine wp_skip ?_
     obtain rfl := osi hF
     change ∃ _, _
     exact ⟨1, 0, [], [], [], 0, [], 0, [], 0, [], 0, 0, (.slice none 0 0), (.slice none 0 0), (.slice none 0 0), (.slice none 0 0), (.slice none 0 0), (.slice none 0 0), [], [], [], [], [], [], hK1205, (OwT.nil _ _ _), (OwT.nil _ _ _), (OwT.nil _ _ _), (OwT.nil _ _ _), (OwT.nil _ _ _), (OwT.nil _ _ _), mk_exF, (hS.re (.b (.thereb _ (.thereb _ (.there _ (.there _ (.there _ (.there _ (.there _ (.there _ .hb)))))))) (.b (.thereb _ (.thereb _ (.there _ (.there _ (.there _ (.there _ (.there _ (.there _ .hb)))))))) (.b (.thereb _ .hb) (.b .hb (.t (.there _ (.there _ (.there _ (.there _ (.there _ (.there _ .h)))))) (.t (.there _ (.there _ (.there _ (.there _ (.there _ (.there _ .h)))))) (.t (.there _ (.there _ (.there _ (.there _ (.there _ (.there _ .h)))))) (.t (.there _ (.there _ (.there _ (.there _ (.there _ (.there _ .h)))))) (.t (.there _ (.there _ (.there _ (.there _ (.there _ (.there _ .h)))))) (.t (.there _ (.there _ (.there _ (.there _ (.there _ (.there _ .h)))))) (.t .h (.t .h (.t .h (.t .h (.t .h (.t .h (.take (X := []) (.here [] _) (.take (X := []) (.here [] _) (.take (X := []) (.here [] _) (.take (X := []) (.here [] _) (.take (X := []) (.here [] _) (.take (X := []) (.here [] _) (.t .h (.t .h .n)))))))))))))))))))))))))⟩
   rintro a w ⟨x1167, x1168, x1169, x1174, x1179, x1184, x1185, x1190, x1191, x1196, x1197, x1202, x1203, v1170, v1175, v1180, v1186, v1192, v1198, LX1172, LX1177, LX1182, LX1188, LX1194, LX1200, hF, h1171, h1176, h1181, h1187, h1193, h1199, ⟨s1252, rfl⟩, hS⟩
   dsimp only [l6_PipeCycles_k6] at hF
   refine c_seq <| c_region <| oy hS y_move ?_
   refine o_callS hS func21 rfl rfl (hc := (w_l6_num (a0 := r1100.2.2))) (h := ?_)
   clear hS; intro w hS
   refine oy hS y_move <| oy hS y_bin ?_
   refine o_split (ht := fun c1253 => ?_) (hf := fun c1253 => ?_)
   · replace hF := bt c1253 hF
     iterate 3 (refine o_sk rfl rfl ?_)
     refine oy hS y_pickT <| oy hS y_move ?_
     iterate 4 (refine o_sk rfl rfl ?_)
     refine oy hS y_pickT <| oy hS y_move ?_
     iterate 5 (refine o_sk rfl rfl ?_)
     refine oy hS y_pickT <| oy hS y_move ?_
     iterate 5 (refine o_sk rfl rfl ?_)
     refine oy hS y_pickT <| n_thenN ?_
     refine c_if_true (h := ?_)
     refine c_seq <| c_region <| oy hS y_assign <| n_thenN ?_
     obtain rfl := osi hF
     obtain rfl : _ = z699 := hK1073
     obtain rfl : _ = r := hK700
     exact wp_ret (wr1 hS)
   replace hF := bf c1253 hF
   refine o_gu rfl rfl rfl <| oy hS y_move <| o_gu rfl rfl rfl <| oy hS y_move <| o_gu rfl rfl rfl <| oy hS y_bin <| oy hS y_pickF ?_
   refine o_split (ht := fun c1254 => ?_) (hf := fun c1254 => ?_)
   · replace hF := bt c1254 hF
     iterate 4 (refine o_sk rfl rfl ?_)
     refine oy hS y_pickT <| oy hS y_move ?_
     iterate 5 (refine o_sk rfl rfl ?_)
     refine oy hS y_pickT <| oy hS y_move ?_
     iterate 5 (refine o_sk rfl rfl ?_)
     refine oy hS y_pickT <| n_thenN ?_
     refine c_if_true (h := ?_)
     refine c_seq <| c_region <| oy hS y_assign <| n_thenN ?_
     obtain rfl := osi hF
     obtain rfl : _ = z699 := hK1073
     obtain rfl : _ = r := hK700
     exact wp_ret (wr1 hS)
   replace hF := bf c1254 hF
   refine o_gu rfl rfl rfl ?_
   refine oy hS (y_loadW (fun w hS => hS.own (mC (mC (mH)))) underlying27 rfl (by exact sz_api_State)) ?_
   refine o_gu rfl rfl rfl ?_
   refine oy hS (y_loadW (fun w hS => hS.own (mC (mC (mC (mH))))) underlying27 rfl (by exact sz_api_State)) ?_
   refine o_gu rfl rfl rfl ?_
   obtain ⟨r1255, hr1255, hF⟩ := ob hF
   refine o_callS hS func28 rfl rfl (hc := (w_r0_EqState (a0 := r1100.1) (a1 := (⟨x1169, x1174, x1179, x1184, x1185, x1190, x1191, x1196, x1197, x1202, x1203⟩ : T_State)) (h0 := ⟨_, _, _, _, _, _, rfl, (OwT.plus hR0_0_1109 hS (fun p hp => mC (mC (mC (mC (mB (mB (mB (mB (mB (mB (mA (hp))))))))))))), (OwT.plus hR0_1_1113 hS (fun p hp => mC (mC (mC (mC (mB (mB (mB (mB (mB (mB (mB (mA (hp)))))))))))))), (OwT.plus hR0_2_1117 hS (fun p hp => mC (mC (mC (mC (mB (mB (mB (mB (mB (mB (mB (mB (mA (hp))))))))))))))), (OwT.plus hR0_4_1121 hS (fun p hp => mC (mC (mC (mC (mB (mB (mB (mB (mB (mB (mB (mB (mB (mA (hp)))))))))))))))), (OwT.plus hR0_6_1125 hS (fun p hp => mC (mC (mC (mC (mB (mB (mB (mB (mB (mB (mB (mB (mB (mB (mA (hp))))))))))))))))), (OwT.plus hR0_8_1129 hS (fun p hp => mC (mC (mC (mC (mB (mB (mB (mB (mB (mB (mB (mB (mB (mB (mB (mA (hp))))))))))))))))))⟩) (h1 := ⟨_, _, _, _, _, _, rfl, (OwT.plus h1171 hS (fun p hp => mC (mC (mC (mC (mB (mB (mB (mB (mB (mB (mB (mB (mB (mB (mB (mB (mA (hp))))))))))))))))))), (OwT.plus h1176 hS (fun p hp => mC (mC (mC (mC (mB (mB (mB (mB (mB (mB (mB (mB (mB (mB (mB (mB (mB (mA (hp)))))))))))))))))))), (OwT.plus h1181 hS (fun p hp => mC (mC (mC (mC (mB (mB (mB (mB (mB (mB (mB (mB (mB (mB (mB (mB (mB (mB (mA (hp))))))))))))))))))))), (OwT.plus h1187 hS (fun p hp => mC (mC (mC (mC (mB (mB (mB (mB (mB (mB (mB (mB (mB (mB (mB (mB (mB (mB (mB (mA (hp)))))))))))))))))))))), (OwT.plus h1193 hS (fun p hp => mC (mC (mC (mC (mB (mB (mB (mB (mB (mB (mB (mB (mB (mB (mB (mB (mB (mB (mB (mB (mA (hp))))))))))))))))))))))), (OwT.plus h1199 hS (fun p hp => mC (mC (mC (mC (mB (mB (mB (mB (mB (mB (mB (mB (mB (mB (mB (mB (mB (mB (mB (mB (mB (mA (hp))))))))))))))))))))))))⟩) (hF := hr1255))) (h := ?_)
   clear hS; intro w hS
   refine o_gu rfl rfl rfl <| oy hS y_not <| oy hS y_pickF ?_
   refine o_split (ht := fun c1256 => ?_) (hf := fun c1256 => ?_)
   · replace hF := bt c1256 hF
     iterate 5 (refine o_sk rfl rfl ?_)
     refine oy hS y_pickT <| oy hS y_move ?_
     iterate 5 (refine o_sk rfl rfl ?_)
     refine oy hS y_pickT <| n_thenN ?_
     refine c_if_true (h := ?_)
     refine c_seq <| c_region <| oy hS y_assign <| n_thenN ?_
     obtain rfl := osi hF
     obtain rfl : _ = z699 := hK1073
     obtain rfl : _ = r := hK700
     exact wp_ret (wr1 hS)
   replace hF := bf c1256 hF
   refine o_gu rfl rfl rfl ?_
   refine oy hS (y_loadW (fun w hS => hS.own (mC (mH))) underlying27 rfl (by exact sz_api_State)) ?_
   refine o_gu rfl rfl rfl <| oy hS (y_field fa_sledgelaw6_Script_1) <| o_gu rfl rfl rfl ?_
   refine oy hS (y_loadN (vs := (cl_State v0_1_ v0_2_ v0_3_ a0.S.Taken v0_5_ a0.S.PC v0_7_ a0.S.Stop v0_9_ a0.S.Jump a0.S.Delay)) (fun w hS => hS.own (mH)) underlying27 rfl (by exact sz_api_State) (subd (o := 0 + 1) (by exact rfl))) ?_
   refine o_gu rfl rfl rfl ?_
   obtain ⟨r1257, hr1257, hF⟩ := ob hF
   refine o_callS hS func28 rfl rfl (hc := (w_r0_EqState (a0 := (⟨x50, x55, x60, x65, x66, x71, x72, x77, x78, x83, x84⟩ : T_State)) (a1 := a0.S) (h0 := ⟨_, _, _, _, _, _, rfl, (OwT.plus h52 hS (fun p hp => mC (mC (mC (mC (mA (hp))))))), (OwT.plus h57 hS (fun p hp => mC (mC (mC (mC (mB (mA (hp)))))))), (OwT.plus h62 hS (fun p hp => mC (mC (mC (mC (mB (mB (mA (hp))))))))), (OwT.plus h68 hS (fun p hp => mC (mC (mC (mC (mB (mB (mB (mA (hp)))))))))), (OwT.plus h74 hS (fun p hp => mC (mC (mC (mC (mB (mB (mB (mB (mA (hp))))))))))), (OwT.plus h80 hS (fun p hp => mC (mC (mC (mC (mB (mB (mB (mB (mB (mA (hp))))))))))))⟩) (h1 := ⟨_, _, _, _, _, _, rfl, h0_1_.plus, h0_2_.plus, h0_3_.plus, h0_5_.plus, h0_7_.plus, h0_9_.plus⟩) (hF := hr1257))) (h := ?_)
   clear hS; intro w hS
   refine o_gu rfl rfl rfl <| oy hS y_not <| oy hS y_pickF ?_
   refine o_split (ht := fun c1258 => ?_) (hf := fun c1258 => ?_)
   · replace hF := bt c1258 hF
     iterate 5 (refine o_sk rfl rfl ?_)
     refine oy hS y_pickT <| n_thenN ?_
     refine c_if_true (h := ?_)
     refine c_seq <| c_region <| oy hS y_assign <| n_thenN ?_
     obtain rfl := osi hF
     obtain rfl : _ = z699 := hK1073
     obtain rfl : _ = r := hK700
     exact wp_ret (wr1 hS)
   replace hF := bf c1258 hF
   refine o_gu rfl rfl rfl <| oy hS y_move <| o_gu rfl rfl rfl <| oy hS (y_field fa_sledgelaw6_Script_0) <| o_gu rfl rfl rfl <| oy hS (y_load (fun w hS => hS.own (mH)) underlying22 rfl rfl) <| o_gu rfl rfl rfl ?_
   obtain ⟨r1259, hr1259, hF⟩ := ob hF
   refine o_callS hS func29 rfl rfl (hc := (w_r0_EqBundles (a0 := x45) (a1 := a0.C) (h0 := (OwT.plus h47 hS (fun p hp => mC (mC (mC (mC (mB (mB (mB (mB (mB (mB (mB (mB (mB (mB (mB (mB (mB (mB (mB (mB (mB (mB (mA (hp)))))))))))))))))))))))))) (h1 := h0_0_.plus) (hF := hr1259))) (h := ?_)
   clear hS; intro w hS
   refine o_gu rfl rfl rfl <| oy hS y_not <| oy hS y_pickF <| n_thenN ?_
   refine c_if (ht := fun c1260 => ?_) (hf := fun c1260 => ?_)
   · replace hF := bt c1260 hF
     refine c_seq <| c_region <| oy hS y_assign <| n_thenN ?_
     obtain rfl := osi hF
     obtain rfl : _ = z699 := hK1073
     obtain rfl : _ = r := hK700
     exact wp_ret (wr1 hS)
   replace hF := bf c1260 hF
   refine wp_skip <| c_region <| oy hS y_move <| oy hS y_bin <| oy hS y_assign <| n_thenN ?_
   obtain rfl := osi hF
   exact ⟨_, hK1073, mk_exF, (hS.re (.b .hb (.b .hb (.t (.thereb _ (.thereb _ .h)) (.t (.thereb _ (.thereb _ .h)) (.t (.thereb _ (.thereb _ .h)) (.t (.thereb _ (.thereb _ .h)) (.t (.thereb _ (.thereb _ .h)) (.t (.thereb _ (.thereb _ .h)) (.t (.thereb _ (.thereb _ (.there _ (.there _ (.there _ (.there _ (.there _ (.there _ (.there _ (.there _ (.there _ (.there _ (.there _ (.there _ .h)))))))))))))) (.t (.thereb _ (.thereb _ (.there _ (.there _ (.there _ (.there _ (.there _ (.there _ (.there _ (.there _ (.there _ (.there _ (.there _ (.there _ .h)))))))))))))) .n)))))))))))⟩
 rintro a w ⟨hF, ⟨s1261, rfl⟩, hS⟩
 dsimp only [l6_PipeCycles_k2] at hF
 refine c_seq <| c_region <| oy hS (y_field fa_sledgelaw6_Script_1) ?_
 refine oy hS (y_loadN (vs := (cl_State v0_1_ v0_2_ v0_3_ a0.S.Taken v0_5_ a0.S.PC v0_7_ a0.S.Stop v0_9_ a0.S.Jump a0.S.Delay)) (fun w hS => hS.own (mH)) underlying27 rfl (by exact sz_api_State) (subd (o := 0 + 1) (by exact rfl))) ?_
 obtain ⟨r1262, hr1262, hF⟩ := ob hF
 refine o_call0 hS func19 rfl rfl (hc := (w_r0_CopyState (a0 := a0.S) (h0 := ⟨_, _, _, _, _, _, rfl, h0_1_.plus, h0_2_.plus, h0_3_.plus, h0_5_.plus, h0_7_.plus, h0_9_.plus⟩) (hF := hr1262))) (h := ?_)
 clear hS; intro v1263 LY1264 w hS hr1265
 obtain ⟨v_0_1266, LX_0_1267, rfl, rfl, h_0_1268⟩ := hr1265
 obtain ⟨vR0_0_1269, vR0_1_1273, vR0_2_1277, vR0_4_1281, vR0_6_1285, vR0_8_1289, LXR0_0_1270, LXR0_1_1274, LXR0_2_1278, LXR0_4_1282, LXR0_6_1286, LXR0_8_1290, rfl, rfl, hR0_0_1271, hR0_1_1275, hR0_2_1279, hR0_4_1283, hR0_6_1287, hR0_8_1291⟩ := h_0_1268
 simp only [aa, ac, al] at hS
 refine o_allocP (cl := (cl_State (.slice none 0 0) (.slice none 0 0) (.slice none 0 0) 0 (.slice none 0 0) 0 (.slice none 0 0) 0 (.slice none 0 0) 0 0)) zr_api_State rfl hS ?_
 clear hS; intro b1293 w hS
 refine o_storeW (vs := (cl_State vR0_0_1269 vR0_1_1273 vR0_2_1277 r1262.Taken vR0_4_1281 r1262.PC vR0_6_1285 r1262.Stop vR0_8_1289 r1262.Jump r1262.Delay)) hS (by exact rfl) (Upd.here _) (by exact sz_api_State) (one_State (hR0_0_1271).one (hR0_1_1275).one (hR0_2_1279).one (hR0_4_1283).one (hR0_6_1287).one (hR0_8_1291).one) ?_
 clear hS; intro w hS
 refine n_thenN ?_
 obtain ⟨z1568, hF, hK1569⟩ := cut_step hF
 refine c_cutP (fun a w' => l6_PipeCycles_k7 x50 x55 x60 x65 x66 x71 x72 x77 x78 x83 x84 a0 () = some r ∧ (∃ s : Nat → Value, a = Ac (((Fm.dead 165 s).upd 1 (.pointer (some ⟨b1, 0, none⟩))).upd 3 (.pointer (some ⟨b44, 0, none⟩)))) ∧ St W g [] ((b1, blk (cl_Script v0_0_ v0_1_ v0_2_ v0_3_ a0.S.Taken v0_5_ a0.S.PC v0_7_ a0.S.Stop v0_9_ a0.S.Jump a0.S.Delay v0_12_) 29) :: ((b44, blk (cl_State v51 v56 v61 x65 v67 x71 v73 x77 v79 x83 x84) 27) :: (LX53 ++ (LX58 ++ (LX63 ++ (LX69 ++ (LX75 ++ (LX81 ++ [])))))))) w') ?_ ?_
 · skip
   refine c_seq <| c_region <| oy hS y_assign <| n_thenN <| c_block ?_
   refine c_loopP hF (fun (q : (Int × (List Int) × (List Int) × (List Int) × Int × (List Int) × Int × (List Int) × Int × (List T_Write) × Int × Int)) a w' => ∃ (v1650 : Value) (v1655 : Value) (v1660 : Value) (v1666 : Value) (v1672 : Value) (v1678 : Value) (LX1652 : Own) (LX1657 : Own) (LX1662 : Own) (LX1668 : Own) (LX1674 : Own) (LX1680 : Own), OwT 40 enc_uint32 1 q.2.1 v1650 LX1652 ∧ OwT 40 enc_uint32 1 q.2.2.1 v1655 LX1657 ∧ OwT 40 enc_uint32 1 q.2.2.2.1 v1660 LX1662 ∧ OwT 40 enc_uint32 1 q.2.2.2.2.2.1 v1666 LX1668 ∧ OwT 3 enc_int 1 q.2.2.2.2.2.2.2.1 v1672 LX1674 ∧ OwT 73 enc_Write 3 q.2.2.2.2.2.2.2.2.2.1 v1678 LX1680 ∧ (∃ s : Nat → Value, a = Ac ((((((Fm.dead 165 s).upd 1 (.pointer (some ⟨b1, 0, none⟩))).upd 3 (.pointer (some ⟨b44, 0, none⟩))).upd 4 v46).upd 14 (.pointer (some ⟨b1293, 0, none⟩))).upd 15 (.int .i64 q.1))) ∧ St W g [] ((b1, blk (cl_Script v0_0_ v0_1_ v0_2_ v0_3_ a0.S.Taken v0_5_ a0.S.PC v0_7_ a0.S.Stop v0_9_ a0.S.Jump a0.S.Delay v0_12_) 29) :: ((b44, blk (cl_State v51 v56 v61 x65 v67 x71 v73 x77 v79 x83 x84) 27) :: ((b1293, blk (cl_State v1650 v1655 v1660 q.2.2.2.2.1 v1666 q.2.2.2.2.2.2.1 v1672 q.2.2.2.2.2.2.2.2.1 v1678 q.2.2.2.2.2.2.2.2.2.2.1 q.2.2.2.2.2.2.2.2.2.2.2) 27) :: (LX53 ++ (LX58 ++ (LX63 ++ (LX69 ++ (LX75 ++ (LX81 ++ (LX1652 ++ (LX1657 ++ (LX1662 ++ (LX1668 ++ (LX1674 ++ (LX1680 ++ (LX48 ++ [])))))))))))))))) w') ⟨vR0_0_1269, vR0_1_1273, vR0_2_1277, vR0_4_1281, vR0_6_1285, vR0_8_1289, LXR0_0_1270, LXR0_1_1274, LXR0_2_1278, LXR0_4_1282, LXR0_6_1286, LXR0_8_1290, hR0_0_1271, hR0_1_1275, hR0_2_1279, hR0_4_1283, hR0_6_1287, hR0_8_1291, mk_exF, (hS.re (.b (.thereb _ (.there _ (.there _ (.there _ (.there _ (.there _ (.there _ .hb))))))) (.b (.thereb _ (.there _ (.there _ (.there _ (.there _ (.there _ (.there _ .hb))))))) (.b .hb (.t (.there _ (.there _ (.there _ (.there _ (.there _ (.there _ .h)))))) (.t (.there _ (.there _ (.there _ (.there _ (.there _ (.there _ .h)))))) (.t (.there _ (.there _ (.there _ (.there _ (.there _ (.there _ .h)))))) (.t (.there _ (.there _ (.there _ (.there _ (.there _ (.there _ .h)))))) (.t (.there _ (.there _ (.there _ (.there _ (.there _ (.there _ .h)))))) (.t (.there _ (.there _ (.there _ (.there _ (.there _ (.there _ .h)))))) (.t .h (.t .h (.t .h (.t .h (.t .h (.t .h (.t .h .n)))))))))))))))))⟩ ?_
   clear hS hF
   intro n1764 q a w hI hq
   obtain ⟨x1648, x1649, x1654, x1659, x1664, x1665, x1670, x1671, x1676, x1677, x1682, x1683⟩ := q
   obtain ⟨v1650, v1655, v1660, v1666, v1672, v1678, LX1652, LX1657, LX1662, LX1668, LX1674, LX1680, h1651, h1656, h1661, h1667, h1673, h1679, ⟨s1765, rfl⟩, hS⟩ := hq
   replace h1651 : OwT 40 enc_uint32 1 x1649 v1650 LX1652 := h1651
   replace h1656 : OwT 40 enc_uint32 1 x1654 v1655 LX1657 := h1656
   replace h1661 : OwT 40 enc_uint32 1 x1659 v1660 LX1662 := h1661
   replace h1667 : OwT 40 enc_uint32 1 x1665 v1666 LX1668 := h1667
   replace h1673 : OwT 3 enc_int 1 x1671 v1672 LX1674 := h1673
   replace h1679 : OwT 73 enc_Write 3 x1677 v1678 LX1680 := h1679
   obtain ⟨z1762, hF, hK1763⟩ := iter_step hI
   clear hI
   dsimp only [l6_PipeCycles_b8] at hF
   iterate 2 (refine c_seq ?_)
   refine c_region <| oy hS y_move <| oy hS y_bin <| n_thenN ?_
   refine c_if (ht := fun c1766 => ?_) (hf := fun c1766 => ?_)
   · replace hF := bt c1766 hF
     refine wp_skip <| c_seq <| c_block <| c_seq <| c_region <| oy hS y_move ?_
     refine oy hS (y_loadW (fun w hS => hS.own (mC (mC (mH)))) underlying27 rfl (by exact sz_api_State)) ?_
     obtain ⟨r1767, hr1767, hF⟩ := ob hF
     refine o_call0 hS func30 rfl rfl (hc := (w_pipe_Cycle (a0 := x45) (a1 := (⟨x1649, x1654, x1659, x1664, x1665, x1670, x1671, x1676, x1677, x1682, x1683⟩ : T_State)) (h0 := (OwT.plus h47 hS (fun p hp => mC (mC (mC (mB (mB (mB (mB (mB (mB (mB (mB (mB (mB (mB (mB (mA (hp))))))))))))))))))) (h1 := ⟨_, _, _, _, _, _, rfl, (OwT.plus h1651 hS (fun p hp => mC (mC (mC (mB (mB (mB (mB (mB (mB (mA (hp)))))))))))), (OwT.plus h1656 hS (fun p hp => mC (mC (mC (mB (mB (mB (mB (mB (mB (mB (mA (hp))))))))))))), (OwT.plus h1661 hS (fun p hp => mC (mC (mC (mB (mB (mB (mB (mB (mB (mB (mB (mA (hp)))))))))))))), (OwT.plus h1667 hS (fun p hp => mC (mC (mC (mB (mB (mB (mB (mB (mB (mB (mB (mB (mA (hp))))))))))))))), (OwT.plus h1673 hS (fun p hp => mC (mC (mC (mB (mB (mB (mB (mB (mB (mB (mB (mB (mB (mA (hp)))))))))))))))), (OwT.plus h1679 hS (fun p hp => mC (mC (mC (mB (mB (mB (mB (mB (mB (mB (mB (mB (mB (mB (mA (hp)))))))))))))))))⟩) (hF := hr1767))) (h := ?_)
     clear hS; intro v1768 LY1769 w hS hr1770
     obtain ⟨v_0_1771, LX_0_1772, rfl, rfl, h_0_1773⟩ := hr1770
     obtain ⟨vR0_0_1774, vR0_1_1778, vR0_2_1782, vR0_4_1786, vR0_6_1790, vR0_8_1794, LXR0_0_1775, LXR0_1_1779, LXR0_2_1783, LXR0_4_1787, LXR0_6_1791, LXR0_8_1795, rfl, rfl, hR0_0_1776, hR0_1_1780, hR0_2_1784, hR0_4_1788, hR0_6_1792, hR0_8_1796⟩ := h_0_1773
     simp only [aa, ac, al] at hS
     refine oy hS y_move ?_
     iterate 2 (refine oy hS (y_extract rfl) ?_)
     refine o_allocP (cl := (cl_State (.slice none 0 0) (.slice none 0 0) (.slice none 0 0) 0 (.slice none 0 0) 0 (.slice none 0 0) 0 (.slice none 0 0) 0 0)) zr_api_State rfl hS ?_
     clear hS; intro b1798 w hS
     refine o_storeW (vs := (cl_State vR0_0_1774 vR0_1_1778 vR0_2_1782 r1767.1.Taken vR0_4_1786 r1767.1.PC vR0_6_1790 r1767.1.Stop vR0_8_1794 r1767.1.Jump r1767.1.Delay)) hS (by exact rfl) (Upd.here _) (by exact sz_api_State) (one_State (hR0_0_1776).one (hR0_1_1780).one (hR0_2_1784).one (hR0_4_1788).one (hR0_6_1792).one (hR0_8_1796).one) ?_
     clear hS; intro w hS
     refine oy hS y_assign <| n_thenN ?_
     iterate 2 (refine c_seq ?_)
     refine c_region ?_
     refine oy hS (y_loadW (fun w hS => hS.own (mC (mB (mB (mB (mB (mB (mB (mH))))))))) underlying29 rfl (by exact sz_sledgelaw6_Script)) ?_
     obtain ⟨r1799, hr1799, hF⟩ := ob hF
     refine o_callS hS func25 rfl rfl (hc := (w_l6_May (a0 := a0) (h0 := ⟨_, _, _, _, _, _, _, _, rfl, h0_0_.plus, h0_1_.plus, h0_2_.plus, h0_3_.plus, h0_5_.plus, h0_7_.plus, h0_9_.plus, h0_12_.plus⟩) (hF := hr1799))) (h := ?_)
     clear hS; intro w hS
     refine oy hS y_not <| n_thenN ?_
     refine c_if (ht := fun c1800 => ?_) (hf := fun c1800 => ?_)
     · replace hF := bt c1800 hF
       refine c_seq <| c_region <| oy hS y_move ?_
       refine o_callS hS func21 rfl rfl (hc := (w_l6_num (a0 := r1767.2))) (h := ?_)
       clear hS; intro w hS
       refine oy hS y_bin ?_
       refine o_split (ht := fun c1801 => ?_) (hf := fun c1801 => ?_)
       · replace hF := bt c1801 hF
         refine o_gu rfl rfl rfl ?_
         refine oy hS (y_loadW (fun w hS => hS.own (mH)) underlying27 rfl (by exact sz_api_State)) ?_
         refine o_gu rfl rfl rfl <| oy hS (y_build (cl := (cl_State (.slice none 0 0) (.slice none 0 0) (.slice none 0 0) 0 (.slice none 0 0) 0 (.slice none 0 0) 0 (.slice none 0 0) 0 0)) bt_api_State rfl fillN) <| o_gu rfl rfl rfl ?_
         obtain ⟨r1802, hr1802, hF⟩ := ob hF
         refine o_callS hS func28 rfl rfl (hc := (w_r0_EqState (a0 := r1767.1) (a1 := (⟨[], [], [], 0, [], 0, [], 0, [], 0, 0⟩ : T_State)) (h0 := ⟨_, _, _, _, _, _, rfl, (OwT.plus hR0_0_1776 hS (fun p hp => mC (mA (hp)))), (OwT.plus hR0_1_1780 hS (fun p hp => mC (mB (mA (hp))))), (OwT.plus hR0_2_1784 hS (fun p hp => mC (mB (mB (mA (hp)))))), (OwT.plus hR0_4_1788 hS (fun p hp => mC (mB (mB (mB (mA (hp))))))), (OwT.plus hR0_6_1792 hS (fun p hp => mC (mB (mB (mB (mB (mA (hp)))))))), (OwT.plus hR0_8_1796 hS (fun p hp => mC (mB (mB (mB (mB (mB (mA (hp)))))))))⟩) (h1 := ⟨_, _, _, _, _, _, rfl, (SlR.nil _ _), (SlR.nil _ _), (SlR.nil _ _), (SlR.nil _ _), (SlR.nil _ _), (SlR.nil _ _)⟩) (hF := hr1802))) (h := ?_)
         clear hS; intro w hS
         refine oy hS y_pickT ?_
         refine o_split (ht := fun c1803 => ?_) (hf := fun c1803 => ?_)
         · replace hF := bt c1803 hF
           refine o_gu rfl rfl rfl ?_
           obtain ⟨r1804, hr1804, hF⟩ := ob hF
           refine o_callS hS func17 rfl rfl (hc := (w_l6_wakes  (hF := hr1804))) (h := ?_)
           clear hS; intro w hS
           refine oy hS y_pickT <| oy hS y_assign <| n_thenN ?_
           obtain rfl := osi hF
           obtain rfl : _ = z1568 := hK1763
           obtain rfl : _ = r := hK1569
           exact wp_ret (wr1 hS)
         replace hF := bf c1803 hF
         refine o_sk rfl rfl ?_
         refine oy hS y_pickF <| oy hS y_assign <| n_thenN ?_
         obtain rfl := osi hF
         obtain rfl : _ = z1568 := hK1763
         obtain rfl : _ = r := hK1569
         exact wp_ret (wr1 hS)
       replace hF := bf c1801 hF
       iterate 3 (refine o_sk rfl rfl ?_)
       refine oy hS y_pickF <| oy hS y_move ?_
       refine o_sk rfl rfl ?_
       refine oy hS y_pickF <| oy hS y_assign <| n_thenN ?_
       obtain rfl := osi hF
       obtain rfl : _ = z1568 := hK1763
       obtain rfl : _ = r := hK1569
       exact wp_ret (wr1 hS)
     replace hF := bf c1800 hF
     refine wp_skip <| c_seq <| c_region <| oy hS (y_field fa_sledgelaw6_Script_0) <| oy hS (y_load (fun w hS => hS.own (mC (mB (mB (mB (mB (mB (mB (mH))))))))) underlying22 rfl rfl) ?_
     refine oy hS (y_loadW (fun w hS => hS.own (mC (mB (mB (mB (mB (mB (mB (mC (mC (mH))))))))))) underlying27 rfl (by exact sz_api_State)) ?_
     obtain ⟨r1805, hr1805, hF⟩ := ob hF
     refine o_call0 hS func27 rfl rfl (hc := (w_r5_Cycles (a0 := a0.C) (a1 := (⟨x1649, x1654, x1659, x1664, x1665, x1670, x1671, x1676, x1677, x1682, x1683⟩ : T_State)) (a2 := 1) (a3 := false) (h0 := h0_0_.plus) (h1 := ⟨_, _, _, _, _, _, rfl, (OwT.plus h1651 hS (fun p hp => mC (mB (mB (mB (mB (mB (mB (mC (mC (mC (mB (mB (mB (mB (mB (mB (mA (hp))))))))))))))))))), (OwT.plus h1656 hS (fun p hp => mC (mB (mB (mB (mB (mB (mB (mC (mC (mC (mB (mB (mB (mB (mB (mB (mB (mA (hp)))))))))))))))))))), (OwT.plus h1661 hS (fun p hp => mC (mB (mB (mB (mB (mB (mB (mC (mC (mC (mB (mB (mB (mB (mB (mB (mB (mB (mA (hp))))))))))))))))))))), (OwT.plus h1667 hS (fun p hp => mC (mB (mB (mB (mB (mB (mB (mC (mC (mC (mB (mB (mB (mB (mB (mB (mB (mB (mB (mA (hp)))))))))))))))))))))), (OwT.plus h1673 hS (fun p hp => mC (mB (mB (mB (mB (mB (mB (mC (mC (mC (mB (mB (mB (mB (mB (mB (mB (mB (mB (mB (mA (hp))))))))))))))))))))))), (OwT.plus h1679 hS (fun p hp => mC (mB (mB (mB (mB (mB (mB (mC (mC (mC (mB (mB (mB (mB (mB (mB (mB (mB (mB (mB (mB (mA (hp))))))))))))))))))))))))⟩) (hF := hr1805))) (h := ?_)
     clear hS; intro v1806 LY1807 w hS hr1808
     obtain ⟨v_0_1809, LX_0_1810, rfl, rfl, h_0_1811⟩ := hr1808
     obtain ⟨vR0_0_1812, vR0_1_1816, vR0_2_1820, vR0_4_1824, vR0_6_1828, vR0_8_1832, LXR0_0_1813, LXR0_1_1817, LXR0_2_1821, LXR0_4_1825, LXR0_6_1829, LXR0_8_1833, rfl, rfl, hR0_0_1814, hR0_1_1818, hR0_2_1822, hR0_4_1826, hR0_6_1830, hR0_8_1834⟩ := h_0_1811
     simp only [aa, ac, al] at hS
     refine oy hS y_move ?_
     iterate 2 (refine oy hS (y_extract rfl) ?_)
     refine o_allocP (cl := (cl_State (.slice none 0 0) (.slice none 0 0) (.slice none 0 0) 0 (.slice none 0 0) 0 (.slice none 0 0) 0 (.slice none 0 0) 0 0)) zr_api_State rfl hS ?_
     clear hS; intro b1836 w hS
     refine o_storeW (vs := (cl_State vR0_0_1812 vR0_1_1816 vR0_2_1820 r1805.1.Taken vR0_4_1824 r1805.1.PC vR0_6_1828 r1805.1.Stop vR0_8_1832 r1805.1.Jump r1805.1.Delay)) hS (by exact rfl) (Upd.here _) (by exact sz_api_State) (one_State (hR0_0_1814).one (hR0_1_1818).one (hR0_2_1822).one (hR0_4_1826).one (hR0_6_1830).one (hR0_8_1834).one) ?_
     clear hS; intro w hS
     refine oy hS y_assign <| n_thenN ?_
     iterate 2 (refine c_seq ?_)
     refine c_region <| oy hS y_move ?_
     refine o_callS hS func21 rfl rfl (hc := (w_l6_num (a0 := r1767.2))) (h := ?_)
     clear hS; intro w hS
     refine oy hS y_bin ?_
     refine o_split (ht := fun c1837 => ?_) (hf := fun c1837 => ?_)
     · replace hF := bt c1837 hF
       iterate 4 (refine o_sk rfl rfl ?_)
       refine oy hS y_pickT <| n_thenN ?_
       refine c_if_true (h := ?_)
       refine c_seq <| c_region <| oy hS y_assign <| n_thenN ?_
       obtain rfl := osi hF
       obtain rfl : _ = z1568 := hK1763
       obtain rfl : _ = r := hK1569
       exact wp_ret (wr1 hS)
     replace hF := bf c1837 hF
     refine o_gu rfl rfl rfl ?_
     refine oy hS (y_loadW (fun w hS => hS.own (mC (mB (mB (mB (mB (mB (mB (mH))))))))) underlying27 rfl (by exact sz_api_State)) ?_
     refine o_gu rfl rfl rfl ?_
     refine oy hS (y_loadW (fun w hS => hS.own (mH)) underlying27 rfl (by exact sz_api_State)) ?_
     refine o_gu rfl rfl rfl ?_
     obtain ⟨r1838, hr1838, hF⟩ := ob hF
     refine o_callS hS func28 rfl rfl (hc := (w_r0_EqState (a0 := r1767.1) (a1 := r1805.1) (h0 := ⟨_, _, _, _, _, _, rfl, (OwT.plus hR0_0_1776 hS (fun p hp => mC (mB (mB (mB (mB (mB (mB (mC (mA (hp))))))))))), (OwT.plus hR0_1_1780 hS (fun p hp => mC (mB (mB (mB (mB (mB (mB (mC (mB (mA (hp)))))))))))), (OwT.plus hR0_2_1784 hS (fun p hp => mC (mB (mB (mB (mB (mB (mB (mC (mB (mB (mA (hp))))))))))))), (OwT.plus hR0_4_1788 hS (fun p hp => mC (mB (mB (mB (mB (mB (mB (mC (mB (mB (mB (mA (hp)))))))))))))), (OwT.plus hR0_6_1792 hS (fun p hp => mC (mB (mB (mB (mB (mB (mB (mC (mB (mB (mB (mB (mA (hp))))))))))))))), (OwT.plus hR0_8_1796 hS (fun p hp => mC (mB (mB (mB (mB (mB (mB (mC (mB (mB (mB (mB (mB (mA (hp))))))))))))))))⟩) (h1 := ⟨_, _, _, _, _, _, rfl, (OwT.plus hR0_0_1814 hS (fun p hp => mC (mA (hp)))), (OwT.plus hR0_1_1818 hS (fun p hp => mC (mB (mA (hp))))), (OwT.plus hR0_2_1822 hS (fun p hp => mC (mB (mB (mA (hp)))))), (OwT.plus hR0_4_1826 hS (fun p hp => mC (mB (mB (mB (mA (hp))))))), (OwT.plus hR0_6_1830 hS (fun p hp => mC (mB (mB (mB (mB (mA (hp)))))))), (OwT.plus hR0_8_1834 hS (fun p hp => mC (mB (mB (mB (mB (mB (mA (hp)))))))))⟩) (hF := hr1838))) (h := ?_)
     clear hS; intro w hS
     refine o_gu rfl rfl rfl <| oy hS y_not <| oy hS y_pickF <| n_thenN ?_
     refine c_if (ht := fun c1839 => ?_) (hf := fun c1839 => ?_)
     · replace hF := bt c1839 hF
       refine c_seq <| c_region <| oy hS y_assign <| n_thenN ?_
       obtain rfl := osi hF
       obtain rfl : _ = z1568 := hK1763
       obtain rfl : _ = r := hK1569
       exact wp_ret (wr1 hS)
     replace hF := bf c1839 hF
     refine wp_skip <| c_seq <| c_region ?_
     refine oy hS (y_loadW (fun w hS => hS.own (mC (mB (mB (mB (mB (mB (mB (mH))))))))) underlying27 rfl (by exact sz_api_State)) ?_
     have hS := hS.re (.t (.thereb _ (.there _ (.there _ (.there _ (.there _ (.there _ (.there _ (.thereb _ .h)))))))) (.t (.thereb _ (.there _ (.there _ (.there _ (.there _ (.there _ (.there _ (.thereb _ .h)))))))) (.t (.thereb _ (.there _ (.there _ (.there _ (.there _ (.there _ (.there _ (.thereb _ .h)))))))) (.t (.thereb _ (.there _ (.there _ (.there _ (.there _ (.there _ (.there _ (.thereb _ .h)))))))) (.t (.thereb _ (.there _ (.there _ (.there _ (.there _ (.there _ (.there _ (.thereb _ .h)))))))) (.t (.thereb _ (.there _ (.there _ (.there _ (.there _ (.there _ (.there _ (.thereb _ .h)))))))) (.b .hb (.t .h (.t .h (.t .h (.t .h (.t .h (.t .h (.b .hb (.b .hb (.b .hb (.b .hb (.t .h (.t .h (.t .h (.t .h (.t .h (.t .h (.t .h (.t .h (.t .h (.t .h (.t .h (.t .h (.t .h .n))))))))))))))))))))))))))))))
     have hS2 := hS.spl (.app _ (.app _ (.app _ (.app _ (.app _ (.app _ (.nil _)))))))
     obtain ⟨r1840, hr1840, hF⟩ := ob hF
     refine o_call hS2 func31 rfl rfl (hc := (w_l0_State (a0 := r1767.1) (h0 := (⟨_, _, _, _, _, _, _, _, _, _, _, _, rfl, rfl, hR0_0_1776, hR0_1_1780, hR0_2_1784, hR0_4_1788, hR0_6_1792, hR0_8_1796⟩ : Ow_State r1767.1 (.agg (cl_State vR0_0_1774 vR0_1_1778 vR0_2_1782 r1767.1.Taken vR0_4_1786 r1767.1.PC vR0_6_1790 r1767.1.Stop vR0_8_1794 r1767.1.Jump r1767.1.Delay).toArray) (LXR0_0_1775 ++ (LXR0_1_1779 ++ (LXR0_2_1783 ++ (LXR0_4_1787 ++ (LXR0_6_1791 ++ (LXR0_8_1795 ++ [])))))))) (hF := hr1840))) (h := ?_)
     clear hS; intro v1841 LY1842 w hS hr1843
     clear hS2
     obtain ⟨rfl, rfl⟩ := hr1843
     refine n_thenN <| c_region ?_
     refine oy hS (y_loadW (fun w hS => hS.own (mH)) underlying27 rfl (by exact sz_api_State)) ?_
     have hS := hS.re (.b (.thereb _ (.there _ (.there _ (.there _ (.there _ (.there _ (.there _ (.thereb _ (.thereb _ (.thereb _ .hb)))))))))) (.b .hb (.t .h (.t .h (.t .h (.t .h (.t .h (.t .h (.b .hb (.b .hb (.b .hb (.t .h (.t .h (.t .h (.t .h (.t .h (.t .h (.t .h (.t .h (.t .h (.t .h (.t .h (.t .h (.t .h .n))))))))))))))))))))))))
     refine o_storeW (vs := (cl_State vR0_0_1812 vR0_1_1816 vR0_2_1820 r1805.1.Taken vR0_4_1824 r1805.1.PC vR0_6_1828 r1805.1.Stop vR0_8_1832 r1805.1.Jump r1805.1.Delay)) hS (by exact rfl) (Upd.here _) (by exact sz_api_State) (one_State (hR0_0_1814).one (hR0_1_1818).one (hR0_2_1822).one (hR0_4_1826).one (hR0_6_1830).one (hR0_8_1834).one) ?_
     clear hS; intro w hS
     refine n_anyN ?_
     refine c_region <| oy hS y_move <| oy hS y_bin <| oy hS y_assign <| n_thenN ?_
     obtain rfl := osi hF
     exact ⟨_, hK1763, vR0_0_1812, vR0_1_1816, vR0_2_1820, vR0_4_1824, vR0_6_1828, vR0_8_1832, LXR0_0_1813, LXR0_1_1817, LXR0_2_1821, LXR0_4_1825, LXR0_6_1829, LXR0_8_1833, hR0_0_1814, hR0_1_1818, hR0_2_1822, hR0_4_1826, hR0_6_1830, hR0_8_1834, mk_exF, (hS.re (.b (.thereb _ (.thereb _ (.there _ (.there _ (.there _ (.there _ (.there _ (.there _ (.thereb _ .hb))))))))) (.b (.thereb _ (.thereb _ (.there _ (.there _ (.there _ (.there _ (.there _ (.there _ (.thereb _ .hb))))))))) (.b .hb (.t (.thereb _ (.there _ (.there _ (.there _ (.there _ (.there _ (.there _ (.thereb _ .h)))))))) (.t (.thereb _ (.there _ (.there _ (.there _ (.there _ (.there _ (.there _ (.thereb _ .h)))))))) (.t (.thereb _ (.there _ (.there _ (.there _ (.there _ (.there _ (.there _ (.thereb _ .h)))))))) (.t (.thereb _ (.there _ (.there _ (.there _ (.there _ (.there _ (.there _ (.thereb _ .h)))))))) (.t (.thereb _ (.there _ (.there _ (.there _ (.there _ (.there _ (.there _ (.thereb _ .h)))))))) (.t (.thereb _ (.there _ (.there _ (.there _ (.there _ (.there _ (.there _ (.thereb _ .h)))))))) (.t (.thereb _ .h) (.t (.thereb _ .h) (.t (.thereb _ .h) (.t (.thereb _ .h) (.t (.thereb _ .h) (.t (.thereb _ .h) (.t (.thereb _ (.thereb _ (.there _ (.there _ (.there _ (.there _ (.there _ (.there _ .h)))))))) .n)))))))))))))))))⟩
   replace hF := bf c1766 hF
   refine wp_exit ?_
   obtain rfl := osi hF
   obtain rfl : _ = z1568 := hK1763
   change _ ∧ _
   exact ⟨hK1569, mk_exF, (hS.re (.b .hb (.b .hb (.t (.thereb _ .h) (.t (.thereb _ .h) (.t (.thereb _ .h) (.t (.thereb _ .h) (.t (.thereb _ .h) (.t (.thereb _ .h) .n)))))))))⟩
 rintro a w ⟨hF, ⟨s1844, rfl⟩, hS⟩
 dsimp only [l6_PipeCycles_k7] at hF
 refine c_seq <| c_region ?_
 refine oy hS (y_loadW (fun w hS => hS.own (mC (mH))) underlying27 rfl (by exact sz_api_State)) ?_
 refine oy hS (y_field fa_sledgelaw6_Script_1) ?_
 refine oy hS (y_loadN (vs := (cl_State v0_1_ v0_2_ v0_3_ a0.S.Taken v0_5_ a0.S.PC v0_7_ a0.S.Stop v0_9_ a0.S.Jump a0.S.Delay)) (fun w hS => hS.own (mH)) underlying27 rfl (by exact sz_api_State) (subd (o := 0 + 1) (by exact rfl))) ?_
 obtain ⟨r1845, hr1845, hF⟩ := ob hF
 refine o_callS hS func28 rfl rfl (hc := (w_r0_EqState (a0 := (⟨x50, x55, x60, x65, x66, x71, x72, x77, x78, x83, x84⟩ : T_State)) (a1 := a0.S) (h0 := ⟨_, _, _, _, _, _, rfl, (OwT.plus h52 hS (fun p hp => mC (mC (mA (hp))))), (OwT.plus h57 hS (fun p hp => mC (mC (mB (mA (hp)))))), (OwT.plus h62 hS (fun p hp => mC (mC (mB (mB (mA (hp))))))), (OwT.plus h68 hS (fun p hp => mC (mC (mB (mB (mB (mA (hp)))))))), (OwT.plus h74 hS (fun p hp => mC (mC (mB (mB (mB (mB (mA (hp))))))))), (OwT.plus h80 hS (fun p hp => mC (mC (mB (mB (mB (mB (mB (mA (hp))))))))))⟩) (h1 := ⟨_, _, _, _, _, _, rfl, h0_1_.plus, h0_2_.plus, h0_3_.plus, h0_5_.plus, h0_7_.plus, h0_9_.plus⟩) (hF := hr1845))) (h := ?_)
 clear hS; intro w hS
 refine o_split (ht := fun c1846 => ?_) (hf := fun c1846 => ?_)
 · replace hF := bt c1846 hF
   refine o_gu rfl rfl rfl ?_
   obtain ⟨r1847, hr1847, hF⟩ := ob hF
   refine o_callS hS func17 rfl rfl (hc := (w_l6_wakes  (hF := hr1847))) (h := ?_)
   clear hS; intro w hS
   refine oy hS y_pickT <| oy hS y_assign <| n_thenN ?_
   obtain rfl := osi hF
   exact wp_ret (wr1 hS)
 replace hF := bf c1846 hF
 refine o_sk rfl rfl ?_
 refine oy hS y_pickF <| oy hS y_assign <| n_thenN ?_
 obtain rfl := osi hF
 exact wp_ret (wr1 hS)
theorem w_l6_PipeCycles {g : Frag} {a0 : T_Script} {v0_ : Value} {r : Bool} (h0 : Rd_Script g a0 v0_) (hF : l6_PipeCycles a0 = some r) : LCs Tryz.prog 8 #[v0_] g (.bool r) := w_l6_PipeCycles_ h0 hF
end Go.Proofs.YthbpicnbkdbbmaaGreat
