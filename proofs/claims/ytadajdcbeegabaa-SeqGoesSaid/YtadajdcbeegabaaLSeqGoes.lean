/- The law SeqGoes, lifted. Printed by lift.py. -/
import Derived.Test.YtadajdcbeegabaaProg
import Derived.Test.YtadajdcbeegabaaP10
import Derived.KernelRfl
namespace Go.Proofs.Ytadajdcbeegabaa
open Go Go.RowKit Fr
set_option linter.unusedVariables false
set_option linter.unusedSimpArgs false
set_option maxRecDepth 20000
noncomputable def l5_SeqGoes_k2 (r77 : (T_State × Int × Int)) (a0 : T_Script) : Unit → Option Bool := fun _ => bif decide (r77.1.Stop ≠ 0) then (seq_Step a0.P r77.1).bind fun r141 => bif decide ((l5_num r141.2) ≠ 0) then some (false) else (r0_EqState r77.1 r141.1).bind fun r174 => bif !r174 then some (false) else (l5_wakes).bind fun r176 => some (r176) else bif decide (r77.2.1 ≠ 42) then some (false) else (l5_wakes).bind fun r178 => some (r178)
noncomputable def l5_SeqGoes_k1 (a0 : T_Script) : Unit → Option Bool := fun _ => (seq_Run a0.P a0.S 17).bind fun r13 => (seq_Run a0.P r13.1 25).bind fun r45 => (seq_Run a0.P a0.S 42).bind fun r77 => cut (σ := Unit) (bif decide ((l5_num r13.2.2) ≠ 0) then some (.done (false)) else bif decide ((l5_num r45.2.2) ≠ 0) then some (.done (false)) else bif decide ((l5_num r77.2.2) ≠ 0) then some (.done (false)) else bif decide ((IntKind.i64.wrap (r13.2.1 + r45.2.1)) ≠ r77.2.1) then some (.done (false)) else (r0_EqState r45.1 r77.1).bind fun r129 => bif !r129 then some (.done (false)) else (r0_Begins r13.1.Out a0.S.Out).bind fun r131 => bif !r131 then some (.done (false)) else (r0_Begins r45.1.Out r13.1.Out).bind fun r133 => bif !r133 then some (.done (false)) else bif decide (r13.1.Taken < a0.S.Taken) then some (.done (false)) else bif decide (r45.1.Taken < r13.1.Taken) then some (.done (false)) else (r0_EqWords r77.1.In_ a0.S.In_).bind fun r137 => bif !r137 then some (.done (false)) else some (.next ())) (l5_SeqGoes_k2 r77 a0)
noncomputable def l5_SeqGoes (a0 : T_Script) : Option Bool :=
  cut (σ := Unit) ((l5_Heavy a0).bind fun r8 => bif r8 then some (.done (true)) else (l5_May a0).bind fun r10 => bif !r10 then some (.done (true)) else some (.next ())) (l5_SeqGoes_k1 a0)
set_option maxHeartbeats 20000000 in
theorem w_l5_SeqGoes_ {g : Frag} {a0 : T_Script} {v0_ : Value} {r : Bool} (h0 : Rd_Script g a0 v0_) (hF : l5_SeqGoes a0 = some r) : LCs Try.prog 3 #[v0_] g (.bool r) := by
 obtain ⟨v0_0_, v0_1_, v0_2_, v0_3_, v0_5_, v0_7_, v0_9_, v0_12_, v0_13_, rfl, h0_0_, h0_1_, h0_2_, h0_3_, h0_5_, h0_7_, h0_9_, h0_12_, h0_13_⟩ := h0
 unfold l5_SeqGoes at hF
 refine lc_body (k := 136) (av := [.agg #[v0_0_, v0_1_, v0_2_, v0_3_, .int .i64 a0.S.Taken, v0_5_, .int .i64 a0.S.PC, v0_7_, .int .i64 a0.S.Stop, v0_9_, .int .i64 a0.S.Jump, .int .i64 a0.S.Delay, v0_12_, v0_13_]]) Try.func3 rfl rfl (h := fun W hS => ?_)
 refine c_seq ?_
 refine c_region ?_
 refine o_boxP (cl := [v0_0_, v0_1_, v0_2_, v0_3_, .int .i64 a0.S.Taken, v0_5_, .int .i64 a0.S.PC, v0_7_, .int .i64 a0.S.Stop, v0_9_, .int .i64 a0.S.Jump, .int .i64 a0.S.Delay, v0_12_, v0_13_]) rfl hS ?_
 clear hS; intro b1 w hS
 refine oy hS y_assign ?_
 refine n_thenN ?_
 obtain ⟨z6, hF, hK7⟩ := cut_step hF
 refine c_cutP (fun a w' => l5_SeqGoes_k1 a0 () = some r ∧ (∃ s : Nat → Value, a = Ac (.lit 136 [s 0, .pointer (some ⟨b1, 0, none⟩), s 2, s 3, s 4, s 5, s 6, s 7, s 8, s 9, s 10, s 11, s 12, s 13, s 14, s 15, s 16, s 17, s 18, s 19, s 20, s 21, s 22, s 23, s 24, s 25, s 26, s 27, s 28, s 29, s 30, s 31, s 32, s 33, s 34, s 35, s 36, s 37, s 38, s 39, s 40, s 41, s 42, s 43, s 44, s 45, s 46, s 47, s 48, s 49, s 50, s 51, s 52, s 53, s 54, s 55, s 56, s 57, s 58, s 59, s 60, s 61, s 62, s 63, s 64, s 65, s 66, s 67, s 68, s 69, s 70, s 71, s 72, s 73, s 74, s 75, s 76, s 77, s 78, s 79, s 80, s 81, s 82, s 83, s 84, s 85, s 86, s 87, s 88, s 89, s 90, s 91, s 92, s 93, s 94, s 95, s 96, s 97, s 98, s 99, s 100, s 101, s 102, s 103, s 104, s 105, s 106, s 107, s 108, s 109, s 110, s 111, s 112, s 113, s 114, s 115, s 116, s 117, s 118, s 119, s 120, s 121, s 122, s 123, s 124, s 125, s 126, s 127, s 128, s 129, s 130, s 131, s 132, s 133, s 134, s 135])) ∧ St W g [] ((b1, blk [v0_0_, v0_1_, v0_2_, v0_3_, .int .i64 a0.S.Taken, v0_5_, .int .i64 a0.S.PC, v0_7_, .int .i64 a0.S.Stop, v0_9_, .int .i64 a0.S.Jump, .int .i64 a0.S.Delay, v0_12_, v0_13_] 29) :: []) w') ?_ ?_
 · skip
   refine c_seq ?_
   refine c_region ?_
   refine oy hS (y_loadW (fun w hS => hS.own (mH)) Try.underlying29 rfl (by exact sz_sledgelaw5_Script)) ?_
   obtain ⟨r8, hr8, hF⟩ := ob hF
   refine o_callS hS Try.func12 rfl rfl (hc := (w_l5_Heavy (a0 := a0) (h0 := ⟨_, _, _, _, _, _, _, _, _, rfl, h0_0_.plus, h0_1_.plus, h0_2_.plus, h0_3_.plus, h0_5_.plus, h0_7_.plus, h0_9_.plus, h0_12_.plus, h0_13_.plus⟩) (hF := hr8))) (h := ?_)
   clear hS; intro w hS
   refine o_split (ht := fun c9 => ?_) (hf := fun c9 => ?_)
   · replace hF := bt c9 hF
     iterate 3 (refine o_sk rfl rfl ?_)
     refine oy hS y_pickT ?_
     refine n_thenN ?_
     refine c_if_true (h := ?_)
     refine c_seq ?_
     refine c_region ?_
     refine oy hS y_assign ?_
     refine n_thenN ?_
     obtain rfl := Option.some.inj hF
     obtain rfl : _ = r := hK7
     exact wp_ret (wr1 hS)
   replace hF := bf c9 hF
   refine o_gu rfl rfl rfl ?_
   refine oy hS (y_loadW (fun w hS => hS.own (mH)) Try.underlying29 rfl (by exact sz_sledgelaw5_Script)) ?_
   refine o_gu rfl rfl rfl ?_
   obtain ⟨r10, hr10, hF⟩ := ob hF
   refine o_callS hS Try.func13 rfl rfl (hc := (w_l5_May (a0 := a0) (h0 := ⟨_, _, _, _, _, _, _, _, _, rfl, h0_0_.plus, h0_1_.plus, h0_2_.plus, h0_3_.plus, h0_5_.plus, h0_7_.plus, h0_9_.plus, h0_12_.plus, h0_13_.plus⟩) (hF := hr10))) (h := ?_)
   clear hS; intro w hS
   refine o_gu rfl rfl rfl ?_
   refine oy hS y_not ?_
   refine oy hS y_pickF ?_
   refine n_thenN ?_
   refine c_if (ht := fun c11 => ?_) (hf := fun c11 => ?_)
   · replace hF := bt c11 hF
     refine c_seq ?_
     refine c_region ?_
     refine oy hS y_assign ?_
     refine n_thenN ?_
     obtain rfl := Option.some.inj hF
     obtain rfl : _ = r := hK7
     exact wp_ret (wr1 hS)
   replace hF := bf c11 hF
   refine wp_skip ?_
   obtain rfl := Option.some.inj hF
   change _ ∧ _
   exact ⟨hK7, mk_ex, (hS.re (.takeb (.hereb _ _) (.nil _)))⟩
 rintro a w ⟨hF, ⟨s12, rfl⟩, hS⟩
 dsimp only [l5_SeqGoes_k1] at hF
 refine c_seq ?_
 refine c_region ?_
 refine oy hS (y_field fa_sledgelaw5_Script_0) ?_
 refine oy hS (y_load (fun w hS => hS.own (mH)) Try.underlying22 rfl rfl) ?_
 refine oy hS (y_field fa_sledgelaw5_Script_1) ?_
 refine oy hS (y_loadN (vs := [v0_1_, v0_2_, v0_3_, .int .i64 a0.S.Taken, v0_5_, .int .i64 a0.S.PC, v0_7_, .int .i64 a0.S.Stop, v0_9_, .int .i64 a0.S.Jump, .int .i64 a0.S.Delay]) (fun w hS => hS.own (mH)) Try.underlying27 rfl (by exact sz_api_State) (subc (pre := [v0_0_]) (vs := [v0_1_, v0_2_, v0_3_, .int .i64 a0.S.Taken, v0_5_, .int .i64 a0.S.PC, v0_7_, .int .i64 a0.S.Stop, v0_9_, .int .i64 a0.S.Jump, .int .i64 a0.S.Delay]) (post := [v0_12_, v0_13_]) rfl rfl)) ?_
 obtain ⟨r13, hr13, hF⟩ := ob hF
 refine o_call (L1 := []) (L2 := ((b1, blk [v0_0_, v0_1_, v0_2_, v0_3_, .int .i64 a0.S.Taken, v0_5_, .int .i64 a0.S.PC, v0_7_, .int .i64 a0.S.Stop, v0_9_, .int .i64 a0.S.Jump, .int .i64 a0.S.Delay, v0_12_, v0_13_] 29) :: [])) hS Try.func14 rfl rfl (hc := (w_seq_Run (a0 := a0.P) (a1 := a0.S) (a2 := 17) (h0 := h0_0_.plus) (h1 := ⟨_, _, _, _, _, _, rfl, h0_1_.plus, h0_2_.plus, h0_3_.plus, h0_5_.plus, h0_7_.plus, h0_9_.plus⟩) (hF := hr13))) (h := ?_)
 clear hS; intro v14 LY15 w hS hr16
 obtain ⟨v_0_17, LX_0_18, rfl, rfl, h_0_19⟩ := hr16
 obtain ⟨vR0_0_20, vR0_1_24, vR0_2_28, vR0_4_32, vR0_6_36, vR0_8_40, LXR0_0_21, LXR0_1_25, LXR0_2_29, LXR0_4_33, LXR0_6_37, LXR0_8_41, rfl, rfl, hR0_0_22, hR0_1_26, hR0_2_30, hR0_4_34, hR0_6_38, hR0_8_42⟩ := h_0_19
 simp only [List.append_assoc, List.cons_append, List.nil_append] at hS
 refine oy hS y_move ?_
 iterate 3 (refine oy hS (y_extract rfl) ?_)
 refine o_allocP (cl := [(.slice none 0 0), (.slice none 0 0), (.slice none 0 0), .int .i64 0, (.slice none 0 0), .int .i64 0, (.slice none 0 0), .int .i64 0, (.slice none 0 0), .int .i64 0, .int .i64 0]) zr_api_State rfl hS ?_
 clear hS; intro b44 w hS
 refine o_storeP (vs := [vR0_0_20, vR0_1_24, vR0_2_28, .int .i64 r13.1.Taken, vR0_4_32, .int .i64 r13.1.PC, vR0_6_36, .int .i64 r13.1.Stop, vR0_8_40, .int .i64 r13.1.Jump, .int .i64 r13.1.Delay]) hS (hm := Upd.here _) (hi := by exact sz_api_State) (h1 := (onC (hR0_0_22).one (onC (hR0_1_26).one (onC (hR0_2_30).one (onC rfl (onC (hR0_4_34).one (onC rfl (onC (hR0_6_38).one (onC rfl (onC (hR0_8_42).one (onC rfl (onC rfl onN)))))))))))) ?_
 clear hS; intro w hS
 iterate 2 (refine oy hS y_assign ?_)
 refine n_thenN ?_
 refine c_seq ?_
 refine c_region ?_
 refine oy hS (y_field fa_sledgelaw5_Script_0) ?_
 refine oy hS (y_load (fun w hS => hS.own (mC (mB (mB (mB (mB (mB (mB (mH))))))))) Try.underlying22 rfl rfl) ?_
 refine oy hS (y_loadW (fun w hS => hS.own (mH)) Try.underlying27 rfl (by exact sz_api_State)) ?_
 obtain ⟨r45, hr45, hF⟩ := ob hF
 refine o_call (L1 := []) (L2 := ((b44, blk [vR0_0_20, vR0_1_24, vR0_2_28, .int .i64 r13.1.Taken, vR0_4_32, .int .i64 r13.1.PC, vR0_6_36, .int .i64 r13.1.Stop, vR0_8_40, .int .i64 r13.1.Jump, .int .i64 r13.1.Delay] 27) :: (LXR0_0_21 ++ (LXR0_1_25 ++ (LXR0_2_29 ++ (LXR0_4_33 ++ (LXR0_6_37 ++ (LXR0_8_41 ++ ((b1, blk [v0_0_, v0_1_, v0_2_, v0_3_, .int .i64 a0.S.Taken, v0_5_, .int .i64 a0.S.PC, v0_7_, .int .i64 a0.S.Stop, v0_9_, .int .i64 a0.S.Jump, .int .i64 a0.S.Delay, v0_12_, v0_13_] 29) :: []))))))))) hS Try.func14 rfl rfl (hc := (w_seq_Run (a0 := a0.P) (a1 := r13.1) (a2 := 25) (h0 := h0_0_.plus) (h1 := ⟨_, _, _, _, _, _, rfl, (OwT.plus hR0_0_22 hS (fun p hp => mC (mA (hp)))), (OwT.plus hR0_1_26 hS (fun p hp => mC (mB (mA (hp))))), (OwT.plus hR0_2_30 hS (fun p hp => mC (mB (mB (mA (hp)))))), (OwT.plus hR0_4_34 hS (fun p hp => mC (mB (mB (mB (mA (hp))))))), (OwT.plus hR0_6_38 hS (fun p hp => mC (mB (mB (mB (mB (mA (hp)))))))), (OwT.plus hR0_8_42 hS (fun p hp => mC (mB (mB (mB (mB (mB (mA (hp)))))))))⟩) (hF := hr45))) (h := ?_)
 clear hS; intro v46 LY47 w hS hr48
 obtain ⟨v_0_49, LX_0_50, rfl, rfl, h_0_51⟩ := hr48
 obtain ⟨vR0_0_52, vR0_1_56, vR0_2_60, vR0_4_64, vR0_6_68, vR0_8_72, LXR0_0_53, LXR0_1_57, LXR0_2_61, LXR0_4_65, LXR0_6_69, LXR0_8_73, rfl, rfl, hR0_0_54, hR0_1_58, hR0_2_62, hR0_4_66, hR0_6_70, hR0_8_74⟩ := h_0_51
 simp only [List.append_assoc, List.cons_append, List.nil_append] at hS
 refine oy hS y_move ?_
 iterate 3 (refine oy hS (y_extract rfl) ?_)
 refine o_allocP (cl := [(.slice none 0 0), (.slice none 0 0), (.slice none 0 0), .int .i64 0, (.slice none 0 0), .int .i64 0, (.slice none 0 0), .int .i64 0, (.slice none 0 0), .int .i64 0, .int .i64 0]) zr_api_State rfl hS ?_
 clear hS; intro b76 w hS
 refine o_storeP (vs := [vR0_0_52, vR0_1_56, vR0_2_60, .int .i64 r45.1.Taken, vR0_4_64, .int .i64 r45.1.PC, vR0_6_68, .int .i64 r45.1.Stop, vR0_8_72, .int .i64 r45.1.Jump, .int .i64 r45.1.Delay]) hS (hm := Upd.here _) (hi := by exact sz_api_State) (h1 := (onC (hR0_0_54).one (onC (hR0_1_58).one (onC (hR0_2_62).one (onC rfl (onC (hR0_4_66).one (onC rfl (onC (hR0_6_70).one (onC rfl (onC (hR0_8_74).one (onC rfl (onC rfl onN)))))))))))) ?_
 clear hS; intro w hS
 iterate 2 (refine oy hS y_assign ?_)
 refine n_thenN ?_
 refine c_seq ?_
 refine c_region ?_
 refine oy hS (y_field fa_sledgelaw5_Script_0) ?_
 refine oy hS (y_load (fun w hS => hS.own (mC (mB (mB (mB (mB (mB (mB (mC (mB (mB (mB (mB (mB (mB (mH)))))))))))))))) Try.underlying22 rfl rfl) ?_
 refine oy hS (y_field fa_sledgelaw5_Script_1) ?_
 refine oy hS (y_loadN (vs := [v0_1_, v0_2_, v0_3_, .int .i64 a0.S.Taken, v0_5_, .int .i64 a0.S.PC, v0_7_, .int .i64 a0.S.Stop, v0_9_, .int .i64 a0.S.Jump, .int .i64 a0.S.Delay]) (fun w hS => hS.own (mC (mB (mB (mB (mB (mB (mB (mC (mB (mB (mB (mB (mB (mB (mH)))))))))))))))) Try.underlying27 rfl (by exact sz_api_State) (subc (pre := [v0_0_]) (vs := [v0_1_, v0_2_, v0_3_, .int .i64 a0.S.Taken, v0_5_, .int .i64 a0.S.PC, v0_7_, .int .i64 a0.S.Stop, v0_9_, .int .i64 a0.S.Jump, .int .i64 a0.S.Delay]) (post := [v0_12_, v0_13_]) rfl rfl)) ?_
 obtain ⟨r77, hr77, hF⟩ := ob hF
 refine o_call (L1 := []) (L2 := ((b76, blk [vR0_0_52, vR0_1_56, vR0_2_60, .int .i64 r45.1.Taken, vR0_4_64, .int .i64 r45.1.PC, vR0_6_68, .int .i64 r45.1.Stop, vR0_8_72, .int .i64 r45.1.Jump, .int .i64 r45.1.Delay] 27) :: (LXR0_0_53 ++ (LXR0_1_57 ++ (LXR0_2_61 ++ (LXR0_4_65 ++ (LXR0_6_69 ++ (LXR0_8_73 ++ ((b44, blk [vR0_0_20, vR0_1_24, vR0_2_28, .int .i64 r13.1.Taken, vR0_4_32, .int .i64 r13.1.PC, vR0_6_36, .int .i64 r13.1.Stop, vR0_8_40, .int .i64 r13.1.Jump, .int .i64 r13.1.Delay] 27) :: (LXR0_0_21 ++ (LXR0_1_25 ++ (LXR0_2_29 ++ (LXR0_4_33 ++ (LXR0_6_37 ++ (LXR0_8_41 ++ ((b1, blk [v0_0_, v0_1_, v0_2_, v0_3_, .int .i64 a0.S.Taken, v0_5_, .int .i64 a0.S.PC, v0_7_, .int .i64 a0.S.Stop, v0_9_, .int .i64 a0.S.Jump, .int .i64 a0.S.Delay, v0_12_, v0_13_] 29) :: [])))))))))))))))) hS Try.func14 rfl rfl (hc := (w_seq_Run (a0 := a0.P) (a1 := a0.S) (a2 := 42) (h0 := h0_0_.plus) (h1 := ⟨_, _, _, _, _, _, rfl, h0_1_.plus, h0_2_.plus, h0_3_.plus, h0_5_.plus, h0_7_.plus, h0_9_.plus⟩) (hF := hr77))) (h := ?_)
 clear hS; intro v78 LY79 w hS hr80
 obtain ⟨v_0_81, LX_0_82, rfl, rfl, h_0_83⟩ := hr80
 obtain ⟨vR0_0_84, vR0_1_88, vR0_2_92, vR0_4_96, vR0_6_100, vR0_8_104, LXR0_0_85, LXR0_1_89, LXR0_2_93, LXR0_4_97, LXR0_6_101, LXR0_8_105, rfl, rfl, hR0_0_86, hR0_1_90, hR0_2_94, hR0_4_98, hR0_6_102, hR0_8_106⟩ := h_0_83
 simp only [List.append_assoc, List.cons_append, List.nil_append] at hS
 refine oy hS y_move ?_
 iterate 3 (refine oy hS (y_extract rfl) ?_)
 refine o_allocP (cl := [(.slice none 0 0), (.slice none 0 0), (.slice none 0 0), .int .i64 0, (.slice none 0 0), .int .i64 0, (.slice none 0 0), .int .i64 0, (.slice none 0 0), .int .i64 0, .int .i64 0]) zr_api_State rfl hS ?_
 clear hS; intro b108 w hS
 refine o_storeP (vs := [vR0_0_84, vR0_1_88, vR0_2_92, .int .i64 r77.1.Taken, vR0_4_96, .int .i64 r77.1.PC, vR0_6_100, .int .i64 r77.1.Stop, vR0_8_104, .int .i64 r77.1.Jump, .int .i64 r77.1.Delay]) hS (hm := Upd.here _) (hi := by exact sz_api_State) (h1 := (onC (hR0_0_86).one (onC (hR0_1_90).one (onC (hR0_2_94).one (onC rfl (onC (hR0_4_98).one (onC rfl (onC (hR0_6_102).one (onC rfl (onC (hR0_8_106).one (onC rfl (onC rfl onN)))))))))))) ?_
 clear hS; intro w hS
 iterate 2 (refine oy hS y_assign ?_)
 refine n_thenN ?_
 obtain ⟨z123, hF, hK124⟩ := cut_step hF
 refine c_cutP (fun a w' => l5_SeqGoes_k2 r77 a0 () = some r ∧ (∃ s : Nat → Value, a = Ac (.lit 136 [s 0, .pointer (some ⟨b1, 0, none⟩), s 2, s 3, s 4, s 5, s 6, s 7, s 8, .pointer (some ⟨b108, 0, none⟩), .int .i64 r77.2.1, s 11, s 12, s 13, s 14, s 15, s 16, s 17, s 18, s 19, s 20, s 21, s 22, s 23, s 24, s 25, s 26, s 27, s 28, s 29, s 30, s 31, s 32, s 33, s 34, s 35, s 36, s 37, s 38, s 39, s 40, s 41, s 42, s 43, s 44, s 45, s 46, s 47, s 48, s 49, s 50, s 51, s 52, s 53, s 54, s 55, s 56, s 57, s 58, s 59, s 60, s 61, s 62, s 63, s 64, s 65, s 66, s 67, s 68, s 69, s 70, s 71, s 72, s 73, s 74, s 75, s 76, s 77, s 78, s 79, s 80, s 81, s 82, s 83, s 84, s 85, s 86, s 87, s 88, s 89, s 90, s 91, s 92, s 93, s 94, s 95, s 96, s 97, s 98, s 99, s 100, s 101, s 102, s 103, s 104, s 105, s 106, s 107, s 108, s 109, s 110, s 111, s 112, s 113, s 114, s 115, s 116, s 117, s 118, s 119, s 120, s 121, s 122, s 123, s 124, s 125, s 126, s 127, s 128, s 129, s 130, s 131, s 132, s 133, s 134, s 135])) ∧ St W g [] ((b1, blk [v0_0_, v0_1_, v0_2_, v0_3_, .int .i64 a0.S.Taken, v0_5_, .int .i64 a0.S.PC, v0_7_, .int .i64 a0.S.Stop, v0_9_, .int .i64 a0.S.Jump, .int .i64 a0.S.Delay, v0_12_, v0_13_] 29) :: ((b108, blk [vR0_0_84, vR0_1_88, vR0_2_92, .int .i64 r77.1.Taken, vR0_4_96, .int .i64 r77.1.PC, vR0_6_100, .int .i64 r77.1.Stop, vR0_8_104, .int .i64 r77.1.Jump, .int .i64 r77.1.Delay] 27) :: (LXR0_0_85 ++ (LXR0_1_89 ++ (LXR0_2_93 ++ (LXR0_4_97 ++ (LXR0_6_101 ++ (LXR0_8_105 ++ [])))))))) w') ?_ ?_
 · skip
   refine c_seq ?_
   refine c_region ?_
   refine oy hS y_move ?_
   refine o_callS hS Try.func15 rfl rfl (hc := (w_l5_num (a0 := r13.2.2))) (h := ?_)
   clear hS; intro w hS
   refine oy hS y_bin ?_
   refine o_split (ht := fun c125 => ?_) (hf := fun c125 => ?_)
   · replace hF := bt c125 hF
     iterate 3 (refine o_sk rfl rfl ?_)
     refine oy hS y_pickT ?_
     refine oy hS y_move ?_
     iterate 3 (refine o_sk rfl rfl ?_)
     refine oy hS y_pickT ?_
     refine oy hS y_move ?_
     iterate 5 (refine o_sk rfl rfl ?_)
     refine oy hS y_pickT ?_
     refine oy hS y_move ?_
     iterate 4 (refine o_sk rfl rfl ?_)
     refine oy hS y_pickT ?_
     refine oy hS y_move ?_
     iterate 7 (refine o_sk rfl rfl ?_)
     refine oy hS y_pickT ?_
     refine oy hS y_move ?_
     iterate 6 (refine o_sk rfl rfl ?_)
     refine oy hS y_pickT ?_
     refine oy hS y_move ?_
     iterate 6 (refine o_sk rfl rfl ?_)
     refine oy hS y_pickT ?_
     refine oy hS y_move ?_
     iterate 5 (refine o_sk rfl rfl ?_)
     refine oy hS y_pickT ?_
     refine oy hS y_move ?_
     iterate 7 (refine o_sk rfl rfl ?_)
     refine oy hS y_pickT ?_
     refine n_thenN ?_
     refine c_if_true (h := ?_)
     refine c_seq ?_
     refine c_region ?_
     refine oy hS y_assign ?_
     refine n_thenN ?_
     obtain rfl := Option.some.inj hF
     obtain rfl : _ = r := hK124
     exact wp_ret (wr1 hS)
   replace hF := bf c125 hF
   refine o_gu rfl rfl rfl ?_
   refine oy hS y_move ?_
   refine o_gu rfl rfl rfl ?_
   refine o_callS hS Try.func15 rfl rfl (hc := (w_l5_num (a0 := r45.2.2))) (h := ?_)
   clear hS; intro w hS
   refine o_gu rfl rfl rfl ?_
   refine oy hS y_bin ?_
   refine oy hS y_pickF ?_
   refine o_split (ht := fun c126 => ?_) (hf := fun c126 => ?_)
   · replace hF := bt c126 hF
     iterate 3 (refine o_sk rfl rfl ?_)
     refine oy hS y_pickT ?_
     refine oy hS y_move ?_
     iterate 5 (refine o_sk rfl rfl ?_)
     refine oy hS y_pickT ?_
     refine oy hS y_move ?_
     iterate 4 (refine o_sk rfl rfl ?_)
     refine oy hS y_pickT ?_
     refine oy hS y_move ?_
     iterate 7 (refine o_sk rfl rfl ?_)
     refine oy hS y_pickT ?_
     refine oy hS y_move ?_
     iterate 6 (refine o_sk rfl rfl ?_)
     refine oy hS y_pickT ?_
     refine oy hS y_move ?_
     iterate 6 (refine o_sk rfl rfl ?_)
     refine oy hS y_pickT ?_
     refine oy hS y_move ?_
     iterate 5 (refine o_sk rfl rfl ?_)
     refine oy hS y_pickT ?_
     refine oy hS y_move ?_
     iterate 7 (refine o_sk rfl rfl ?_)
     refine oy hS y_pickT ?_
     refine n_thenN ?_
     refine c_if_true (h := ?_)
     refine c_seq ?_
     refine c_region ?_
     refine oy hS y_assign ?_
     refine n_thenN ?_
     obtain rfl := Option.some.inj hF
     obtain rfl : _ = r := hK124
     exact wp_ret (wr1 hS)
   replace hF := bf c126 hF
   refine o_gu rfl rfl rfl ?_
   refine oy hS y_move ?_
   refine o_gu rfl rfl rfl ?_
   refine o_callS hS Try.func15 rfl rfl (hc := (w_l5_num (a0 := r77.2.2))) (h := ?_)
   clear hS; intro w hS
   refine o_gu rfl rfl rfl ?_
   refine oy hS y_bin ?_
   refine oy hS y_pickF ?_
   refine o_split (ht := fun c127 => ?_) (hf := fun c127 => ?_)
   · replace hF := bt c127 hF
     iterate 5 (refine o_sk rfl rfl ?_)
     refine oy hS y_pickT ?_
     refine oy hS y_move ?_
     iterate 4 (refine o_sk rfl rfl ?_)
     refine oy hS y_pickT ?_
     refine oy hS y_move ?_
     iterate 7 (refine o_sk rfl rfl ?_)
     refine oy hS y_pickT ?_
     refine oy hS y_move ?_
     iterate 6 (refine o_sk rfl rfl ?_)
     refine oy hS y_pickT ?_
     refine oy hS y_move ?_
     iterate 6 (refine o_sk rfl rfl ?_)
     refine oy hS y_pickT ?_
     refine oy hS y_move ?_
     iterate 5 (refine o_sk rfl rfl ?_)
     refine oy hS y_pickT ?_
     refine oy hS y_move ?_
     iterate 7 (refine o_sk rfl rfl ?_)
     refine oy hS y_pickT ?_
     refine n_thenN ?_
     refine c_if_true (h := ?_)
     refine c_seq ?_
     refine c_region ?_
     refine oy hS y_assign ?_
     refine n_thenN ?_
     obtain rfl := Option.some.inj hF
     obtain rfl : _ = r := hK124
     exact wp_ret (wr1 hS)
   replace hF := bf c127 hF
   refine o_gu rfl rfl rfl ?_
   refine oy hS y_move ?_
   refine o_gu rfl rfl rfl ?_
   refine oy hS y_move ?_
   refine o_gu rfl rfl rfl ?_
   refine oy hS y_bin ?_
   refine o_gu rfl rfl rfl ?_
   refine oy hS y_move ?_
   refine o_gu rfl rfl rfl ?_
   refine oy hS y_bin ?_
   refine oy hS y_pickF ?_
   refine o_split (ht := fun c128 => ?_) (hf := fun c128 => ?_)
   · replace hF := bt c128 hF
     iterate 4 (refine o_sk rfl rfl ?_)
     refine oy hS y_pickT ?_
     refine oy hS y_move ?_
     iterate 7 (refine o_sk rfl rfl ?_)
     refine oy hS y_pickT ?_
     refine oy hS y_move ?_
     iterate 6 (refine o_sk rfl rfl ?_)
     refine oy hS y_pickT ?_
     refine oy hS y_move ?_
     iterate 6 (refine o_sk rfl rfl ?_)
     refine oy hS y_pickT ?_
     refine oy hS y_move ?_
     iterate 5 (refine o_sk rfl rfl ?_)
     refine oy hS y_pickT ?_
     refine oy hS y_move ?_
     iterate 7 (refine o_sk rfl rfl ?_)
     refine oy hS y_pickT ?_
     refine n_thenN ?_
     refine c_if_true (h := ?_)
     refine c_seq ?_
     refine c_region ?_
     refine oy hS y_assign ?_
     refine n_thenN ?_
     obtain rfl := Option.some.inj hF
     obtain rfl : _ = r := hK124
     exact wp_ret (wr1 hS)
   replace hF := bf c128 hF
   refine o_gu rfl rfl rfl ?_
   refine oy hS (y_loadW (fun w hS => hS.own (mC (mB (mB (mB (mB (mB (mB (mH))))))))) Try.underlying27 rfl (by exact sz_api_State)) ?_
   refine o_gu rfl rfl rfl ?_
   refine oy hS (y_loadW (fun w hS => hS.own (mH)) Try.underlying27 rfl (by exact sz_api_State)) ?_
   refine o_gu rfl rfl rfl ?_
   obtain ⟨r129, hr129, hF⟩ := ob hF
   refine o_callS hS Try.func16 rfl rfl (hc := (w_r0_EqState (a0 := r45.1) (a1 := r77.1) (h0 := ⟨_, _, _, _, _, _, rfl, (OwT.plus hR0_0_54 hS (fun p hp => mC (mB (mB (mB (mB (mB (mB (mC (mA (hp))))))))))), (OwT.plus hR0_1_58 hS (fun p hp => mC (mB (mB (mB (mB (mB (mB (mC (mB (mA (hp)))))))))))), (OwT.plus hR0_2_62 hS (fun p hp => mC (mB (mB (mB (mB (mB (mB (mC (mB (mB (mA (hp))))))))))))), (OwT.plus hR0_4_66 hS (fun p hp => mC (mB (mB (mB (mB (mB (mB (mC (mB (mB (mB (mA (hp)))))))))))))), (OwT.plus hR0_6_70 hS (fun p hp => mC (mB (mB (mB (mB (mB (mB (mC (mB (mB (mB (mB (mA (hp))))))))))))))), (OwT.plus hR0_8_74 hS (fun p hp => mC (mB (mB (mB (mB (mB (mB (mC (mB (mB (mB (mB (mB (mA (hp))))))))))))))))⟩) (h1 := ⟨_, _, _, _, _, _, rfl, (OwT.plus hR0_0_86 hS (fun p hp => mC (mA (hp)))), (OwT.plus hR0_1_90 hS (fun p hp => mC (mB (mA (hp))))), (OwT.plus hR0_2_94 hS (fun p hp => mC (mB (mB (mA (hp)))))), (OwT.plus hR0_4_98 hS (fun p hp => mC (mB (mB (mB (mA (hp))))))), (OwT.plus hR0_6_102 hS (fun p hp => mC (mB (mB (mB (mB (mA (hp)))))))), (OwT.plus hR0_8_106 hS (fun p hp => mC (mB (mB (mB (mB (mB (mA (hp)))))))))⟩) (hF := hr129))) (h := ?_)
   clear hS; intro w hS
   refine o_gu rfl rfl rfl ?_
   refine oy hS y_not ?_
   refine oy hS y_pickF ?_
   refine o_split (ht := fun c130 => ?_) (hf := fun c130 => ?_)
   · replace hF := bt c130 hF
     iterate 7 (refine o_sk rfl rfl ?_)
     refine oy hS y_pickT ?_
     refine oy hS y_move ?_
     iterate 6 (refine o_sk rfl rfl ?_)
     refine oy hS y_pickT ?_
     refine oy hS y_move ?_
     iterate 6 (refine o_sk rfl rfl ?_)
     refine oy hS y_pickT ?_
     refine oy hS y_move ?_
     iterate 5 (refine o_sk rfl rfl ?_)
     refine oy hS y_pickT ?_
     refine oy hS y_move ?_
     iterate 7 (refine o_sk rfl rfl ?_)
     refine oy hS y_pickT ?_
     refine n_thenN ?_
     refine c_if_true (h := ?_)
     refine c_seq ?_
     refine c_region ?_
     refine oy hS y_assign ?_
     refine n_thenN ?_
     obtain rfl := Option.some.inj hF
     obtain rfl : _ = r := hK124
     exact wp_ret (wr1 hS)
   replace hF := bf c130 hF
   refine o_gu rfl rfl rfl ?_
   refine oy hS (y_field fa_api_State_4) ?_
   refine o_gu rfl rfl rfl ?_
   refine oy hS (y_load (fun w hS => hS.own (mC (mB (mB (mB (mB (mB (mB (mC (mB (mB (mB (mB (mB (mB (mH)))))))))))))))) Try.underlying23 rfl rfl) ?_
   refine o_gu rfl rfl rfl ?_
   refine oy hS (y_field fa_sledgelaw5_Script_1) ?_
   refine o_gu rfl rfl rfl ?_
   refine oy hS (y_field fa_api_State_4) ?_
   refine o_gu rfl rfl rfl ?_
   refine oy hS (y_load (fun w hS => hS.own (mC (mB (mB (mB (mB (mB (mB (mC (mB (mB (mB (mB (mB (mB (mC (mB (mB (mB (mB (mB (mB (mH))))))))))))))))))))))) Try.underlying23 rfl rfl) ?_
   refine o_gu rfl rfl rfl ?_
   obtain ⟨r131, hr131, hF⟩ := ob hF
   refine o_callS hS Try.func17 rfl rfl (hc := (w_r0_Begins (a0 := r13.1.Out) (a1 := a0.S.Out) (h0 := (OwT.plus hR0_4_34 hS (fun p hp => mC (mB (mB (mB (mB (mB (mB (mC (mB (mB (mB (mB (mB (mB (mC (mB (mB (mB (mA (hp)))))))))))))))))))))) (h1 := h0_5_.plus) (hF := hr131))) (h := ?_)
   clear hS; intro w hS
   refine o_gu rfl rfl rfl ?_
   refine oy hS y_not ?_
   refine oy hS y_pickF ?_
   refine o_split (ht := fun c132 => ?_) (hf := fun c132 => ?_)
   · replace hF := bt c132 hF
     iterate 6 (refine o_sk rfl rfl ?_)
     refine oy hS y_pickT ?_
     refine oy hS y_move ?_
     iterate 6 (refine o_sk rfl rfl ?_)
     refine oy hS y_pickT ?_
     refine oy hS y_move ?_
     iterate 5 (refine o_sk rfl rfl ?_)
     refine oy hS y_pickT ?_
     refine oy hS y_move ?_
     iterate 7 (refine o_sk rfl rfl ?_)
     refine oy hS y_pickT ?_
     refine n_thenN ?_
     refine c_if_true (h := ?_)
     refine c_seq ?_
     refine c_region ?_
     refine oy hS y_assign ?_
     refine n_thenN ?_
     obtain rfl := Option.some.inj hF
     obtain rfl : _ = r := hK124
     exact wp_ret (wr1 hS)
   replace hF := bf c132 hF
   refine o_gu rfl rfl rfl ?_
   refine oy hS (y_field fa_api_State_4) ?_
   refine o_gu rfl rfl rfl ?_
   refine oy hS (y_load (fun w hS => hS.own (mC (mB (mB (mB (mB (mB (mB (mH))))))))) Try.underlying23 rfl rfl) ?_
   refine o_gu rfl rfl rfl ?_
   refine oy hS (y_field fa_api_State_4) ?_
   refine o_gu rfl rfl rfl ?_
   refine oy hS (y_load (fun w hS => hS.own (mC (mB (mB (mB (mB (mB (mB (mC (mB (mB (mB (mB (mB (mB (mH)))))))))))))))) Try.underlying23 rfl rfl) ?_
   refine o_gu rfl rfl rfl ?_
   obtain ⟨r133, hr133, hF⟩ := ob hF
   refine o_callS hS Try.func17 rfl rfl (hc := (w_r0_Begins (a0 := r45.1.Out) (a1 := r13.1.Out) (h0 := (OwT.plus hR0_4_66 hS (fun p hp => mC (mB (mB (mB (mB (mB (mB (mC (mB (mB (mB (mA (hp))))))))))))))) (h1 := (OwT.plus hR0_4_34 hS (fun p hp => mC (mB (mB (mB (mB (mB (mB (mC (mB (mB (mB (mB (mB (mB (mC (mB (mB (mB (mA (hp)))))))))))))))))))))) (hF := hr133))) (h := ?_)
   clear hS; intro w hS
   refine o_gu rfl rfl rfl ?_
   refine oy hS y_not ?_
   refine oy hS y_pickF ?_
   refine o_split (ht := fun c134 => ?_) (hf := fun c134 => ?_)
   · replace hF := bt c134 hF
     iterate 6 (refine o_sk rfl rfl ?_)
     refine oy hS y_pickT ?_
     refine oy hS y_move ?_
     iterate 5 (refine o_sk rfl rfl ?_)
     refine oy hS y_pickT ?_
     refine oy hS y_move ?_
     iterate 7 (refine o_sk rfl rfl ?_)
     refine oy hS y_pickT ?_
     refine n_thenN ?_
     refine c_if_true (h := ?_)
     refine c_seq ?_
     refine c_region ?_
     refine oy hS y_assign ?_
     refine n_thenN ?_
     obtain rfl := Option.some.inj hF
     obtain rfl : _ = r := hK124
     exact wp_ret (wr1 hS)
   replace hF := bf c134 hF
   refine o_gu rfl rfl rfl ?_
   refine oy hS (y_field fa_api_State_3) ?_
   refine o_gu rfl rfl rfl ?_
   refine oy hS (y_load (fun w hS => hS.own (mC (mB (mB (mB (mB (mB (mB (mC (mB (mB (mB (mB (mB (mB (mH)))))))))))))))) Try.underlying3 rfl rfl) ?_
   refine o_gu rfl rfl rfl ?_
   refine oy hS (y_field fa_sledgelaw5_Script_1) ?_
   refine o_gu rfl rfl rfl ?_
   refine oy hS (y_field fa_api_State_3) ?_
   refine o_gu rfl rfl rfl ?_
   refine oy hS (y_load (fun w hS => hS.own (mC (mB (mB (mB (mB (mB (mB (mC (mB (mB (mB (mB (mB (mB (mC (mB (mB (mB (mB (mB (mB (mH))))))))))))))))))))))) Try.underlying3 rfl rfl) ?_
   refine o_gu rfl rfl rfl ?_
   refine oy hS y_bin ?_
   refine oy hS y_pickF ?_
   refine o_split (ht := fun c135 => ?_) (hf := fun c135 => ?_)
   · replace hF := bt c135 hF
     iterate 5 (refine o_sk rfl rfl ?_)
     refine oy hS y_pickT ?_
     refine oy hS y_move ?_
     iterate 7 (refine o_sk rfl rfl ?_)
     refine oy hS y_pickT ?_
     refine n_thenN ?_
     refine c_if_true (h := ?_)
     refine c_seq ?_
     refine c_region ?_
     refine oy hS y_assign ?_
     refine n_thenN ?_
     obtain rfl := Option.some.inj hF
     obtain rfl : _ = r := hK124
     exact wp_ret (wr1 hS)
   replace hF := bf c135 hF
   refine o_gu rfl rfl rfl ?_
   refine oy hS (y_field fa_api_State_3) ?_
   refine o_gu rfl rfl rfl ?_
   refine oy hS (y_load (fun w hS => hS.own (mC (mB (mB (mB (mB (mB (mB (mH))))))))) Try.underlying3 rfl rfl) ?_
   refine o_gu rfl rfl rfl ?_
   refine oy hS (y_field fa_api_State_3) ?_
   refine o_gu rfl rfl rfl ?_
   refine oy hS (y_load (fun w hS => hS.own (mC (mB (mB (mB (mB (mB (mB (mC (mB (mB (mB (mB (mB (mB (mH)))))))))))))))) Try.underlying3 rfl rfl) ?_
   refine o_gu rfl rfl rfl ?_
   refine oy hS y_bin ?_
   refine oy hS y_pickF ?_
   refine o_split (ht := fun c136 => ?_) (hf := fun c136 => ?_)
   · replace hF := bt c136 hF
     iterate 7 (refine o_sk rfl rfl ?_)
     refine oy hS y_pickT ?_
     refine n_thenN ?_
     refine c_if_true (h := ?_)
     refine c_seq ?_
     refine c_region ?_
     refine oy hS y_assign ?_
     refine n_thenN ?_
     obtain rfl := Option.some.inj hF
     obtain rfl : _ = r := hK124
     exact wp_ret (wr1 hS)
   replace hF := bf c136 hF
   refine o_gu rfl rfl rfl ?_
   refine oy hS (y_field fa_api_State_2) ?_
   refine o_gu rfl rfl rfl ?_
   refine oy hS (y_load (fun w hS => hS.own (mH)) Try.underlying23 rfl rfl) ?_
   refine o_gu rfl rfl rfl ?_
   refine oy hS (y_field fa_sledgelaw5_Script_1) ?_
   refine o_gu rfl rfl rfl ?_
   refine oy hS (y_field fa_api_State_2) ?_
   refine o_gu rfl rfl rfl ?_
   refine oy hS (y_load (fun w hS => hS.own (mC (mB (mB (mB (mB (mB (mB (mC (mB (mB (mB (mB (mB (mB (mC (mB (mB (mB (mB (mB (mB (mH))))))))))))))))))))))) Try.underlying23 rfl rfl) ?_
   refine o_gu rfl rfl rfl ?_
   obtain ⟨r137, hr137, hF⟩ := ob hF
   refine o_callS hS Try.func18 rfl rfl (hc := (w_r0_EqWords (a0 := r77.1.In_) (a1 := a0.S.In_) (h0 := (OwT.plus hR0_2_94 hS (fun p hp => mC (mB (mB (mA (hp))))))) (h1 := h0_3_.plus) (hF := hr137))) (h := ?_)
   clear hS; intro w hS
   refine o_gu rfl rfl rfl ?_
   refine oy hS y_not ?_
   refine oy hS y_pickF ?_
   refine n_thenN ?_
   refine c_if (ht := fun c138 => ?_) (hf := fun c138 => ?_)
   · replace hF := bt c138 hF
     refine c_seq ?_
     refine c_region ?_
     refine oy hS y_assign ?_
     refine n_thenN ?_
     obtain rfl := Option.some.inj hF
     obtain rfl : _ = r := hK124
     exact wp_ret (wr1 hS)
   replace hF := bf c138 hF
   refine wp_skip ?_
   obtain rfl := Option.some.inj hF
   change _ ∧ _
   exact ⟨hK124, mk_ex, (hS.re (.takeb (.thereb _ (.there _ (.there _ (.there _ (.there _ (.there _ (.there _ (.thereb _ (.there _ (.there _ (.there _ (.there _ (.there _ (.there _ (.thereb _ (.there _ (.there _ (.there _ (.there _ (.there _ (.there _ (.hereb _ _)))))))))))))))))))))) (.takeb (.hereb _ _) (.take (.here _ _) (.take (.here _ _) (.take (.here _ _) (.take (.here _ _) (.take (.here _ _) (.take (.here _ _) (.nil _))))))))))⟩
 rintro a w ⟨hF, ⟨s139, rfl⟩, hS⟩
 dsimp only [l5_SeqGoes_k2] at hF
 iterate 2 (refine c_seq ?_)
 refine c_region ?_
 refine oy hS (y_field fa_api_State_7) ?_
 refine oy hS (y_load (fun w hS => hS.own (mC (mH))) Try.underlying3 rfl rfl) ?_
 refine oy hS y_bin ?_
 refine n_thenN ?_
 refine c_if (ht := fun c140 => ?_) (hf := fun c140 => ?_)
 · replace hF := bt c140 hF
   refine c_seq ?_
   refine c_region ?_
   refine oy hS (y_field fa_sledgelaw5_Script_0) ?_
   refine oy hS (y_load (fun w hS => hS.own (mH)) Try.underlying22 rfl rfl) ?_
   refine oy hS (y_loadW (fun w hS => hS.own (mC (mH))) Try.underlying27 rfl (by exact sz_api_State)) ?_
   obtain ⟨r141, hr141, hF⟩ := ob hF
   refine o_call (L1 := []) (L2 := ((b1, blk [v0_0_, v0_1_, v0_2_, v0_3_, .int .i64 a0.S.Taken, v0_5_, .int .i64 a0.S.PC, v0_7_, .int .i64 a0.S.Stop, v0_9_, .int .i64 a0.S.Jump, .int .i64 a0.S.Delay, v0_12_, v0_13_] 29) :: ((b108, blk [vR0_0_84, vR0_1_88, vR0_2_92, .int .i64 r77.1.Taken, vR0_4_96, .int .i64 r77.1.PC, vR0_6_100, .int .i64 r77.1.Stop, vR0_8_104, .int .i64 r77.1.Jump, .int .i64 r77.1.Delay] 27) :: (LXR0_0_85 ++ (LXR0_1_89 ++ (LXR0_2_93 ++ (LXR0_4_97 ++ (LXR0_6_101 ++ (LXR0_8_105 ++ []))))))))) hS Try.func19 rfl rfl (hc := (w_seq_Step (a0 := a0.P) (a1 := r77.1) (h0 := h0_0_.plus) (h1 := ⟨_, _, _, _, _, _, rfl, (OwT.plus hR0_0_86 hS (fun p hp => mC (mC (mA (hp))))), (OwT.plus hR0_1_90 hS (fun p hp => mC (mC (mB (mA (hp)))))), (OwT.plus hR0_2_94 hS (fun p hp => mC (mC (mB (mB (mA (hp))))))), (OwT.plus hR0_4_98 hS (fun p hp => mC (mC (mB (mB (mB (mA (hp)))))))), (OwT.plus hR0_6_102 hS (fun p hp => mC (mC (mB (mB (mB (mB (mA (hp))))))))), (OwT.plus hR0_8_106 hS (fun p hp => mC (mC (mB (mB (mB (mB (mB (mA (hp))))))))))⟩) (hF := hr141))) (h := ?_)
   clear hS; intro v142 LY143 w hS hr144
   obtain ⟨v_0_145, LX_0_146, rfl, rfl, h_0_147⟩ := hr144
   obtain ⟨vR0_0_148, vR0_1_152, vR0_2_156, vR0_4_160, vR0_6_164, vR0_8_168, LXR0_0_149, LXR0_1_153, LXR0_2_157, LXR0_4_161, LXR0_6_165, LXR0_8_169, rfl, rfl, hR0_0_150, hR0_1_154, hR0_2_158, hR0_4_162, hR0_6_166, hR0_8_170⟩ := h_0_147
   simp only [List.append_assoc, List.cons_append, List.nil_append] at hS
   refine oy hS y_move ?_
   iterate 2 (refine oy hS (y_extract rfl) ?_)
   refine o_allocP (cl := [(.slice none 0 0), (.slice none 0 0), (.slice none 0 0), .int .i64 0, (.slice none 0 0), .int .i64 0, (.slice none 0 0), .int .i64 0, (.slice none 0 0), .int .i64 0, .int .i64 0]) zr_api_State rfl hS ?_
   clear hS; intro b172 w hS
   refine o_storeP (vs := [vR0_0_148, vR0_1_152, vR0_2_156, .int .i64 r141.1.Taken, vR0_4_160, .int .i64 r141.1.PC, vR0_6_164, .int .i64 r141.1.Stop, vR0_8_168, .int .i64 r141.1.Jump, .int .i64 r141.1.Delay]) hS (hm := Upd.here _) (hi := by exact sz_api_State) (h1 := (onC (hR0_0_150).one (onC (hR0_1_154).one (onC (hR0_2_158).one (onC rfl (onC (hR0_4_162).one (onC rfl (onC (hR0_6_166).one (onC rfl (onC (hR0_8_170).one (onC rfl (onC rfl onN)))))))))))) ?_
   clear hS; intro w hS
   refine oy hS y_assign ?_
   refine n_thenN ?_
   refine c_seq ?_
   refine c_region ?_
   refine oy hS y_move ?_
   refine o_callS hS Try.func15 rfl rfl (hc := (w_l5_num (a0 := r141.2))) (h := ?_)
   clear hS; intro w hS
   refine oy hS y_bin ?_
   refine o_split (ht := fun c173 => ?_) (hf := fun c173 => ?_)
   · replace hF := bt c173 hF
     iterate 4 (refine o_sk rfl rfl ?_)
     refine oy hS y_pickT ?_
     refine n_thenN ?_
     refine c_if_true (h := ?_)
     refine c_seq ?_
     refine c_region ?_
     refine oy hS y_assign ?_
     refine n_thenN ?_
     obtain rfl := Option.some.inj hF
     exact wp_ret (wr1 hS)
   replace hF := bf c173 hF
   refine o_gu rfl rfl rfl ?_
   refine oy hS (y_loadW (fun w hS => hS.own (mC (mB (mB (mB (mB (mB (mB (mC (mH)))))))))) Try.underlying27 rfl (by exact sz_api_State)) ?_
   refine o_gu rfl rfl rfl ?_
   refine oy hS (y_loadW (fun w hS => hS.own (mH)) Try.underlying27 rfl (by exact sz_api_State)) ?_
   refine o_gu rfl rfl rfl ?_
   obtain ⟨r174, hr174, hF⟩ := ob hF
   refine o_callS hS Try.func16 rfl rfl (hc := (w_r0_EqState (a0 := r77.1) (a1 := r141.1) (h0 := ⟨_, _, _, _, _, _, rfl, (OwT.plus hR0_0_86 hS (fun p hp => mC (mB (mB (mB (mB (mB (mB (mC (mC (mA (hp)))))))))))), (OwT.plus hR0_1_90 hS (fun p hp => mC (mB (mB (mB (mB (mB (mB (mC (mC (mB (mA (hp))))))))))))), (OwT.plus hR0_2_94 hS (fun p hp => mC (mB (mB (mB (mB (mB (mB (mC (mC (mB (mB (mA (hp)))))))))))))), (OwT.plus hR0_4_98 hS (fun p hp => mC (mB (mB (mB (mB (mB (mB (mC (mC (mB (mB (mB (mA (hp))))))))))))))), (OwT.plus hR0_6_102 hS (fun p hp => mC (mB (mB (mB (mB (mB (mB (mC (mC (mB (mB (mB (mB (mA (hp)))))))))))))))), (OwT.plus hR0_8_106 hS (fun p hp => mC (mB (mB (mB (mB (mB (mB (mC (mC (mB (mB (mB (mB (mB (mA (hp)))))))))))))))))⟩) (h1 := ⟨_, _, _, _, _, _, rfl, (OwT.plus hR0_0_150 hS (fun p hp => mC (mA (hp)))), (OwT.plus hR0_1_154 hS (fun p hp => mC (mB (mA (hp))))), (OwT.plus hR0_2_158 hS (fun p hp => mC (mB (mB (mA (hp)))))), (OwT.plus hR0_4_162 hS (fun p hp => mC (mB (mB (mB (mA (hp))))))), (OwT.plus hR0_6_166 hS (fun p hp => mC (mB (mB (mB (mB (mA (hp)))))))), (OwT.plus hR0_8_170 hS (fun p hp => mC (mB (mB (mB (mB (mB (mA (hp)))))))))⟩) (hF := hr174))) (h := ?_)
   clear hS; intro w hS
   refine o_gu rfl rfl rfl ?_
   refine oy hS y_not ?_
   refine oy hS y_pickF ?_
   refine n_thenN ?_
   refine c_if (ht := fun c175 => ?_) (hf := fun c175 => ?_)
   · replace hF := bt c175 hF
     refine c_seq ?_
     refine c_region ?_
     refine oy hS y_assign ?_
     refine n_thenN ?_
     obtain rfl := Option.some.inj hF
     exact wp_ret (wr1 hS)
   replace hF := bf c175 hF
   refine wp_skip ?_
   refine c_seq ?_
   refine c_region ?_
   obtain ⟨r176, hr176, hF⟩ := ob hF
   refine o_callS hS Try.func20 rfl rfl (hc := (w_l5_wakes  (hF := hr176))) (h := ?_)
   clear hS; intro w hS
   refine oy hS y_assign ?_
   refine n_thenN ?_
   obtain rfl := Option.some.inj hF
   exact wp_ret (wr1 hS)
 replace hF := bf c140 hF
 refine c_seq ?_
 refine c_region ?_
 refine oy hS y_move ?_
 refine oy hS y_bin ?_
 refine n_thenN ?_
 refine c_if (ht := fun c177 => ?_) (hf := fun c177 => ?_)
 · replace hF := bt c177 hF
   refine c_seq ?_
   refine c_region ?_
   refine oy hS y_assign ?_
   refine n_thenN ?_
   obtain rfl := Option.some.inj hF
   exact wp_ret (wr1 hS)
 replace hF := bf c177 hF
 refine wp_skip ?_
 refine c_seq ?_
 refine c_region ?_
 obtain ⟨r178, hr178, hF⟩ := ob hF
 refine o_callS hS Try.func20 rfl rfl (hc := (w_l5_wakes  (hF := hr178))) (h := ?_)
 clear hS; intro w hS
 refine oy hS y_assign ?_
 refine n_thenN ?_
 obtain rfl := Option.some.inj hF
 exact wp_ret (wr1 hS)
theorem w_l5_SeqGoes {g : Frag} {a0 : T_Script} {v0_ : Value} {r : Bool} (h0 : Rd_Script g a0 v0_) (hF : l5_SeqGoes a0 = some r) : LCs Try.prog 3 #[v0_] g (.bool r) := w_l5_SeqGoes_ h0 hF
end Go.Proofs.Ytadajdcbeegabaa
