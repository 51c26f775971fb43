/- Functions, lifted. Printed by lift.py. -/
import Derived.Test.YtadajdcbeegabaaProg
import Derived.Test.YtadajdcbeegabaaP4
import Derived.KernelRfl
namespace Go.Proofs.Ytadajdcbeegabaa
open Go Go.RowKit Fr
set_option linter.unusedVariables false
set_option linter.unusedSimpArgs false
set_option maxRecDepth 20000
noncomputable def seq_Run_b2 (a2 : Int) (a0 : (List T_Ins)) : (Int × (List Int) × (List Int) × (List Int) × Int × (List Int) × Int × (List Int) × Int × (List T_Write) × Int × Int) → Option (Step (Int × (List Int) × (List Int) × (List Int) × Int × (List Int) × Int × (List Int) × Int × (List T_Write) × Int × Int) (T_State × Int × Int)) := fun (x87, x88, x93, x98, x103, x104, x109, x110, x115, x116, x121, x122) => bif decide (x87 < a2) then bif decide (x115 = 0) then (seq_step a0 (⟨x88, x93, x98, x103, x104, x109, x110, x115, x116, x121, x122⟩ : T_State)).bind fun r161 => some (.next (IntKind.i64.wrap (x87 + 1), r161.Regs, r161.Mem, r161.In_, r161.Taken, r161.Out, r161.PC, r161.Stack, r161.Stop, r161.Fly, r161.Jump, r161.Delay)) else some (.done (((⟨x88, x93, x98, x103, x104, x109, x110, x115, x116, x121, x122⟩ : T_State), x87, 0))) else some (.done (((⟨x88, x93, x98, x103, x104, x109, x110, x115, x116, x121, x122⟩ : T_State), x87, 0)))
noncomputable def seq_Run_k1 (a1 : T_State) (a2 : Int) (a0 : (List T_Ins)) : Unit → Option (T_State × Int × Int) := fun _ => (seq_Own a1).bind fun r24 => loop (σ := (Int × (List Int) × (List Int) × (List Int) × Int × (List Int) × Int × (List Int) × Int × (List T_Write) × Int × Int)) (seq_Run_b2 a2 a0) (0, r24.Regs, r24.Mem, r24.In_, r24.Taken, r24.Out, r24.PC, r24.Stack, r24.Stop, r24.Fly, r24.Jump, r24.Delay)
noncomputable def seq_Run (a0 : (List T_Ins)) (a1 : T_State) (a2 : Int) : Option (T_State × Int × Int) :=
  cut (σ := Unit) ((seq_Program a0).bind fun r14 => bif !r14 then some (.done (((⟨[], [], [], 0, [], 0, [], 0, [], 0, 0⟩ : T_State), 0, 1))) else (seq_May a1).bind fun r16 => bif !r16 then some (.done (((⟨[], [], [], 0, [], 0, [], 0, [], 0, 0⟩ : T_State), 0, 1))) else (seq_upto 20000 ([a2] : List Int)).bind fun r21 => bif !r21 then some (.done (((⟨[], [], [], 0, [], 0, [], 0, [], 0, 0⟩ : T_State), 0, 1))) else some (.next ())) (seq_Run_k1 a1 a2 a0)
set_option maxHeartbeats 8000000 in
theorem w_seq_Run_ {g : Frag} {a0 : (List T_Ins)} {v0_ : Value} {a1 : T_State} {v1_ : Value} {a2 : Int} {r : (T_State × Int × Int)} (h0 : SlT g enc_Ins 6 a0 v0_) (h1 : Rd_State g a1 v1_) (hF : seq_Run a0 a1 a2 = some r) : LC Try.prog 14 #[v0_, v1_, .int .i64 a2] g [] (fun v L => ∃ (u0 : Value) (M0 : Own), v = .tuple #[u0, .int .i64 r.2.1, .int .i64 r.2.2] ∧ L = (M0 ++ []) ∧ Ow_State r.1 u0 M0) := by
 obtain ⟨v1_0_, v1_1_, v1_2_, v1_4_, v1_6_, v1_8_, rfl, h1_0_, h1_1_, h1_2_, h1_4_, h1_6_, h1_8_⟩ := h1
 unfold seq_Run at hF
 refine lc_body (k := 40) (av := [v0_, .agg #[v1_0_, v1_1_, v1_2_, .int .i64 a1.Taken, v1_4_, .int .i64 a1.PC, v1_6_, .int .i64 a1.Stop, v1_8_, .int .i64 a1.Jump, .int .i64 a1.Delay], .int .i64 a2]) Try.func14 rfl rfl (h := fun W hS => ?_)
 refine c_seq ?_
 refine c_region ?_
 refine o_boxP (cl := [v1_0_, v1_1_, v1_2_, .int .i64 a1.Taken, v1_4_, .int .i64 a1.PC, v1_6_, .int .i64 a1.Stop, v1_8_, .int .i64 a1.Jump, .int .i64 a1.Delay]) rfl hS ?_
 clear hS; intro b1 w hS
 refine o_allocP (cl := [(.slice none 0 0), (.slice none 0 0), (.slice none 0 0), .int .i64 0, (.slice none 0 0), .int .i64 0, (.slice none 0 0), .int .i64 0, (.slice none 0 0), .int .i64 0, .int .i64 0]) zr_api_State rfl hS ?_
 clear hS; intro b2 w hS
 iterate 2 (refine oy hS y_assign ?_)
 refine n_thenN ?_
 obtain ⟨z12, hF, hK13⟩ := cut_step hF
 refine c_cutP (fun a w' => seq_Run_k1 a1 a2 a0 () = some r ∧ (∃ s : Nat → Value, a = Ac (.lit 40 [v0_, s 1, .int .i64 a2, s 3, .pointer (some ⟨b1, 0, none⟩), s 5, .pointer (some ⟨b2, 0, none⟩), .int .i64 0, s 8, s 9, s 10, s 11, s 12, s 13, s 14, s 15, s 16, s 17, s 18, s 19, s 20, s 21, s 22, s 23, s 24, s 25, s 26, s 27, s 28, s 29, s 30, s 31, s 32, s 33, s 34, s 35, s 36, s 37, s 38, s 39])) ∧ St W g [] ((b1, blk [v1_0_, v1_1_, v1_2_, .int .i64 a1.Taken, v1_4_, .int .i64 a1.PC, v1_6_, .int .i64 a1.Stop, v1_8_, .int .i64 a1.Jump, .int .i64 a1.Delay] 27) :: ((b2, blk [(.slice none 0 0), (.slice none 0 0), (.slice none 0 0), .int .i64 0, (.slice none 0 0), .int .i64 0, (.slice none 0 0), .int .i64 0, (.slice none 0 0), .int .i64 0, .int .i64 0] 27) :: [])) w') ?_ ?_
 · skip
   refine c_seq ?_
   refine c_region ?_
   refine oy hS y_move ?_
   obtain ⟨r14, hr14, hF⟩ := ob hF
   refine o_callS hS Try.func36 rfl rfl (hc := (w_seq_Program (a0 := a0) (h0 := h0.plus) (hF := hr14))) (h := ?_)
   clear hS; intro w hS
   refine oy hS y_not ?_
   refine o_split (ht := fun c15 => ?_) (hf := fun c15 => ?_)
   · replace hF := bt c15 hF
     iterate 3 (refine o_sk rfl rfl ?_)
     refine oy hS y_pickT ?_
     refine oy hS y_move ?_
     iterate 4 (refine o_sk rfl rfl ?_)
     refine oy hS y_pickT ?_
     refine n_thenN ?_
     refine c_if_true (h := ?_)
     refine c_seq ?_
     refine c_region ?_
     refine oy hS (y_loadW (fun w hS => hS.own (mH)) Try.underlying27 rfl (by exact sz_api_State)) ?_
     refine o_storeP (vs := [(.slice none 0 0), (.slice none 0 0), (.slice none 0 0), .int .i64 0, (.slice none 0 0), .int .i64 0, (.slice none 0 0), .int .i64 0, (.slice none 0 0), .int .i64 0, .int .i64 0]) hS (hm := Upd.here _) (hi := by exact sz_api_State) (h1 := (onC rfl (onC rfl (onC rfl (onC rfl (onC rfl (onC rfl (onC rfl (onC rfl (onC rfl (onC rfl (onC rfl onN)))))))))))) ?_
     clear hS; intro w hS
     iterate 2 (refine oy hS y_assign ?_)
     refine n_thenN ?_
     obtain rfl := Option.some.inj hF
     obtain rfl : _ = r := hK13
     refine wp_ret (r_ret (vs := [.agg #[(.slice none 0 0), (.slice none 0 0), (.slice none 0 0), .int .i64 0, (.slice none 0 0), .int .i64 0, (.slice none 0 0), .int .i64 0, (.slice none 0 0), .int .i64 0, .int .i64 0], .int .i64 0, .int .i64 1]) (L' := []) (hS.re (.nil _)) (show resAll _ _ _ [.cell 6 27, .tmp 7, .tmp 8] _ from ⟨(res_cell (hS.own (mH)) Try.underlying27 rfl (by exact sz_api_State)), res_tmp, res_tmp, trivial⟩) rfl ⟨_, _, rfl, (by first | rfl | simp only [List.append_assoc, List.cons_append, List.nil_append, List.append_nil]), ⟨_, _, _, _, _, _, _, _, _, _, _, _, rfl, rfl, OwT.nil _ _ _, OwT.nil _ _ _, OwT.nil _ _ _, OwT.nil _ _ _, OwT.nil _ _ _, OwT.nil _ _ _⟩⟩)
   replace hF := bf c15 hF
   refine o_gu rfl rfl rfl ?_
   refine oy hS (y_loadW (fun w hS => hS.own (mC (mH))) Try.underlying27 rfl (by exact sz_api_State)) ?_
   refine o_gu rfl rfl rfl ?_
   obtain ⟨r16, hr16, hF⟩ := ob hF
   refine o_callS hS Try.func37 rfl rfl (hc := (w_seq_May (a0 := a1) (h0 := ⟨_, _, _, _, _, _, rfl, h1_0_.plus, h1_1_.plus, h1_2_.plus, h1_4_.plus, h1_6_.plus, h1_8_.plus⟩) (hF := hr16))) (h := ?_)
   clear hS; intro w hS
   refine o_gu rfl rfl rfl ?_
   refine oy hS y_not ?_
   refine oy hS y_pickF ?_
   refine o_split (ht := fun c17 => ?_) (hf := fun c17 => ?_)
   · replace hF := bt c17 hF
     iterate 4 (refine o_sk rfl rfl ?_)
     refine oy hS y_pickT ?_
     refine n_thenN ?_
     refine c_if_true (h := ?_)
     refine c_seq ?_
     refine c_region ?_
     refine oy hS (y_loadW (fun w hS => hS.own (mH)) Try.underlying27 rfl (by exact sz_api_State)) ?_
     refine o_storeP (vs := [(.slice none 0 0), (.slice none 0 0), (.slice none 0 0), .int .i64 0, (.slice none 0 0), .int .i64 0, (.slice none 0 0), .int .i64 0, (.slice none 0 0), .int .i64 0, .int .i64 0]) hS (hm := Upd.here _) (hi := by exact sz_api_State) (h1 := (onC rfl (onC rfl (onC rfl (onC rfl (onC rfl (onC rfl (onC rfl (onC rfl (onC rfl (onC rfl (onC rfl onN)))))))))))) ?_
     clear hS; intro w hS
     iterate 2 (refine oy hS y_assign ?_)
     refine n_thenN ?_
     obtain rfl := Option.some.inj hF
     obtain rfl : _ = r := hK13
     refine wp_ret (r_ret (vs := [.agg #[(.slice none 0 0), (.slice none 0 0), (.slice none 0 0), .int .i64 0, (.slice none 0 0), .int .i64 0, (.slice none 0 0), .int .i64 0, (.slice none 0 0), .int .i64 0, .int .i64 0], .int .i64 0, .int .i64 1]) (L' := []) (hS.re (.nil _)) (show resAll _ _ _ [.cell 6 27, .tmp 7, .tmp 8] _ from ⟨(res_cell (hS.own (mH)) Try.underlying27 rfl (by exact sz_api_State)), res_tmp, res_tmp, trivial⟩) rfl ⟨_, _, rfl, (by first | rfl | simp only [List.append_assoc, List.cons_append, List.nil_append, List.append_nil]), ⟨_, _, _, _, _, _, _, _, _, _, _, _, rfl, rfl, OwT.nil _ _ _, OwT.nil _ _ _, OwT.nil _ _ _, OwT.nil _ _ _, OwT.nil _ _ _, OwT.nil _ _ _⟩⟩)
   replace hF := bf c17 hF
   refine o_gu rfl rfl rfl ?_
   refine oy hS y_move ?_
   refine o_gu rfl rfl rfl ?_
   refine o_buildT val_int ([a2] : List Int) hS el_int (fun _ => rfl) enc_len_int (by decide) rfl (by decide) (hp := rfl) (h := ?_)
   clear hS; intro b18 w hS h19
   have hS : St W g [] ([(b18, blk (([a2] : List Int).flatMap enc_int) 3)] ++ ((b2, blk [(.slice none 0 0), (.slice none 0 0), (.slice none 0 0), .int .i64 0, (.slice none 0 0), .int .i64 0, (.slice none 0 0), .int .i64 0, (.slice none 0 0), .int .i64 0, .int .i64 0] 27) :: ((b1, blk [v1_0_, v1_1_, v1_2_, .int .i64 a1.Taken, v1_4_, .int .i64 a1.PC, v1_6_, .int .i64 a1.Stop, v1_8_, .int .i64 a1.Jump, .int .i64 a1.Delay] 27) :: []))) w := hS
   refine o_gu rfl rfl rfl ?_
   obtain ⟨r21, hr21, hF⟩ := ob hF
   refine o_callS hS Try.func38 rfl rfl (hc := (w_seq_upto (a0 := 20000) (a1 := ([a2] : List Int)) (h1 := (OwT.plus h19 hS (fun p hp => mA (hp)))) (hF := hr21))) (h := ?_)
   clear hS; intro w hS
   refine o_gu rfl rfl rfl ?_
   refine oy hS y_not ?_
   refine oy hS y_pickF ?_
   refine n_thenN ?_
   refine c_if (ht := fun c22 => ?_) (hf := fun c22 => ?_)
   · replace hF := bt c22 hF
     refine c_seq ?_
     refine c_region ?_
     refine oy hS (y_loadW (fun w hS => hS.own (mB (mH))) Try.underlying27 rfl (by exact sz_api_State)) ?_
     have hS : St W g [] ((b2, blk [(.slice none 0 0), (.slice none 0 0), (.slice none 0 0), .int .i64 0, (.slice none 0 0), .int .i64 0, (.slice none 0 0), .int .i64 0, (.slice none 0 0), .int .i64 0, .int .i64 0] 27) :: ([(b18, blk (([a2] : List Int).flatMap enc_int) 3)] ++ ((b1, blk [v1_0_, v1_1_, v1_2_, .int .i64 a1.Taken, v1_4_, .int .i64 a1.PC, v1_6_, .int .i64 a1.Stop, v1_8_, .int .i64 a1.Jump, .int .i64 a1.Delay] 27) :: []))) w := hS.re (.takeb (.there _ (.hereb _ _)) (.take (.here _ _) (.takeb (.hereb _ _) (.nil _))))
     refine o_storeP (vs := [(.slice none 0 0), (.slice none 0 0), (.slice none 0 0), .int .i64 0, (.slice none 0 0), .int .i64 0, (.slice none 0 0), .int .i64 0, (.slice none 0 0), .int .i64 0, .int .i64 0]) hS (hm := Upd.here _) (hi := by exact sz_api_State) (h1 := (onC rfl (onC rfl (onC rfl (onC rfl (onC rfl (onC rfl (onC rfl (onC rfl (onC rfl (onC rfl (onC rfl onN)))))))))))) ?_
     clear hS; intro w hS
     iterate 2 (refine oy hS y_assign ?_)
     refine n_thenN ?_
     obtain rfl := Option.some.inj hF
     obtain rfl : _ = r := hK13
     refine wp_ret (r_ret (vs := [.agg #[(.slice none 0 0), (.slice none 0 0), (.slice none 0 0), .int .i64 0, (.slice none 0 0), .int .i64 0, (.slice none 0 0), .int .i64 0, (.slice none 0 0), .int .i64 0, .int .i64 0], .int .i64 0, .int .i64 1]) (L' := []) (hS.re (.nil _)) (show resAll _ _ _ [.cell 6 27, .tmp 7, .tmp 8] _ from ⟨(res_cell (hS.own (mH)) Try.underlying27 rfl (by exact sz_api_State)), res_tmp, res_tmp, trivial⟩) rfl ⟨_, _, rfl, (by first | rfl | simp only [List.append_assoc, List.cons_append, List.nil_append, List.append_nil]), ⟨_, _, _, _, _, _, _, _, _, _, _, _, rfl, rfl, OwT.nil _ _ _, OwT.nil _ _ _, OwT.nil _ _ _, OwT.nil _ _ _, OwT.nil _ _ _, OwT.nil _ _ _⟩⟩)
   replace hF := bf c22 hF
   refine wp_skip ?_
   obtain rfl := Option.some.inj hF
   change _ ∧ _
   exact ⟨hK13, mk_ex, (hS.re (.takeb (.there _ (.thereb _ (.hereb _ _))) (.takeb (.there _ (.hereb _ _)) (.nil _))))⟩
 rintro a w ⟨hF, ⟨s23, rfl⟩, hS⟩
 dsimp only [seq_Run_k1] at hF
 refine c_seq ?_
 refine c_region ?_
 refine oy hS (y_loadW (fun w hS => hS.own (mH)) Try.underlying27 rfl (by exact sz_api_State)) ?_
 obtain ⟨r24, hr24, hF⟩ := ob hF
 refine o_call (L1 := []) (L2 := ((b1, blk [v1_0_, v1_1_, v1_2_, .int .i64 a1.Taken, v1_4_, .int .i64 a1.PC, v1_6_, .int .i64 a1.Stop, v1_8_, .int .i64 a1.Jump, .int .i64 a1.Delay] 27) :: ((b2, blk [(.slice none 0 0), (.slice none 0 0), (.slice none 0 0), .int .i64 0, (.slice none 0 0), .int .i64 0, (.slice none 0 0), .int .i64 0, (.slice none 0 0), .int .i64 0, .int .i64 0] 27) :: []))) hS Try.func39 rfl rfl (hc := (w_seq_Own (a0 := a1) (h0 := ⟨_, _, _, _, _, _, rfl, h1_0_.plus, h1_1_.plus, h1_2_.plus, h1_4_.plus, h1_6_.plus, h1_8_.plus⟩) (hF := hr24))) (h := ?_)
 clear hS; intro v25 LY26 w hS hr27
 obtain ⟨v_0_28, LX_0_29, rfl, rfl, h_0_30⟩ := hr27
 obtain ⟨vR0_0_31, vR0_1_35, vR0_2_39, vR0_4_43, vR0_6_47, vR0_8_51, LXR0_0_32, LXR0_1_36, LXR0_2_40, LXR0_4_44, LXR0_6_48, LXR0_8_52, rfl, rfl, hR0_0_33, hR0_1_37, hR0_2_41, hR0_4_45, hR0_6_49, hR0_8_53⟩ := h_0_30
 simp only [List.append_assoc, List.cons_append, List.nil_append] at hS
 have hS : St W g [] ((b2, blk [(.slice none 0 0), (.slice none 0 0), (.slice none 0 0), .int .i64 0, (.slice none 0 0), .int .i64 0, (.slice none 0 0), .int .i64 0, (.slice none 0 0), .int .i64 0, .int .i64 0] 27) :: (LXR0_0_32 ++ (LXR0_1_36 ++ (LXR0_2_40 ++ (LXR0_4_44 ++ (LXR0_6_48 ++ (LXR0_8_52 ++ ((b1, blk [v1_0_, v1_1_, v1_2_, .int .i64 a1.Taken, v1_4_, .int .i64 a1.PC, v1_6_, .int .i64 a1.Stop, v1_8_, .int .i64 a1.Jump, .int .i64 a1.Delay] 27) :: [])))))))) w := hS.re (.takeb (.there _ (.there _ (.there _ (.there _ (.there _ (.there _ (.thereb _ (.hereb _ _)))))))) (.take (.here _ _) (.take (.here _ _) (.take (.here _ _) (.take (.here _ _) (.take (.here _ _) (.take (.here _ _) (.takeb (.hereb _ _) (.nil _)))))))))
 refine o_storeP (vs := [vR0_0_31, vR0_1_35, vR0_2_39, .int .i64 r24.Taken, vR0_4_43, .int .i64 r24.PC, vR0_6_47, .int .i64 r24.Stop, vR0_8_51, .int .i64 r24.Jump, .int .i64 r24.Delay]) hS (hm := Upd.here _) (hi := by exact sz_api_State) (h1 := (onC (hR0_0_33).one (onC (hR0_1_37).one (onC (hR0_2_41).one (onC rfl (onC (hR0_4_45).one (onC rfl (onC (hR0_6_49).one (onC rfl (onC (hR0_8_53).one (onC rfl (onC rfl onN)))))))))))) ?_
 clear hS; intro w hS
 refine n_thenN ?_
 refine c_seq ?_
 refine c_block ?_
 refine c_loopP hF (fun (q : (Int × (List Int) × (List Int) × (List Int) × Int × (List Int) × Int × (List Int) × Int × (List T_Write) × Int × Int)) a w' => ∃ (v89 : Value) (v94 : Value) (v99 : Value) (v105 : Value) (v111 : Value) (v117 : Value) (LX91 : Own) (LX96 : Own) (LX101 : Own) (LX107 : Own) (LX113 : Own) (LX119 : Own), OwT 63 enc_uint32 1 q.2.1 v89 LX91 ∧ OwT 63 enc_uint32 1 q.2.2.1 v94 LX96 ∧ OwT 63 enc_uint32 1 q.2.2.2.1 v99 LX101 ∧ OwT 63 enc_uint32 1 q.2.2.2.2.2.1 v105 LX107 ∧ OwT 3 enc_int 1 q.2.2.2.2.2.2.2.1 v111 LX113 ∧ OwT 71 enc_Write 3 q.2.2.2.2.2.2.2.2.2.1 v117 LX119 ∧ (∃ s : Nat → Value, a = Ac (.lit 40 [v0_, s 1, .int .i64 a2, s 3, s 4, s 5, .pointer (some ⟨b2, 0, none⟩), .int .i64 q.1, s 8, s 9, s 10, s 11, s 12, s 13, s 14, s 15, s 16, s 17, s 18, s 19, s 20, s 21, s 22, s 23, s 24, s 25, s 26, s 27, s 28, s 29, s 30, s 31, s 32, s 33, s 34, s 35, s 36, s 37, s 38, s 39])) ∧ St W g [] ((b2, blk [v89, v94, v99, .int .i64 q.2.2.2.2.1, v105, .int .i64 q.2.2.2.2.2.2.1, v111, .int .i64 q.2.2.2.2.2.2.2.2.1, v117, .int .i64 q.2.2.2.2.2.2.2.2.2.2.1, .int .i64 q.2.2.2.2.2.2.2.2.2.2.2] 27) :: (LX91 ++ (LX96 ++ (LX101 ++ (LX107 ++ (LX113 ++ (LX119 ++ []))))))) w') ⟨vR0_0_31, vR0_1_35, vR0_2_39, vR0_4_43, vR0_6_47, vR0_8_51, LXR0_0_32, LXR0_1_36, LXR0_2_40, LXR0_4_44, LXR0_6_48, LXR0_8_52, hR0_0_33, hR0_1_37, hR0_2_41, hR0_4_45, hR0_6_49, hR0_8_53, mk_ex, (hS.re (.takeb (.hereb _ _) (.take (.here _ _) (.take (.here _ _) (.take (.here _ _) (.take (.here _ _) (.take (.here _ _) (.take (.here _ _) (.nil _)))))))))⟩ ?_
 clear hS hF
 intro n157 q a w hI hq
 obtain ⟨x87, x88, x93, x98, x103, x104, x109, x110, x115, x116, x121, x122⟩ := q
 obtain ⟨v89, v94, v99, v105, v111, v117, LX91, LX96, LX101, LX107, LX113, LX119, h90, h95, h100, h106, h112, h118, ⟨s158, rfl⟩, hS⟩ := hq
 replace h90 : OwT 63 enc_uint32 1 x88 v89 LX91 := h90
 replace h95 : OwT 63 enc_uint32 1 x93 v94 LX96 := h95
 replace h100 : OwT 63 enc_uint32 1 x98 v99 LX101 := h100
 replace h106 : OwT 63 enc_uint32 1 x104 v105 LX107 := h106
 replace h112 : OwT 3 enc_int 1 x110 v111 LX113 := h112
 replace h118 : OwT 71 enc_Write 3 x116 v117 LX119 := h118
 obtain ⟨z155, hF, hK156⟩ := iter_step hI
 clear hI
 dsimp only [seq_Run_b2] at hF
 iterate 2 (refine c_seq ?_)
 refine c_region ?_
 iterate 2 (refine oy hS y_move ?_)
 refine oy hS y_bin ?_
 refine o_split (ht := fun c159 => ?_) (hf := fun c159 => ?_)
 · replace hF := bt c159 hF
   refine o_gu rfl rfl rfl ?_
   refine oy hS (y_field fa_api_State_7) ?_
   refine o_gu rfl rfl rfl ?_
   refine oy hS (y_load (fun w hS => hS.own (mH)) Try.underlying3 rfl rfl) ?_
   refine o_gu rfl rfl rfl ?_
   refine oy hS y_bin ?_
   refine oy hS y_pickT ?_
   refine n_thenN ?_
   refine c_if (ht := fun c160 => ?_) (hf := fun c160 => ?_)
   · replace hF := bt c160 hF
     refine wp_skip ?_
     refine c_block ?_
     refine c_seq ?_
     refine c_region ?_
     refine oy hS y_move ?_
     have hS2 : St W g [] (((b2, blk [v89, v94, v99, .int .i64 x103, v105, .int .i64 x109, v111, .int .i64 x115, v117, .int .i64 x121, .int .i64 x122] 27) :: (LX91 ++ (LX96 ++ (LX101 ++ (LX107 ++ (LX113 ++ (LX119 ++ []))))))) ++ []) w := by simpa only [List.append_assoc, List.cons_append, List.nil_append, List.append_nil] using hS
     obtain ⟨r161, hr161, hF⟩ := ob hF
     refine o_call (L1 := ((b2, blk [v89, v94, v99, .int .i64 x103, v105, .int .i64 x109, v111, .int .i64 x115, v117, .int .i64 x121, .int .i64 x122] 27) :: (LX91 ++ (LX96 ++ (LX101 ++ (LX107 ++ (LX113 ++ (LX119 ++ [])))))))) (L2 := []) hS2 Try.func40 rfl rfl (hc := (w_seq_step (a0 := a0) (a1 := (⟨x88, x93, x98, x103, x104, x109, x110, x115, x116, x121, x122⟩ : T_State)) (h0 := h0.plus) (h1 := (⟨_, _, _, _, _, _, _, _, _, _, _, _, rfl, h90, h95, h100, h106, h112, h118⟩ : Bx_State b2 (⟨x88, x93, x98, x103, x104, x109, x110, x115, x116, x121, x122⟩ : T_State) ((b2, blk [v89, v94, v99, .int .i64 x103, v105, .int .i64 x109, v111, .int .i64 x115, v117, .int .i64 x121, .int .i64 x122] 27) :: (LX91 ++ (LX96 ++ (LX101 ++ (LX107 ++ (LX113 ++ (LX119 ++ []))))))))) (hF := hr161))) (h := ?_)
     clear hS; intro v162 LY163 w hS hr164
     clear hS2
     obtain ⟨LB165, rfl, rfl, hb166⟩ := hr164
     obtain ⟨vB_0_167, vB_1_171, vB_2_175, vB_4_179, vB_6_183, vB_8_187, LXB_0_168, LXB_1_172, LXB_2_176, LXB_4_180, LXB_6_184, LXB_8_188, rfl, hB_0_169, hB_1_173, hB_2_177, hB_4_181, hB_6_185, hB_8_189⟩ := hb166
     simp only [List.append_assoc, List.cons_append, List.nil_append] at hS
     refine n_thenN ?_
     refine c_region ?_
     refine oy hS y_move ?_
     refine oy hS y_bin ?_
     refine oy hS y_assign ?_
     refine n_anyN ?_
     obtain rfl := Option.some.inj hF
     exact ⟨_, hK156, vB_0_167, vB_1_171, vB_2_175, vB_4_179, vB_6_183, vB_8_187, LXB_0_168, LXB_1_172, LXB_2_176, LXB_4_180, LXB_6_184, LXB_8_188, hB_0_169, hB_1_173, hB_2_177, hB_4_181, hB_6_185, hB_8_189, mk_ex, (hS.re (.takeb (.hereb _ _) (.take (.here _ _) (.take (.here _ _) (.take (.here _ _) (.take (.here _ _) (.take (.here _ _) (.take (.here _ _) (.nil _)))))))))⟩
   replace hF := bf c160 hF
   refine wp_exit ?_
   refine c_seq ?_
   refine c_region ?_
   refine oy hS (y_loadW (fun w hS => hS.own (mH)) Try.underlying27 rfl (by exact sz_api_State)) ?_
   refine oy hS y_move ?_
   refine o_storeP (vs := [v89, v94, v99, .int .i64 x103, v105, .int .i64 x109, v111, .int .i64 x115, v117, .int .i64 x121, .int .i64 x122]) hS (hm := Upd.here _) (hi := by exact sz_api_State) (h1 := (onC (h90).one (onC (h95).one (onC (h100).one (onC rfl (onC (h106).one (onC rfl (onC (h112).one (onC rfl (onC (h118).one (onC rfl (onC rfl onN)))))))))))) ?_
   clear hS; intro w hS
   iterate 2 (refine oy hS y_assign ?_)
   refine n_thenN ?_
   obtain rfl := Option.some.inj hF
   obtain rfl : _ = r := hK156
   refine wp_ret (r_ret (vs := [.agg #[v89, v94, v99, .int .i64 x103, v105, .int .i64 x109, v111, .int .i64 x115, v117, .int .i64 x121, .int .i64 x122], .int .i64 x87, .int .i64 0]) (L' := (LX91 ++ (LX96 ++ (LX101 ++ (LX107 ++ (LX113 ++ (LX119 ++ []))))))) (hS.re (.take (.thereb _ (.here _ _)) (.take (.thereb _ (.here _ _)) (.take (.thereb _ (.here _ _)) (.take (.thereb _ (.here _ _)) (.take (.thereb _ (.here _ _)) (.take (.thereb _ (.here _ _)) (.nil _)))))))) (show resAll _ _ _ [.cell 6 27, .tmp 7, .tmp 8] _ from ⟨(res_cell (hS.own (mH)) Try.underlying27 rfl (by exact sz_api_State)), res_tmp, res_tmp, trivial⟩) rfl ⟨_, _, rfl, (by first | rfl | simp only [List.append_assoc, List.cons_append, List.nil_append, List.append_nil]), ⟨_, _, _, _, _, _, _, _, _, _, _, _, rfl, rfl, h90, h95, h100, h106, h112, h118⟩⟩)
 replace hF := bf c159 hF
 iterate 3 (refine o_sk rfl rfl ?_)
 refine oy hS y_pickF ?_
 refine n_thenN ?_
 refine c_if_false (h := ?_)
 refine wp_exit ?_
 refine c_seq ?_
 refine c_region ?_
 refine oy hS (y_loadW (fun w hS => hS.own (mH)) Try.underlying27 rfl (by exact sz_api_State)) ?_
 refine oy hS y_move ?_
 refine o_storeP (vs := [v89, v94, v99, .int .i64 x103, v105, .int .i64 x109, v111, .int .i64 x115, v117, .int .i64 x121, .int .i64 x122]) hS (hm := Upd.here _) (hi := by exact sz_api_State) (h1 := (onC (h90).one (onC (h95).one (onC (h100).one (onC rfl (onC (h106).one (onC rfl (onC (h112).one (onC rfl (onC (h118).one (onC rfl (onC rfl onN)))))))))))) ?_
 clear hS; intro w hS
 iterate 2 (refine oy hS y_assign ?_)
 refine n_thenN ?_
 obtain rfl := Option.some.inj hF
 obtain rfl : _ = r := hK156
 refine wp_ret (r_ret (vs := [.agg #[v89, v94, v99, .int .i64 x103, v105, .int .i64 x109, v111, .int .i64 x115, v117, .int .i64 x121, .int .i64 x122], .int .i64 x87, .int .i64 0]) (L' := (LX91 ++ (LX96 ++ (LX101 ++ (LX107 ++ (LX113 ++ (LX119 ++ []))))))) (hS.re (.take (.thereb _ (.here _ _)) (.take (.thereb _ (.here _ _)) (.take (.thereb _ (.here _ _)) (.take (.thereb _ (.here _ _)) (.take (.thereb _ (.here _ _)) (.take (.thereb _ (.here _ _)) (.nil _)))))))) (show resAll _ _ _ [.cell 6 27, .tmp 7, .tmp 8] _ from ⟨(res_cell (hS.own (mH)) Try.underlying27 rfl (by exact sz_api_State)), res_tmp, res_tmp, trivial⟩) rfl ⟨_, _, rfl, (by first | rfl | simp only [List.append_assoc, List.cons_append, List.nil_append, List.append_nil]), ⟨_, _, _, _, _, _, _, _, _, _, _, _, rfl, rfl, h90, h95, h100, h106, h112, h118⟩⟩)
theorem w_seq_Run {g : Frag} {a0 : (List T_Ins)} {v0_ : Value} {a1 : T_State} {v1_ : Value} {a2 : Int} {r : (T_State × Int × Int)} (h0 : SlT g enc_Ins 6 a0 v0_) (h1 : Rd_State g a1 v1_) (hF : seq_Run a0 a1 a2 = some r) : LC Try.prog 14 #[v0_, v1_, .int .i64 a2] g [] (fun v L => ∃ (u0 : Value) (M0 : Own), v = .tuple #[u0, .int .i64 r.2.1, .int .i64 r.2.2] ∧ L = (M0 ++ []) ∧ Ow_State r.1 u0 M0) := w_seq_Run_ h0 h1 hF

def l5_num (a0 : Int) : Int :=
  a0
set_option maxHeartbeats 2000000 in
theorem w_l5_num_ {g : Frag} {a0 : Int} {r : Int}  (hF : l5_num a0 = r) : LCs Try.prog 15 #[.int .i64 a0] g (.int .i64 r) := by
 unfold l5_num at hF
 refine lc_body (k := 4) (av := [.int .i64 a0]) Try.func15 rfl rfl (h := fun W hS => ?_)
 refine c_seq ?_
 refine c_region ?_
 refine oy hS y_assign ?_
 refine n_thenN ?_
 refine c_seq ?_
 refine c_region ?_
 refine oy hS y_move ?_
 refine oy hS y_assign ?_
 refine n_thenN ?_
 subst hF
 exact wp_ret (wr1 hS)
theorem w_l5_num {g : Frag} {a0 : Int}  : LCs Try.prog 15 #[.int .i64 a0] g (.int .i64 (l5_num a0)) := w_l5_num_  rfl

noncomputable def r0_EqWords_b1 (a0 : (List Int)) (a1 : (List Int)) : Int → Option (Step Int Bool) := fun x28 => bif decide (x28 < (a0.length : Int)) then (at' a0 x28).bind fun x60 => (at' a1 x28).bind fun x72 => bif decide (x60 ≠ x72) then some (.done (false)) else some (.next (IntKind.i64.wrap (x28 + 1))) else some (.done (true))
noncomputable def r0_EqWords (a0 : (List Int)) (a1 : (List Int)) : Option Bool :=
  bif decide ((a0.length : Int) ≠ (a1.length : Int)) then some (false) else loop (σ := Int) (r0_EqWords_b1 a0 a1) 0
set_option maxHeartbeats 2000000 in
theorem w_r0_EqWords_ {g : Frag} {a0 : (List Int)} {v0_ : Value} {a1 : (List Int)} {v1_ : Value} {r : Bool} (h0 : SlT g enc_uint32 1 a0 v0_) (h1 : SlT g enc_uint32 1 a1 v1_) (hF : r0_EqWords a0 a1 = some r) : LCs Try.prog 18 #[v0_, v1_] g (.bool r) := by
 unfold r0_EqWords at hF
 refine lc_body (k := 26) (av := [v0_, v1_]) Try.func18 rfl rfl (h := fun W hS => ?_)
 refine c_seq ?_
 refine c_region ?_
 refine oy hS y_assign ?_
 refine n_thenN ?_
 iterate 2 (refine c_seq ?_)
 refine c_region ?_
 refine oy hS y_move ?_
 refine oy hS (y_len h0 Try.underlying23) ?_
 refine oy hS y_move ?_
 refine oy hS (y_len h1 Try.underlying23) ?_
 refine oy hS y_bin ?_
 refine n_thenN ?_
 refine c_if (ht := fun c1 => ?_) (hf := fun c1 => ?_)
 · replace hF := bt c1 hF
   refine c_seq ?_
   refine c_region ?_
   refine oy hS y_assign ?_
   refine n_thenN ?_
   obtain rfl := Option.some.inj hF
   exact wp_ret (wr1 hS)
 replace hF := bf c1 hF
 refine wp_skip ?_
 iterate 2 (refine c_seq ?_)
 refine c_region ?_
 refine oy hS y_assign ?_
 refine n_thenN ?_
 refine c_block ?_
 refine c_loopP hF (fun (q : Int) a w' => (∃ s : Nat → Value, a = Ac (.lit 26 [v0_, v1_, s 2, s 3, s 4, .int .i64 q, s 6, s 7, s 8, s 9, s 10, s 11, s 12, s 13, s 14, s 15, s 16, s 17, s 18, s 19, s 20, s 21, s 22, s 23, s 24, s 25])) ∧ St W g [] [] w') ⟨mk_ex, (hS.re (.nil _))⟩ ?_
 clear hS hF
 intro n57 q a w hI hq
 revert hq hI; revert q; intro x28 hI hq
 obtain ⟨⟨s58, rfl⟩, hS⟩ := hq
 obtain ⟨z55, hF, hK56⟩ := iter_step hI
 clear hI
 dsimp only [r0_EqWords_b1] at hF
 iterate 2 (refine c_seq ?_)
 refine c_region ?_
 iterate 2 (refine oy hS y_move ?_)
 refine oy hS (y_len h0 Try.underlying23) ?_
 refine oy hS y_bin ?_
 refine n_thenN ?_
 refine c_if (ht := fun c59 => ?_) (hf := fun c59 => ?_)
 · replace hF := bt c59 hF
   refine wp_skip ?_
   refine c_seq ?_
   refine c_block ?_
   refine c_seq ?_
   refine c_quiet (by kernel_rfl) (by kernel_rfl) hS ?_
   iterate 2 (refine qy y_move ?_)
   obtain ⟨x60, hx60, hF⟩ := ob hF
   obtain ⟨b61, o62, c63, cs64, e65, fz66, hv67, ha68, hb69, hd70, hc71⟩ := SlT.at hx60 h0 enc_len_uint32
   refine qy (y_index hv67 ha68 hb69 Try.underlying23 el_uint32.size) ?_
   refine qy (y_load (fun w hS => hS.block hd70) Try.underlying63 rfl (hc71 0 _ rfl)) ?_
   iterate 2 (refine qy y_move ?_)
   obtain ⟨x72, hx72, hF⟩ := ob hF
   obtain ⟨b73, o74, c75, cs76, e77, fz78, hv79, ha80, hb81, hd82, hc83⟩ := SlT.at hx72 h1 enc_len_uint32
   refine qy (y_index hv79 ha80 hb81 Try.underlying23 el_uint32.size) ?_
   refine qy (y_load (fun w hS => hS.block hd82) Try.underlying63 rfl (hc83 0 _ rfl)) ?_
   refine qy y_bin ?_
   refine q_nilN (h := ?_)
   clear hS; intro w hS
   refine c_if (ht := fun c84 => ?_) (hf := fun c84 => ?_)
   · replace hF := bt c84 hF
     refine c_seq ?_
     refine c_region ?_
     refine oy hS y_assign ?_
     refine n_thenN ?_
     obtain rfl := Option.some.inj hF
     obtain rfl : _ = r := hK56
     exact wp_ret (wr1 hS)
   replace hF := bf c84 hF
   refine wp_skip ?_
   refine c_region ?_
   refine oy hS y_move ?_
   refine oy hS y_bin ?_
   refine oy hS y_assign ?_
   refine n_thenN ?_
   obtain rfl := Option.some.inj hF
   exact ⟨_, hK56, mk_ex, (hS.re (.nil _))⟩
 replace hF := bf c59 hF
 refine wp_exit ?_
 refine c_seq ?_
 refine c_region ?_
 refine oy hS y_assign ?_
 refine n_thenN ?_
 obtain rfl := Option.some.inj hF
 obtain rfl : _ = r := hK56
 exact wp_ret (wr1 hS)
theorem w_r0_EqWords {g : Frag} {a0 : (List Int)} {v0_ : Value} {a1 : (List Int)} {v1_ : Value} {r : Bool} (h0 : SlT g enc_uint32 1 a0 v0_) (h1 : SlT g enc_uint32 1 a1 v1_) (hF : r0_EqWords a0 a1 = some r) : LCs Try.prog 18 #[v0_, v1_] g (.bool r) := w_r0_EqWords_ h0 h1 hF

noncomputable def r0_EqNumbers_b1 (a0 : (List Int)) (a1 : (List Int)) : Int → Option (Step Int Bool) := fun x28 => bif decide (x28 < (a0.length : Int)) then (at' a0 x28).bind fun x60 => (at' a1 x28).bind fun x72 => bif decide (x60 ≠ x72) then some (.done (false)) else some (.next (IntKind.i64.wrap (x28 + 1))) else some (.done (true))
noncomputable def r0_EqNumbers (a0 : (List Int)) (a1 : (List Int)) : Option Bool :=
  bif decide ((a0.length : Int) ≠ (a1.length : Int)) then some (false) else loop (σ := Int) (r0_EqNumbers_b1 a0 a1) 0
set_option maxHeartbeats 2000000 in
theorem w_r0_EqNumbers_ {g : Frag} {a0 : (List Int)} {v0_ : Value} {a1 : (List Int)} {v1_ : Value} {r : Bool} (h0 : SlT g enc_int 1 a0 v0_) (h1 : SlT g enc_int 1 a1 v1_) (hF : r0_EqNumbers a0 a1 = some r) : LCs Try.prog 41 #[v0_, v1_] g (.bool r) := by
 unfold r0_EqNumbers at hF
 refine lc_body (k := 26) (av := [v0_, v1_]) Try.func41 rfl rfl (h := fun W hS => ?_)
 refine c_seq ?_
 refine c_region ?_
 refine oy hS y_assign ?_
 refine n_thenN ?_
 iterate 2 (refine c_seq ?_)
 refine c_region ?_
 refine oy hS y_move ?_
 refine oy hS (y_len h0 Try.underlying24) ?_
 refine oy hS y_move ?_
 refine oy hS (y_len h1 Try.underlying24) ?_
 refine oy hS y_bin ?_
 refine n_thenN ?_
 refine c_if (ht := fun c1 => ?_) (hf := fun c1 => ?_)
 · replace hF := bt c1 hF
   refine c_seq ?_
   refine c_region ?_
   refine oy hS y_assign ?_
   refine n_thenN ?_
   obtain rfl := Option.some.inj hF
   exact wp_ret (wr1 hS)
 replace hF := bf c1 hF
 refine wp_skip ?_
 iterate 2 (refine c_seq ?_)
 refine c_region ?_
 refine oy hS y_assign ?_
 refine n_thenN ?_
 refine c_block ?_
 refine c_loopP hF (fun (q : Int) a w' => (∃ s : Nat → Value, a = Ac (.lit 26 [v0_, v1_, s 2, s 3, s 4, .int .i64 q, s 6, s 7, s 8, s 9, s 10, s 11, s 12, s 13, s 14, s 15, s 16, s 17, s 18, s 19, s 20, s 21, s 22, s 23, s 24, s 25])) ∧ St W g [] [] w') ⟨mk_ex, (hS.re (.nil _))⟩ ?_
 clear hS hF
 intro n57 q a w hI hq
 revert hq hI; revert q; intro x28 hI hq
 obtain ⟨⟨s58, rfl⟩, hS⟩ := hq
 obtain ⟨z55, hF, hK56⟩ := iter_step hI
 clear hI
 dsimp only [r0_EqNumbers_b1] at hF
 iterate 2 (refine c_seq ?_)
 refine c_region ?_
 iterate 2 (refine oy hS y_move ?_)
 refine oy hS (y_len h0 Try.underlying24) ?_
 refine oy hS y_bin ?_
 refine n_thenN ?_
 refine c_if (ht := fun c59 => ?_) (hf := fun c59 => ?_)
 · replace hF := bt c59 hF
   refine wp_skip ?_
   refine c_seq ?_
   refine c_block ?_
   refine c_seq ?_
   refine c_quiet (by kernel_rfl) (by kernel_rfl) hS ?_
   iterate 2 (refine qy y_move ?_)
   obtain ⟨x60, hx60, hF⟩ := ob hF
   obtain ⟨b61, o62, c63, cs64, e65, fz66, hv67, ha68, hb69, hd70, hc71⟩ := SlT.at hx60 h0 enc_len_int
   refine qy (y_index hv67 ha68 hb69 Try.underlying24 el_int.size) ?_
   refine qy (y_load (fun w hS => hS.block hd70) Try.underlying3 rfl (hc71 0 _ rfl)) ?_
   iterate 2 (refine qy y_move ?_)
   obtain ⟨x72, hx72, hF⟩ := ob hF
   obtain ⟨b73, o74, c75, cs76, e77, fz78, hv79, ha80, hb81, hd82, hc83⟩ := SlT.at hx72 h1 enc_len_int
   refine qy (y_index hv79 ha80 hb81 Try.underlying24 el_int.size) ?_
   refine qy (y_load (fun w hS => hS.block hd82) Try.underlying3 rfl (hc83 0 _ rfl)) ?_
   refine qy y_bin ?_
   refine q_nilN (h := ?_)
   clear hS; intro w hS
   refine c_if (ht := fun c84 => ?_) (hf := fun c84 => ?_)
   · replace hF := bt c84 hF
     refine c_seq ?_
     refine c_region ?_
     refine oy hS y_assign ?_
     refine n_thenN ?_
     obtain rfl := Option.some.inj hF
     obtain rfl : _ = r := hK56
     exact wp_ret (wr1 hS)
   replace hF := bf c84 hF
   refine wp_skip ?_
   refine c_region ?_
   refine oy hS y_move ?_
   refine oy hS y_bin ?_
   refine oy hS y_assign ?_
   refine n_thenN ?_
   obtain rfl := Option.some.inj hF
   exact ⟨_, hK56, mk_ex, (hS.re (.nil _))⟩
 replace hF := bf c59 hF
 refine wp_exit ?_
 refine c_seq ?_
 refine c_region ?_
 refine oy hS y_assign ?_
 refine n_thenN ?_
 obtain rfl := Option.some.inj hF
 obtain rfl : _ = r := hK56
 exact wp_ret (wr1 hS)
theorem w_r0_EqNumbers {g : Frag} {a0 : (List Int)} {v0_ : Value} {a1 : (List Int)} {v1_ : Value} {r : Bool} (h0 : SlT g enc_int 1 a0 v0_) (h1 : SlT g enc_int 1 a1 v1_) (hF : r0_EqNumbers a0 a1 = some r) : LCs Try.prog 41 #[v0_, v1_] g (.bool r) := w_r0_EqNumbers_ h0 h1 hF

noncomputable def r0_EqFlies_b1 (a0 : (List T_Write)) (a1 : (List T_Write)) : Int → Option (Step Int Bool) := fun x28 => bif decide (x28 < (a0.length : Int)) then (at' a0 x28).bind fun x60 => (at' a1 x28).bind fun x72 => bif !(eqb_Write x60 x72) then some (.done (false)) else some (.next (IntKind.i64.wrap (x28 + 1))) else some (.done (true))
noncomputable def r0_EqFlies (a0 : (List T_Write)) (a1 : (List T_Write)) : Option Bool :=
  bif decide ((a0.length : Int) ≠ (a1.length : Int)) then some (false) else loop (σ := Int) (r0_EqFlies_b1 a0 a1) 0
set_option maxHeartbeats 2000000 in
theorem w_r0_EqFlies_ {g : Frag} {a0 : (List T_Write)} {v0_ : Value} {a1 : (List T_Write)} {v1_ : Value} {r : Bool} (h0 : SlT g enc_Write 3 a0 v0_) (h1 : SlT g enc_Write 3 a1 v1_) (hF : r0_EqFlies a0 a1 = some r) : LCs Try.prog 42 #[v0_, v1_] g (.bool r) := by
 unfold r0_EqFlies at hF
 refine lc_body (k := 26) (av := [v0_, v1_]) Try.func42 rfl rfl (h := fun W hS => ?_)
 refine c_seq ?_
 refine c_region ?_
 refine oy hS y_assign ?_
 refine n_thenN ?_
 iterate 2 (refine c_seq ?_)
 refine c_region ?_
 refine oy hS y_move ?_
 refine oy hS (y_len h0 Try.underlying25) ?_
 refine oy hS y_move ?_
 refine oy hS (y_len h1 Try.underlying25) ?_
 refine oy hS y_bin ?_
 refine n_thenN ?_
 refine c_if (ht := fun c1 => ?_) (hf := fun c1 => ?_)
 · replace hF := bt c1 hF
   refine c_seq ?_
   refine c_region ?_
   refine oy hS y_assign ?_
   refine n_thenN ?_
   obtain rfl := Option.some.inj hF
   exact wp_ret (wr1 hS)
 replace hF := bf c1 hF
 refine wp_skip ?_
 iterate 2 (refine c_seq ?_)
 refine c_region ?_
 refine oy hS y_assign ?_
 refine n_thenN ?_
 refine c_block ?_
 refine c_loopP hF (fun (q : Int) a w' => (∃ s : Nat → Value, a = Ac (.lit 26 [v0_, v1_, s 2, s 3, s 4, .int .i64 q, s 6, s 7, s 8, s 9, s 10, s 11, s 12, s 13, s 14, s 15, s 16, s 17, s 18, s 19, s 20, s 21, s 22, s 23, s 24, s 25])) ∧ St W g [] [] w') ⟨mk_ex, (hS.re (.nil _))⟩ ?_
 clear hS hF
 intro n57 q a w hI hq
 revert hq hI; revert q; intro x28 hI hq
 obtain ⟨⟨s58, rfl⟩, hS⟩ := hq
 obtain ⟨z55, hF, hK56⟩ := iter_step hI
 clear hI
 dsimp only [r0_EqFlies_b1] at hF
 iterate 2 (refine c_seq ?_)
 refine c_region ?_
 iterate 2 (refine oy hS y_move ?_)
 refine oy hS (y_len h0 Try.underlying25) ?_
 refine oy hS y_bin ?_
 refine n_thenN ?_
 refine c_if (ht := fun c59 => ?_) (hf := fun c59 => ?_)
 · replace hF := bt c59 hF
   refine wp_skip ?_
   refine c_seq ?_
   refine c_block ?_
   refine c_seq ?_
   refine c_quiet (by kernel_rfl) (by kernel_rfl) hS ?_
   iterate 2 (refine qy y_move ?_)
   obtain ⟨x60, hx60, hF⟩ := ob hF
   obtain ⟨b61, o62, c63, cs64, e65, fz66, hv67, ha68, hb69, hd70, hc71⟩ := SlT.at hx60 h0 enc_len_Write
   refine qy (y_index hv67 ha68 hb69 Try.underlying25 el_api_Write.size) ?_
   refine qy (y_loadN (vs := [.int .i64 x60.Reg, .int .u32 x60.Value, .int .i64 x60.Left]) (fun w hS => hS.block hd70) Try.underlying71 rfl (by exact sz_api_Write) (fun j u hj => hc71 j u hj)) ?_
   iterate 2 (refine qy y_move ?_)
   obtain ⟨x72, hx72, hF⟩ := ob hF
   obtain ⟨b73, o74, c75, cs76, e77, fz78, hv79, ha80, hb81, hd82, hc83⟩ := SlT.at hx72 h1 enc_len_Write
   refine qy (y_index hv79 ha80 hb81 Try.underlying25 el_api_Write.size) ?_
   refine qy (y_loadN (vs := [.int .i64 x72.Reg, .int .u32 x72.Value, .int .i64 x72.Left]) (fun w hS => hS.block hd82) Try.underlying71 rfl (by exact sz_api_Write) (fun j u hj => hc83 j u hj)) ?_
   refine qy (y_neq_Write) ?_
   refine q_nilN (h := ?_)
   clear hS; intro w hS
   refine c_if (ht := fun c84 => ?_) (hf := fun c84 => ?_)
   · replace hF := bt c84 hF
     refine c_seq ?_
     refine c_region ?_
     refine oy hS y_assign ?_
     refine n_thenN ?_
     obtain rfl := Option.some.inj hF
     obtain rfl : _ = r := hK56
     exact wp_ret (wr1 hS)
   replace hF := bf c84 hF
   refine wp_skip ?_
   refine c_region ?_
   refine oy hS y_move ?_
   refine oy hS y_bin ?_
   refine oy hS y_assign ?_
   refine n_thenN ?_
   obtain rfl := Option.some.inj hF
   exact ⟨_, hK56, mk_ex, (hS.re (.nil _))⟩
 replace hF := bf c59 hF
 refine wp_exit ?_
 refine c_seq ?_
 refine c_region ?_
 refine oy hS y_assign ?_
 refine n_thenN ?_
 obtain rfl := Option.some.inj hF
 obtain rfl : _ = r := hK56
 exact wp_ret (wr1 hS)
theorem w_r0_EqFlies {g : Frag} {a0 : (List T_Write)} {v0_ : Value} {a1 : (List T_Write)} {v1_ : Value} {r : Bool} (h0 : SlT g enc_Write 3 a0 v0_) (h1 : SlT g enc_Write 3 a1 v1_) (hF : r0_EqFlies a0 a1 = some r) : LCs Try.prog 42 #[v0_, v1_] g (.bool r) := w_r0_EqFlies_ h0 h1 hF

noncomputable def r0_EqState (a0 : T_State) (a1 : T_State) : Option Bool :=
  (r0_EqWords a0.Regs a1.Regs).bind fun r3 => bif r3 then (r0_EqWords a0.Mem a1.Mem).bind fun r5 => bif r5 then (r0_EqWords a0.In_ a1.In_).bind fun r7 => bif r7 then bif decide (a0.Taken = a1.Taken) then (r0_EqWords a0.Out a1.Out).bind fun r10 => bif r10 then bif decide (a0.PC = a1.PC) then (r0_EqNumbers a0.Stack a1.Stack).bind fun r13 => bif r13 then bif decide (a0.Stop = a1.Stop) then (r0_EqFlies a0.Fly a1.Fly).bind fun r16 => bif r16 then bif decide (a0.Jump = a1.Jump) then some (decide (a0.Delay = a1.Delay)) else some (false) else some (false) else some (false) else some (false) else some (false) else some (false) else some (false) else some (false) else some (false) else some (false)
set_option maxHeartbeats 2000000 in
theorem w_r0_EqState_ {g : Frag} {a0 : T_State} {v0_ : Value} {a1 : T_State} {v1_ : Value} {r : Bool} (h0 : Rd_State g a0 v0_) (h1 : Rd_State g a1 v1_) (hF : r0_EqState a0 a1 = some r) : LCs Try.prog 16 #[v0_, v1_] g (.bool r) := by
 obtain ⟨v0_0_, v0_1_, v0_2_, v0_4_, v0_6_, v0_8_, rfl, h0_0_, h0_1_, h0_2_, h0_4_, h0_6_, h0_8_⟩ := h0
 obtain ⟨v1_0_, v1_1_, v1_2_, v1_4_, v1_6_, v1_8_, rfl, h1_0_, h1_1_, h1_2_, h1_4_, h1_6_, h1_8_⟩ := h1
 unfold r0_EqState at hF
 refine lc_body (k := 80) (av := [.agg #[v0_0_, v0_1_, v0_2_, .int .i64 a0.Taken, v0_4_, .int .i64 a0.PC, v0_6_, .int .i64 a0.Stop, v0_8_, .int .i64 a0.Jump, .int .i64 a0.Delay], .agg #[v1_0_, v1_1_, v1_2_, .int .i64 a1.Taken, v1_4_, .int .i64 a1.PC, v1_6_, .int .i64 a1.Stop, v1_8_, .int .i64 a1.Jump, .int .i64 a1.Delay]]) Try.func16 rfl rfl (h := fun W hS => ?_)
 refine c_seq ?_
 refine c_region ?_
 refine o_boxP (cl := [v0_0_, v0_1_, v0_2_, .int .i64 a0.Taken, v0_4_, .int .i64 a0.PC, v0_6_, .int .i64 a0.Stop, v0_8_, .int .i64 a0.Jump, .int .i64 a0.Delay]) rfl hS ?_
 clear hS; intro b1 w hS
 refine o_boxP (cl := [v1_0_, v1_1_, v1_2_, .int .i64 a1.Taken, v1_4_, .int .i64 a1.PC, v1_6_, .int .i64 a1.Stop, v1_8_, .int .i64 a1.Jump, .int .i64 a1.Delay]) rfl hS ?_
 clear hS; intro b2 w hS
 refine oy hS y_assign ?_
 refine n_thenN ?_
 refine c_seq ?_
 refine c_region ?_
 refine oy hS (y_field fa_api_State_0) ?_
 refine oy hS (y_load (fun w hS => hS.own (mC (mH))) Try.underlying23 rfl rfl) ?_
 refine oy hS (y_field fa_api_State_0) ?_
 refine oy hS (y_load (fun w hS => hS.own (mH)) Try.underlying23 rfl rfl) ?_
 obtain ⟨r3, hr3, hF⟩ := ob hF
 refine o_callS hS Try.func18 rfl rfl (hc := (w_r0_EqWords (a0 := a0.Regs) (a1 := a1.Regs) (h0 := h0_0_.plus) (h1 := h1_0_.plus) (hF := hr3))) (h := ?_)
 clear hS; intro w hS
 refine o_split (ht := fun c4 => ?_) (hf := fun c4 => ?_)
 · replace hF := bt c4 hF
   refine o_gu rfl rfl rfl ?_
   refine oy hS (y_field fa_api_State_1) ?_
   refine o_gu rfl rfl rfl ?_
   refine oy hS (y_load (fun w hS => hS.own (mC (mH))) Try.underlying23 rfl rfl) ?_
   refine o_gu rfl rfl rfl ?_
   refine oy hS (y_field fa_api_State_1) ?_
   refine o_gu rfl rfl rfl ?_
   refine oy hS (y_load (fun w hS => hS.own (mH)) Try.underlying23 rfl rfl) ?_
   refine o_gu rfl rfl rfl ?_
   obtain ⟨r5, hr5, hF⟩ := ob hF
   refine o_callS hS Try.func18 rfl rfl (hc := (w_r0_EqWords (a0 := a0.Mem) (a1 := a1.Mem) (h0 := h0_1_.plus) (h1 := h1_1_.plus) (hF := hr5))) (h := ?_)
   clear hS; intro w hS
   refine oy hS y_pickT ?_
   refine o_split (ht := fun c6 => ?_) (hf := fun c6 => ?_)
   · replace hF := bt c6 hF
     refine o_gu rfl rfl rfl ?_
     refine oy hS (y_field fa_api_State_2) ?_
     refine o_gu rfl rfl rfl ?_
     refine oy hS (y_load (fun w hS => hS.own (mC (mH))) Try.underlying23 rfl rfl) ?_
     refine o_gu rfl rfl rfl ?_
     refine oy hS (y_field fa_api_State_2) ?_
     refine o_gu rfl rfl rfl ?_
     refine oy hS (y_load (fun w hS => hS.own (mH)) Try.underlying23 rfl rfl) ?_
     refine o_gu rfl rfl rfl ?_
     obtain ⟨r7, hr7, hF⟩ := ob hF
     refine o_callS hS Try.func18 rfl rfl (hc := (w_r0_EqWords (a0 := a0.In_) (a1 := a1.In_) (h0 := h0_2_.plus) (h1 := h1_2_.plus) (hF := hr7))) (h := ?_)
     clear hS; intro w hS
     refine oy hS y_pickT ?_
     refine o_split (ht := fun c8 => ?_) (hf := fun c8 => ?_)
     · replace hF := bt c8 hF
       refine o_gu rfl rfl rfl ?_
       refine oy hS (y_field fa_api_State_3) ?_
       refine o_gu rfl rfl rfl ?_
       refine oy hS (y_load (fun w hS => hS.own (mC (mH))) Try.underlying3 rfl rfl) ?_
       refine o_gu rfl rfl rfl ?_
       refine oy hS (y_field fa_api_State_3) ?_
       refine o_gu rfl rfl rfl ?_
       refine oy hS (y_load (fun w hS => hS.own (mH)) Try.underlying3 rfl rfl) ?_
       refine o_gu rfl rfl rfl ?_
       refine oy hS y_bin ?_
       refine oy hS y_pickT ?_
       refine o_split (ht := fun c9 => ?_) (hf := fun c9 => ?_)
       · replace hF := bt c9 hF
         refine o_gu rfl rfl rfl ?_
         refine oy hS (y_field fa_api_State_4) ?_
         refine o_gu rfl rfl rfl ?_
         refine oy hS (y_load (fun w hS => hS.own (mC (mH))) Try.underlying23 rfl rfl) ?_
         refine o_gu rfl rfl rfl ?_
         refine oy hS (y_field fa_api_State_4) ?_
         refine o_gu rfl rfl rfl ?_
         refine oy hS (y_load (fun w hS => hS.own (mH)) Try.underlying23 rfl rfl) ?_
         refine o_gu rfl rfl rfl ?_
         obtain ⟨r10, hr10, hF⟩ := ob hF
         refine o_callS hS Try.func18 rfl rfl (hc := (w_r0_EqWords (a0 := a0.Out) (a1 := a1.Out) (h0 := h0_4_.plus) (h1 := h1_4_.plus) (hF := hr10))) (h := ?_)
         clear hS; intro w hS
         refine oy hS y_pickT ?_
         refine o_split (ht := fun c11 => ?_) (hf := fun c11 => ?_)
         · replace hF := bt c11 hF
           refine o_gu rfl rfl rfl ?_
           refine oy hS (y_field fa_api_State_5) ?_
           refine o_gu rfl rfl rfl ?_
           refine oy hS (y_load (fun w hS => hS.own (mC (mH))) Try.underlying3 rfl rfl) ?_
           refine o_gu rfl rfl rfl ?_
           refine oy hS (y_field fa_api_State_5) ?_
           refine o_gu rfl rfl rfl ?_
           refine oy hS (y_load (fun w hS => hS.own (mH)) Try.underlying3 rfl rfl) ?_
           refine o_gu rfl rfl rfl ?_
           refine oy hS y_bin ?_
           refine oy hS y_pickT ?_
           refine o_split (ht := fun c12 => ?_) (hf := fun c12 => ?_)
           · replace hF := bt c12 hF
             refine o_gu rfl rfl rfl ?_
             refine oy hS (y_field fa_api_State_6) ?_
             refine o_gu rfl rfl rfl ?_
             refine oy hS (y_load (fun w hS => hS.own (mC (mH))) Try.underlying24 rfl rfl) ?_
             refine o_gu rfl rfl rfl ?_
             refine oy hS (y_field fa_api_State_6) ?_
             refine o_gu rfl rfl rfl ?_
             refine oy hS (y_load (fun w hS => hS.own (mH)) Try.underlying24 rfl rfl) ?_
             refine o_gu rfl rfl rfl ?_
             obtain ⟨r13, hr13, hF⟩ := ob hF
             refine o_callS hS Try.func41 rfl rfl (hc := (w_r0_EqNumbers (a0 := a0.Stack) (a1 := a1.Stack) (h0 := h0_6_.plus) (h1 := h1_6_.plus) (hF := hr13))) (h := ?_)
             clear hS; intro w hS
             refine oy hS y_pickT ?_
             refine o_split (ht := fun c14 => ?_) (hf := fun c14 => ?_)
             · replace hF := bt c14 hF
               refine o_gu rfl rfl rfl ?_
               refine oy hS (y_field fa_api_State_7) ?_
               refine o_gu rfl rfl rfl ?_
               refine oy hS (y_load (fun w hS => hS.own (mC (mH))) Try.underlying3 rfl rfl) ?_
               refine o_gu rfl rfl rfl ?_
               refine oy hS (y_field fa_api_State_7) ?_
               refine o_gu rfl rfl rfl ?_
               refine oy hS (y_load (fun w hS => hS.own (mH)) Try.underlying3 rfl rfl) ?_
               refine o_gu rfl rfl rfl ?_
               refine oy hS y_bin ?_
               refine oy hS y_pickT ?_
               refine o_split (ht := fun c15 => ?_) (hf := fun c15 => ?_)
               · replace hF := bt c15 hF
                 refine o_gu rfl rfl rfl ?_
                 refine oy hS (y_field fa_api_State_8) ?_
                 refine o_gu rfl rfl rfl ?_
                 refine oy hS (y_load (fun w hS => hS.own (mC (mH))) Try.underlying25 rfl rfl) ?_
                 refine o_gu rfl rfl rfl ?_
                 refine oy hS (y_field fa_api_State_8) ?_
                 refine o_gu rfl rfl rfl ?_
                 refine oy hS (y_load (fun w hS => hS.own (mH)) Try.underlying25 rfl rfl) ?_
                 refine o_gu rfl rfl rfl ?_
                 obtain ⟨r16, hr16, hF⟩ := ob hF
                 refine o_callS hS Try.func42 rfl rfl (hc := (w_r0_EqFlies (a0 := a0.Fly) (a1 := a1.Fly) (h0 := h0_8_.plus) (h1 := h1_8_.plus) (hF := hr16))) (h := ?_)
                 clear hS; intro w hS
                 refine oy hS y_pickT ?_
                 refine o_split (ht := fun c17 => ?_) (hf := fun c17 => ?_)
                 · replace hF := bt c17 hF
                   refine o_gu rfl rfl rfl ?_
                   refine oy hS (y_field fa_api_State_9) ?_
                   refine o_gu rfl rfl rfl ?_
                   refine oy hS (y_load (fun w hS => hS.own (mC (mH))) Try.underlying3 rfl rfl) ?_
                   refine o_gu rfl rfl rfl ?_
                   refine oy hS (y_field fa_api_State_9) ?_
                   refine o_gu rfl rfl rfl ?_
                   refine oy hS (y_load (fun w hS => hS.own (mH)) Try.underlying3 rfl rfl) ?_
                   refine o_gu rfl rfl rfl ?_
                   refine oy hS y_bin ?_
                   refine oy hS y_pickT ?_
                   refine o_split (ht := fun c18 => ?_) (hf := fun c18 => ?_)
                   · replace hF := bt c18 hF
                     refine o_gu rfl rfl rfl ?_
                     refine oy hS (y_field fa_api_State_10) ?_
                     refine o_gu rfl rfl rfl ?_
                     refine oy hS (y_load (fun w hS => hS.own (mC (mH))) Try.underlying3 rfl rfl) ?_
                     refine o_gu rfl rfl rfl ?_
                     refine oy hS (y_field fa_api_State_10) ?_
                     refine o_gu rfl rfl rfl ?_
                     refine oy hS (y_load (fun w hS => hS.own (mH)) Try.underlying3 rfl rfl) ?_
                     refine o_gu rfl rfl rfl ?_
                     refine oy hS y_bin ?_
                     refine oy hS y_pickT ?_
                     refine oy hS y_assign ?_
                     refine n_thenN ?_
                     obtain rfl := Option.some.inj hF
                     exact wp_ret (wr1 hS)
                   replace hF := bf c18 hF
                   iterate 5 (refine o_sk rfl rfl ?_)
                   refine oy hS y_pickF ?_
                   refine oy hS y_assign ?_
                   refine n_thenN ?_
                   obtain rfl := Option.some.inj hF
                   exact wp_ret (wr1 hS)
                 replace hF := bf c17 hF
                 iterate 5 (refine o_sk rfl rfl ?_)
                 refine oy hS y_pickF ?_
                 refine oy hS y_move ?_
                 iterate 5 (refine o_sk rfl rfl ?_)
                 refine oy hS y_pickF ?_
                 refine oy hS y_assign ?_
                 refine n_thenN ?_
                 obtain rfl := Option.some.inj hF
                 exact wp_ret (wr1 hS)
               replace hF := bf c15 hF
               iterate 5 (refine o_sk rfl rfl ?_)
               refine oy hS y_pickF ?_
               refine oy hS y_move ?_
               iterate 5 (refine o_sk rfl rfl ?_)
               refine oy hS y_pickF ?_
               refine oy hS y_move ?_
               iterate 5 (refine o_sk rfl rfl ?_)
               refine oy hS y_pickF ?_
               refine oy hS y_assign ?_
               refine n_thenN ?_
               obtain rfl := Option.some.inj hF
               exact wp_ret (wr1 hS)
             replace hF := bf c14 hF
             iterate 5 (refine o_sk rfl rfl ?_)
             refine oy hS y_pickF ?_
             refine oy hS y_move ?_
             iterate 5 (refine o_sk rfl rfl ?_)
             refine oy hS y_pickF ?_
             refine oy hS y_move ?_
             iterate 5 (refine o_sk rfl rfl ?_)
             refine oy hS y_pickF ?_
             refine oy hS y_move ?_
             iterate 5 (refine o_sk rfl rfl ?_)
             refine oy hS y_pickF ?_
             refine oy hS y_assign ?_
             refine n_thenN ?_
             obtain rfl := Option.some.inj hF
             exact wp_ret (wr1 hS)
           replace hF := bf c12 hF
           iterate 5 (refine o_sk rfl rfl ?_)
           refine oy hS y_pickF ?_
           refine oy hS y_move ?_
           iterate 5 (refine o_sk rfl rfl ?_)
           refine oy hS y_pickF ?_
           refine oy hS y_move ?_
           iterate 5 (refine o_sk rfl rfl ?_)
           refine oy hS y_pickF ?_
           refine oy hS y_move ?_
           iterate 5 (refine o_sk rfl rfl ?_)
           refine oy hS y_pickF ?_
           refine oy hS y_move ?_
           iterate 5 (refine o_sk rfl rfl ?_)
           refine oy hS y_pickF ?_
           refine oy hS y_assign ?_
           refine n_thenN ?_
           obtain rfl := Option.some.inj hF
           exact wp_ret (wr1 hS)
         replace hF := bf c11 hF
         iterate 5 (refine o_sk rfl rfl ?_)
         refine oy hS y_pickF ?_
         refine oy hS y_move ?_
         iterate 5 (refine o_sk rfl rfl ?_)
         refine oy hS y_pickF ?_
         refine oy hS y_move ?_
         iterate 5 (refine o_sk rfl rfl ?_)
         refine oy hS y_pickF ?_
         refine oy hS y_move ?_
         iterate 5 (refine o_sk rfl rfl ?_)
         refine oy hS y_pickF ?_
         refine oy hS y_move ?_
         iterate 5 (refine o_sk rfl rfl ?_)
         refine oy hS y_pickF ?_
         refine oy hS y_move ?_
         iterate 5 (refine o_sk rfl rfl ?_)
         refine oy hS y_pickF ?_
         refine oy hS y_assign ?_
         refine n_thenN ?_
         obtain rfl := Option.some.inj hF
         exact wp_ret (wr1 hS)
       replace hF := bf c9 hF
       iterate 5 (refine o_sk rfl rfl ?_)
       refine oy hS y_pickF ?_
       refine oy hS y_move ?_
       iterate 5 (refine o_sk rfl rfl ?_)
       refine oy hS y_pickF ?_
       refine oy hS y_move ?_
       iterate 5 (refine o_sk rfl rfl ?_)
       refine oy hS y_pickF ?_
       refine oy hS y_move ?_
       iterate 5 (refine o_sk rfl rfl ?_)
       refine oy hS y_pickF ?_
       refine oy hS y_move ?_
       iterate 5 (refine o_sk rfl rfl ?_)
       refine oy hS y_pickF ?_
       refine oy hS y_move ?_
       iterate 5 (refine o_sk rfl rfl ?_)
       refine oy hS y_pickF ?_
       refine oy hS y_move ?_
       iterate 5 (refine o_sk rfl rfl ?_)
       refine oy hS y_pickF ?_
       refine oy hS y_assign ?_
       refine n_thenN ?_
       obtain rfl := Option.some.inj hF
       exact wp_ret (wr1 hS)
     replace hF := bf c8 hF
     iterate 5 (refine o_sk rfl rfl ?_)
     refine oy hS y_pickF ?_
     refine oy hS y_move ?_
     iterate 5 (refine o_sk rfl rfl ?_)
     refine oy hS y_pickF ?_
     refine oy hS y_move ?_
     iterate 5 (refine o_sk rfl rfl ?_)
     refine oy hS y_pickF ?_
     refine oy hS y_move ?_
     iterate 5 (refine o_sk rfl rfl ?_)
     refine oy hS y_pickF ?_
     refine oy hS y_move ?_
     iterate 5 (refine o_sk rfl rfl ?_)
     refine oy hS y_pickF ?_
     refine oy hS y_move ?_
     iterate 5 (refine o_sk rfl rfl ?_)
     refine oy hS y_pickF ?_
     refine oy hS y_move ?_
     iterate 5 (refine o_sk rfl rfl ?_)
     refine oy hS y_pickF ?_
     refine oy hS y_move ?_
     iterate 5 (refine o_sk rfl rfl ?_)
     refine oy hS y_pickF ?_
     refine oy hS y_assign ?_
     refine n_thenN ?_
     obtain rfl := Option.some.inj hF
     exact wp_ret (wr1 hS)
   replace hF := bf c6 hF
   iterate 5 (refine o_sk rfl rfl ?_)
   refine oy hS y_pickF ?_
   refine oy hS y_move ?_
   iterate 5 (refine o_sk rfl rfl ?_)
   refine oy hS y_pickF ?_
   refine oy hS y_move ?_
   iterate 5 (refine o_sk rfl rfl ?_)
   refine oy hS y_pickF ?_
   refine oy hS y_move ?_
   iterate 5 (refine o_sk rfl rfl ?_)
   refine oy hS y_pickF ?_
   refine oy hS y_move ?_
   iterate 5 (refine o_sk rfl rfl ?_)
   refine oy hS y_pickF ?_
   refine oy hS y_move ?_
   iterate 5 (refine o_sk rfl rfl ?_)
   refine oy hS y_pickF ?_
   refine oy hS y_move ?_
   iterate 5 (refine o_sk rfl rfl ?_)
   refine oy hS y_pickF ?_
   refine oy hS y_move ?_
   iterate 5 (refine o_sk rfl rfl ?_)
   refine oy hS y_pickF ?_
   refine oy hS y_move ?_
   iterate 5 (refine o_sk rfl rfl ?_)
   refine oy hS y_pickF ?_
   refine oy hS y_assign ?_
   refine n_thenN ?_
   obtain rfl := Option.some.inj hF
   exact wp_ret (wr1 hS)
 replace hF := bf c4 hF
 iterate 5 (refine o_sk rfl rfl ?_)
 refine oy hS y_pickF ?_
 refine oy hS y_move ?_
 iterate 5 (refine o_sk rfl rfl ?_)
 refine oy hS y_pickF ?_
 refine oy hS y_move ?_
 iterate 5 (refine o_sk rfl rfl ?_)
 refine oy hS y_pickF ?_
 refine oy hS y_move ?_
 iterate 5 (refine o_sk rfl rfl ?_)
 refine oy hS y_pickF ?_
 refine oy hS y_move ?_
 iterate 5 (refine o_sk rfl rfl ?_)
 refine oy hS y_pickF ?_
 refine oy hS y_move ?_
 iterate 5 (refine o_sk rfl rfl ?_)
 refine oy hS y_pickF ?_
 refine oy hS y_move ?_
 iterate 5 (refine o_sk rfl rfl ?_)
 refine oy hS y_pickF ?_
 refine oy hS y_move ?_
 iterate 5 (refine o_sk rfl rfl ?_)
 refine oy hS y_pickF ?_
 refine oy hS y_move ?_
 iterate 5 (refine o_sk rfl rfl ?_)
 refine oy hS y_pickF ?_
 refine oy hS y_move ?_
 iterate 5 (refine o_sk rfl rfl ?_)
 refine oy hS y_pickF ?_
 refine oy hS y_assign ?_
 refine n_thenN ?_
 obtain rfl := Option.some.inj hF
 exact wp_ret (wr1 hS)
theorem w_r0_EqState {g : Frag} {a0 : T_State} {v0_ : Value} {a1 : T_State} {v1_ : Value} {r : Bool} (h0 : Rd_State g a0 v0_) (h1 : Rd_State g a1 v1_) (hF : r0_EqState a0 a1 = some r) : LCs Try.prog 16 #[v0_, v1_] g (.bool r) := w_r0_EqState_ h0 h1 hF

noncomputable def r0_Begins (a0 : (List Int)) (a1 : (List Int)) : Option Bool :=
  bif decide ((a1.length : Int) ≤ (a0.length : Int)) then (sub' a0 0 (a1.length : Int)).bind fun zs2 => (r0_EqWords zs2 a1).bind fun r3 => some (r3) else some (false)
set_option maxHeartbeats 2000000 in
theorem w_r0_Begins_ {g : Frag} {a0 : (List Int)} {v0_ : Value} {a1 : (List Int)} {v1_ : Value} {r : Bool} (h0 : SlT g enc_uint32 1 a0 v0_) (h1 : SlT g enc_uint32 1 a1 v1_) (hF : r0_Begins a0 a1 = some r) : LCs Try.prog 17 #[v0_, v1_] g (.bool r) := by
 unfold r0_Begins at hF
 refine lc_body (k := 18) (av := [v0_, v1_]) Try.func17 rfl rfl (h := fun W hS => ?_)
 refine c_seq ?_
 refine c_region ?_
 refine oy hS y_assign ?_
 refine n_thenN ?_
 refine c_seq ?_
 refine c_region ?_
 refine oy hS y_move ?_
 refine oy hS (y_len h1 Try.underlying23) ?_
 refine oy hS y_move ?_
 refine oy hS (y_len h0 Try.underlying23) ?_
 refine oy hS y_bin ?_
 refine o_split (ht := fun c1 => ?_) (hf := fun c1 => ?_)
 · replace hF := bt c1 hF
   refine o_gu rfl rfl rfl ?_
   refine oy hS y_move ?_
   refine o_gu rfl rfl rfl ?_
   refine oy hS y_move ?_
   refine o_gu rfl rfl rfl ?_
   refine oy hS (y_len h1 Try.underlying23) ?_
   refine o_gu rfl rfl rfl ?_
   obtain ⟨zs2, hzs2, hF⟩ := ob hF
   refine oy hS (y_slU hzs2 h0 Try.underlying23 el_uint32.size) ?_
   refine o_gu rfl rfl rfl ?_
   refine oy hS y_move ?_
   refine o_gu rfl rfl rfl ?_
   obtain ⟨r3, hr3, hF⟩ := ob hF
   refine o_callS hS Try.func18 rfl rfl (hc := (w_r0_EqWords (a0 := zs2) (a1 := a1) (h0 := (SlT.sub hzs2 h0 enc_len_uint32).plus) (h1 := h1.plus) (hF := hr3))) (h := ?_)
   clear hS; intro w hS
   refine oy hS y_pickT ?_
   refine oy hS y_assign ?_
   refine n_thenN ?_
   obtain rfl := Option.some.inj hF
   exact wp_ret (wr1 hS)
 replace hF := bf c1 hF
 iterate 6 (refine o_sk rfl rfl ?_)
 refine oy hS y_pickF ?_
 refine oy hS y_assign ?_
 refine n_thenN ?_
 obtain rfl := Option.some.inj hF
 exact wp_ret (wr1 hS)
theorem w_r0_Begins {g : Frag} {a0 : (List Int)} {v0_ : Value} {a1 : (List Int)} {v1_ : Value} {r : Bool} (h0 : SlT g enc_uint32 1 a0 v0_) (h1 : SlT g enc_uint32 1 a1 v1_) (hF : r0_Begins a0 a1 = some r) : LCs Try.prog 17 #[v0_, v1_] g (.bool r) := w_r0_Begins_ h0 h1 hF

noncomputable def seq_Step (a0 : (List T_Ins)) (a1 : T_State) : Option (T_State × Int) :=
  (seq_Run a0 a1 1).bind fun r3 => some (r3.1, r3.2.2)
set_option maxHeartbeats 2000000 in
theorem w_seq_Step_ {g : Frag} {a0 : (List T_Ins)} {v0_ : Value} {a1 : T_State} {v1_ : Value} {r : (T_State × Int)} (h0 : SlT g enc_Ins 6 a0 v0_) (h1 : Rd_State g a1 v1_) (hF : seq_Step a0 a1 = some r) : LC Try.prog 19 #[v0_, v1_] g [] (fun v L => ∃ (u0 : Value) (M0 : Own), v = .tuple #[u0, .int .i64 r.2] ∧ L = (M0 ++ []) ∧ Ow_State r.1 u0 M0) := by
 obtain ⟨v1_0_, v1_1_, v1_2_, v1_4_, v1_6_, v1_8_, rfl, h1_0_, h1_1_, h1_2_, h1_4_, h1_6_, h1_8_⟩ := h1
 unfold seq_Step at hF
 refine lc_body (k := 18) (av := [v0_, .agg #[v1_0_, v1_1_, v1_2_, .int .i64 a1.Taken, v1_4_, .int .i64 a1.PC, v1_6_, .int .i64 a1.Stop, v1_8_, .int .i64 a1.Jump, .int .i64 a1.Delay]]) Try.func19 rfl rfl (h := fun W hS => ?_)
 refine c_seq ?_
 refine c_region ?_
 refine o_boxP (cl := [v1_0_, v1_1_, v1_2_, .int .i64 a1.Taken, v1_4_, .int .i64 a1.PC, v1_6_, .int .i64 a1.Stop, v1_8_, .int .i64 a1.Jump, .int .i64 a1.Delay]) rfl hS ?_
 clear hS; intro b1 w hS
 refine o_allocP (cl := [(.slice none 0 0), (.slice none 0 0), (.slice none 0 0), .int .i64 0, (.slice none 0 0), .int .i64 0, (.slice none 0 0), .int .i64 0, (.slice none 0 0), .int .i64 0, .int .i64 0]) zr_api_State rfl hS ?_
 clear hS; intro b2 w hS
 refine oy hS y_assign ?_
 refine n_thenN ?_
 refine c_seq ?_
 refine c_region ?_
 refine oy hS y_move ?_
 refine oy hS (y_loadW (fun w hS => hS.own (mC (mH))) Try.underlying27 rfl (by exact sz_api_State)) ?_
 obtain ⟨r3, hr3, hF⟩ := ob hF
 refine o_call (L1 := []) (L2 := ((b2, blk [(.slice none 0 0), (.slice none 0 0), (.slice none 0 0), .int .i64 0, (.slice none 0 0), .int .i64 0, (.slice none 0 0), .int .i64 0, (.slice none 0 0), .int .i64 0, .int .i64 0] 27) :: ((b1, blk [v1_0_, v1_1_, v1_2_, .int .i64 a1.Taken, v1_4_, .int .i64 a1.PC, v1_6_, .int .i64 a1.Stop, v1_8_, .int .i64 a1.Jump, .int .i64 a1.Delay] 27) :: []))) hS Try.func14 rfl rfl (hc := (w_seq_Run (a0 := a0) (a1 := a1) (a2 := 1) (h0 := h0.plus) (h1 := ⟨_, _, _, _, _, _, rfl, h1_0_.plus, h1_1_.plus, h1_2_.plus, h1_4_.plus, h1_6_.plus, h1_8_.plus⟩) (hF := hr3))) (h := ?_)
 clear hS; intro v4 LY5 w hS hr6
 obtain ⟨v_0_7, LX_0_8, rfl, rfl, h_0_9⟩ := hr6
 obtain ⟨vR0_0_10, vR0_1_14, vR0_2_18, vR0_4_22, vR0_6_26, vR0_8_30, LXR0_0_11, LXR0_1_15, LXR0_2_19, LXR0_4_23, LXR0_6_27, LXR0_8_31, rfl, rfl, hR0_0_12, hR0_1_16, hR0_2_20, hR0_4_24, hR0_6_28, hR0_8_32⟩ := h_0_9
 simp only [List.append_assoc, List.cons_append, List.nil_append] at hS
 refine oy hS y_move ?_
 iterate 3 (refine oy hS (y_extract rfl) ?_)
 refine o_allocP (cl := [(.slice none 0 0), (.slice none 0 0), (.slice none 0 0), .int .i64 0, (.slice none 0 0), .int .i64 0, (.slice none 0 0), .int .i64 0, (.slice none 0 0), .int .i64 0, .int .i64 0]) zr_api_State rfl hS ?_
 clear hS; intro b34 w hS
 refine o_storeP (vs := [vR0_0_10, vR0_1_14, vR0_2_18, .int .i64 r3.1.Taken, vR0_4_22, .int .i64 r3.1.PC, vR0_6_26, .int .i64 r3.1.Stop, vR0_8_30, .int .i64 r3.1.Jump, .int .i64 r3.1.Delay]) hS (hm := Upd.here _) (hi := by exact sz_api_State) (h1 := (onC (hR0_0_12).one (onC (hR0_1_16).one (onC (hR0_2_20).one (onC rfl (onC (hR0_4_24).one (onC rfl (onC (hR0_6_28).one (onC rfl (onC (hR0_8_32).one (onC rfl (onC rfl onN)))))))))))) ?_
 clear hS; intro w hS
 iterate 2 (refine oy hS y_assign ?_)
 refine n_thenN ?_
 refine c_seq ?_
 refine c_region ?_
 refine oy hS (y_loadW (fun w hS => hS.own (mH)) Try.underlying27 rfl (by exact sz_api_State)) ?_
 refine oy hS y_move ?_
 have hS : St W g [] ((b2, blk [(.slice none 0 0), (.slice none 0 0), (.slice none 0 0), .int .i64 0, (.slice none 0 0), .int .i64 0, (.slice none 0 0), .int .i64 0, (.slice none 0 0), .int .i64 0, .int .i64 0] 27) :: ((b34, blk [vR0_0_10, vR0_1_14, vR0_2_18, .int .i64 r3.1.Taken, vR0_4_22, .int .i64 r3.1.PC, vR0_6_26, .int .i64 r3.1.Stop, vR0_8_30, .int .i64 r3.1.Jump, .int .i64 r3.1.Delay] 27) :: (LXR0_0_11 ++ (LXR0_1_15 ++ (LXR0_2_19 ++ (LXR0_4_23 ++ (LXR0_6_27 ++ (LXR0_8_31 ++ ((b1, blk [v1_0_, v1_1_, v1_2_, .int .i64 a1.Taken, v1_4_, .int .i64 a1.PC, v1_6_, .int .i64 a1.Stop, v1_8_, .int .i64 a1.Jump, .int .i64 a1.Delay] 27) :: []))))))))) w := hS.re (.takeb (.thereb _ (.there _ (.there _ (.there _ (.there _ (.there _ (.there _ (.hereb _ _)))))))) (.takeb (.hereb _ _) (.take (.here _ _) (.take (.here _ _) (.take (.here _ _) (.take (.here _ _) (.take (.here _ _) (.take (.here _ _) (.takeb (.hereb _ _) (.nil _))))))))))
 refine o_storeP (vs := [vR0_0_10, vR0_1_14, vR0_2_18, .int .i64 r3.1.Taken, vR0_4_22, .int .i64 r3.1.PC, vR0_6_26, .int .i64 r3.1.Stop, vR0_8_30, .int .i64 r3.1.Jump, .int .i64 r3.1.Delay]) hS (hm := Upd.here _) (hi := by exact sz_api_State) (h1 := (onC (hR0_0_12).one (onC (hR0_1_16).one (onC (hR0_2_20).one (onC rfl (onC (hR0_4_24).one (onC rfl (onC (hR0_6_28).one (onC rfl (onC (hR0_8_32).one (onC rfl (onC rfl onN)))))))))))) ?_
 clear hS; intro w hS
 refine oy hS y_assign ?_
 refine n_thenN ?_
 obtain rfl := Option.some.inj hF
 refine wp_ret (r_ret (vs := [.agg #[vR0_0_10, vR0_1_14, vR0_2_18, .int .i64 r3.1.Taken, vR0_4_22, .int .i64 r3.1.PC, vR0_6_26, .int .i64 r3.1.Stop, vR0_8_30, .int .i64 r3.1.Jump, .int .i64 r3.1.Delay], .int .i64 r3.2.2]) (L' := (LXR0_0_11 ++ (LXR0_1_15 ++ (LXR0_2_19 ++ (LXR0_4_23 ++ (LXR0_6_27 ++ (LXR0_8_31 ++ []))))))) (hS.re (.take (.thereb _ (.thereb _ (.here _ _))) (.take (.thereb _ (.thereb _ (.here _ _))) (.take (.thereb _ (.thereb _ (.here _ _))) (.take (.thereb _ (.thereb _ (.here _ _))) (.take (.thereb _ (.thereb _ (.here _ _))) (.take (.thereb _ (.thereb _ (.here _ _))) (.nil _)))))))) (show resAll _ _ _ [.cell 4 27, .tmp 5] _ from ⟨(res_cell (hS.own (mH)) Try.underlying27 rfl (by exact sz_api_State)), res_tmp, trivial⟩) rfl ⟨_, _, rfl, (by first | rfl | simp only [List.append_assoc, List.cons_append, List.nil_append, List.append_nil]), ⟨_, _, _, _, _, _, _, _, _, _, _, _, rfl, rfl, hR0_0_12, hR0_1_16, hR0_2_20, hR0_4_24, hR0_6_28, hR0_8_32⟩⟩)
theorem w_seq_Step {g : Frag} {a0 : (List T_Ins)} {v0_ : Value} {a1 : T_State} {v1_ : Value} {r : (T_State × Int)} (h0 : SlT g enc_Ins 6 a0 v0_) (h1 : Rd_State g a1 v1_) (hF : seq_Step a0 a1 = some r) : LC Try.prog 19 #[v0_, v1_] g [] (fun v L => ∃ (u0 : Value) (M0 : Own), v = .tuple #[u0, .int .i64 r.2] ∧ L = (M0 ++ []) ∧ Ow_State r.1 u0 M0) := w_seq_Step_ h0 h1 hF
end Go.Proofs.Ytadajdcbeegabaa
