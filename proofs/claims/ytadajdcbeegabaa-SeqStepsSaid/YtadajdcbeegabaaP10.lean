/- Functions, lifted. Printed by lift.py. -/
import Derived.Test.YtadajdcbeegabaaProg
import Derived.Test.YtadajdcbeegabaaP9
import Derived.KernelRfl
namespace Go.Proofs.Ytadajdcbeegabaa
open Go Go.RowKit Fr
set_option linter.unusedVariables false
set_option linter.unusedSimpArgs false
set_option maxRecDepth 20000
noncomputable def r0_CopyCodes_b1 (a0 : (List T_Ins)) : ((List T_Ins) × Int) → Option (Step ((List T_Ins) × Int) (List T_Ins)) := fun (x24, x29) => bif decide (x29 < (a0.length : Int)) then (at' a0 x29).bind fun x57 => (app' x24 ([x57] : List T_Ins)).bind fun zs76 => some (.next (zs76, IntKind.i64.wrap (x29 + 1))) else some (.done (x24))
noncomputable def r0_CopyCodes (a0 : (List T_Ins)) : Option (List T_Ins) :=
  loop (σ := ((List T_Ins) × Int)) (r0_CopyCodes_b1 a0) ([], 0)
set_option maxHeartbeats 2000000 in
theorem w_r0_CopyCodes_ {g : Frag} {a0 : (List T_Ins)} {v0_ : Value} {r : (List T_Ins)} (h0 : SlT g enc_Ins 6 a0 v0_) (hF : r0_CopyCodes a0 = some r) : LC Try.prog 24 #[v0_] g [] (fun v L => ∃ (u0 : Value) (M0 : Own), u0 = v ∧ L = (M0 ++ []) ∧ OwT 43 enc_Ins 6 r u0 M0) := by
 unfold r0_CopyCodes at hF
 refine lc_body (k := 19) (av := [v0_]) Try.func24 rfl rfl (h := fun W hS => ?_)
 refine c_seq ?_
 refine c_region ?_
 refine oy hS y_assign ?_
 refine n_thenN ?_
 refine c_seq ?_
 refine c_region ?_
 refine oy hS y_assign ?_
 refine n_thenN ?_
 iterate 2 (refine c_seq ?_)
 refine c_region ?_
 refine oy hS y_assign ?_
 refine n_thenN ?_
 refine c_block ?_
 refine c_loopP hF (fun (q : ((List T_Ins) × Int)) a w' => ∃ (v25 : Value) (LX27 : Own), OwT 43 enc_Ins 6 q.1 v25 LX27 ∧ (∃ s : Nat → Value, a = Ac (.lit 19 [v0_, s 1, s 2, v25, .int .i64 q.2, s 5, s 6, s 7, s 8, s 9, s 10, s 11, s 12, s 13, s 14, s 15, s 16, s 17, s 18])) ∧ St W g [] (LX27 ++ []) w') ⟨(.slice none 0 0), [], (OwT.nil _ _ _), mk_ex, (hS.re (.take (X := []) (.here [] _) (.nil _)))⟩ ?_
 clear hS hF
 intro n54 q a w hI hq
 obtain ⟨x24, x29⟩ := q
 obtain ⟨v25, LX27, h26, ⟨s55, rfl⟩, hS⟩ := hq
 replace h26 : OwT 43 enc_Ins 6 x24 v25 LX27 := h26
 obtain ⟨z51, hF, hK52⟩ := iter_step hI
 clear hI
 dsimp only [r0_CopyCodes_b1] at hF
 iterate 2 (refine c_seq ?_)
 refine c_region ?_
 iterate 2 (refine oy hS y_move ?_)
 refine oy hS (y_len h0 Try.underlying22) ?_
 refine oy hS y_bin ?_
 refine n_thenN ?_
 refine c_if (ht := fun c56 => ?_) (hf := fun c56 => ?_)
 · replace hF := bt c56 hF
   refine wp_skip ?_
   refine c_seq ?_
   refine c_block ?_
   refine c_region ?_
   iterate 3 (refine oy hS y_move ?_)
   obtain ⟨x57, hx57, hF⟩ := ob hF
   obtain ⟨b58, o59, c60, cs61, e62, fz63, hv64, ha65, hb66, hd67, hc68⟩ := SlT.at hx57 h0 enc_len_Ins
   refine oy hS (y_index hv64 ha65 hb66 Try.underlying22 el_api_Ins.size) ?_
   refine oy hS (y_loadN (vs := [.int .i64 x57.Op, .int .i64 x57.D, .int .i64 x57.A, .int .i64 x57.B, .int .i64 x57.Imm, .string x57.Sym]) (fun w hS => hS.block hd67) Try.underlying43 rfl (by exact sz_api_Ins) (fun j u hj => hc68 j u hj)) ?_
   refine o_buildT val_Ins ([x57] : List T_Ins) hS el_api_Ins (fun _ => rfl) enc_len_Ins (by decide) rfl (by decide) (hp := rfl) (h := ?_)
   clear hS; intro b69 w hS h70
   have hS : St W g [] ([(b69, blk (([x57] : List T_Ins).flatMap enc_Ins) 43)] ++ (LX27 ++ [])) w := hS
   obtain ⟨zs76, hzs76, hF⟩ := ob hF
   refine o_appPn (ys := ([x57] : List T_Ins)) (LX := LX27) hzs76 hS el_api_Ins h26 rfl enc_len_Ins (enc_ones_Ins _) (by decide) ?_
   clear hS; intro v72 LX73 w h74 hS
   refine oy hS y_assign ?_
   refine n_anyN ?_
   refine c_region ?_
   refine oy hS y_move ?_
   refine oy hS y_bin ?_
   refine oy hS y_assign ?_
   refine n_thenN ?_
   obtain rfl := Option.some.inj hF
   exact ⟨_, hK52, v72, LX73, h74, mk_ex, (hS.re (.take (.here _ _) (.nil _)))⟩
 replace hF := bf c56 hF
 refine wp_exit ?_
 refine c_seq ?_
 refine c_region ?_
 refine oy hS y_move ?_
 refine oy hS y_assign ?_
 refine n_thenN ?_
 obtain rfl := Option.some.inj hF
 obtain rfl : _ = r := hK52
 refine wp_ret (r_ret (vs := [v25]) (L' := (LX27 ++ [])) (hS.re (.take (.here _ _) (.nil _))) (show resAll _ _ _ [.tmp 2] _ from ⟨res_tmp, trivial⟩) rfl ⟨_, _, rfl, (by first | rfl | simp only [List.append_assoc, List.cons_append, List.nil_append, List.append_nil]), h26⟩)
theorem w_r0_CopyCodes {g : Frag} {a0 : (List T_Ins)} {v0_ : Value} {r : (List T_Ins)} (h0 : SlT g enc_Ins 6 a0 v0_) (hF : r0_CopyCodes a0 = some r) : LC Try.prog 24 #[v0_] g [] (fun v L => ∃ (u0 : Value) (M0 : Own), u0 = v ∧ L = (M0 ++ []) ∧ OwT 43 enc_Ins 6 r u0 M0) := w_r0_CopyCodes_ h0 hF

noncomputable def seq_Check (a0 : T_State) : Option Int :=
  (seq_May a0).bind fun r2 => bif !r2 then some (1) else some (0)
set_option maxHeartbeats 2000000 in
theorem w_seq_Check_ {g : Frag} {a0 : T_State} {v0_ : Value} {r : Int} (h0 : Rd_State g a0 v0_) (hF : seq_Check a0 = some r) : LCs Try.prog 25 #[v0_] g (.int .i64 r) := by
 obtain ⟨v0_0_, v0_1_, v0_2_, v0_4_, v0_6_, v0_8_, rfl, h0_0_, h0_1_, h0_2_, h0_4_, h0_6_, h0_8_⟩ := h0
 unfold seq_Check at hF
 refine lc_body (k := 6) (av := [.agg #[v0_0_, v0_1_, v0_2_, .int .i64 a0.Taken, v0_4_, .int .i64 a0.PC, v0_6_, .int .i64 a0.Stop, v0_8_, .int .i64 a0.Jump, .int .i64 a0.Delay]]) Try.func25 rfl rfl (h := fun W hS => ?_)
 refine c_seq ?_
 refine c_region ?_
 refine o_boxP (cl := [v0_0_, v0_1_, v0_2_, .int .i64 a0.Taken, v0_4_, .int .i64 a0.PC, v0_6_, .int .i64 a0.Stop, v0_8_, .int .i64 a0.Jump, .int .i64 a0.Delay]) rfl hS ?_
 clear hS; intro b1 w hS
 refine oy hS y_assign ?_
 refine n_thenN ?_
 iterate 2 (refine c_seq ?_)
 refine c_region ?_
 refine oy hS (y_loadW (fun w hS => hS.own (mH)) Try.underlying27 rfl (by exact sz_api_State)) ?_
 obtain ⟨r2, hr2, hF⟩ := ob hF
 refine o_callS hS Try.func37 rfl rfl (hc := (w_seq_May (a0 := a0) (h0 := ⟨_, _, _, _, _, _, rfl, h0_0_.plus, h0_1_.plus, h0_2_.plus, h0_4_.plus, h0_6_.plus, h0_8_.plus⟩) (hF := hr2))) (h := ?_)
 clear hS; intro w hS
 refine oy hS y_not ?_
 refine n_thenN ?_
 refine c_if (ht := fun c3 => ?_) (hf := fun c3 => ?_)
 · replace hF := bt c3 hF
   refine c_seq ?_
   refine c_region ?_
   refine oy hS y_assign ?_
   refine n_thenN ?_
   obtain rfl := Option.some.inj hF
   exact wp_ret (wr1 hS)
 replace hF := bf c3 hF
 refine wp_skip ?_
 refine c_seq ?_
 refine c_region ?_
 refine oy hS y_assign ?_
 refine n_thenN ?_
 obtain rfl := Option.some.inj hF
 exact wp_ret (wr1 hS)
theorem w_seq_Check {g : Frag} {a0 : T_State} {v0_ : Value} {r : Int} (h0 : Rd_State g a0 v0_) (hF : seq_Check a0 = some r) : LCs Try.prog 25 #[v0_] g (.int .i64 r) := w_seq_Check_ h0 hF

noncomputable def r5_New (a0 : (List Int)) : Option T_State :=
  (make' 16 (0 : Int)).bind fun zs2 => (make' 256 (0 : Int)).bind fun zs7 => (r0_CopyWords a0).bind fun r12 => some (⟨zs2, zs7, r12, 0, [], 0, [], 0, [], 0, 0⟩ : T_State)
set_option maxHeartbeats 2000000 in
theorem w_r5_New_ {g : Frag} {a0 : (List Int)} {v0_ : Value} {r : T_State} (h0 : SlT g enc_uint32 1 a0 v0_) (hF : r5_New a0 = some r) : LC Try.prog 28 #[v0_] g [] (fun v L => ∃ (u0 : Value) (M0 : Own), u0 = v ∧ L = (M0 ++ []) ∧ Ow_State r u0 M0) := by
 unfold r5_New at hF
 refine lc_body (k := 8) (av := [v0_]) Try.func28 rfl rfl (h := fun W hS => ?_)
 refine c_seq ?_
 refine c_region ?_
 refine o_allocP (cl := [(.slice none 0 0), (.slice none 0 0), (.slice none 0 0), .int .i64 0, (.slice none 0 0), .int .i64 0, (.slice none 0 0), .int .i64 0, (.slice none 0 0), .int .i64 0, .int .i64 0]) zr_api_State rfl hS ?_
 clear hS; intro b1 w hS
 refine n_thenN ?_
 refine c_seq ?_
 obtain ⟨zs2, hzs2, hF⟩ := ob hF
 obtain ⟨zs7, hzs7, hF⟩ := ob hF
 obtain ⟨r12, hr12, hF⟩ := ob hF
 refine c_heldB (CB g ((b1, blk [(.slice none 0 0), (.slice none 0 0), (.slice none 0 0), .int .i64 0, (.slice none 0 0), .int .i64 0, (.slice none 0 0), .int .i64 0, (.slice none 0 0), .int .i64 0, .int .i64 0] 27) :: [])) 5 6 (by kernel_rfl) rfl hS ?_
 clear hS; intro w hS
 refine hy0 2 rfl wn (by kernel_rfl) (nq (P := Try.prog) (fn := Try.f28)) (fun _ => hS.cb) y_move ?_
 refine hb3 0 1 3 (by kernel_rfl) (hb_op rfl wn (nl (P := Try.prog) (fn := Try.f28)) ?_) (hb_op rfl wn (nl (P := Try.prog) (fn := Try.f28)) ?_) (hb_op rfl wn (nl (P := Try.prog) (fn := Try.f28)) ?_)
 · skip
   refine o_makeP hzs2 hS el_uint32 enc_len_uint32 mz_uint32 (by decide) ?_
   clear hS; intro v3 LX4 w h5 hS
   refine hb_next (fun _ => (hS.re (.takeb (.there _ (.hereb _ _)) (.nil _))).cb) ?_
   refine hb2 1 3 (by kernel_rfl) (hb_op rfl wn (nl (P := Try.prog) (fn := Try.f28)) ?_) (hb_op rfl wn (nl (P := Try.prog) (fn := Try.f28)) ?_)
   · skip
     refine o_makeP hzs7 hS el_uint32 enc_len_uint32 mz_uint32 (by decide) ?_
     clear hS; intro v8 LX9 w h10 hS
     refine hb_next (fun _ => (hS.re (.takeb (.there _ (.there _ (.hereb _ _))) (.nil _))).cb) ?_
     refine hb1 3 (by kernel_rfl) (hb_op rfl wn (nl (P := Try.prog) (fn := Try.f28)) ?_)
     refine o_call (L1 := []) (L2 := (LX9 ++ (LX4 ++ ((b1, blk [(.slice none 0 0), (.slice none 0 0), (.slice none 0 0), .int .i64 0, (.slice none 0 0), .int .i64 0, (.slice none 0 0), .int .i64 0, (.slice none 0 0), .int .i64 0, .int .i64 0] 27) :: [])))) hS Try.func45 rfl rfl (hc := (w_r0_CopyWords (a0 := a0) (h0 := h0.plus) (hF := hr12))) (h := ?_)
     clear hS; intro v13 LY14 w hS hr15
     obtain ⟨v_0_16, LX_0_17, rfl, rfl, h_0_18⟩ := hr15
     simp only [List.append_assoc, List.cons_append, List.nil_append] at hS
     refine hb_next (fun _ => (hS.re (.takeb (.there _ (.there _ (.there _ (.hereb _ _)))) (.nil _))).cb) ?_
     refine hy0 4 rfl wn (by kernel_rfl) (nq (P := Try.prog) (fn := Try.f28)) (fun _ => (hS.re (.takeb (.there _ (.there _ (.there _ (.hereb _ _)))) (.nil _))).cb) (y_build (cl := [v3, v8, v_0_16, .int .i64 0, (.slice none 0 0), .int .i64 0, (.slice none 0 0), .int .i64 0, (.slice none 0 0), .int .i64 0, .int .i64 0]) bt_api_State rfl (fillS (vs := [v3]) rfl (h5).cell rfl rfl (fillS (vs := [v8]) rfl (h10).cell rfl rfl (fillS (vs := [v_0_16]) rfl (h_0_18).cell rfl rfl fillN)))) ?_
     refine hb1 5 (by kernel_rfl) (hb_op rfl wn (nl (P := Try.prog) (fn := Try.f28)) ?_)
     have hS : St W g [] ((b1, blk [(.slice none 0 0), (.slice none 0 0), (.slice none 0 0), .int .i64 0, (.slice none 0 0), .int .i64 0, (.slice none 0 0), .int .i64 0, (.slice none 0 0), .int .i64 0, .int .i64 0] 27) :: (LX_0_17 ++ (LX9 ++ (LX4 ++ [])))) w := hS.re (.takeb (.there _ (.there _ (.there _ (.hereb _ _)))) (.take (.here _ _) (.take (.here _ _) (.take (.here _ _) (.nil _)))))
     refine o_storeP (vs := [v3, v8, v_0_16, .int .i64 0, (.slice none 0 0), .int .i64 0, (.slice none 0 0), .int .i64 0, (.slice none 0 0), .int .i64 0, .int .i64 0]) hS (hm := Upd.here _) (hi := by exact sz_api_State) (h1 := (onC (h5).one (onC (h10).one (onC (h_0_18).one (onC rfl (onC rfl (onC rfl (onC rfl (onC rfl (onC rfl (onC rfl (onC rfl onN)))))))))))) ?_
     clear hS; intro w hS
     refine hb_next (fun h => absurd h (by decide)) ?_
     refine hb_done (by kernel_rfl) ?_
     obtain rfl := Option.some.inj hF
     refine wp_ret (r_ret (vs := [.agg #[v3, v8, v_0_16, .int .i64 0, (.slice none 0 0), .int .i64 0, (.slice none 0 0), .int .i64 0, (.slice none 0 0), .int .i64 0, .int .i64 0]]) (L' := (LX4 ++ (LX9 ++ (LX_0_17 ++ [])))) (hS.re (.take (.thereb _ (.there _ (.there _ (.here _ _)))) (.take (.thereb _ (.there _ (.here _ _))) (.take (.thereb _ (.here _ _)) (.nil _))))) (show resAll _ _ _ [.cell 2 27] _ from ⟨(res_cell (hS.own (mH)) Try.underlying27 rfl (by exact sz_api_State)), trivial⟩) rfl ⟨_, _, rfl, (by first | rfl | simp only [List.append_assoc, List.cons_append, List.nil_append, List.append_nil]), ⟨_, _, _, _, _, _, _, _, _, _, _, _, rfl, rfl, h5, h10, h_0_18, OwT.nil _ _ _, OwT.nil _ _ _, OwT.nil _ _ _⟩⟩)
   refine o_call (L1 := []) (L2 := (LX4 ++ ((b1, blk [(.slice none 0 0), (.slice none 0 0), (.slice none 0 0), .int .i64 0, (.slice none 0 0), .int .i64 0, (.slice none 0 0), .int .i64 0, (.slice none 0 0), .int .i64 0, .int .i64 0] 27) :: []))) hS Try.func45 rfl rfl (hc := (w_r0_CopyWords (a0 := a0) (h0 := h0.plus) (hF := hr12))) (h := ?_)
   clear hS; intro v13 LY14 w hS hr15
   obtain ⟨v_0_16, LX_0_17, rfl, rfl, h_0_18⟩ := hr15
   simp only [List.append_assoc, List.cons_append, List.nil_append] at hS
   refine hb_next (fun _ => (hS.re (.takeb (.there _ (.there _ (.hereb _ _))) (.nil _))).cb) ?_
   refine hb1 1 (by kernel_rfl) (hb_op rfl wn (nl (P := Try.prog) (fn := Try.f28)) ?_)
   refine o_makeP hzs7 hS el_uint32 enc_len_uint32 mz_uint32 (by decide) ?_
   clear hS; intro v8 LX9 w h10 hS
   refine hb_next (fun _ => (hS.re (.takeb (.there _ (.there _ (.there _ (.hereb _ _)))) (.nil _))).cb) ?_
   refine hy0 4 rfl wn (by kernel_rfl) (nq (P := Try.prog) (fn := Try.f28)) (fun _ => (hS.re (.takeb (.there _ (.there _ (.there _ (.hereb _ _)))) (.nil _))).cb) (y_build (cl := [v3, v8, v_0_16, .int .i64 0, (.slice none 0 0), .int .i64 0, (.slice none 0 0), .int .i64 0, (.slice none 0 0), .int .i64 0, .int .i64 0]) bt_api_State rfl (fillS (vs := [v3]) rfl (h5).cell rfl rfl (fillS (vs := [v8]) rfl (h10).cell rfl rfl (fillS (vs := [v_0_16]) rfl (h_0_18).cell rfl rfl fillN)))) ?_
   refine hb1 5 (by kernel_rfl) (hb_op rfl wn (nl (P := Try.prog) (fn := Try.f28)) ?_)
   have hS : St W g [] ((b1, blk [(.slice none 0 0), (.slice none 0 0), (.slice none 0 0), .int .i64 0, (.slice none 0 0), .int .i64 0, (.slice none 0 0), .int .i64 0, (.slice none 0 0), .int .i64 0, .int .i64 0] 27) :: (LX9 ++ (LX_0_17 ++ (LX4 ++ [])))) w := hS.re (.takeb (.there _ (.there _ (.there _ (.hereb _ _)))) (.take (.here _ _) (.take (.here _ _) (.take (.here _ _) (.nil _)))))
   refine o_storeP (vs := [v3, v8, v_0_16, .int .i64 0, (.slice none 0 0), .int .i64 0, (.slice none 0 0), .int .i64 0, (.slice none 0 0), .int .i64 0, .int .i64 0]) hS (hm := Upd.here _) (hi := by exact sz_api_State) (h1 := (onC (h5).one (onC (h10).one (onC (h_0_18).one (onC rfl (onC rfl (onC rfl (onC rfl (onC rfl (onC rfl (onC rfl (onC rfl onN)))))))))))) ?_
   clear hS; intro w hS
   refine hb_next (fun h => absurd h (by decide)) ?_
   refine hb_done (by kernel_rfl) ?_
   obtain rfl := Option.some.inj hF
   refine wp_ret (r_ret (vs := [.agg #[v3, v8, v_0_16, .int .i64 0, (.slice none 0 0), .int .i64 0, (.slice none 0 0), .int .i64 0, (.slice none 0 0), .int .i64 0, .int .i64 0]]) (L' := (LX4 ++ (LX9 ++ (LX_0_17 ++ [])))) (hS.re (.take (.thereb _ (.there _ (.there _ (.here _ _)))) (.take (.thereb _ (.here _ _)) (.take (.thereb _ (.here _ _)) (.nil _))))) (show resAll _ _ _ [.cell 2 27] _ from ⟨(res_cell (hS.own (mH)) Try.underlying27 rfl (by exact sz_api_State)), trivial⟩) rfl ⟨_, _, rfl, (by first | rfl | simp only [List.append_assoc, List.cons_append, List.nil_append, List.append_nil]), ⟨_, _, _, _, _, _, _, _, _, _, _, _, rfl, rfl, h5, h10, h_0_18, OwT.nil _ _ _, OwT.nil _ _ _, OwT.nil _ _ _⟩⟩)
 · skip
   refine o_makeP hzs7 hS el_uint32 enc_len_uint32 mz_uint32 (by decide) ?_
   clear hS; intro v8 LX9 w h10 hS
   refine hb_next (fun _ => (hS.re (.takeb (.there _ (.hereb _ _)) (.nil _))).cb) ?_
   refine hb2 0 3 (by kernel_rfl) (hb_op rfl wn (nl (P := Try.prog) (fn := Try.f28)) ?_) (hb_op rfl wn (nl (P := Try.prog) (fn := Try.f28)) ?_)
   · skip
     refine o_makeP hzs2 hS el_uint32 enc_len_uint32 mz_uint32 (by decide) ?_
     clear hS; intro v3 LX4 w h5 hS
     refine hb_next (fun _ => (hS.re (.takeb (.there _ (.there _ (.hereb _ _))) (.nil _))).cb) ?_
     refine hb1 3 (by kernel_rfl) (hb_op rfl wn (nl (P := Try.prog) (fn := Try.f28)) ?_)
     refine o_call (L1 := []) (L2 := (LX4 ++ (LX9 ++ ((b1, blk [(.slice none 0 0), (.slice none 0 0), (.slice none 0 0), .int .i64 0, (.slice none 0 0), .int .i64 0, (.slice none 0 0), .int .i64 0, (.slice none 0 0), .int .i64 0, .int .i64 0] 27) :: [])))) hS Try.func45 rfl rfl (hc := (w_r0_CopyWords (a0 := a0) (h0 := h0.plus) (hF := hr12))) (h := ?_)
     clear hS; intro v13 LY14 w hS hr15
     obtain ⟨v_0_16, LX_0_17, rfl, rfl, h_0_18⟩ := hr15
     simp only [List.append_assoc, List.cons_append, List.nil_append] at hS
     refine hb_next (fun _ => (hS.re (.takeb (.there _ (.there _ (.there _ (.hereb _ _)))) (.nil _))).cb) ?_
     refine hy0 4 rfl wn (by kernel_rfl) (nq (P := Try.prog) (fn := Try.f28)) (fun _ => (hS.re (.takeb (.there _ (.there _ (.there _ (.hereb _ _)))) (.nil _))).cb) (y_build (cl := [v3, v8, v_0_16, .int .i64 0, (.slice none 0 0), .int .i64 0, (.slice none 0 0), .int .i64 0, (.slice none 0 0), .int .i64 0, .int .i64 0]) bt_api_State rfl (fillS (vs := [v3]) rfl (h5).cell rfl rfl (fillS (vs := [v8]) rfl (h10).cell rfl rfl (fillS (vs := [v_0_16]) rfl (h_0_18).cell rfl rfl fillN)))) ?_
     refine hb1 5 (by kernel_rfl) (hb_op rfl wn (nl (P := Try.prog) (fn := Try.f28)) ?_)
     have hS : St W g [] ((b1, blk [(.slice none 0 0), (.slice none 0 0), (.slice none 0 0), .int .i64 0, (.slice none 0 0), .int .i64 0, (.slice none 0 0), .int .i64 0, (.slice none 0 0), .int .i64 0, .int .i64 0] 27) :: (LX_0_17 ++ (LX4 ++ (LX9 ++ [])))) w := hS.re (.takeb (.there _ (.there _ (.there _ (.hereb _ _)))) (.take (.here _ _) (.take (.here _ _) (.take (.here _ _) (.nil _)))))
     refine o_storeP (vs := [v3, v8, v_0_16, .int .i64 0, (.slice none 0 0), .int .i64 0, (.slice none 0 0), .int .i64 0, (.slice none 0 0), .int .i64 0, .int .i64 0]) hS (hm := Upd.here _) (hi := by exact sz_api_State) (h1 := (onC (h5).one (onC (h10).one (onC (h_0_18).one (onC rfl (onC rfl (onC rfl (onC rfl (onC rfl (onC rfl (onC rfl (onC rfl onN)))))))))))) ?_
     clear hS; intro w hS
     refine hb_next (fun h => absurd h (by decide)) ?_
     refine hb_done (by kernel_rfl) ?_
     obtain rfl := Option.some.inj hF
     refine wp_ret (r_ret (vs := [.agg #[v3, v8, v_0_16, .int .i64 0, (.slice none 0 0), .int .i64 0, (.slice none 0 0), .int .i64 0, (.slice none 0 0), .int .i64 0, .int .i64 0]]) (L' := (LX4 ++ (LX9 ++ (LX_0_17 ++ [])))) (hS.re (.take (.thereb _ (.there _ (.here _ _))) (.take (.thereb _ (.there _ (.here _ _))) (.take (.thereb _ (.here _ _)) (.nil _))))) (show resAll _ _ _ [.cell 2 27] _ from ⟨(res_cell (hS.own (mH)) Try.underlying27 rfl (by exact sz_api_State)), trivial⟩) rfl ⟨_, _, rfl, (by first | rfl | simp only [List.append_assoc, List.cons_append, List.nil_append, List.append_nil]), ⟨_, _, _, _, _, _, _, _, _, _, _, _, rfl, rfl, h5, h10, h_0_18, OwT.nil _ _ _, OwT.nil _ _ _, OwT.nil _ _ _⟩⟩)
   refine o_call (L1 := []) (L2 := (LX9 ++ ((b1, blk [(.slice none 0 0), (.slice none 0 0), (.slice none 0 0), .int .i64 0, (.slice none 0 0), .int .i64 0, (.slice none 0 0), .int .i64 0, (.slice none 0 0), .int .i64 0, .int .i64 0] 27) :: []))) hS Try.func45 rfl rfl (hc := (w_r0_CopyWords (a0 := a0) (h0 := h0.plus) (hF := hr12))) (h := ?_)
   clear hS; intro v13 LY14 w hS hr15
   obtain ⟨v_0_16, LX_0_17, rfl, rfl, h_0_18⟩ := hr15
   simp only [List.append_assoc, List.cons_append, List.nil_append] at hS
   refine hb_next (fun _ => (hS.re (.takeb (.there _ (.there _ (.hereb _ _))) (.nil _))).cb) ?_
   refine hb1 0 (by kernel_rfl) (hb_op rfl wn (nl (P := Try.prog) (fn := Try.f28)) ?_)
   refine o_makeP hzs2 hS el_uint32 enc_len_uint32 mz_uint32 (by decide) ?_
   clear hS; intro v3 LX4 w h5 hS
   refine hb_next (fun _ => (hS.re (.takeb (.there _ (.there _ (.there _ (.hereb _ _)))) (.nil _))).cb) ?_
   refine hy0 4 rfl wn (by kernel_rfl) (nq (P := Try.prog) (fn := Try.f28)) (fun _ => (hS.re (.takeb (.there _ (.there _ (.there _ (.hereb _ _)))) (.nil _))).cb) (y_build (cl := [v3, v8, v_0_16, .int .i64 0, (.slice none 0 0), .int .i64 0, (.slice none 0 0), .int .i64 0, (.slice none 0 0), .int .i64 0, .int .i64 0]) bt_api_State rfl (fillS (vs := [v3]) rfl (h5).cell rfl rfl (fillS (vs := [v8]) rfl (h10).cell rfl rfl (fillS (vs := [v_0_16]) rfl (h_0_18).cell rfl rfl fillN)))) ?_
   refine hb1 5 (by kernel_rfl) (hb_op rfl wn (nl (P := Try.prog) (fn := Try.f28)) ?_)
   have hS : St W g [] ((b1, blk [(.slice none 0 0), (.slice none 0 0), (.slice none 0 0), .int .i64 0, (.slice none 0 0), .int .i64 0, (.slice none 0 0), .int .i64 0, (.slice none 0 0), .int .i64 0, .int .i64 0] 27) :: (LX4 ++ (LX_0_17 ++ (LX9 ++ [])))) w := hS.re (.takeb (.there _ (.there _ (.there _ (.hereb _ _)))) (.take (.here _ _) (.take (.here _ _) (.take (.here _ _) (.nil _)))))
   refine o_storeP (vs := [v3, v8, v_0_16, .int .i64 0, (.slice none 0 0), .int .i64 0, (.slice none 0 0), .int .i64 0, (.slice none 0 0), .int .i64 0, .int .i64 0]) hS (hm := Upd.here _) (hi := by exact sz_api_State) (h1 := (onC (h5).one (onC (h10).one (onC (h_0_18).one (onC rfl (onC rfl (onC rfl (onC rfl (onC rfl (onC rfl (onC rfl (onC rfl onN)))))))))))) ?_
   clear hS; intro w hS
   refine hb_next (fun h => absurd h (by decide)) ?_
   refine hb_done (by kernel_rfl) ?_
   obtain rfl := Option.some.inj hF
   refine wp_ret (r_ret (vs := [.agg #[v3, v8, v_0_16, .int .i64 0, (.slice none 0 0), .int .i64 0, (.slice none 0 0), .int .i64 0, (.slice none 0 0), .int .i64 0, .int .i64 0]]) (L' := (LX4 ++ (LX9 ++ (LX_0_17 ++ [])))) (hS.re (.take (.thereb _ (.here _ _)) (.take (.thereb _ (.there _ (.here _ _))) (.take (.thereb _ (.here _ _)) (.nil _))))) (show resAll _ _ _ [.cell 2 27] _ from ⟨(res_cell (hS.own (mH)) Try.underlying27 rfl (by exact sz_api_State)), trivial⟩) rfl ⟨_, _, rfl, (by first | rfl | simp only [List.append_assoc, List.cons_append, List.nil_append, List.append_nil]), ⟨_, _, _, _, _, _, _, _, _, _, _, _, rfl, rfl, h5, h10, h_0_18, OwT.nil _ _ _, OwT.nil _ _ _, OwT.nil _ _ _⟩⟩)
 refine o_call (L1 := []) (L2 := ((b1, blk [(.slice none 0 0), (.slice none 0 0), (.slice none 0 0), .int .i64 0, (.slice none 0 0), .int .i64 0, (.slice none 0 0), .int .i64 0, (.slice none 0 0), .int .i64 0, .int .i64 0] 27) :: [])) hS Try.func45 rfl rfl (hc := (w_r0_CopyWords (a0 := a0) (h0 := h0.plus) (hF := hr12))) (h := ?_)
 clear hS; intro v13 LY14 w hS hr15
 obtain ⟨v_0_16, LX_0_17, rfl, rfl, h_0_18⟩ := hr15
 simp only [List.append_assoc, List.cons_append, List.nil_append] at hS
 refine hb_next (fun _ => (hS.re (.takeb (.there _ (.hereb _ _)) (.nil _))).cb) ?_
 refine hb2 0 1 (by kernel_rfl) (hb_op rfl wn (nl (P := Try.prog) (fn := Try.f28)) ?_) (hb_op rfl wn (nl (P := Try.prog) (fn := Try.f28)) ?_)
 · skip
   refine o_makeP hzs2 hS el_uint32 enc_len_uint32 mz_uint32 (by decide) ?_
   clear hS; intro v3 LX4 w h5 hS
   refine hb_next (fun _ => (hS.re (.takeb (.there _ (.there _ (.hereb _ _))) (.nil _))).cb) ?_
   refine hb1 1 (by kernel_rfl) (hb_op rfl wn (nl (P := Try.prog) (fn := Try.f28)) ?_)
   refine o_makeP hzs7 hS el_uint32 enc_len_uint32 mz_uint32 (by decide) ?_
   clear hS; intro v8 LX9 w h10 hS
   refine hb_next (fun _ => (hS.re (.takeb (.there _ (.there _ (.there _ (.hereb _ _)))) (.nil _))).cb) ?_
   refine hy0 4 rfl wn (by kernel_rfl) (nq (P := Try.prog) (fn := Try.f28)) (fun _ => (hS.re (.takeb (.there _ (.there _ (.there _ (.hereb _ _)))) (.nil _))).cb) (y_build (cl := [v3, v8, v_0_16, .int .i64 0, (.slice none 0 0), .int .i64 0, (.slice none 0 0), .int .i64 0, (.slice none 0 0), .int .i64 0, .int .i64 0]) bt_api_State rfl (fillS (vs := [v3]) rfl (h5).cell rfl rfl (fillS (vs := [v8]) rfl (h10).cell rfl rfl (fillS (vs := [v_0_16]) rfl (h_0_18).cell rfl rfl fillN)))) ?_
   refine hb1 5 (by kernel_rfl) (hb_op rfl wn (nl (P := Try.prog) (fn := Try.f28)) ?_)
   have hS : St W g [] ((b1, blk [(.slice none 0 0), (.slice none 0 0), (.slice none 0 0), .int .i64 0, (.slice none 0 0), .int .i64 0, (.slice none 0 0), .int .i64 0, (.slice none 0 0), .int .i64 0, .int .i64 0] 27) :: (LX9 ++ (LX4 ++ (LX_0_17 ++ [])))) w := hS.re (.takeb (.there _ (.there _ (.there _ (.hereb _ _)))) (.take (.here _ _) (.take (.here _ _) (.take (.here _ _) (.nil _)))))
   refine o_storeP (vs := [v3, v8, v_0_16, .int .i64 0, (.slice none 0 0), .int .i64 0, (.slice none 0 0), .int .i64 0, (.slice none 0 0), .int .i64 0, .int .i64 0]) hS (hm := Upd.here _) (hi := by exact sz_api_State) (h1 := (onC (h5).one (onC (h10).one (onC (h_0_18).one (onC rfl (onC rfl (onC rfl (onC rfl (onC rfl (onC rfl (onC rfl (onC rfl onN)))))))))))) ?_
   clear hS; intro w hS
   refine hb_next (fun h => absurd h (by decide)) ?_
   refine hb_done (by kernel_rfl) ?_
   obtain rfl := Option.some.inj hF
   refine wp_ret (r_ret (vs := [.agg #[v3, v8, v_0_16, .int .i64 0, (.slice none 0 0), .int .i64 0, (.slice none 0 0), .int .i64 0, (.slice none 0 0), .int .i64 0, .int .i64 0]]) (L' := (LX4 ++ (LX9 ++ (LX_0_17 ++ [])))) (hS.re (.take (.thereb _ (.there _ (.here _ _))) (.take (.thereb _ (.here _ _)) (.take (.thereb _ (.here _ _)) (.nil _))))) (show resAll _ _ _ [.cell 2 27] _ from ⟨(res_cell (hS.own (mH)) Try.underlying27 rfl (by exact sz_api_State)), trivial⟩) rfl ⟨_, _, rfl, (by first | rfl | simp only [List.append_assoc, List.cons_append, List.nil_append, List.append_nil]), ⟨_, _, _, _, _, _, _, _, _, _, _, _, rfl, rfl, h5, h10, h_0_18, OwT.nil _ _ _, OwT.nil _ _ _, OwT.nil _ _ _⟩⟩)
 refine o_makeP hzs7 hS el_uint32 enc_len_uint32 mz_uint32 (by decide) ?_
 clear hS; intro v8 LX9 w h10 hS
 refine hb_next (fun _ => (hS.re (.takeb (.there _ (.there _ (.hereb _ _))) (.nil _))).cb) ?_
 refine hb1 0 (by kernel_rfl) (hb_op rfl wn (nl (P := Try.prog) (fn := Try.f28)) ?_)
 refine o_makeP hzs2 hS el_uint32 enc_len_uint32 mz_uint32 (by decide) ?_
 clear hS; intro v3 LX4 w h5 hS
 refine hb_next (fun _ => (hS.re (.takeb (.there _ (.there _ (.there _ (.hereb _ _)))) (.nil _))).cb) ?_
 refine hy0 4 rfl wn (by kernel_rfl) (nq (P := Try.prog) (fn := Try.f28)) (fun _ => (hS.re (.takeb (.there _ (.there _ (.there _ (.hereb _ _)))) (.nil _))).cb) (y_build (cl := [v3, v8, v_0_16, .int .i64 0, (.slice none 0 0), .int .i64 0, (.slice none 0 0), .int .i64 0, (.slice none 0 0), .int .i64 0, .int .i64 0]) bt_api_State rfl (fillS (vs := [v3]) rfl (h5).cell rfl rfl (fillS (vs := [v8]) rfl (h10).cell rfl rfl (fillS (vs := [v_0_16]) rfl (h_0_18).cell rfl rfl fillN)))) ?_
 refine hb1 5 (by kernel_rfl) (hb_op rfl wn (nl (P := Try.prog) (fn := Try.f28)) ?_)
 have hS : St W g [] ((b1, blk [(.slice none 0 0), (.slice none 0 0), (.slice none 0 0), .int .i64 0, (.slice none 0 0), .int .i64 0, (.slice none 0 0), .int .i64 0, (.slice none 0 0), .int .i64 0, .int .i64 0] 27) :: (LX4 ++ (LX9 ++ (LX_0_17 ++ [])))) w := hS.re (.takeb (.there _ (.there _ (.there _ (.hereb _ _)))) (.take (.here _ _) (.take (.here _ _) (.take (.here _ _) (.nil _)))))
 refine o_storeP (vs := [v3, v8, v_0_16, .int .i64 0, (.slice none 0 0), .int .i64 0, (.slice none 0 0), .int .i64 0, (.slice none 0 0), .int .i64 0, .int .i64 0]) hS (hm := Upd.here _) (hi := by exact sz_api_State) (h1 := (onC (h5).one (onC (h10).one (onC (h_0_18).one (onC rfl (onC rfl (onC rfl (onC rfl (onC rfl (onC rfl (onC rfl (onC rfl onN)))))))))))) ?_
 clear hS; intro w hS
 refine hb_next (fun h => absurd h (by decide)) ?_
 refine hb_done (by kernel_rfl) ?_
 obtain rfl := Option.some.inj hF
 refine wp_ret (r_ret (vs := [.agg #[v3, v8, v_0_16, .int .i64 0, (.slice none 0 0), .int .i64 0, (.slice none 0 0), .int .i64 0, (.slice none 0 0), .int .i64 0, .int .i64 0]]) (L' := (LX4 ++ (LX9 ++ (LX_0_17 ++ [])))) (hS.re (.take (.thereb _ (.here _ _)) (.take (.thereb _ (.here _ _)) (.take (.thereb _ (.here _ _)) (.nil _))))) (show resAll _ _ _ [.cell 2 27] _ from ⟨(res_cell (hS.own (mH)) Try.underlying27 rfl (by exact sz_api_State)), trivial⟩) rfl ⟨_, _, rfl, (by first | rfl | simp only [List.append_assoc, List.cons_append, List.nil_append, List.append_nil]), ⟨_, _, _, _, _, _, _, _, _, _, _, _, rfl, rfl, h5, h10, h_0_18, OwT.nil _ _ _, OwT.nil _ _ _, OwT.nil _ _ _⟩⟩)
theorem w_r5_New {g : Frag} {a0 : (List Int)} {v0_ : Value} {r : T_State} (h0 : SlT g enc_uint32 1 a0 v0_) (hF : r5_New a0 = some r) : LC Try.prog 28 #[v0_] g [] (fun v L => ∃ (u0 : Value) (M0 : Own), u0 = v ∧ L = (M0 ++ []) ∧ Ow_State r u0 M0) := w_r5_New_ h0 hF

noncomputable def r0_EqCodes_b1 (a0 : (List T_Ins)) (a1 : (List T_Ins)) : Int → Option (Step Int Bool) := fun x28 => bif decide (x28 < (a0.length : Int)) then (at' a0 x28).bind fun x60 => (at' a1 x28).bind fun x72 => bif !(eqb_Ins x60 x72) then some (.done (false)) else some (.next (IntKind.i64.wrap (x28 + 1))) else some (.done (true))
noncomputable def r0_EqCodes (a0 : (List T_Ins)) (a1 : (List T_Ins)) : Option Bool :=
  bif decide ((a0.length : Int) ≠ (a1.length : Int)) then some (false) else loop (σ := Int) (r0_EqCodes_b1 a0 a1) 0
set_option maxHeartbeats 2000000 in
theorem w_r0_EqCodes_ {g : Frag} {a0 : (List T_Ins)} {v0_ : Value} {a1 : (List T_Ins)} {v1_ : Value} {r : Bool} (h0 : SlT g enc_Ins 6 a0 v0_) (h1 : SlT g enc_Ins 6 a1 v1_) (hF : r0_EqCodes a0 a1 = some r) : LCs Try.prog 31 #[v0_, v1_] g (.bool r) := by
 unfold r0_EqCodes at hF
 refine lc_body (k := 26) (av := [v0_, v1_]) Try.func31 rfl rfl (h := fun W hS => ?_)
 refine c_seq ?_
 refine c_region ?_
 refine oy hS y_assign ?_
 refine n_thenN ?_
 iterate 2 (refine c_seq ?_)
 refine c_region ?_
 refine oy hS y_move ?_
 refine oy hS (y_len h0 Try.underlying22) ?_
 refine oy hS y_move ?_
 refine oy hS (y_len h1 Try.underlying22) ?_
 refine oy hS y_bin ?_
 refine n_thenN ?_
 refine c_if (ht := fun c1 => ?_) (hf := fun c1 => ?_)
 · replace hF := bt c1 hF
   refine c_seq ?_
   refine c_region ?_
   refine oy hS y_assign ?_
   refine n_thenN ?_
   obtain rfl := Option.some.inj hF
   exact wp_ret (wr1 hS)
 replace hF := bf c1 hF
 refine wp_skip ?_
 iterate 2 (refine c_seq ?_)
 refine c_region ?_
 refine oy hS y_assign ?_
 refine n_thenN ?_
 refine c_block ?_
 refine c_loopP hF (fun (q : Int) a w' => (∃ s : Nat → Value, a = Ac (.lit 26 [v0_, v1_, s 2, s 3, s 4, .int .i64 q, s 6, s 7, s 8, s 9, s 10, s 11, s 12, s 13, s 14, s 15, s 16, s 17, s 18, s 19, s 20, s 21, s 22, s 23, s 24, s 25])) ∧ St W g [] [] w') ⟨mk_ex, (hS.re (.nil _))⟩ ?_
 clear hS hF
 intro n57 q a w hI hq
 revert hq hI; revert q; intro x28 hI hq
 obtain ⟨⟨s58, rfl⟩, hS⟩ := hq
 obtain ⟨z55, hF, hK56⟩ := iter_step hI
 clear hI
 dsimp only [r0_EqCodes_b1] at hF
 iterate 2 (refine c_seq ?_)
 refine c_region ?_
 iterate 2 (refine oy hS y_move ?_)
 refine oy hS (y_len h0 Try.underlying22) ?_
 refine oy hS y_bin ?_
 refine n_thenN ?_
 refine c_if (ht := fun c59 => ?_) (hf := fun c59 => ?_)
 · replace hF := bt c59 hF
   refine wp_skip ?_
   refine c_seq ?_
   refine c_block ?_
   refine c_seq ?_
   refine c_quiet (by kernel_rfl) (by kernel_rfl) hS ?_
   iterate 2 (refine qy y_move ?_)
   obtain ⟨x60, hx60, hF⟩ := ob hF
   obtain ⟨b61, o62, c63, cs64, e65, fz66, hv67, ha68, hb69, hd70, hc71⟩ := SlT.at hx60 h0 enc_len_Ins
   refine qy (y_index hv67 ha68 hb69 Try.underlying22 el_api_Ins.size) ?_
   refine qy (y_loadN (vs := [.int .i64 x60.Op, .int .i64 x60.D, .int .i64 x60.A, .int .i64 x60.B, .int .i64 x60.Imm, .string x60.Sym]) (fun w hS => hS.block hd70) Try.underlying43 rfl (by exact sz_api_Ins) (fun j u hj => hc71 j u hj)) ?_
   iterate 2 (refine qy y_move ?_)
   obtain ⟨x72, hx72, hF⟩ := ob hF
   obtain ⟨b73, o74, c75, cs76, e77, fz78, hv79, ha80, hb81, hd82, hc83⟩ := SlT.at hx72 h1 enc_len_Ins
   refine qy (y_index hv79 ha80 hb81 Try.underlying22 el_api_Ins.size) ?_
   refine qy (y_loadN (vs := [.int .i64 x72.Op, .int .i64 x72.D, .int .i64 x72.A, .int .i64 x72.B, .int .i64 x72.Imm, .string x72.Sym]) (fun w hS => hS.block hd82) Try.underlying43 rfl (by exact sz_api_Ins) (fun j u hj => hc83 j u hj)) ?_
   refine qy (y_neq_Ins) ?_
   refine q_nilN (h := ?_)
   clear hS; intro w hS
   refine c_if (ht := fun c84 => ?_) (hf := fun c84 => ?_)
   · replace hF := bt c84 hF
     refine c_seq ?_
     refine c_region ?_
     refine oy hS y_assign ?_
     refine n_thenN ?_
     obtain rfl := Option.some.inj hF
     obtain rfl : _ = r := hK56
     exact wp_ret (wr1 hS)
   replace hF := bf c84 hF
   refine wp_skip ?_
   refine c_region ?_
   refine oy hS y_move ?_
   refine oy hS y_bin ?_
   refine oy hS y_assign ?_
   refine n_thenN ?_
   obtain rfl := Option.some.inj hF
   exact ⟨_, hK56, mk_ex, (hS.re (.nil _))⟩
 replace hF := bf c59 hF
 refine wp_exit ?_
 refine c_seq ?_
 refine c_region ?_
 refine oy hS y_assign ?_
 refine n_thenN ?_
 obtain rfl := Option.some.inj hF
 obtain rfl : _ = r := hK56
 exact wp_ret (wr1 hS)
theorem w_r0_EqCodes {g : Frag} {a0 : (List T_Ins)} {v0_ : Value} {a1 : (List T_Ins)} {v1_ : Value} {r : Bool} (h0 : SlT g enc_Ins 6 a0 v0_) (h1 : SlT g enc_Ins 6 a1 v1_) (hF : r0_EqCodes a0 a1 = some r) : LCs Try.prog 31 #[v0_, v1_] g (.bool r) := w_r0_EqCodes_ h0 h1 hF

noncomputable def l0_Words_b1  : ((List Int) × Int) → Option (Step ((List Int) × Int) Unit) := fun (x13, x18) => bif decide (x18 < (x13.length : Int)) then (set' x13 x18 3735928559).bind fun zs43 => some (.next (zs43, IntKind.i64.wrap (x18 + 1))) else some (.done (()))
noncomputable def l0_Words (a0 : (List Int)) : Option Unit :=
  loop (σ := ((List Int) × Int)) (l0_Words_b1) (a0, 0)
set_option maxHeartbeats 2000000 in
theorem w_l0_Words_ {g : Frag} {a0 : (List Int)} {v0_ : Value} {LB0_ : Own} {r : Unit} (h0 : OwT 63 enc_uint32 1 a0 v0_ LB0_) (hF : l0_Words a0 = some r) : LC Try.prog 51 #[v0_] g (LB0_ ++ []) (fun v L => v = .tuple #[] ∧ L = []) := by
 unfold l0_Words at hF
 refine lc_body (k := 12) (av := [v0_]) Try.func51 rfl rfl (h := fun W hS => ?_)
 refine c_seq ?_
 refine c_region ?_
 refine oy hS y_assign ?_
 refine n_thenN ?_
 refine c_block ?_
 refine c_loopP hF (fun (q : ((List Int) × Int)) a w' => ∃ (v14 : Value) (LX16 : Own), OwT 63 enc_uint32 1 q.1 v14 LX16 ∧ (∃ s : Nat → Value, a = Ac (.lit 12 [v14, s 1, .int .i64 q.2, s 3, s 4, s 5, s 6, s 7, s 8, s 9, s 10, s 11])) ∧ St W g ((LB0_ ++ [])) (LX16 ++ []) w') ⟨v0_, LB0_, h0, mk_ex, (hS.re (.take (.here _ _) (.nil _)))⟩ ?_
 clear hS hF
 intro n33 q a w hI hq
 obtain ⟨x13, x18⟩ := q
 obtain ⟨v14, LX16, h15, ⟨s34, rfl⟩, hS⟩ := hq
 replace h15 : OwT 63 enc_uint32 1 x13 v14 LX16 := h15
 obtain ⟨z31, hF, hK32⟩ := iter_step hI
 clear hI
 dsimp only [l0_Words_b1] at hF
 iterate 2 (refine c_seq ?_)
 refine c_region ?_
 iterate 2 (refine oy hS y_move ?_)
 refine oy hS (y_lenO h15 Try.underlying23) ?_
 refine oy hS y_bin ?_
 refine n_thenN ?_
 refine c_if (ht := fun c35 => ?_) (hf := fun c35 => ?_)
 · replace hF := bt c35 hF
   refine wp_skip ?_
   refine c_seq ?_
   refine c_block ?_
   refine c_region ?_
   iterate 2 (refine oy hS y_move ?_)
   obtain ⟨zs43, hzs43, hF⟩ := ob hF
   obtain ⟨b36, c37, cl38, hv39, ha40, hb41, hl42⟩ := OwT.at_set hzs43 h15 enc_len_uint32
   refine oy hS (y_index hv39 ha40 hb41 Try.underlying23 el_uint32.size) ?_
   refine o_storeO (L' := fun X => (X ++ [])) hzs43 hS h15 hl42 (fun X => .here _) enc_len_uint32 rfl (by exact sz_uint32) rfl rfl ?_
   clear hS; intro LX44 w h45 hS
   refine n_anyN ?_
   refine c_region ?_
   refine oy hS y_move ?_
   refine oy hS y_bin ?_
   refine oy hS y_assign ?_
   refine n_thenN ?_
   obtain rfl := Option.some.inj hF
   exact ⟨_, hK32, v14, LX44, h45, mk_ex, (hS.re (.take (.here _ _) (.nil _)))⟩
 replace hF := bf c35 hF
 refine wp_exit ?_
 obtain rfl := Option.some.inj hF
 obtain rfl : _ = r := hK32
 refine (r_end (vs := []) (hS.re (.nil _)) (show resAll _ _ _ [] _ from trivial) rfl ⟨rfl, rfl⟩)
theorem w_l0_Words {g : Frag} {a0 : (List Int)} {v0_ : Value} {LB0_ : Own} {r : Unit} (h0 : OwT 63 enc_uint32 1 a0 v0_ LB0_) (hF : l0_Words a0 = some r) : LC Try.prog 51 #[v0_] g (LB0_ ++ []) (fun v L => v = .tuple #[] ∧ L = []) := w_l0_Words_ h0 hF

noncomputable def l0_State_b2  : (Int × (List Int)) → Option (Step (Int × (List Int)) (Step (List Int) Unit)) := fun (x83, x84) => bif decide (x83 < (x84.length : Int)) then (set' x84 x83 (-9)).bind fun zs113 => some (.next (IntKind.i64.wrap (x83 + 1), zs113)) else some (.done (.next x84))
noncomputable def l0_State_b3  : (Int × (List T_Write)) → Option (Step (Int × (List T_Write)) Unit) := fun (x130, x131) => bif decide (x130 < (x131.length : Int)) then (set' x131 x130 (⟨(-9), 0, 0⟩ : T_Write)).bind fun zs160 => some (.next (IntKind.i64.wrap (x130 + 1), zs160)) else some (.done (()))
noncomputable def l0_State_k1 (a0 : T_State) : (List Int) → Option Unit := fun x64 => loop (σ := (Int × (List T_Write))) (l0_State_b3) (0, a0.Fly)
noncomputable def l0_State (a0 : T_State) : Option Unit :=
  (l0_Words a0.Regs).bind fun r2 => (l0_Words a0.Mem).bind fun r6 => (l0_Words a0.In_).bind fun r10 => (l0_Words a0.Out).bind fun r14 => cut (σ := (List Int)) (loop (σ := (Int × (List Int))) (l0_State_b2) (0, a0.Stack)) (l0_State_k1 a0)
set_option maxHeartbeats 2000000 in
theorem w_l0_State_ {g : Frag} {a0 : T_State} {v0_ : Value} {LB0_ : Own} {r : Unit} (h0 : Ow_State a0 v0_ LB0_) (hF : l0_State a0 = some r) : LC Try.prog 32 #[v0_] g LB0_ (fun v L => v = .tuple #[] ∧ L = []) := by
 obtain ⟨vP0_0_1, vP0_1_5, vP0_2_9, vP0_4_13, vP0_6_17, vP0_8_21, LXP0_0_2, LXP0_1_6, LXP0_2_10, LXP0_4_14, LXP0_6_18, LXP0_8_22, rfl, rfl, hP0_0_3, hP0_1_7, hP0_2_11, hP0_4_15, hP0_6_19, hP0_8_23⟩ := h0
 unfold l0_State at hF
 refine lc_body (k := 39) (av := [.agg #[vP0_0_1, vP0_1_5, vP0_2_9, .int .i64 a0.Taken, vP0_4_13, .int .i64 a0.PC, vP0_6_17, .int .i64 a0.Stop, vP0_8_21, .int .i64 a0.Jump, .int .i64 a0.Delay]]) Try.func32 rfl rfl (h := fun W hS => ?_)
 refine c_seq ?_
 refine c_region ?_
 refine o_boxP (cl := [vP0_0_1, vP0_1_5, vP0_2_9, .int .i64 a0.Taken, vP0_4_13, .int .i64 a0.PC, vP0_6_17, .int .i64 a0.Stop, vP0_8_21, .int .i64 a0.Jump, .int .i64 a0.Delay]) rfl hS ?_
 clear hS; intro b1 w hS
 refine n_thenN ?_
 refine c_seq ?_
 refine c_region ?_
 refine oy hS (y_field fa_api_State_0) ?_
 refine oy hS (y_load (fun w hS => hS.own (mH)) Try.underlying23 rfl rfl) ?_
 have hS : St W g ((LXP0_0_2 ++ (LXP0_1_6 ++ (LXP0_2_10 ++ (LXP0_4_14 ++ (LXP0_6_18 ++ (LXP0_8_22 ++ []))))))) (LXP0_0_2 ++ ((b1, blk [vP0_0_1, vP0_1_5, vP0_2_9, .int .i64 a0.Taken, vP0_4_13, .int .i64 a0.PC, vP0_6_17, .int .i64 a0.Stop, vP0_8_21, .int .i64 a0.Jump, .int .i64 a0.Delay] 27) :: (LXP0_1_6 ++ (LXP0_2_10 ++ (LXP0_4_14 ++ (LXP0_6_18 ++ (LXP0_8_22 ++ []))))))) w := hS.re (.take (.thereb _ (.here _ _)) (.takeb (.hereb _ _) (.take (.here _ _) (.take (.here _ _) (.take (.here _ _) (.take (.here _ _) (.take (.here _ _) (.nil _))))))))
 have hS2 : St W g ((LXP0_0_2 ++ (LXP0_1_6 ++ (LXP0_2_10 ++ (LXP0_4_14 ++ (LXP0_6_18 ++ (LXP0_8_22 ++ []))))))) ((LXP0_0_2 ++ []) ++ ((b1, blk [vP0_0_1, vP0_1_5, vP0_2_9, .int .i64 a0.Taken, vP0_4_13, .int .i64 a0.PC, vP0_6_17, .int .i64 a0.Stop, vP0_8_21, .int .i64 a0.Jump, .int .i64 a0.Delay] 27) :: (LXP0_1_6 ++ (LXP0_2_10 ++ (LXP0_4_14 ++ (LXP0_6_18 ++ (LXP0_8_22 ++ []))))))) w := by simpa only [List.append_assoc, List.cons_append, List.nil_append, List.append_nil] using hS
 obtain ⟨r2, hr2, hF⟩ := ob hF
 refine o_call (L1 := (LXP0_0_2 ++ [])) (L2 := ((b1, blk [vP0_0_1, vP0_1_5, vP0_2_9, .int .i64 a0.Taken, vP0_4_13, .int .i64 a0.PC, vP0_6_17, .int .i64 a0.Stop, vP0_8_21, .int .i64 a0.Jump, .int .i64 a0.Delay] 27) :: (LXP0_1_6 ++ (LXP0_2_10 ++ (LXP0_4_14 ++ (LXP0_6_18 ++ (LXP0_8_22 ++ []))))))) hS2 Try.func51 rfl rfl (hc := (w_l0_Words (a0 := a0.Regs) (h0 := hP0_0_3) (hF := hr2))) (h := ?_)
 clear hS; intro v3 LY4 w hS hr5
 clear hS2
 obtain ⟨rfl, rfl⟩ := hr5
 refine n_thenN ?_
 refine c_seq ?_
 refine c_region ?_
 refine oy hS (y_field fa_api_State_1) ?_
 refine oy hS (y_load (fun w hS => hS.own (mH)) Try.underlying23 rfl rfl) ?_
 have hS : St W g ((LXP0_0_2 ++ (LXP0_1_6 ++ (LXP0_2_10 ++ (LXP0_4_14 ++ (LXP0_6_18 ++ (LXP0_8_22 ++ []))))))) (LXP0_1_6 ++ ((b1, blk [vP0_0_1, vP0_1_5, vP0_2_9, .int .i64 a0.Taken, vP0_4_13, .int .i64 a0.PC, vP0_6_17, .int .i64 a0.Stop, vP0_8_21, .int .i64 a0.Jump, .int .i64 a0.Delay] 27) :: (LXP0_2_10 ++ (LXP0_4_14 ++ (LXP0_6_18 ++ (LXP0_8_22 ++ [])))))) w := hS.re (.take (.thereb _ (.here _ _)) (.takeb (.hereb _ _) (.take (.here _ _) (.take (.here _ _) (.take (.here _ _) (.take (.here _ _) (.nil _)))))))
 have hS2 : St W g ((LXP0_0_2 ++ (LXP0_1_6 ++ (LXP0_2_10 ++ (LXP0_4_14 ++ (LXP0_6_18 ++ (LXP0_8_22 ++ []))))))) ((LXP0_1_6 ++ []) ++ ((b1, blk [vP0_0_1, vP0_1_5, vP0_2_9, .int .i64 a0.Taken, vP0_4_13, .int .i64 a0.PC, vP0_6_17, .int .i64 a0.Stop, vP0_8_21, .int .i64 a0.Jump, .int .i64 a0.Delay] 27) :: (LXP0_2_10 ++ (LXP0_4_14 ++ (LXP0_6_18 ++ (LXP0_8_22 ++ [])))))) w := by simpa only [List.append_assoc, List.cons_append, List.nil_append, List.append_nil] using hS
 obtain ⟨r6, hr6, hF⟩ := ob hF
 refine o_call (L1 := (LXP0_1_6 ++ [])) (L2 := ((b1, blk [vP0_0_1, vP0_1_5, vP0_2_9, .int .i64 a0.Taken, vP0_4_13, .int .i64 a0.PC, vP0_6_17, .int .i64 a0.Stop, vP0_8_21, .int .i64 a0.Jump, .int .i64 a0.Delay] 27) :: (LXP0_2_10 ++ (LXP0_4_14 ++ (LXP0_6_18 ++ (LXP0_8_22 ++ [])))))) hS2 Try.func51 rfl rfl (hc := (w_l0_Words (a0 := a0.Mem) (h0 := hP0_1_7) (hF := hr6))) (h := ?_)
 clear hS; intro v7 LY8 w hS hr9
 clear hS2
 obtain ⟨rfl, rfl⟩ := hr9
 refine n_thenN ?_
 refine c_seq ?_
 refine c_region ?_
 refine oy hS (y_field fa_api_State_2) ?_
 refine oy hS (y_load (fun w hS => hS.own (mH)) Try.underlying23 rfl rfl) ?_
 have hS : St W g ((LXP0_0_2 ++ (LXP0_1_6 ++ (LXP0_2_10 ++ (LXP0_4_14 ++ (LXP0_6_18 ++ (LXP0_8_22 ++ []))))))) (LXP0_2_10 ++ ((b1, blk [vP0_0_1, vP0_1_5, vP0_2_9, .int .i64 a0.Taken, vP0_4_13, .int .i64 a0.PC, vP0_6_17, .int .i64 a0.Stop, vP0_8_21, .int .i64 a0.Jump, .int .i64 a0.Delay] 27) :: (LXP0_4_14 ++ (LXP0_6_18 ++ (LXP0_8_22 ++ []))))) w := hS.re (.take (.thereb _ (.here _ _)) (.takeb (.hereb _ _) (.take (.here _ _) (.take (.here _ _) (.take (.here _ _) (.nil _))))))
 have hS2 : St W g ((LXP0_0_2 ++ (LXP0_1_6 ++ (LXP0_2_10 ++ (LXP0_4_14 ++ (LXP0_6_18 ++ (LXP0_8_22 ++ []))))))) ((LXP0_2_10 ++ []) ++ ((b1, blk [vP0_0_1, vP0_1_5, vP0_2_9, .int .i64 a0.Taken, vP0_4_13, .int .i64 a0.PC, vP0_6_17, .int .i64 a0.Stop, vP0_8_21, .int .i64 a0.Jump, .int .i64 a0.Delay] 27) :: (LXP0_4_14 ++ (LXP0_6_18 ++ (LXP0_8_22 ++ []))))) w := by simpa only [List.append_assoc, List.cons_append, List.nil_append, List.append_nil] using hS
 obtain ⟨r10, hr10, hF⟩ := ob hF
 refine o_call (L1 := (LXP0_2_10 ++ [])) (L2 := ((b1, blk [vP0_0_1, vP0_1_5, vP0_2_9, .int .i64 a0.Taken, vP0_4_13, .int .i64 a0.PC, vP0_6_17, .int .i64 a0.Stop, vP0_8_21, .int .i64 a0.Jump, .int .i64 a0.Delay] 27) :: (LXP0_4_14 ++ (LXP0_6_18 ++ (LXP0_8_22 ++ []))))) hS2 Try.func51 rfl rfl (hc := (w_l0_Words (a0 := a0.In_) (h0 := hP0_2_11) (hF := hr10))) (h := ?_)
 clear hS; intro v11 LY12 w hS hr13
 clear hS2
 obtain ⟨rfl, rfl⟩ := hr13
 refine n_thenN ?_
 refine c_seq ?_
 refine c_region ?_
 refine oy hS (y_field fa_api_State_4) ?_
 refine oy hS (y_load (fun w hS => hS.own (mH)) Try.underlying23 rfl rfl) ?_
 have hS : St W g ((LXP0_0_2 ++ (LXP0_1_6 ++ (LXP0_2_10 ++ (LXP0_4_14 ++ (LXP0_6_18 ++ (LXP0_8_22 ++ []))))))) (LXP0_4_14 ++ ((b1, blk [vP0_0_1, vP0_1_5, vP0_2_9, .int .i64 a0.Taken, vP0_4_13, .int .i64 a0.PC, vP0_6_17, .int .i64 a0.Stop, vP0_8_21, .int .i64 a0.Jump, .int .i64 a0.Delay] 27) :: (LXP0_6_18 ++ (LXP0_8_22 ++ [])))) w := hS.re (.take (.thereb _ (.here _ _)) (.takeb (.hereb _ _) (.take (.here _ _) (.take (.here _ _) (.nil _)))))
 have hS2 : St W g ((LXP0_0_2 ++ (LXP0_1_6 ++ (LXP0_2_10 ++ (LXP0_4_14 ++ (LXP0_6_18 ++ (LXP0_8_22 ++ []))))))) ((LXP0_4_14 ++ []) ++ ((b1, blk [vP0_0_1, vP0_1_5, vP0_2_9, .int .i64 a0.Taken, vP0_4_13, .int .i64 a0.PC, vP0_6_17, .int .i64 a0.Stop, vP0_8_21, .int .i64 a0.Jump, .int .i64 a0.Delay] 27) :: (LXP0_6_18 ++ (LXP0_8_22 ++ [])))) w := by simpa only [List.append_assoc, List.cons_append, List.nil_append, List.append_nil] using hS
 obtain ⟨r14, hr14, hF⟩ := ob hF
 refine o_call (L1 := (LXP0_4_14 ++ [])) (L2 := ((b1, blk [vP0_0_1, vP0_1_5, vP0_2_9, .int .i64 a0.Taken, vP0_4_13, .int .i64 a0.PC, vP0_6_17, .int .i64 a0.Stop, vP0_8_21, .int .i64 a0.Jump, .int .i64 a0.Delay] 27) :: (LXP0_6_18 ++ (LXP0_8_22 ++ [])))) hS2 Try.func51 rfl rfl (hc := (w_l0_Words (a0 := a0.Out) (h0 := hP0_4_15) (hF := hr14))) (h := ?_)
 clear hS; intro v15 LY16 w hS hr17
 clear hS2
 obtain ⟨rfl, rfl⟩ := hr17
 refine n_thenN ?_
 obtain ⟨z69, hF, hK70⟩ := cut_step hF
 refine c_cutP (fun a w' => ∃ (x64 : (List Int)) (v65 : Value) (LX67 : Own), l0_State_k1 a0 x64 = some r ∧ OwT 3 enc_int 1 x64 v65 LX67 ∧ (∃ s : Nat → Value, a = Ac (.lit 39 [s 0, .pointer (some ⟨b1, 0, none⟩), s 2, s 3, s 4, s 5, s 6, s 7, s 8, s 9, s 10, s 11, s 12, s 13, s 14, s 15, s 16, s 17, s 18, s 19, s 20, s 21, s 22, s 23, s 24, s 25, s 26, s 27, s 28, s 29, s 30, s 31, s 32, s 33, s 34, s 35, s 36, s 37, s 38])) ∧ St W g ((LXP0_0_2 ++ (LXP0_1_6 ++ (LXP0_2_10 ++ (LXP0_4_14 ++ (LXP0_6_18 ++ (LXP0_8_22 ++ []))))))) ((b1, blk [vP0_0_1, vP0_1_5, vP0_2_9, .int .i64 a0.Taken, vP0_4_13, .int .i64 a0.PC, v65, .int .i64 a0.Stop, vP0_8_21, .int .i64 a0.Jump, .int .i64 a0.Delay] 27) :: (LX67 ++ (LXP0_8_22 ++ []))) w') ?_ ?_
 · skip
   refine c_seq ?_
   refine c_region ?_
   refine oy hS y_assign ?_
   refine n_thenN ?_
   refine c_block ?_
   refine c_loopP hF (fun (q : (Int × (List Int))) a w' => ∃ (v85 : Value) (LX87 : Own), OwT 3 enc_int 1 q.2 v85 LX87 ∧ (∃ s : Nat → Value, a = Ac (.lit 39 [s 0, .pointer (some ⟨b1, 0, none⟩), .int .i64 q.1, s 3, s 4, s 5, s 6, s 7, s 8, s 9, s 10, s 11, s 12, s 13, s 14, s 15, s 16, s 17, s 18, s 19, s 20, s 21, s 22, s 23, s 24, s 25, s 26, s 27, s 28, s 29, s 30, s 31, s 32, s 33, s 34, s 35, s 36, s 37, s 38])) ∧ St W g ((LXP0_0_2 ++ (LXP0_1_6 ++ (LXP0_2_10 ++ (LXP0_4_14 ++ (LXP0_6_18 ++ (LXP0_8_22 ++ []))))))) ((b1, blk [vP0_0_1, vP0_1_5, vP0_2_9, .int .i64 a0.Taken, vP0_4_13, .int .i64 a0.PC, v85, .int .i64 a0.Stop, vP0_8_21, .int .i64 a0.Jump, .int .i64 a0.Delay] 27) :: (LX87 ++ (LXP0_8_22 ++ []))) w') ⟨vP0_6_17, LXP0_6_18, hP0_6_19, mk_ex, (hS.re (.takeb (.hereb _ _) (.take (.here _ _) (.take (.here _ _) (.nil _)))))⟩ ?_
   clear hS hF
   intro n103 q a w hI hq
   obtain ⟨x83, x84⟩ := q
   obtain ⟨v85, LX87, h86, ⟨s104, rfl⟩, hS⟩ := hq
   replace h86 : OwT 3 enc_int 1 x84 v85 LX87 := h86
   obtain ⟨z101, hF, hK102⟩ := iter_step hI
   clear hI
   dsimp only [l0_State_b2] at hF
   iterate 2 (refine c_seq ?_)
   refine c_region ?_
   refine oy hS y_move ?_
   refine oy hS (y_field fa_api_State_6) ?_
   refine oy hS (y_load (fun w hS => hS.own (mH)) Try.underlying24 rfl rfl) ?_
   refine oy hS (y_lenO h86 Try.underlying24) ?_
   refine oy hS y_bin ?_
   refine n_thenN ?_
   refine c_if (ht := fun c105 => ?_) (hf := fun c105 => ?_)
   · replace hF := bt c105 hF
     refine wp_skip ?_
     refine c_seq ?_
     refine c_block ?_
     refine c_region ?_
     refine oy hS (y_field fa_api_State_6) ?_
     refine oy hS (y_load (fun w hS => hS.own (mH)) Try.underlying24 rfl rfl) ?_
     refine oy hS y_move ?_
     obtain ⟨zs113, hzs113, hF⟩ := ob hF
     obtain ⟨b106, c107, cl108, hv109, ha110, hb111, hl112⟩ := OwT.at_set hzs113 h86 enc_len_int
     refine oy hS (y_index hv109 ha110 hb111 Try.underlying24 el_int.size) ?_
     refine o_storeO (L' := fun X => ((b1, blk [vP0_0_1, vP0_1_5, vP0_2_9, .int .i64 a0.Taken, vP0_4_13, .int .i64 a0.PC, v85, .int .i64 a0.Stop, vP0_8_21, .int .i64 a0.Jump, .int .i64 a0.Delay] 27) :: (X ++ (LXP0_8_22 ++ [])))) hzs113 hS h86 hl112 (fun X => .thereb _ (.here _)) enc_len_int rfl (by exact sz_int) rfl rfl ?_
     clear hS; intro LX114 w h115 hS
     refine n_anyN ?_
     refine c_region ?_
     refine oy hS y_move ?_
     refine oy hS y_bin ?_
     refine oy hS y_assign ?_
     refine n_thenN ?_
     obtain rfl := Option.some.inj hF
     exact ⟨_, hK102, v85, LX114, h115, mk_ex, (hS.re (.takeb (.hereb _ _) (.take (.here _ _) (.take (.here _ _) (.nil _)))))⟩
   replace hF := bf c105 hF
   refine wp_exit ?_
   obtain rfl := Option.some.inj hF
   obtain rfl : _ = z69 := hK102
   change ∃ _, _
   exact ⟨x84, v85, LX87, hK70, h86, mk_ex, (hS.re (.takeb (.hereb _ _) (.take (.here _ _) (.take (.here _ _) (.nil _)))))⟩
 rintro a w ⟨x64, v65, LX67, hF, h66, ⟨s117, rfl⟩, hS⟩
 dsimp only [l0_State_k1] at hF
 refine c_seq ?_
 refine c_region ?_
 refine oy hS y_assign ?_
 refine n_thenN ?_
 refine c_block ?_
 refine c_loopP hF (fun (q : (Int × (List T_Write))) a w' => ∃ (v132 : Value) (LX134 : Own), OwT 71 enc_Write 3 q.2 v132 LX134 ∧ (∃ s : Nat → Value, a = Ac (.lit 39 [s 0, .pointer (some ⟨b1, 0, none⟩), s 2, .int .i64 q.1, s 4, s 5, s 6, s 7, s 8, s 9, s 10, s 11, s 12, s 13, s 14, s 15, s 16, s 17, s 18, s 19, s 20, s 21, s 22, s 23, s 24, s 25, s 26, s 27, s 28, s 29, s 30, s 31, s 32, s 33, s 34, s 35, s 36, s 37, s 38])) ∧ St W g ((LXP0_0_2 ++ (LXP0_1_6 ++ (LXP0_2_10 ++ (LXP0_4_14 ++ (LXP0_6_18 ++ (LXP0_8_22 ++ []))))))) ((b1, blk [vP0_0_1, vP0_1_5, vP0_2_9, .int .i64 a0.Taken, vP0_4_13, .int .i64 a0.PC, v65, .int .i64 a0.Stop, v132, .int .i64 a0.Jump, .int .i64 a0.Delay] 27) :: (LX67 ++ (LX134 ++ []))) w') ⟨vP0_8_21, LXP0_8_22, hP0_8_23, mk_ex, (hS.re (.takeb (.hereb _ _) (.take (.here _ _) (.take (.here _ _) (.nil _)))))⟩ ?_
 clear hS hF
 intro n150 q a w hI hq
 obtain ⟨x130, x131⟩ := q
 obtain ⟨v132, LX134, h133, ⟨s151, rfl⟩, hS⟩ := hq
 replace h133 : OwT 71 enc_Write 3 x131 v132 LX134 := h133
 obtain ⟨z148, hF, hK149⟩ := iter_step hI
 clear hI
 dsimp only [l0_State_b3] at hF
 iterate 2 (refine c_seq ?_)
 refine c_region ?_
 refine oy hS y_move ?_
 refine oy hS (y_field fa_api_State_8) ?_
 refine oy hS (y_load (fun w hS => hS.own (mH)) Try.underlying25 rfl rfl) ?_
 refine oy hS (y_lenO h133 Try.underlying25) ?_
 refine oy hS y_bin ?_
 refine n_thenN ?_
 refine c_if (ht := fun c152 => ?_) (hf := fun c152 => ?_)
 · replace hF := bt c152 hF
   refine wp_skip ?_
   refine c_seq ?_
   refine c_block ?_
   refine c_region ?_
   refine oy hS (y_field fa_api_State_8) ?_
   refine oy hS (y_load (fun w hS => hS.own (mH)) Try.underlying25 rfl rfl) ?_
   refine oy hS y_move ?_
   refine oy hS (y_build (cl := [.int .i64 (-9), .int .u32 0, .int .i64 0]) bt_api_Write rfl (fillS (vs := [.int .i64 (-9)]) rfl rfl rfl rfl fillN)) ?_
   obtain ⟨zs160, hzs160, hF⟩ := ob hF
   obtain ⟨b153, c154, cl155, hv156, ha157, hb158, hl159⟩ := OwT.at_set hzs160 h133 enc_len_Write
   refine oy hS (y_index hv156 ha157 hb158 Try.underlying25 el_api_Write.size) ?_
   refine o_storeON (L' := fun X => ((b1, blk [vP0_0_1, vP0_1_5, vP0_2_9, .int .i64 a0.Taken, vP0_4_13, .int .i64 a0.PC, v65, .int .i64 a0.Stop, v132, .int .i64 a0.Jump, .int .i64 a0.Delay] 27) :: (LX67 ++ (X ++ [])))) hzs160 hS h133 hl159 (fun X => .thereb _ (.there _ (.here _))) enc_len_Write (by exact sz_api_Write) (enc_one_Write _) ?_
   clear hS; intro LX161 w h162 hS
   refine n_anyN ?_
   refine c_region ?_
   refine oy hS y_move ?_
   refine oy hS y_bin ?_
   refine oy hS y_assign ?_
   refine n_thenN ?_
   obtain rfl := Option.some.inj hF
   exact ⟨_, hK149, v132, LX161, h162, mk_ex, (hS.re (.takeb (.hereb _ _) (.take (.here _ _) (.take (.here _ _) (.nil _)))))⟩
 replace hF := bf c152 hF
 refine wp_exit ?_
 obtain rfl := Option.some.inj hF
 obtain rfl : _ = r := hK149
 refine (r_end (vs := []) (hS.re (.nil _)) (show resAll _ _ _ [] _ from trivial) rfl ⟨rfl, rfl⟩)
theorem w_l0_State {g : Frag} {a0 : T_State} {v0_ : Value} {LB0_ : Own} {r : Unit} (h0 : Ow_State a0 v0_ LB0_) (hF : l0_State a0 = some r) : LC Try.prog 32 #[v0_] g LB0_ (fun v L => v = .tuple #[] ∧ L = []) := w_l0_State_ h0 hF
end Go.Proofs.Ytadajdcbeegabaa
