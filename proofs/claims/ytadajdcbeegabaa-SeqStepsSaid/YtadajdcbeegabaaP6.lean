/- Functions, lifted. Printed by lift.py. -/
import Derived.Test.YtadajdcbeegabaaProg
import Derived.Test.YtadajdcbeegabaaP5
import Derived.KernelRfl
namespace Go.Proofs.Ytadajdcbeegabaa
open Go Go.RowKit Fr
set_option linter.unusedVariables false
set_option linter.unusedSimpArgs false
set_option maxRecDepth 20000
noncomputable def seq_New (a0 : (List Int)) : Option (T_State × Int) :=
  bif decide (100 < (a0.length : Int)) then some ((⟨[], [], [], 0, [], 0, [], 0, [], 0, 0⟩ : T_State), 1) else (make' 16 (0 : Int)).bind fun zs3 => (make' 256 (0 : Int)).bind fun zs8 => (slices_Clone_uint32 a0).bind fun r13 => some ((⟨zs3, zs8, r13, 0, [], 0, [], 0, [], 0, 0⟩ : T_State), 0)
set_option maxHeartbeats 2000000 in
theorem w_seq_New_ {g : Frag} {a0 : (List Int)} {v0_ : Value} {r : (T_State × Int)} (h0 : SlT g enc_uint32 1 a0 v0_) (hF : seq_New a0 = some r) : LC Try.prog 27 #[v0_] g [] (fun v L => ∃ (u0 : Value) (M0 : Own), v = .tuple #[u0, .int .i64 r.2] ∧ L = (M0 ++ []) ∧ Ow_State r.1 u0 M0) := by
 unfold seq_New at hF
 refine lc_body (k := 13) (av := [v0_]) Try.func27 rfl rfl (h := fun W hS => ?_)
 refine c_seq ?_
 refine c_region ?_
 refine o_allocP (cl := [(.slice none 0 0), (.slice none 0 0), (.slice none 0 0), .int .i64 0, (.slice none 0 0), .int .i64 0, (.slice none 0 0), .int .i64 0, (.slice none 0 0), .int .i64 0, .int .i64 0]) zr_api_State rfl hS ?_
 clear hS; intro b1 w hS
 refine oy hS y_assign ?_
 refine n_thenN ?_
 iterate 2 (refine c_seq ?_)
 refine c_region ?_
 refine oy hS y_move ?_
 refine oy hS (y_len h0 Try.underlying23) ?_
 refine oy hS y_bin ?_
 refine n_thenN ?_
 refine c_if (ht := fun c2 => ?_) (hf := fun c2 => ?_)
 · replace hF := bt c2 hF
   refine c_seq ?_
   refine c_region ?_
   refine oy hS (y_build (cl := [(.slice none 0 0), (.slice none 0 0), (.slice none 0 0), .int .i64 0, (.slice none 0 0), .int .i64 0, (.slice none 0 0), .int .i64 0, (.slice none 0 0), .int .i64 0, .int .i64 0]) bt_api_State rfl fillN) ?_
   refine o_storeP (vs := [(.slice none 0 0), (.slice none 0 0), (.slice none 0 0), .int .i64 0, (.slice none 0 0), .int .i64 0, (.slice none 0 0), .int .i64 0, (.slice none 0 0), .int .i64 0, .int .i64 0]) hS (hm := Upd.here _) (hi := by exact sz_api_State) (h1 := (onC rfl (onC rfl (onC rfl (onC rfl (onC rfl (onC rfl (onC rfl (onC rfl (onC rfl (onC rfl (onC rfl onN)))))))))))) ?_
   clear hS; intro w hS
   refine oy hS y_assign ?_
   refine n_thenN ?_
   obtain rfl := Option.some.inj hF
   refine wp_ret (r_ret (vs := [.agg #[(.slice none 0 0), (.slice none 0 0), (.slice none 0 0), .int .i64 0, (.slice none 0 0), .int .i64 0, (.slice none 0 0), .int .i64 0, (.slice none 0 0), .int .i64 0, .int .i64 0], .int .i64 1]) (L' := []) (hS.re (.nil _)) (show resAll _ _ _ [.cell 2 27, .tmp 3] _ from ⟨(res_cell (hS.own (mH)) Try.underlying27 rfl (by exact sz_api_State)), res_tmp, trivial⟩) rfl ⟨_, _, rfl, (by first | rfl | simp only [List.append_assoc, List.cons_append, List.nil_append, List.append_nil]), ⟨_, _, _, _, _, _, _, _, _, _, _, _, rfl, rfl, OwT.nil _ _ _, OwT.nil _ _ _, OwT.nil _ _ _, OwT.nil _ _ _, OwT.nil _ _ _, OwT.nil _ _ _⟩⟩)
 replace hF := bf c2 hF
 refine wp_skip ?_
 refine c_seq ?_
 obtain ⟨zs3, hzs3, hF⟩ := ob hF
 obtain ⟨zs8, hzs8, hF⟩ := ob hF
 obtain ⟨r13, hr13, hF⟩ := ob hF
 refine c_heldB (CB g ((b1, blk [(.slice none 0 0), (.slice none 0 0), (.slice none 0 0), .int .i64 0, (.slice none 0 0), .int .i64 0, (.slice none 0 0), .int .i64 0, (.slice none 0 0), .int .i64 0, .int .i64 0] 27) :: [])) 5 7 (by kernel_rfl) rfl hS ?_
 clear hS; intro w hS
 refine hy0 2 rfl wn (by kernel_rfl) (nq (P := Try.prog) (fn := Try.f27)) (fun _ => hS.cb) y_move ?_
 refine hb3 0 1 3 (by kernel_rfl) (hb_op rfl wn (nl (P := Try.prog) (fn := Try.f27)) ?_) (hb_op rfl wn (nl (P := Try.prog) (fn := Try.f27)) ?_) (hb_op rfl wn (nl (P := Try.prog) (fn := Try.f27)) ?_)
 · skip
   refine o_makeP hzs3 hS el_uint32 enc_len_uint32 mz_uint32 (by decide) ?_
   clear hS; intro v4 LX5 w h6 hS
   refine hb_next (fun _ => (hS.re (.takeb (.there _ (.hereb _ _)) (.nil _))).cb) ?_
   refine hb2 1 3 (by kernel_rfl) (hb_op rfl wn (nl (P := Try.prog) (fn := Try.f27)) ?_) (hb_op rfl wn (nl (P := Try.prog) (fn := Try.f27)) ?_)
   · skip
     refine o_makeP hzs8 hS el_uint32 enc_len_uint32 mz_uint32 (by decide) ?_
     clear hS; intro v9 LX10 w h11 hS
     refine hb_next (fun _ => (hS.re (.takeb (.there _ (.there _ (.hereb _ _))) (.nil _))).cb) ?_
     refine hb1 3 (by kernel_rfl) (hb_op rfl wn (nl (P := Try.prog) (fn := Try.f27)) ?_)
     refine o_call (L1 := []) (L2 := (LX10 ++ (LX5 ++ ((b1, blk [(.slice none 0 0), (.slice none 0 0), (.slice none 0 0), .int .i64 0, (.slice none 0 0), .int .i64 0, (.slice none 0 0), .int .i64 0, (.slice none 0 0), .int .i64 0, .int .i64 0] 27) :: [])))) hS Try.func49 rfl rfl (hc := (w_slices_Clone_uint32 (a0 := a0) (h0 := h0.plus) (hF := hr13))) (h := ?_)
     clear hS; intro v14 LY15 w hS hr16
     obtain ⟨v_0_17, LX_0_18, rfl, rfl, h_0_19⟩ := hr16
     simp only [List.append_assoc, List.cons_append, List.nil_append] at hS
     refine hb_next (fun _ => (hS.re (.takeb (.there _ (.there _ (.there _ (.hereb _ _)))) (.nil _))).cb) ?_
     refine hy0 4 rfl wn (by kernel_rfl) (nq (P := Try.prog) (fn := Try.f27)) (fun _ => (hS.re (.takeb (.there _ (.there _ (.there _ (.hereb _ _)))) (.nil _))).cb) (y_build (cl := [v4, v9, v_0_17, .int .i64 0, (.slice none 0 0), .int .i64 0, (.slice none 0 0), .int .i64 0, (.slice none 0 0), .int .i64 0, .int .i64 0]) bt_api_State rfl (fillS (vs := [v4]) rfl (h6).cell rfl rfl (fillS (vs := [v9]) rfl (h11).cell rfl rfl (fillS (vs := [v_0_17]) rfl (h_0_19).cell rfl rfl fillN)))) ?_
     refine hb1 5 (by kernel_rfl) (hb_op rfl wn (nl (P := Try.prog) (fn := Try.f27)) ?_)
     have hS : St W g [] ((b1, blk [(.slice none 0 0), (.slice none 0 0), (.slice none 0 0), .int .i64 0, (.slice none 0 0), .int .i64 0, (.slice none 0 0), .int .i64 0, (.slice none 0 0), .int .i64 0, .int .i64 0] 27) :: (LX_0_18 ++ (LX10 ++ (LX5 ++ [])))) w := hS.re (.takeb (.there _ (.there _ (.there _ (.hereb _ _)))) (.take (.here _ _) (.take (.here _ _) (.take (.here _ _) (.nil _)))))
     refine o_storeP (vs := [v4, v9, v_0_17, .int .i64 0, (.slice none 0 0), .int .i64 0, (.slice none 0 0), .int .i64 0, (.slice none 0 0), .int .i64 0, .int .i64 0]) hS (hm := Upd.here _) (hi := by exact sz_api_State) (h1 := (onC (h6).one (onC (h11).one (onC (h_0_19).one (onC rfl (onC rfl (onC rfl (onC rfl (onC rfl (onC rfl (onC rfl (onC rfl onN)))))))))))) ?_
     clear hS; intro w hS
     refine hb_next (fun h => absurd h (by decide)) ?_
     refine hy0 6 rfl wn (by kernel_rfl) (nq (P := Try.prog) (fn := Try.f27)) (fun h => absurd h (by decide)) y_assign ?_
     refine hb_done (by kernel_rfl) ?_
     obtain rfl := Option.some.inj hF
     refine wp_ret (r_ret (vs := [.agg #[v4, v9, v_0_17, .int .i64 0, (.slice none 0 0), .int .i64 0, (.slice none 0 0), .int .i64 0, (.slice none 0 0), .int .i64 0, .int .i64 0], .int .i64 0]) (L' := (LX5 ++ (LX10 ++ (LX_0_18 ++ [])))) (hS.re (.take (.thereb _ (.there _ (.there _ (.here _ _)))) (.take (.thereb _ (.there _ (.here _ _))) (.take (.thereb _ (.here _ _)) (.nil _))))) (show resAll _ _ _ [.cell 2 27, .tmp 3] _ from ⟨(res_cell (hS.own (mH)) Try.underlying27 rfl (by exact sz_api_State)), res_tmp, trivial⟩) rfl ⟨_, _, rfl, (by first | rfl | simp only [List.append_assoc, List.cons_append, List.nil_append, List.append_nil]), ⟨_, _, _, _, _, _, _, _, _, _, _, _, rfl, rfl, h6, h11, h_0_19, OwT.nil _ _ _, OwT.nil _ _ _, OwT.nil _ _ _⟩⟩)
   refine o_call (L1 := []) (L2 := (LX5 ++ ((b1, blk [(.slice none 0 0), (.slice none 0 0), (.slice none 0 0), .int .i64 0, (.slice none 0 0), .int .i64 0, (.slice none 0 0), .int .i64 0, (.slice none 0 0), .int .i64 0, .int .i64 0] 27) :: []))) hS Try.func49 rfl rfl (hc := (w_slices_Clone_uint32 (a0 := a0) (h0 := h0.plus) (hF := hr13))) (h := ?_)
   clear hS; intro v14 LY15 w hS hr16
   obtain ⟨v_0_17, LX_0_18, rfl, rfl, h_0_19⟩ := hr16
   simp only [List.append_assoc, List.cons_append, List.nil_append] at hS
   refine hb_next (fun _ => (hS.re (.takeb (.there _ (.there _ (.hereb _ _))) (.nil _))).cb) ?_
   refine hb1 1 (by kernel_rfl) (hb_op rfl wn (nl (P := Try.prog) (fn := Try.f27)) ?_)
   refine o_makeP hzs8 hS el_uint32 enc_len_uint32 mz_uint32 (by decide) ?_
   clear hS; intro v9 LX10 w h11 hS
   refine hb_next (fun _ => (hS.re (.takeb (.there _ (.there _ (.there _ (.hereb _ _)))) (.nil _))).cb) ?_
   refine hy0 4 rfl wn (by kernel_rfl) (nq (P := Try.prog) (fn := Try.f27)) (fun _ => (hS.re (.takeb (.there _ (.there _ (.there _ (.hereb _ _)))) (.nil _))).cb) (y_build (cl := [v4, v9, v_0_17, .int .i64 0, (.slice none 0 0), .int .i64 0, (.slice none 0 0), .int .i64 0, (.slice none 0 0), .int .i64 0, .int .i64 0]) bt_api_State rfl (fillS (vs := [v4]) rfl (h6).cell rfl rfl (fillS (vs := [v9]) rfl (h11).cell rfl rfl (fillS (vs := [v_0_17]) rfl (h_0_19).cell rfl rfl fillN)))) ?_
   refine hb1 5 (by kernel_rfl) (hb_op rfl wn (nl (P := Try.prog) (fn := Try.f27)) ?_)
   have hS : St W g [] ((b1, blk [(.slice none 0 0), (.slice none 0 0), (.slice none 0 0), .int .i64 0, (.slice none 0 0), .int .i64 0, (.slice none 0 0), .int .i64 0, (.slice none 0 0), .int .i64 0, .int .i64 0] 27) :: (LX10 ++ (LX_0_18 ++ (LX5 ++ [])))) w := hS.re (.takeb (.there _ (.there _ (.there _ (.hereb _ _)))) (.take (.here _ _) (.take (.here _ _) (.take (.here _ _) (.nil _)))))
   refine o_storeP (vs := [v4, v9, v_0_17, .int .i64 0, (.slice none 0 0), .int .i64 0, (.slice none 0 0), .int .i64 0, (.slice none 0 0), .int .i64 0, .int .i64 0]) hS (hm := Upd.here _) (hi := by exact sz_api_State) (h1 := (onC (h6).one (onC (h11).one (onC (h_0_19).one (onC rfl (onC rfl (onC rfl (onC rfl (onC rfl (onC rfl (onC rfl (onC rfl onN)))))))))))) ?_
   clear hS; intro w hS
   refine hb_next (fun h => absurd h (by decide)) ?_
   refine hy0 6 rfl wn (by kernel_rfl) (nq (P := Try.prog) (fn := Try.f27)) (fun h => absurd h (by decide)) y_assign ?_
   refine hb_done (by kernel_rfl) ?_
   obtain rfl := Option.some.inj hF
   refine wp_ret (r_ret (vs := [.agg #[v4, v9, v_0_17, .int .i64 0, (.slice none 0 0), .int .i64 0, (.slice none 0 0), .int .i64 0, (.slice none 0 0), .int .i64 0, .int .i64 0], .int .i64 0]) (L' := (LX5 ++ (LX10 ++ (LX_0_18 ++ [])))) (hS.re (.take (.thereb _ (.there _ (.there _ (.here _ _)))) (.take (.thereb _ (.here _ _)) (.take (.thereb _ (.here _ _)) (.nil _))))) (show resAll _ _ _ [.cell 2 27, .tmp 3] _ from ⟨(res_cell (hS.own (mH)) Try.underlying27 rfl (by exact sz_api_State)), res_tmp, trivial⟩) rfl ⟨_, _, rfl, (by first | rfl | simp only [List.append_assoc, List.cons_append, List.nil_append, List.append_nil]), ⟨_, _, _, _, _, _, _, _, _, _, _, _, rfl, rfl, h6, h11, h_0_19, OwT.nil _ _ _, OwT.nil _ _ _, OwT.nil _ _ _⟩⟩)
 · skip
   refine o_makeP hzs8 hS el_uint32 enc_len_uint32 mz_uint32 (by decide) ?_
   clear hS; intro v9 LX10 w h11 hS
   refine hb_next (fun _ => (hS.re (.takeb (.there _ (.hereb _ _)) (.nil _))).cb) ?_
   refine hb2 0 3 (by kernel_rfl) (hb_op rfl wn (nl (P := Try.prog) (fn := Try.f27)) ?_) (hb_op rfl wn (nl (P := Try.prog) (fn := Try.f27)) ?_)
   · skip
     refine o_makeP hzs3 hS el_uint32 enc_len_uint32 mz_uint32 (by decide) ?_
     clear hS; intro v4 LX5 w h6 hS
     refine hb_next (fun _ => (hS.re (.takeb (.there _ (.there _ (.hereb _ _))) (.nil _))).cb) ?_
     refine hb1 3 (by kernel_rfl) (hb_op rfl wn (nl (P := Try.prog) (fn := Try.f27)) ?_)
     refine o_call (L1 := []) (L2 := (LX5 ++ (LX10 ++ ((b1, blk [(.slice none 0 0), (.slice none 0 0), (.slice none 0 0), .int .i64 0, (.slice none 0 0), .int .i64 0, (.slice none 0 0), .int .i64 0, (.slice none 0 0), .int .i64 0, .int .i64 0] 27) :: [])))) hS Try.func49 rfl rfl (hc := (w_slices_Clone_uint32 (a0 := a0) (h0 := h0.plus) (hF := hr13))) (h := ?_)
     clear hS; intro v14 LY15 w hS hr16
     obtain ⟨v_0_17, LX_0_18, rfl, rfl, h_0_19⟩ := hr16
     simp only [List.append_assoc, List.cons_append, List.nil_append] at hS
     refine hb_next (fun _ => (hS.re (.takeb (.there _ (.there _ (.there _ (.hereb _ _)))) (.nil _))).cb) ?_
     refine hy0 4 rfl wn (by kernel_rfl) (nq (P := Try.prog) (fn := Try.f27)) (fun _ => (hS.re (.takeb (.there _ (.there _ (.there _ (.hereb _ _)))) (.nil _))).cb) (y_build (cl := [v4, v9, v_0_17, .int .i64 0, (.slice none 0 0), .int .i64 0, (.slice none 0 0), .int .i64 0, (.slice none 0 0), .int .i64 0, .int .i64 0]) bt_api_State rfl (fillS (vs := [v4]) rfl (h6).cell rfl rfl (fillS (vs := [v9]) rfl (h11).cell rfl rfl (fillS (vs := [v_0_17]) rfl (h_0_19).cell rfl rfl fillN)))) ?_
     refine hb1 5 (by kernel_rfl) (hb_op rfl wn (nl (P := Try.prog) (fn := Try.f27)) ?_)
     have hS : St W g [] ((b1, blk [(.slice none 0 0), (.slice none 0 0), (.slice none 0 0), .int .i64 0, (.slice none 0 0), .int .i64 0, (.slice none 0 0), .int .i64 0, (.slice none 0 0), .int .i64 0, .int .i64 0] 27) :: (LX_0_18 ++ (LX5 ++ (LX10 ++ [])))) w := hS.re (.takeb (.there _ (.there _ (.there _ (.hereb _ _)))) (.take (.here _ _) (.take (.here _ _) (.take (.here _ _) (.nil _)))))
     refine o_storeP (vs := [v4, v9, v_0_17, .int .i64 0, (.slice none 0 0), .int .i64 0, (.slice none 0 0), .int .i64 0, (.slice none 0 0), .int .i64 0, .int .i64 0]) hS (hm := Upd.here _) (hi := by exact sz_api_State) (h1 := (onC (h6).one (onC (h11).one (onC (h_0_19).one (onC rfl (onC rfl (onC rfl (onC rfl (onC rfl (onC rfl (onC rfl (onC rfl onN)))))))))))) ?_
     clear hS; intro w hS
     refine hb_next (fun h => absurd h (by decide)) ?_
     refine hy0 6 rfl wn (by kernel_rfl) (nq (P := Try.prog) (fn := Try.f27)) (fun h => absurd h (by decide)) y_assign ?_
     refine hb_done (by kernel_rfl) ?_
     obtain rfl := Option.some.inj hF
     refine wp_ret (r_ret (vs := [.agg #[v4, v9, v_0_17, .int .i64 0, (.slice none 0 0), .int .i64 0, (.slice none 0 0), .int .i64 0, (.slice none 0 0), .int .i64 0, .int .i64 0], .int .i64 0]) (L' := (LX5 ++ (LX10 ++ (LX_0_18 ++ [])))) (hS.re (.take (.thereb _ (.there _ (.here _ _))) (.take (.thereb _ (.there _ (.here _ _))) (.take (.thereb _ (.here _ _)) (.nil _))))) (show resAll _ _ _ [.cell 2 27, .tmp 3] _ from ⟨(res_cell (hS.own (mH)) Try.underlying27 rfl (by exact sz_api_State)), res_tmp, trivial⟩) rfl ⟨_, _, rfl, (by first | rfl | simp only [List.append_assoc, List.cons_append, List.nil_append, List.append_nil]), ⟨_, _, _, _, _, _, _, _, _, _, _, _, rfl, rfl, h6, h11, h_0_19, OwT.nil _ _ _, OwT.nil _ _ _, OwT.nil _ _ _⟩⟩)
   refine o_call (L1 := []) (L2 := (LX10 ++ ((b1, blk [(.slice none 0 0), (.slice none 0 0), (.slice none 0 0), .int .i64 0, (.slice none 0 0), .int .i64 0, (.slice none 0 0), .int .i64 0, (.slice none 0 0), .int .i64 0, .int .i64 0] 27) :: []))) hS Try.func49 rfl rfl (hc := (w_slices_Clone_uint32 (a0 := a0) (h0 := h0.plus) (hF := hr13))) (h := ?_)
   clear hS; intro v14 LY15 w hS hr16
   obtain ⟨v_0_17, LX_0_18, rfl, rfl, h_0_19⟩ := hr16
   simp only [List.append_assoc, List.cons_append, List.nil_append] at hS
   refine hb_next (fun _ => (hS.re (.takeb (.there _ (.there _ (.hereb _ _))) (.nil _))).cb) ?_
   refine hb1 0 (by kernel_rfl) (hb_op rfl wn (nl (P := Try.prog) (fn := Try.f27)) ?_)
   refine o_makeP hzs3 hS el_uint32 enc_len_uint32 mz_uint32 (by decide) ?_
   clear hS; intro v4 LX5 w h6 hS
   refine hb_next (fun _ => (hS.re (.takeb (.there _ (.there _ (.there _ (.hereb _ _)))) (.nil _))).cb) ?_
   refine hy0 4 rfl wn (by kernel_rfl) (nq (P := Try.prog) (fn := Try.f27)) (fun _ => (hS.re (.takeb (.there _ (.there _ (.there _ (.hereb _ _)))) (.nil _))).cb) (y_build (cl := [v4, v9, v_0_17, .int .i64 0, (.slice none 0 0), .int .i64 0, (.slice none 0 0), .int .i64 0, (.slice none 0 0), .int .i64 0, .int .i64 0]) bt_api_State rfl (fillS (vs := [v4]) rfl (h6).cell rfl rfl (fillS (vs := [v9]) rfl (h11).cell rfl rfl (fillS (vs := [v_0_17]) rfl (h_0_19).cell rfl rfl fillN)))) ?_
   refine hb1 5 (by kernel_rfl) (hb_op rfl wn (nl (P := Try.prog) (fn := Try.f27)) ?_)
   have hS : St W g [] ((b1, blk [(.slice none 0 0), (.slice none 0 0), (.slice none 0 0), .int .i64 0, (.slice none 0 0), .int .i64 0, (.slice none 0 0), .int .i64 0, (.slice none 0 0), .int .i64 0, .int .i64 0] 27) :: (LX5 ++ (LX_0_18 ++ (LX10 ++ [])))) w := hS.re (.takeb (.there _ (.there _ (.there _ (.hereb _ _)))) (.take (.here _ _) (.take (.here _ _) (.take (.here _ _) (.nil _)))))
   refine o_storeP (vs := [v4, v9, v_0_17, .int .i64 0, (.slice none 0 0), .int .i64 0, (.slice none 0 0), .int .i64 0, (.slice none 0 0), .int .i64 0, .int .i64 0]) hS (hm := Upd.here _) (hi := by exact sz_api_State) (h1 := (onC (h6).one (onC (h11).one (onC (h_0_19).one (onC rfl (onC rfl (onC rfl (onC rfl (onC rfl (onC rfl (onC rfl (onC rfl onN)))))))))))) ?_
   clear hS; intro w hS
   refine hb_next (fun h => absurd h (by decide)) ?_
   refine hy0 6 rfl wn (by kernel_rfl) (nq (P := Try.prog) (fn := Try.f27)) (fun h => absurd h (by decide)) y_assign ?_
   refine hb_done (by kernel_rfl) ?_
   obtain rfl := Option.some.inj hF
   refine wp_ret (r_ret (vs := [.agg #[v4, v9, v_0_17, .int .i64 0, (.slice none 0 0), .int .i64 0, (.slice none 0 0), .int .i64 0, (.slice none 0 0), .int .i64 0, .int .i64 0], .int .i64 0]) (L' := (LX5 ++ (LX10 ++ (LX_0_18 ++ [])))) (hS.re (.take (.thereb _ (.here _ _)) (.take (.thereb _ (.there _ (.here _ _))) (.take (.thereb _ (.here _ _)) (.nil _))))) (show resAll _ _ _ [.cell 2 27, .tmp 3] _ from ⟨(res_cell (hS.own (mH)) Try.underlying27 rfl (by exact sz_api_State)), res_tmp, trivial⟩) rfl ⟨_, _, rfl, (by first | rfl | simp only [List.append_assoc, List.cons_append, List.nil_append, List.append_nil]), ⟨_, _, _, _, _, _, _, _, _, _, _, _, rfl, rfl, h6, h11, h_0_19, OwT.nil _ _ _, OwT.nil _ _ _, OwT.nil _ _ _⟩⟩)
 refine o_call (L1 := []) (L2 := ((b1, blk [(.slice none 0 0), (.slice none 0 0), (.slice none 0 0), .int .i64 0, (.slice none 0 0), .int .i64 0, (.slice none 0 0), .int .i64 0, (.slice none 0 0), .int .i64 0, .int .i64 0] 27) :: [])) hS Try.func49 rfl rfl (hc := (w_slices_Clone_uint32 (a0 := a0) (h0 := h0.plus) (hF := hr13))) (h := ?_)
 clear hS; intro v14 LY15 w hS hr16
 obtain ⟨v_0_17, LX_0_18, rfl, rfl, h_0_19⟩ := hr16
 simp only [List.append_assoc, List.cons_append, List.nil_append] at hS
 refine hb_next (fun _ => (hS.re (.takeb (.there _ (.hereb _ _)) (.nil _))).cb) ?_
 refine hb2 0 1 (by kernel_rfl) (hb_op rfl wn (nl (P := Try.prog) (fn := Try.f27)) ?_) (hb_op rfl wn (nl (P := Try.prog) (fn := Try.f27)) ?_)
 · skip
   refine o_makeP hzs3 hS el_uint32 enc_len_uint32 mz_uint32 (by decide) ?_
   clear hS; intro v4 LX5 w h6 hS
   refine hb_next (fun _ => (hS.re (.takeb (.there _ (.there _ (.hereb _ _))) (.nil _))).cb) ?_
   refine hb1 1 (by kernel_rfl) (hb_op rfl wn (nl (P := Try.prog) (fn := Try.f27)) ?_)
   refine o_makeP hzs8 hS el_uint32 enc_len_uint32 mz_uint32 (by decide) ?_
   clear hS; intro v9 LX10 w h11 hS
   refine hb_next (fun _ => (hS.re (.takeb (.there _ (.there _ (.there _ (.hereb _ _)))) (.nil _))).cb) ?_
   refine hy0 4 rfl wn (by kernel_rfl) (nq (P := Try.prog) (fn := Try.f27)) (fun _ => (hS.re (.takeb (.there _ (.there _ (.there _ (.hereb _ _)))) (.nil _))).cb) (y_build (cl := [v4, v9, v_0_17, .int .i64 0, (.slice none 0 0), .int .i64 0, (.slice none 0 0), .int .i64 0, (.slice none 0 0), .int .i64 0, .int .i64 0]) bt_api_State rfl (fillS (vs := [v4]) rfl (h6).cell rfl rfl (fillS (vs := [v9]) rfl (h11).cell rfl rfl (fillS (vs := [v_0_17]) rfl (h_0_19).cell rfl rfl fillN)))) ?_
   refine hb1 5 (by kernel_rfl) (hb_op rfl wn (nl (P := Try.prog) (fn := Try.f27)) ?_)
   have hS : St W g [] ((b1, blk [(.slice none 0 0), (.slice none 0 0), (.slice none 0 0), .int .i64 0, (.slice none 0 0), .int .i64 0, (.slice none 0 0), .int .i64 0, (.slice none 0 0), .int .i64 0, .int .i64 0] 27) :: (LX10 ++ (LX5 ++ (LX_0_18 ++ [])))) w := hS.re (.takeb (.there _ (.there _ (.there _ (.hereb _ _)))) (.take (.here _ _) (.take (.here _ _) (.take (.here _ _) (.nil _)))))
   refine o_storeP (vs := [v4, v9, v_0_17, .int .i64 0, (.slice none 0 0), .int .i64 0, (.slice none 0 0), .int .i64 0, (.slice none 0 0), .int .i64 0, .int .i64 0]) hS (hm := Upd.here _) (hi := by exact sz_api_State) (h1 := (onC (h6).one (onC (h11).one (onC (h_0_19).one (onC rfl (onC rfl (onC rfl (onC rfl (onC rfl (onC rfl (onC rfl (onC rfl onN)))))))))))) ?_
   clear hS; intro w hS
   refine hb_next (fun h => absurd h (by decide)) ?_
   refine hy0 6 rfl wn (by kernel_rfl) (nq (P := Try.prog) (fn := Try.f27)) (fun h => absurd h (by decide)) y_assign ?_
   refine hb_done (by kernel_rfl) ?_
   obtain rfl := Option.some.inj hF
   refine wp_ret (r_ret (vs := [.agg #[v4, v9, v_0_17, .int .i64 0, (.slice none 0 0), .int .i64 0, (.slice none 0 0), .int .i64 0, (.slice none 0 0), .int .i64 0, .int .i64 0], .int .i64 0]) (L' := (LX5 ++ (LX10 ++ (LX_0_18 ++ [])))) (hS.re (.take (.thereb _ (.there _ (.here _ _))) (.take (.thereb _ (.here _ _)) (.take (.thereb _ (.here _ _)) (.nil _))))) (show resAll _ _ _ [.cell 2 27, .tmp 3] _ from ⟨(res_cell (hS.own (mH)) Try.underlying27 rfl (by exact sz_api_State)), res_tmp, trivial⟩) rfl ⟨_, _, rfl, (by first | rfl | simp only [List.append_assoc, List.cons_append, List.nil_append, List.append_nil]), ⟨_, _, _, _, _, _, _, _, _, _, _, _, rfl, rfl, h6, h11, h_0_19, OwT.nil _ _ _, OwT.nil _ _ _, OwT.nil _ _ _⟩⟩)
 refine o_makeP hzs8 hS el_uint32 enc_len_uint32 mz_uint32 (by decide) ?_
 clear hS; intro v9 LX10 w h11 hS
 refine hb_next (fun _ => (hS.re (.takeb (.there _ (.there _ (.hereb _ _))) (.nil _))).cb) ?_
 refine hb1 0 (by kernel_rfl) (hb_op rfl wn (nl (P := Try.prog) (fn := Try.f27)) ?_)
 refine o_makeP hzs3 hS el_uint32 enc_len_uint32 mz_uint32 (by decide) ?_
 clear hS; intro v4 LX5 w h6 hS
 refine hb_next (fun _ => (hS.re (.takeb (.there _ (.there _ (.there _ (.hereb _ _)))) (.nil _))).cb) ?_
 refine hy0 4 rfl wn (by kernel_rfl) (nq (P := Try.prog) (fn := Try.f27)) (fun _ => (hS.re (.takeb (.there _ (.there _ (.there _ (.hereb _ _)))) (.nil _))).cb) (y_build (cl := [v4, v9, v_0_17, .int .i64 0, (.slice none 0 0), .int .i64 0, (.slice none 0 0), .int .i64 0, (.slice none 0 0), .int .i64 0, .int .i64 0]) bt_api_State rfl (fillS (vs := [v4]) rfl (h6).cell rfl rfl (fillS (vs := [v9]) rfl (h11).cell rfl rfl (fillS (vs := [v_0_17]) rfl (h_0_19).cell rfl rfl fillN)))) ?_
 refine hb1 5 (by kernel_rfl) (hb_op rfl wn (nl (P := Try.prog) (fn := Try.f27)) ?_)
 have hS : St W g [] ((b1, blk [(.slice none 0 0), (.slice none 0 0), (.slice none 0 0), .int .i64 0, (.slice none 0 0), .int .i64 0, (.slice none 0 0), .int .i64 0, (.slice none 0 0), .int .i64 0, .int .i64 0] 27) :: (LX5 ++ (LX10 ++ (LX_0_18 ++ [])))) w := hS.re (.takeb (.there _ (.there _ (.there _ (.hereb _ _)))) (.take (.here _ _) (.take (.here _ _) (.take (.here _ _) (.nil _)))))
 refine o_storeP (vs := [v4, v9, v_0_17, .int .i64 0, (.slice none 0 0), .int .i64 0, (.slice none 0 0), .int .i64 0, (.slice none 0 0), .int .i64 0, .int .i64 0]) hS (hm := Upd.here _) (hi := by exact sz_api_State) (h1 := (onC (h6).one (onC (h11).one (onC (h_0_19).one (onC rfl (onC rfl (onC rfl (onC rfl (onC rfl (onC rfl (onC rfl (onC rfl onN)))))))))))) ?_
 clear hS; intro w hS
 refine hb_next (fun h => absurd h (by decide)) ?_
 refine hy0 6 rfl wn (by kernel_rfl) (nq (P := Try.prog) (fn := Try.f27)) (fun h => absurd h (by decide)) y_assign ?_
 refine hb_done (by kernel_rfl) ?_
 obtain rfl := Option.some.inj hF
 refine wp_ret (r_ret (vs := [.agg #[v4, v9, v_0_17, .int .i64 0, (.slice none 0 0), .int .i64 0, (.slice none 0 0), .int .i64 0, (.slice none 0 0), .int .i64 0, .int .i64 0], .int .i64 0]) (L' := (LX5 ++ (LX10 ++ (LX_0_18 ++ [])))) (hS.re (.take (.thereb _ (.here _ _)) (.take (.thereb _ (.here _ _)) (.take (.thereb _ (.here _ _)) (.nil _))))) (show resAll _ _ _ [.cell 2 27, .tmp 3] _ from ⟨(res_cell (hS.own (mH)) Try.underlying27 rfl (by exact sz_api_State)), res_tmp, trivial⟩) rfl ⟨_, _, rfl, (by first | rfl | simp only [List.append_assoc, List.cons_append, List.nil_append, List.append_nil]), ⟨_, _, _, _, _, _, _, _, _, _, _, _, rfl, rfl, h6, h11, h_0_19, OwT.nil _ _ _, OwT.nil _ _ _, OwT.nil _ _ _⟩⟩)
theorem w_seq_New {g : Frag} {a0 : (List Int)} {v0_ : Value} {r : (T_State × Int)} (h0 : SlT g enc_uint32 1 a0 v0_) (hF : seq_New a0 = some r) : LC Try.prog 27 #[v0_] g [] (fun v L => ∃ (u0 : Value) (M0 : Own), v = .tuple #[u0, .int .i64 r.2] ∧ L = (M0 ++ []) ∧ Ow_State r.1 u0 M0) := w_seq_New_ h0 hF

noncomputable def l5_wakes  : Option Bool :=
  (seq_New ([7] : List Int)).bind fun r4 => (seq_Run ([(⟨26, 3, 0, 0, 0, ByteArray.empty⟩ : T_Ins), (⟨27, 0, 3, 0, 0, ByteArray.empty⟩ : T_Ins), (⟨33, 0, 0, 0, 0, ByteArray.empty⟩ : T_Ins)] : List T_Ins) r4.1 9).bind fun r39 => bif decide ((l5_num r4.2) = 0) then bif decide ((l5_num r39.2.2) = 0) then bif decide (r39.2.1 = 3) then bif decide (r39.1.Stop = 1) then bif decide ((r39.1.Out.length : Int) = 1) then (at' r39.1.Out 0).bind fun x76 => some (decide (x76 = 7)) else some (false) else some (false) else some (false) else some (false) else some (false)
set_option maxHeartbeats 2000000 in
theorem w_l5_wakes_ {g : Frag}  {r : Bool}  (hF : l5_wakes = some r) : LCs Try.prog 20 #[] g (.bool r) := by
 unfold l5_wakes at hF
 refine lc_body (k := 51) (av := []) Try.func20 rfl rfl (h := fun W hS => ?_)
 refine c_seq ?_
 refine c_region ?_
 refine oy hS y_assign ?_
 refine n_thenN ?_
 refine c_seq ?_
 refine c_region ?_
 refine o_buildT val_uint32 ([7] : List Int) hS el_uint32 (fun _ => rfl) enc_len_uint32 (by decide) rfl (by decide) (hp := rfl) (h := ?_)
 clear hS; intro b1 w hS h2
 have hS : St W g [] ([(b1, blk (([7] : List Int).flatMap enc_uint32) 63)] ++ []) w := hS
 obtain ⟨r4, hr4, hF⟩ := ob hF
 refine o_call (L1 := []) (L2 := ([(b1, blk (([7] : List Int).flatMap enc_uint32) 63)] ++ [])) hS Try.func27 rfl rfl (hc := (w_seq_New (a0 := ([7] : List Int)) (h0 := (OwT.plus h2 hS (fun p hp => mA (hp)))) (hF := hr4))) (h := ?_)
 clear hS; intro v5 LY6 w hS hr7
 obtain ⟨v_0_8, LX_0_9, rfl, rfl, h_0_10⟩ := hr7
 obtain ⟨vR0_0_11, vR0_1_15, vR0_2_19, vR0_4_23, vR0_6_27, vR0_8_31, LXR0_0_12, LXR0_1_16, LXR0_2_20, LXR0_4_24, LXR0_6_28, LXR0_8_32, rfl, rfl, hR0_0_13, hR0_1_17, hR0_2_21, hR0_4_25, hR0_6_29, hR0_8_33⟩ := h_0_10
 simp only [List.append_assoc, List.cons_append, List.nil_append] at hS
 refine oy hS y_move ?_
 iterate 2 (refine oy hS (y_extract rfl) ?_)
 refine o_allocP (cl := [(.slice none 0 0), (.slice none 0 0), (.slice none 0 0), .int .i64 0, (.slice none 0 0), .int .i64 0, (.slice none 0 0), .int .i64 0, (.slice none 0 0), .int .i64 0, .int .i64 0]) zr_api_State rfl hS ?_
 clear hS; intro b35 w hS
 refine o_storeP (vs := [vR0_0_11, vR0_1_15, vR0_2_19, .int .i64 r4.1.Taken, vR0_4_23, .int .i64 r4.1.PC, vR0_6_27, .int .i64 r4.1.Stop, vR0_8_31, .int .i64 r4.1.Jump, .int .i64 r4.1.Delay]) hS (hm := Upd.here _) (hi := by exact sz_api_State) (h1 := (onC (hR0_0_13).one (onC (hR0_1_17).one (onC (hR0_2_21).one (onC rfl (onC (hR0_4_25).one (onC rfl (onC (hR0_6_29).one (onC rfl (onC (hR0_8_33).one (onC rfl (onC rfl onN)))))))))))) ?_
 clear hS; intro w hS
 refine oy hS y_assign ?_
 refine n_thenN ?_
 refine c_seq ?_
 refine c_region ?_
 refine oy hS (y_build (cl := [.int .i64 26, .int .i64 3, .int .i64 0, .int .i64 0, .int .i64 0, .string ByteArray.empty]) bt_api_Ins rfl (fillS (vs := [.int .i64 26]) rfl rfl rfl rfl (fillS (vs := [.int .i64 3]) rfl rfl rfl rfl fillN))) ?_
 refine oy hS (y_build (cl := [.int .i64 27, .int .i64 0, .int .i64 3, .int .i64 0, .int .i64 0, .string ByteArray.empty]) bt_api_Ins rfl (fillS (vs := [.int .i64 27]) rfl rfl rfl rfl (fillS (vs := [.int .i64 3]) rfl rfl rfl rfl fillN))) ?_
 refine oy hS (y_build (cl := [.int .i64 33, .int .i64 0, .int .i64 0, .int .i64 0, .int .i64 0, .string ByteArray.empty]) bt_api_Ins rfl (fillS (vs := [.int .i64 33]) rfl rfl rfl rfl fillN)) ?_
 refine o_buildT val_Ins ([(⟨26, 3, 0, 0, 0, ByteArray.empty⟩ : T_Ins), (⟨27, 0, 3, 0, 0, ByteArray.empty⟩ : T_Ins), (⟨33, 0, 0, 0, 0, ByteArray.empty⟩ : T_Ins)] : List T_Ins) hS el_api_Ins (fun _ => rfl) enc_len_Ins (by decide) rfl (by decide) (hp := rfl) (h := ?_)
 clear hS; intro b36 w hS h37
 have hS : St W g [] ([(b36, blk (([(⟨26, 3, 0, 0, 0, ByteArray.empty⟩ : T_Ins), (⟨27, 0, 3, 0, 0, ByteArray.empty⟩ : T_Ins), (⟨33, 0, 0, 0, 0, ByteArray.empty⟩ : T_Ins)] : List T_Ins).flatMap enc_Ins) 43)] ++ ((b35, blk [vR0_0_11, vR0_1_15, vR0_2_19, .int .i64 r4.1.Taken, vR0_4_23, .int .i64 r4.1.PC, vR0_6_27, .int .i64 r4.1.Stop, vR0_8_31, .int .i64 r4.1.Jump, .int .i64 r4.1.Delay] 27) :: (LXR0_0_12 ++ (LXR0_1_16 ++ (LXR0_2_20 ++ (LXR0_4_24 ++ (LXR0_6_28 ++ (LXR0_8_32 ++ ([(b1, blk (([7] : List Int).flatMap enc_uint32) 63)] ++ []))))))))) w := hS
 refine oy hS (y_loadW (fun w hS => hS.own (mB (mH))) Try.underlying27 rfl (by exact sz_api_State)) ?_
 obtain ⟨r39, hr39, hF⟩ := ob hF
 refine o_call (L1 := []) (L2 := ([(b36, blk (([(⟨26, 3, 0, 0, 0, ByteArray.empty⟩ : T_Ins), (⟨27, 0, 3, 0, 0, ByteArray.empty⟩ : T_Ins), (⟨33, 0, 0, 0, 0, ByteArray.empty⟩ : T_Ins)] : List T_Ins).flatMap enc_Ins) 43)] ++ ((b35, blk [vR0_0_11, vR0_1_15, vR0_2_19, .int .i64 r4.1.Taken, vR0_4_23, .int .i64 r4.1.PC, vR0_6_27, .int .i64 r4.1.Stop, vR0_8_31, .int .i64 r4.1.Jump, .int .i64 r4.1.Delay] 27) :: (LXR0_0_12 ++ (LXR0_1_16 ++ (LXR0_2_20 ++ (LXR0_4_24 ++ (LXR0_6_28 ++ (LXR0_8_32 ++ ([(b1, blk (([7] : List Int).flatMap enc_uint32) 63)] ++ [])))))))))) hS Try.func14 rfl rfl (hc := (w_seq_Run (a0 := ([(⟨26, 3, 0, 0, 0, ByteArray.empty⟩ : T_Ins), (⟨27, 0, 3, 0, 0, ByteArray.empty⟩ : T_Ins), (⟨33, 0, 0, 0, 0, ByteArray.empty⟩ : T_Ins)] : List T_Ins)) (a1 := r4.1) (a2 := 9) (h0 := (OwT.plus h37 hS (fun p hp => mA (hp)))) (h1 := ⟨_, _, _, _, _, _, rfl, (OwT.plus hR0_0_13 hS (fun p hp => mB (mC (mA (hp))))), (OwT.plus hR0_1_17 hS (fun p hp => mB (mC (mB (mA (hp)))))), (OwT.plus hR0_2_21 hS (fun p hp => mB (mC (mB (mB (mA (hp))))))), (OwT.plus hR0_4_25 hS (fun p hp => mB (mC (mB (mB (mB (mA (hp)))))))), (OwT.plus hR0_6_29 hS (fun p hp => mB (mC (mB (mB (mB (mB (mA (hp))))))))), (OwT.plus hR0_8_33 hS (fun p hp => mB (mC (mB (mB (mB (mB (mB (mA (hp))))))))))⟩) (hF := hr39))) (h := ?_)
 clear hS; intro v40 LY41 w hS hr42
 obtain ⟨v_0_43, LX_0_44, rfl, rfl, h_0_45⟩ := hr42
 obtain ⟨vR0_0_46, vR0_1_50, vR0_2_54, vR0_4_58, vR0_6_62, vR0_8_66, LXR0_0_47, LXR0_1_51, LXR0_2_55, LXR0_4_59, LXR0_6_63, LXR0_8_67, rfl, rfl, hR0_0_48, hR0_1_52, hR0_2_56, hR0_4_60, hR0_6_64, hR0_8_68⟩ := h_0_45
 simp only [List.append_assoc, List.cons_append, List.nil_append] at hS
 refine oy hS y_move ?_
 iterate 3 (refine oy hS (y_extract rfl) ?_)
 refine o_allocP (cl := [(.slice none 0 0), (.slice none 0 0), (.slice none 0 0), .int .i64 0, (.slice none 0 0), .int .i64 0, (.slice none 0 0), .int .i64 0, (.slice none 0 0), .int .i64 0, .int .i64 0]) zr_api_State rfl hS ?_
 clear hS; intro b70 w hS
 refine o_storeP (vs := [vR0_0_46, vR0_1_50, vR0_2_54, .int .i64 r39.1.Taken, vR0_4_58, .int .i64 r39.1.PC, vR0_6_62, .int .i64 r39.1.Stop, vR0_8_66, .int .i64 r39.1.Jump, .int .i64 r39.1.Delay]) hS (hm := Upd.here _) (hi := by exact sz_api_State) (h1 := (onC (hR0_0_48).one (onC (hR0_1_52).one (onC (hR0_2_56).one (onC rfl (onC (hR0_4_60).one (onC rfl (onC (hR0_6_64).one (onC rfl (onC (hR0_8_68).one (onC rfl (onC rfl onN)))))))))))) ?_
 clear hS; intro w hS
 iterate 2 (refine oy hS y_assign ?_)
 refine n_thenN ?_
 refine c_seq ?_
 refine c_region ?_
 refine oy hS y_move ?_
 refine o_callS hS Try.func15 rfl rfl (hc := (w_l5_num (a0 := r4.2))) (h := ?_)
 clear hS; intro w hS
 refine oy hS y_bin ?_
 refine o_split (ht := fun c71 => ?_) (hf := fun c71 => ?_)
 · replace hF := bt c71 hF
   refine o_gu rfl rfl rfl ?_
   refine oy hS y_move ?_
   refine o_gu rfl rfl rfl ?_
   refine o_callS hS Try.func15 rfl rfl (hc := (w_l5_num (a0 := r39.2.2))) (h := ?_)
   clear hS; intro w hS
   refine o_gu rfl rfl rfl ?_
   refine oy hS y_bin ?_
   refine oy hS y_pickT ?_
   refine o_split (ht := fun c72 => ?_) (hf := fun c72 => ?_)
   · replace hF := bt c72 hF
     refine o_gu rfl rfl rfl ?_
     refine oy hS y_move ?_
     refine o_gu rfl rfl rfl ?_
     refine oy hS y_bin ?_
     refine oy hS y_pickT ?_
     refine o_split (ht := fun c73 => ?_) (hf := fun c73 => ?_)
     · replace hF := bt c73 hF
       refine o_gu rfl rfl rfl ?_
       refine oy hS (y_field fa_api_State_7) ?_
       refine o_gu rfl rfl rfl ?_
       refine oy hS (y_load (fun w hS => hS.own (mH)) Try.underlying3 rfl rfl) ?_
       refine o_gu rfl rfl rfl ?_
       refine oy hS y_bin ?_
       refine oy hS y_pickT ?_
       refine o_split (ht := fun c74 => ?_) (hf := fun c74 => ?_)
       · replace hF := bt c74 hF
         refine o_gu rfl rfl rfl ?_
         refine oy hS (y_field fa_api_State_4) ?_
         refine o_gu rfl rfl rfl ?_
         refine oy hS (y_load (fun w hS => hS.own (mH)) Try.underlying23 rfl rfl) ?_
         refine o_gu rfl rfl rfl ?_
         refine oy hS (y_lenO hR0_4_60 Try.underlying23) ?_
         refine o_gu rfl rfl rfl ?_
         refine oy hS y_bin ?_
         refine oy hS y_pickT ?_
         refine o_split (ht := fun c75 => ?_) (hf := fun c75 => ?_)
         · replace hF := bt c75 hF
           refine o_gu rfl rfl rfl ?_
           refine oy hS (y_field fa_api_State_4) ?_
           refine o_gu rfl rfl rfl ?_
           refine oy hS (y_load (fun w hS => hS.own (mH)) Try.underlying23 rfl rfl) ?_
           refine o_gu rfl rfl rfl ?_
           obtain ⟨x76, hx76, hF⟩ := ob hF
           obtain ⟨b77, c78, cl79, hv80, ha81, hb82, hl83, hc84⟩ := OwT.at hx76 hR0_4_60 enc_len_uint32
           refine oy hS (y_index hv80 ha81 hb82 Try.underlying23 el_uint32.size) ?_
           refine o_gu rfl rfl rfl ?_
           refine oy hS (y_load (fun w hS => hS.own (mC (mB (mB (mB (mA (mX hl83))))))) Try.underlying63 rfl (hc84 0 _ rfl)) ?_
           refine o_gu rfl rfl rfl ?_
           refine oy hS y_bin ?_
           refine oy hS y_pickT ?_
           refine oy hS y_assign ?_
           refine n_thenN ?_
           obtain rfl := Option.some.inj hF
           exact wp_ret (wr1 hS)
         replace hF := bf c75 hF
         iterate 5 (refine o_sk rfl rfl ?_)
         refine oy hS y_pickF ?_
         refine oy hS y_assign ?_
         refine n_thenN ?_
         obtain rfl := Option.some.inj hF
         exact wp_ret (wr1 hS)
       replace hF := bf c74 hF
       iterate 4 (refine o_sk rfl rfl ?_)
       refine oy hS y_pickF ?_
       refine oy hS y_move ?_
       iterate 5 (refine o_sk rfl rfl ?_)
       refine oy hS y_pickF ?_
       refine oy hS y_assign ?_
       refine n_thenN ?_
       obtain rfl := Option.some.inj hF
       exact wp_ret (wr1 hS)
     replace hF := bf c73 hF
     iterate 3 (refine o_sk rfl rfl ?_)
     refine oy hS y_pickF ?_
     refine oy hS y_move ?_
     iterate 4 (refine o_sk rfl rfl ?_)
     refine oy hS y_pickF ?_
     refine oy hS y_move ?_
     iterate 5 (refine o_sk rfl rfl ?_)
     refine oy hS y_pickF ?_
     refine oy hS y_assign ?_
     refine n_thenN ?_
     obtain rfl := Option.some.inj hF
     exact wp_ret (wr1 hS)
   replace hF := bf c72 hF
   iterate 2 (refine o_sk rfl rfl ?_)
   refine oy hS y_pickF ?_
   refine oy hS y_move ?_
   iterate 3 (refine o_sk rfl rfl ?_)
   refine oy hS y_pickF ?_
   refine oy hS y_move ?_
   iterate 4 (refine o_sk rfl rfl ?_)
   refine oy hS y_pickF ?_
   refine oy hS y_move ?_
   iterate 5 (refine o_sk rfl rfl ?_)
   refine oy hS y_pickF ?_
   refine oy hS y_assign ?_
   refine n_thenN ?_
   obtain rfl := Option.some.inj hF
   exact wp_ret (wr1 hS)
 replace hF := bf c71 hF
 iterate 3 (refine o_sk rfl rfl ?_)
 refine oy hS y_pickF ?_
 refine oy hS y_move ?_
 iterate 2 (refine o_sk rfl rfl ?_)
 refine oy hS y_pickF ?_
 refine oy hS y_move ?_
 iterate 3 (refine o_sk rfl rfl ?_)
 refine oy hS y_pickF ?_
 refine oy hS y_move ?_
 iterate 4 (refine o_sk rfl rfl ?_)
 refine oy hS y_pickF ?_
 refine oy hS y_move ?_
 iterate 5 (refine o_sk rfl rfl ?_)
 refine oy hS y_pickF ?_
 refine oy hS y_assign ?_
 refine n_thenN ?_
 obtain rfl := Option.some.inj hF
 exact wp_ret (wr1 hS)
theorem w_l5_wakes {g : Frag}  {r : Bool}  (hF : l5_wakes = some r) : LCs Try.prog 20 #[] g (.bool r) := w_l5_wakes_  hF

noncomputable def l5_kinds_k3 (a0 : T_Script) (x199 : Int) (a2 : Int) (a1 : Int) (x194 : (List T_Ins)) : Unit → Option (Step ((List T_Ins) × Int) (Step (List T_Ins) (List T_Ins))) := fun _ => (at' a0.P x199).bind fun x254 => (rem' x199 (IntKind.i64.wrap ((IntKind.i64.wrap (a2 - a1)) + 1))).bind fun x267 => (r3_Form (IntKind.i64.wrap (a1 + x267))).bind fun r268 => bif decide (r268 ≠ 1) then (r3_Ins (⟨IntKind.i64.wrap (a1 + x267), x254.D, x254.A, 0, 0, ByteArray.empty⟩ : T_Ins)).bind fun r270 => bif r270 then (app' x194 ([(⟨IntKind.i64.wrap (a1 + x267), x254.D, x254.A, 0, 0, ByteArray.empty⟩ : T_Ins)] : List T_Ins)).bind fun zs279 => some (.next (zs279, IntKind.i64.wrap (x199 + 1))) else some (.next (x194, IntKind.i64.wrap (x199 + 1))) else (r3_Ins (⟨IntKind.i64.wrap (a1 + x267), x254.D, x254.A, x254.B, 0, (ByteArray.mk #[])⟩ : T_Ins)).bind fun r280 => bif r280 then (app' x194 ([(⟨IntKind.i64.wrap (a1 + x267), x254.D, x254.A, x254.B, 0, (ByteArray.mk #[])⟩ : T_Ins)] : List T_Ins)).bind fun zs289 => some (.next (zs289, IntKind.i64.wrap (x199 + 1))) else some (.next (x194, IntKind.i64.wrap (x199 + 1)))
noncomputable def l5_kinds_b2 (a0 : T_Script) (a2 : Int) (a1 : Int) : ((List T_Ins) × Int) → Option (Step ((List T_Ins) × Int) (Step (List T_Ins) (List T_Ins))) := fun (x194, x199) => cut (σ := Unit) (bif decide (x199 < (a0.P.length : Int)) then bif decide ((x194.length : Int) < 50) then some (.next ()) else some (.done (.done (.next x194))) else some (.done (.done (.next x194)))) (l5_kinds_k3 a0 x199 a2 a1 x194)
noncomputable def l5_kinds_k1  : (List T_Ins) → Option (List T_Ins) := fun x144 => (app' x144 ([(⟨27, 0, 3, 0, 0, ByteArray.empty⟩ : T_Ins), (⟨33, 0, 0, 0, 0, ByteArray.empty⟩ : T_Ins)] : List T_Ins)).bind fun zs298 => some (zs298)
noncomputable def l5_kinds (a0 : T_Script) (a1 : Int) (a2 : Int) : Option (List T_Ins) :=
  cut (σ := (List T_Ins)) (loop (σ := ((List T_Ins) × Int)) (l5_kinds_b2 a0 a2 a1) (([(⟨26, 1, 0, 0, 0, ByteArray.empty⟩ : T_Ins), (⟨26, 2, 0, 0, 0, ByteArray.empty⟩ : T_Ins), (⟨23, 3, 0, 0, (-5), ByteArray.empty⟩ : T_Ins), (⟨23, 4, 0, 0, 77, ByteArray.empty⟩ : T_Ins)] : List T_Ins), 0)) (l5_kinds_k1)
set_option maxHeartbeats 2000000 in
theorem w_l5_kinds_ {g : Frag} {a0 : T_Script} {v0_ : Value} {a1 : Int} {a2 : Int} {r : (List T_Ins)} (h0 : Rd_Script g a0 v0_) (hF : l5_kinds a0 a1 a2 = some r) : LC Try.prog 22 #[v0_, .int .i64 a1, .int .i64 a2] g [] (fun v L => ∃ (u0 : Value) (M0 : Own), u0 = v ∧ L = (M0 ++ []) ∧ OwT 43 enc_Ins 6 r u0 M0) := by
 obtain ⟨v0_0_, v0_1_, v0_2_, v0_3_, v0_5_, v0_7_, v0_9_, v0_12_, v0_13_, rfl, h0_0_, h0_1_, h0_2_, h0_3_, h0_5_, h0_7_, h0_9_, h0_12_, h0_13_⟩ := h0
 unfold l5_kinds at hF
 refine lc_body (k := 65) (av := [.agg #[v0_0_, v0_1_, v0_2_, v0_3_, .int .i64 a0.S.Taken, v0_5_, .int .i64 a0.S.PC, v0_7_, .int .i64 a0.S.Stop, v0_9_, .int .i64 a0.S.Jump, .int .i64 a0.S.Delay, v0_12_, v0_13_], .int .i64 a1, .int .i64 a2]) Try.func22 rfl rfl (h := fun W hS => ?_)
 refine c_seq ?_
 refine c_region ?_
 refine o_boxP (cl := [v0_0_, v0_1_, v0_2_, v0_3_, .int .i64 a0.S.Taken, v0_5_, .int .i64 a0.S.PC, v0_7_, .int .i64 a0.S.Stop, v0_9_, .int .i64 a0.S.Jump, .int .i64 a0.S.Delay, v0_12_, v0_13_]) rfl hS ?_
 clear hS; intro b1 w hS
 refine oy hS y_assign ?_
 refine n_thenN ?_
 refine c_seq ?_
 refine c_region ?_
 refine oy hS (y_build (cl := [.int .i64 26, .int .i64 1, .int .i64 0, .int .i64 0, .int .i64 0, .string ByteArray.empty]) bt_api_Ins rfl (fillS (vs := [.int .i64 26]) rfl rfl rfl rfl (fillS (vs := [.int .i64 1]) rfl rfl rfl rfl fillN))) ?_
 refine oy hS (y_build (cl := [.int .i64 26, .int .i64 2, .int .i64 0, .int .i64 0, .int .i64 0, .string ByteArray.empty]) bt_api_Ins rfl (fillS (vs := [.int .i64 26]) rfl rfl rfl rfl (fillS (vs := [.int .i64 2]) rfl rfl rfl rfl fillN))) ?_
 refine oy hS (y_build (cl := [.int .i64 23, .int .i64 3, .int .i64 0, .int .i64 0, .int .i64 (-5), .string ByteArray.empty]) bt_api_Ins rfl (fillS (vs := [.int .i64 23]) rfl rfl rfl rfl (fillS (vs := [.int .i64 3]) rfl rfl rfl rfl (fillS (vs := [.int .i64 (-5)]) rfl rfl rfl rfl fillN)))) ?_
 refine oy hS (y_build (cl := [.int .i64 23, .int .i64 4, .int .i64 0, .int .i64 0, .int .i64 77, .string ByteArray.empty]) bt_api_Ins rfl (fillS (vs := [.int .i64 23]) rfl rfl rfl rfl (fillS (vs := [.int .i64 4]) rfl rfl rfl rfl (fillS (vs := [.int .i64 77]) rfl rfl rfl rfl fillN)))) ?_
 refine o_buildT val_Ins ([(⟨26, 1, 0, 0, 0, ByteArray.empty⟩ : T_Ins), (⟨26, 2, 0, 0, 0, ByteArray.empty⟩ : T_Ins), (⟨23, 3, 0, 0, (-5), ByteArray.empty⟩ : T_Ins), (⟨23, 4, 0, 0, 77, ByteArray.empty⟩ : T_Ins)] : List T_Ins) hS el_api_Ins (fun _ => rfl) enc_len_Ins (by decide) rfl (by decide) (hp := rfl) (h := ?_)
 clear hS; intro b2 w hS h3
 have hS : St W g [] ([(b2, blk (([(⟨26, 1, 0, 0, 0, ByteArray.empty⟩ : T_Ins), (⟨26, 2, 0, 0, 0, ByteArray.empty⟩ : T_Ins), (⟨23, 3, 0, 0, (-5), ByteArray.empty⟩ : T_Ins), (⟨23, 4, 0, 0, 77, ByteArray.empty⟩ : T_Ins)] : List T_Ins).flatMap enc_Ins) 43)] ++ ((b1, blk [v0_0_, v0_1_, v0_2_, v0_3_, .int .i64 a0.S.Taken, v0_5_, .int .i64 a0.S.PC, v0_7_, .int .i64 a0.S.Stop, v0_9_, .int .i64 a0.S.Jump, .int .i64 a0.S.Delay, v0_12_, v0_13_] 29) :: [])) w := hS
 refine oy hS y_assign ?_
 refine n_thenN ?_
 obtain ⟨z149, hF, hK150⟩ := cut_step hF
 refine c_cutP (fun a w' => ∃ (x144 : (List T_Ins)) (v145 : Value) (LX147 : Own), l5_kinds_k1 x144 = some r ∧ OwT 43 enc_Ins 6 x144 v145 LX147 ∧ (∃ s : Nat → Value, a = Ac (.lit 65 [s 0, s 1, s 2, s 3, s 4, s 5, s 6, v145, s 8, s 9, s 10, s 11, s 12, s 13, s 14, s 15, s 16, s 17, s 18, s 19, s 20, s 21, s 22, s 23, s 24, s 25, s 26, s 27, s 28, s 29, s 30, s 31, s 32, s 33, s 34, s 35, s 36, s 37, s 38, s 39, s 40, s 41, s 42, s 43, s 44, s 45, s 46, s 47, s 48, s 49, s 50, s 51, s 52, s 53, s 54, s 55, s 56, s 57, s 58, s 59, s 60, s 61, s 62, s 63, s 64])) ∧ St W g [] (LX147 ++ []) w') ?_ ?_
 · skip
   refine c_seq ?_
   refine c_region ?_
   refine oy hS y_assign ?_
   refine n_thenN ?_
   refine c_block ?_
   refine c_loopP hF (fun (q : ((List T_Ins) × Int)) a w' => ∃ (v195 : Value) (LX197 : Own), OwT 43 enc_Ins 6 q.1 v195 LX197 ∧ (∃ s : Nat → Value, a = Ac (.lit 65 [s 0, .int .i64 a1, .int .i64 a2, .pointer (some ⟨b1, 0, none⟩), s 4, s 5, s 6, v195, .int .i64 q.2, s 9, s 10, s 11, s 12, s 13, s 14, s 15, s 16, s 17, s 18, s 19, s 20, s 21, s 22, s 23, s 24, s 25, s 26, s 27, s 28, s 29, s 30, s 31, s 32, s 33, s 34, s 35, s 36, s 37, s 38, s 39, s 40, s 41, s 42, s 43, s 44, s 45, s 46, s 47, s 48, s 49, s 50, s 51, s 52, s 53, s 54, s 55, s 56, s 57, s 58, s 59, s 60, s 61, s 62, s 63, s 64])) ∧ St W g [] ((b1, blk [v0_0_, v0_1_, v0_2_, v0_3_, .int .i64 a0.S.Taken, v0_5_, .int .i64 a0.S.PC, v0_7_, .int .i64 a0.S.Stop, v0_9_, .int .i64 a0.S.Jump, .int .i64 a0.S.Delay, v0_12_, v0_13_] 29) :: (LX197 ++ [])) w') ⟨(.slice (some ⟨b2, 0, none⟩) 4 4), [(b2, blk (([(⟨26, 1, 0, 0, 0, ByteArray.empty⟩ : T_Ins), (⟨26, 2, 0, 0, 0, ByteArray.empty⟩ : T_Ins), (⟨23, 3, 0, 0, (-5), ByteArray.empty⟩ : T_Ins), (⟨23, 4, 0, 0, 77, ByteArray.empty⟩ : T_Ins)] : List T_Ins).flatMap enc_Ins) 43)], h3, mk_ex, (hS.re (.takeb (.there _ (.hereb _ _)) (.take (.here _ _) (.nil _))))⟩ ?_
   clear hS hF
   intro n245 q a w hI hq
   obtain ⟨x194, x199⟩ := q
   obtain ⟨v195, LX197, h196, ⟨s246, rfl⟩, hS⟩ := hq
   replace h196 : OwT 43 enc_Ins 6 x194 v195 LX197 := h196
   obtain ⟨z243, hF, hK244⟩ := iter_step hI
   clear hI
   dsimp only [l5_kinds_b2] at hF
   obtain ⟨z249, hF, hK250⟩ := cut_step hF
   refine c_cutP (fun a w' => l5_kinds_k3 a0 x199 a2 a1 x194 () = some z243 ∧ (∃ s : Nat → Value, a = Ac (.lit 65 [s 0, .int .i64 a1, .int .i64 a2, .pointer (some ⟨b1, 0, none⟩), s 4, s 5, s 6, v195, .int .i64 x199, s 9, s 10, s 11, s 12, s 13, s 14, s 15, s 16, s 17, s 18, s 19, s 20, s 21, s 22, s 23, s 24, s 25, s 26, s 27, s 28, s 29, s 30, s 31, s 32, s 33, s 34, s 35, s 36, s 37, s 38, s 39, s 40, s 41, s 42, s 43, s 44, s 45, s 46, s 47, s 48, s 49, s 50, s 51, s 52, s 53, s 54, s 55, s 56, s 57, s 58, s 59, s 60, s 61, s 62, s 63, s 64])) ∧ St W g [] ((b1, blk [v0_0_, v0_1_, v0_2_, v0_3_, .int .i64 a0.S.Taken, v0_5_, .int .i64 a0.S.PC, v0_7_, .int .i64 a0.S.Stop, v0_9_, .int .i64 a0.S.Jump, .int .i64 a0.S.Delay, v0_12_, v0_13_] 29) :: (LX197 ++ [])) w') ?_ ?_
   · skip
     refine c_seq ?_
     refine c_region ?_
     refine oy hS y_move ?_
     refine oy hS (y_field fa_sledgelaw5_Script_0) ?_
     refine oy hS (y_load (fun w hS => hS.own (mH)) Try.underlying22 rfl rfl) ?_
     refine oy hS (y_len h0_0_ Try.underlying22) ?_
     refine oy hS y_bin ?_
     refine o_split (ht := fun c251 => ?_) (hf := fun c251 => ?_)
     · replace hF := bt c251 hF
       refine o_gu rfl rfl rfl ?_
       refine oy hS y_move ?_
       refine o_gu rfl rfl rfl ?_
       refine oy hS (y_lenO h196 Try.underlying22) ?_
       refine o_gu rfl rfl rfl ?_
       refine oy hS y_bin ?_
       refine oy hS y_pickT ?_
       refine n_thenN ?_
       refine c_if (ht := fun c252 => ?_) (hf := fun c252 => ?_)
       · replace hF := bt c252 hF
         refine wp_skip ?_
         obtain rfl := Option.some.inj hF
         change _ ∧ _
         exact ⟨hK250, mk_ex, (hS.re (.takeb (.hereb _ _) (.take (.here _ _) (.nil _))))⟩
       replace hF := bf c252 hF
       refine wp_exit ?_
       obtain rfl := Option.some.inj hF
       obtain rfl : _ = z243 := hK250
       obtain rfl : _ = z149 := hK244
       change ∃ _, _
       exact ⟨x194, v195, LX197, hK150, h196, mk_ex, (hS.re (.take (.thereb _ (.here _ _)) (.nil _)))⟩
     replace hF := bf c251 hF
     iterate 3 (refine o_sk rfl rfl ?_)
     refine oy hS y_pickF ?_
     refine n_thenN ?_
     refine c_if_false (h := ?_)
     refine wp_exit ?_
     obtain rfl := Option.some.inj hF
     obtain rfl : _ = z243 := hK250
     obtain rfl : _ = z149 := hK244
     change ∃ _, _
     exact ⟨x194, v195, LX197, hK150, h196, mk_ex, (hS.re (.take (.thereb _ (.here _ _)) (.nil _)))⟩
   rintro a w ⟨hF, ⟨s253, rfl⟩, hS⟩
   dsimp only [l5_kinds_k3] at hF
   refine c_seq ?_
   refine c_block ?_
   refine c_seq ?_
   refine c_region ?_
   refine oy hS (y_field fa_sledgelaw5_Script_0) ?_
   refine oy hS (y_load (fun w hS => hS.own (mH)) Try.underlying22 rfl rfl) ?_
   refine oy hS y_move ?_
   obtain ⟨x254, hx254, hF⟩ := ob hF
   obtain ⟨b255, o256, c257, cs258, e259, fz260, hv261, ha262, hb263, hd264, hc265⟩ := SlT.at hx254 h0_0_ enc_len_Ins
   refine oy hS (y_index hv261 ha262 hb263 Try.underlying22 el_api_Ins.size) ?_
   refine oy hS (y_loadN (vs := [.int .i64 x254.Op, .int .i64 x254.D, .int .i64 x254.A, .int .i64 x254.B, .int .i64 x254.Imm, .string x254.Sym]) (fun w hS => hS.block hd264) Try.underlying43 rfl (by exact sz_api_Ins) (fun j u hj => hc265 j u hj)) ?_
   refine o_allocP (cl := [.int .i64 0, .int .i64 0, .int .i64 0, .int .i64 0, .int .i64 0, .string ByteArray.empty]) zr_api_Ins rfl hS ?_
   clear hS; intro b266 w hS
   refine o_storeP (vs := [.int .i64 x254.Op, .int .i64 x254.D, .int .i64 x254.A, .int .i64 x254.B, .int .i64 x254.Imm, .string x254.Sym]) hS (hm := Upd.here _) (hi := by exact sz_api_Ins) (h1 := (onC rfl (onC rfl (onC rfl (onC rfl (onC rfl (onC rfl onN))))))) ?_
   clear hS; intro w hS
   refine n_thenN ?_
   refine c_seq ?_
   refine c_region ?_
   iterate 4 (refine oy hS y_move ?_)
   iterate 2 (refine oy hS y_bin ?_)
   obtain ⟨x267, hx267, hF⟩ := ob hF
   refine oy hS (y_rem hx267) ?_
   refine oy hS y_bin ?_
   refine oy hS (y_field fa_api_Ins_0) ?_
   refine o_store hS (hm := Upd.here _) (hi := by exact sz_int) (h1 := rfl) (hc := rfl) (ho := by exact Nat.le_of_ble_eq_true rfl) (h := ?_)
   clear hS; intro w hS
   refine n_thenN ?_
   refine c_seq ?_
   refine c_region ?_
   refine oy hS (y_field fa_api_Ins_5) ?_
   refine o_store hS (hm := Upd.here _) (hi := by exact sz_string) (h1 := rfl) (hc := rfl) (ho := by exact Nat.le_of_ble_eq_true rfl) (h := ?_)
   clear hS; intro w hS
   refine n_thenN ?_
   iterate 2 (refine c_seq ?_)
   refine c_region ?_
   refine oy hS (y_field fa_api_Ins_0) ?_
   refine oy hS (y_load (fun w hS => hS.own (mH)) Try.underlying3 rfl rfl) ?_
   obtain ⟨r268, hr268, hF⟩ := ob hF
   refine o_callS hS Try.func43 rfl rfl (hc := (w_r3_Form (a0 := (IntKind.i64.wrap (a1 + x267))) (hF := hr268))) (h := ?_)
   clear hS; intro w hS
   refine oy hS y_bin ?_
   refine n_thenN ?_
   refine c_if (ht := fun c269 => ?_) (hf := fun c269 => ?_)
   · replace hF := bt c269 hF
     refine c_region ?_
     refine oy hS (y_field fa_api_Ins_0) ?_
     refine oy hS (y_load (fun w hS => hS.own (mH)) Try.underlying3 rfl rfl) ?_
     refine oy hS (y_field fa_api_Ins_1) ?_
     refine oy hS (y_load (fun w hS => hS.own (mH)) Try.underlying3 rfl rfl) ?_
     refine oy hS (y_field fa_api_Ins_2) ?_
     refine oy hS (y_load (fun w hS => hS.own (mH)) Try.underlying3 rfl rfl) ?_
     refine oy hS (y_build (cl := [.int .i64 (IntKind.i64.wrap (a1 + x267)), .int .i64 x254.D, .int .i64 x254.A, .int .i64 0, .int .i64 0, .string ByteArray.empty]) bt_api_Ins rfl (fillS (vs := [.int .i64 (IntKind.i64.wrap (a1 + x267))]) rfl rfl rfl rfl (fillS (vs := [.int .i64 x254.D]) rfl rfl rfl rfl (fillS (vs := [.int .i64 x254.A]) rfl rfl rfl rfl fillN)))) ?_
     refine o_storeP (vs := [.int .i64 (IntKind.i64.wrap (a1 + x267)), .int .i64 x254.D, .int .i64 x254.A, .int .i64 0, .int .i64 0, .string ByteArray.empty]) hS (hm := Upd.here _) (hi := by exact sz_api_Ins) (h1 := (onC rfl (onC rfl (onC rfl (onC rfl (onC rfl (onC rfl onN))))))) ?_
     clear hS; intro w hS
     refine n_thenN ?_
     refine c_seq ?_
     refine c_region ?_
     refine oy hS (y_loadW (fun w hS => hS.own (mH)) Try.underlying43 rfl (by exact sz_api_Ins)) ?_
     obtain ⟨r270, hr270, hF⟩ := ob hF
     refine o_callS hS Try.func44 rfl rfl (hc := (w_r3_Ins (a0 := (⟨IntKind.i64.wrap (a1 + x267), x254.D, x254.A, 0, 0, ByteArray.empty⟩ : T_Ins)) (hF := hr270))) (h := ?_)
     clear hS; intro w hS
     refine n_thenN ?_
     refine c_if (ht := fun c271 => ?_) (hf := fun c271 => ?_)
     · replace hF := bt c271 hF
       refine c_region ?_
       refine oy hS y_move ?_
       refine oy hS (y_loadW (fun w hS => hS.own (mH)) Try.underlying43 rfl (by exact sz_api_Ins)) ?_
       refine o_buildT val_Ins ([(⟨IntKind.i64.wrap (a1 + x267), x254.D, x254.A, 0, 0, ByteArray.empty⟩ : T_Ins)] : List T_Ins) hS el_api_Ins (fun _ => rfl) enc_len_Ins (by decide) rfl (by decide) (hp := rfl) (h := ?_)
       clear hS; intro b272 w hS h273
       have hS : St W g [] ([(b272, blk (([(⟨IntKind.i64.wrap (a1 + x267), x254.D, x254.A, 0, 0, ByteArray.empty⟩ : T_Ins)] : List T_Ins).flatMap enc_Ins) 43)] ++ ((b266, blk [.int .i64 (IntKind.i64.wrap (a1 + x267)), .int .i64 x254.D, .int .i64 x254.A, .int .i64 0, .int .i64 0, .string ByteArray.empty] 43) :: ((b1, blk [v0_0_, v0_1_, v0_2_, v0_3_, .int .i64 a0.S.Taken, v0_5_, .int .i64 a0.S.PC, v0_7_, .int .i64 a0.S.Stop, v0_9_, .int .i64 a0.S.Jump, .int .i64 a0.S.Delay, v0_12_, v0_13_] 29) :: (LX197 ++ [])))) w := hS
       obtain ⟨zs279, hzs279, hF⟩ := ob hF
       have hS : St W g [] ([(b272, blk (([(⟨IntKind.i64.wrap (a1 + x267), x254.D, x254.A, 0, 0, ByteArray.empty⟩ : T_Ins)] : List T_Ins).flatMap enc_Ins) 43)] ++ (LX197 ++ ((b266, blk [.int .i64 (IntKind.i64.wrap (a1 + x267)), .int .i64 x254.D, .int .i64 x254.A, .int .i64 0, .int .i64 0, .string ByteArray.empty] 43) :: ((b1, blk [v0_0_, v0_1_, v0_2_, v0_3_, .int .i64 a0.S.Taken, v0_5_, .int .i64 a0.S.PC, v0_7_, .int .i64 a0.S.Stop, v0_9_, .int .i64 a0.S.Jump, .int .i64 a0.S.Delay, v0_12_, v0_13_] 29) :: [])))) w := hS.re (.take (.here _ _) (.take (.thereb _ (.thereb _ (.here _ _))) (.takeb (.hereb _ _) (.takeb (.hereb _ _) (.nil _)))))
       refine o_appPn (ys := ([(⟨IntKind.i64.wrap (a1 + x267), x254.D, x254.A, 0, 0, ByteArray.empty⟩ : T_Ins)] : List T_Ins)) (LX := LX197) hzs279 hS el_api_Ins h196 rfl enc_len_Ins (enc_ones_Ins _) (by decide) ?_
       clear hS; intro v275 LX276 w h277 hS
       refine oy hS y_assign ?_
       refine n_anyN ?_
       refine c_region ?_
       refine oy hS y_move ?_
       refine oy hS y_bin ?_
       refine oy hS y_assign ?_
       refine n_thenN ?_
       obtain rfl := Option.some.inj hF
       exact ⟨_, hK244, v275, LX276, h277, mk_ex, (hS.re (.takeb (.there _ (.thereb _ (.hereb _ _))) (.take (.here _ _) (.nil _))))⟩
     replace hF := bf c271 hF
     refine wp_skip ?_
     refine c_region ?_
     refine oy hS y_move ?_
     refine oy hS y_bin ?_
     refine oy hS y_assign ?_
     refine n_thenN ?_
     obtain rfl := Option.some.inj hF
     exact ⟨_, hK244, v195, LX197, h196, mk_ex, (hS.re (.takeb (.thereb _ (.hereb _ _)) (.take (.thereb _ (.here _ _)) (.nil _))))⟩
   replace hF := bf c269 hF
   refine c_region ?_
   refine oy hS (y_field fa_api_Ins_4) ?_
   refine o_store hS (hm := Upd.here _) (hi := by exact sz_int) (h1 := rfl) (hc := rfl) (ho := by exact Nat.le_of_ble_eq_true rfl) (h := ?_)
   clear hS; intro w hS
   refine n_thenN ?_
   refine c_seq ?_
   refine c_region ?_
   refine oy hS (y_loadW (fun w hS => hS.own (mH)) Try.underlying43 rfl (by exact sz_api_Ins)) ?_
   obtain ⟨r280, hr280, hF⟩ := ob hF
   refine o_callS hS Try.func44 rfl rfl (hc := (w_r3_Ins (a0 := (⟨IntKind.i64.wrap (a1 + x267), x254.D, x254.A, x254.B, 0, (ByteArray.mk #[])⟩ : T_Ins)) (hF := hr280))) (h := ?_)
   clear hS; intro w hS
   refine n_thenN ?_
   refine c_if (ht := fun c281 => ?_) (hf := fun c281 => ?_)
   · replace hF := bt c281 hF
     refine c_region ?_
     refine oy hS y_move ?_
     refine oy hS (y_loadW (fun w hS => hS.own (mH)) Try.underlying43 rfl (by exact sz_api_Ins)) ?_
     refine o_buildT val_Ins ([(⟨IntKind.i64.wrap (a1 + x267), x254.D, x254.A, x254.B, 0, (ByteArray.mk #[])⟩ : T_Ins)] : List T_Ins) hS el_api_Ins (fun _ => rfl) enc_len_Ins (by decide) rfl (by decide) (hp := rfl) (h := ?_)
     clear hS; intro b282 w hS h283
     have hS : St W g [] ([(b282, blk (([(⟨IntKind.i64.wrap (a1 + x267), x254.D, x254.A, x254.B, 0, (ByteArray.mk #[])⟩ : T_Ins)] : List T_Ins).flatMap enc_Ins) 43)] ++ ((b266, blk [.int .i64 (IntKind.i64.wrap (a1 + x267)), .int .i64 x254.D, .int .i64 x254.A, .int .i64 x254.B, .int .i64 0, .string (ByteArray.mk #[])] 43) :: ((b1, blk [v0_0_, v0_1_, v0_2_, v0_3_, .int .i64 a0.S.Taken, v0_5_, .int .i64 a0.S.PC, v0_7_, .int .i64 a0.S.Stop, v0_9_, .int .i64 a0.S.Jump, .int .i64 a0.S.Delay, v0_12_, v0_13_] 29) :: (LX197 ++ [])))) w := hS
     obtain ⟨zs289, hzs289, hF⟩ := ob hF
     have hS : St W g [] ([(b282, blk (([(⟨IntKind.i64.wrap (a1 + x267), x254.D, x254.A, x254.B, 0, (ByteArray.mk #[])⟩ : T_Ins)] : List T_Ins).flatMap enc_Ins) 43)] ++ (LX197 ++ ((b266, blk [.int .i64 (IntKind.i64.wrap (a1 + x267)), .int .i64 x254.D, .int .i64 x254.A, .int .i64 x254.B, .int .i64 0, .string (ByteArray.mk #[])] 43) :: ((b1, blk [v0_0_, v0_1_, v0_2_, v0_3_, .int .i64 a0.S.Taken, v0_5_, .int .i64 a0.S.PC, v0_7_, .int .i64 a0.S.Stop, v0_9_, .int .i64 a0.S.Jump, .int .i64 a0.S.Delay, v0_12_, v0_13_] 29) :: [])))) w := hS.re (.take (.here _ _) (.take (.thereb _ (.thereb _ (.here _ _))) (.takeb (.hereb _ _) (.takeb (.hereb _ _) (.nil _)))))
     refine o_appPn (ys := ([(⟨IntKind.i64.wrap (a1 + x267), x254.D, x254.A, x254.B, 0, (ByteArray.mk #[])⟩ : T_Ins)] : List T_Ins)) (LX := LX197) hzs289 hS el_api_Ins h196 rfl enc_len_Ins (enc_ones_Ins _) (by decide) ?_
     clear hS; intro v285 LX286 w h287 hS
     refine oy hS y_assign ?_
     refine n_anyN ?_
     refine c_region ?_
     refine oy hS y_move ?_
     refine oy hS y_bin ?_
     refine oy hS y_assign ?_
     refine n_thenN ?_
     obtain rfl := Option.some.inj hF
     exact ⟨_, hK244, v285, LX286, h287, mk_ex, (hS.re (.takeb (.there _ (.thereb _ (.hereb _ _))) (.take (.here _ _) (.nil _))))⟩
   replace hF := bf c281 hF
   refine wp_skip ?_
   refine c_region ?_
   refine oy hS y_move ?_
   refine oy hS y_bin ?_
   refine oy hS y_assign ?_
   refine n_thenN ?_
   obtain rfl := Option.some.inj hF
   exact ⟨_, hK244, v195, LX197, h196, mk_ex, (hS.re (.takeb (.thereb _ (.hereb _ _)) (.take (.thereb _ (.here _ _)) (.nil _))))⟩
 rintro a w ⟨x144, v145, LX147, hF, h146, ⟨s290, rfl⟩, hS⟩
 dsimp only [l5_kinds_k1] at hF
 refine c_seq ?_
 refine c_region ?_
 refine oy hS y_move ?_
 refine oy hS (y_build (cl := [.int .i64 27, .int .i64 0, .int .i64 3, .int .i64 0, .int .i64 0, .string ByteArray.empty]) bt_api_Ins rfl (fillS (vs := [.int .i64 27]) rfl rfl rfl rfl (fillS (vs := [.int .i64 3]) rfl rfl rfl rfl fillN))) ?_
 refine oy hS (y_build (cl := [.int .i64 33, .int .i64 0, .int .i64 0, .int .i64 0, .int .i64 0, .string ByteArray.empty]) bt_api_Ins rfl (fillS (vs := [.int .i64 33]) rfl rfl rfl rfl fillN)) ?_
 refine o_buildT val_Ins ([(⟨27, 0, 3, 0, 0, ByteArray.empty⟩ : T_Ins), (⟨33, 0, 0, 0, 0, ByteArray.empty⟩ : T_Ins)] : List T_Ins) hS el_api_Ins (fun _ => rfl) enc_len_Ins (by decide) rfl (by decide) (hp := rfl) (h := ?_)
 clear hS; intro b291 w hS h292
 have hS : St W g [] ([(b291, blk (([(⟨27, 0, 3, 0, 0, ByteArray.empty⟩ : T_Ins), (⟨33, 0, 0, 0, 0, ByteArray.empty⟩ : T_Ins)] : List T_Ins).flatMap enc_Ins) 43)] ++ (LX147 ++ [])) w := hS
 obtain ⟨zs298, hzs298, hF⟩ := ob hF
 refine o_appPn (ys := ([(⟨27, 0, 3, 0, 0, ByteArray.empty⟩ : T_Ins), (⟨33, 0, 0, 0, 0, ByteArray.empty⟩ : T_Ins)] : List T_Ins)) (LX := LX147) hzs298 hS el_api_Ins h146 rfl enc_len_Ins (enc_ones_Ins _) (by decide) ?_
 clear hS; intro v294 LX295 w h296 hS
 refine oy hS y_assign ?_
 refine n_thenN ?_
 obtain rfl := Option.some.inj hF
 refine wp_ret (r_ret (vs := [v294]) (L' := (LX295 ++ [])) (hS.re (.take (.here _ _) (.nil _))) (show resAll _ _ _ [.tmp 6] _ from ⟨res_tmp, trivial⟩) rfl ⟨_, _, rfl, (by first | rfl | simp only [List.append_assoc, List.cons_append, List.nil_append, List.append_nil]), h296⟩)
theorem w_l5_kinds {g : Frag} {a0 : T_Script} {v0_ : Value} {a1 : Int} {a2 : Int} {r : (List T_Ins)} (h0 : Rd_Script g a0 v0_) (hF : l5_kinds a0 a1 a2 = some r) : LC Try.prog 22 #[v0_, .int .i64 a1, .int .i64 a2] g [] (fun v L => ∃ (u0 : Value) (M0 : Own), u0 = v ∧ L = (M0 ++ []) ∧ OwT 43 enc_Ins 6 r u0 M0) := w_l5_kinds_ h0 hF

noncomputable def r0_CopyWords_b1 (a0 : (List Int)) : ((List Int) × Int) → Option (Step ((List Int) × Int) (List Int)) := fun (x24, x29) => bif decide (x29 < (a0.length : Int)) then (at' a0 x29).bind fun x57 => (app' x24 ([x57] : List Int)).bind fun zs76 => some (.next (zs76, IntKind.i64.wrap (x29 + 1))) else some (.done (x24))
noncomputable def r0_CopyWords (a0 : (List Int)) : Option (List Int) :=
  loop (σ := ((List Int) × Int)) (r0_CopyWords_b1 a0) ([], 0)
set_option maxHeartbeats 2000000 in
theorem w_r0_CopyWords_ {g : Frag} {a0 : (List Int)} {v0_ : Value} {r : (List Int)} (h0 : SlT g enc_uint32 1 a0 v0_) (hF : r0_CopyWords a0 = some r) : LC Try.prog 45 #[v0_] g [] (fun v L => ∃ (u0 : Value) (M0 : Own), u0 = v ∧ L = (M0 ++ []) ∧ OwT 63 enc_uint32 1 r u0 M0) := by
 unfold r0_CopyWords at hF
 refine lc_body (k := 19) (av := [v0_]) Try.func45 rfl rfl (h := fun W hS => ?_)
 refine c_seq ?_
 refine c_region ?_
 refine oy hS y_assign ?_
 refine n_thenN ?_
 refine c_seq ?_
 refine c_region ?_
 refine oy hS y_assign ?_
 refine n_thenN ?_
 iterate 2 (refine c_seq ?_)
 refine c_region ?_
 refine oy hS y_assign ?_
 refine n_thenN ?_
 refine c_block ?_
 refine c_loopP hF (fun (q : ((List Int) × Int)) a w' => ∃ (v25 : Value) (LX27 : Own), OwT 63 enc_uint32 1 q.1 v25 LX27 ∧ (∃ s : Nat → Value, a = Ac (.lit 19 [v0_, s 1, s 2, v25, .int .i64 q.2, s 5, s 6, s 7, s 8, s 9, s 10, s 11, s 12, s 13, s 14, s 15, s 16, s 17, s 18])) ∧ St W g [] (LX27 ++ []) w') ⟨(.slice none 0 0), [], (OwT.nil _ _ _), mk_ex, (hS.re (.take (X := []) (.here [] _) (.nil _)))⟩ ?_
 clear hS hF
 intro n54 q a w hI hq
 obtain ⟨x24, x29⟩ := q
 obtain ⟨v25, LX27, h26, ⟨s55, rfl⟩, hS⟩ := hq
 replace h26 : OwT 63 enc_uint32 1 x24 v25 LX27 := h26
 obtain ⟨z51, hF, hK52⟩ := iter_step hI
 clear hI
 dsimp only [r0_CopyWords_b1] at hF
 iterate 2 (refine c_seq ?_)
 refine c_region ?_
 iterate 2 (refine oy hS y_move ?_)
 refine oy hS (y_len h0 Try.underlying23) ?_
 refine oy hS y_bin ?_
 refine n_thenN ?_
 refine c_if (ht := fun c56 => ?_) (hf := fun c56 => ?_)
 · replace hF := bt c56 hF
   refine wp_skip ?_
   refine c_seq ?_
   refine c_block ?_
   refine c_region ?_
   iterate 3 (refine oy hS y_move ?_)
   obtain ⟨x57, hx57, hF⟩ := ob hF
   obtain ⟨b58, o59, c60, cs61, e62, fz63, hv64, ha65, hb66, hd67, hc68⟩ := SlT.at hx57 h0 enc_len_uint32
   refine oy hS (y_index hv64 ha65 hb66 Try.underlying23 el_uint32.size) ?_
   refine oy hS (y_load (fun w hS => hS.block hd67) Try.underlying63 rfl (hc68 0 _ rfl)) ?_
   refine o_buildT val_uint32 ([x57] : List Int) hS el_uint32 (fun _ => rfl) enc_len_uint32 (by decide) rfl (by decide) (hp := rfl) (h := ?_)
   clear hS; intro b69 w hS h70
   have hS : St W g [] ([(b69, blk (([x57] : List Int).flatMap enc_uint32) 63)] ++ (LX27 ++ [])) w := hS
   obtain ⟨zs76, hzs76, hF⟩ := ob hF
   refine o_appPn (ys := ([x57] : List Int)) (LX := LX27) hzs76 hS el_uint32 h26 rfl enc_len_uint32 (enc_ones_uint32 _) (by decide) ?_
   clear hS; intro v72 LX73 w h74 hS
   refine oy hS y_assign ?_
   refine n_anyN ?_
   refine c_region ?_
   refine oy hS y_move ?_
   refine oy hS y_bin ?_
   refine oy hS y_assign ?_
   refine n_thenN ?_
   obtain rfl := Option.some.inj hF
   exact ⟨_, hK52, v72, LX73, h74, mk_ex, (hS.re (.take (.here _ _) (.nil _)))⟩
 replace hF := bf c56 hF
 refine wp_exit ?_
 refine c_seq ?_
 refine c_region ?_
 refine oy hS y_move ?_
 refine oy hS y_assign ?_
 refine n_thenN ?_
 obtain rfl := Option.some.inj hF
 obtain rfl : _ = r := hK52
 refine wp_ret (r_ret (vs := [v25]) (L' := (LX27 ++ [])) (hS.re (.take (.here _ _) (.nil _))) (show resAll _ _ _ [.tmp 2] _ from ⟨res_tmp, trivial⟩) rfl ⟨_, _, rfl, (by first | rfl | simp only [List.append_assoc, List.cons_append, List.nil_append, List.append_nil]), h26⟩)
theorem w_r0_CopyWords {g : Frag} {a0 : (List Int)} {v0_ : Value} {r : (List Int)} (h0 : SlT g enc_uint32 1 a0 v0_) (hF : r0_CopyWords a0 = some r) : LC Try.prog 45 #[v0_] g [] (fun v L => ∃ (u0 : Value) (M0 : Own), u0 = v ∧ L = (M0 ++ []) ∧ OwT 63 enc_uint32 1 r u0 M0) := w_r0_CopyWords_ h0 hF

noncomputable def r0_CopyNumbers_b1 (a0 : (List Int)) : ((List Int) × Int) → Option (Step ((List Int) × Int) (List Int)) := fun (x24, x29) => bif decide (x29 < (a0.length : Int)) then (at' a0 x29).bind fun x57 => (app' x24 ([x57] : List Int)).bind fun zs76 => some (.next (zs76, IntKind.i64.wrap (x29 + 1))) else some (.done (x24))
noncomputable def r0_CopyNumbers (a0 : (List Int)) : Option (List Int) :=
  loop (σ := ((List Int) × Int)) (r0_CopyNumbers_b1 a0) ([], 0)
set_option maxHeartbeats 2000000 in
theorem w_r0_CopyNumbers_ {g : Frag} {a0 : (List Int)} {v0_ : Value} {r : (List Int)} (h0 : SlT g enc_int 1 a0 v0_) (hF : r0_CopyNumbers a0 = some r) : LC Try.prog 46 #[v0_] g [] (fun v L => ∃ (u0 : Value) (M0 : Own), u0 = v ∧ L = (M0 ++ []) ∧ OwT 3 enc_int 1 r u0 M0) := by
 unfold r0_CopyNumbers at hF
 refine lc_body (k := 19) (av := [v0_]) Try.func46 rfl rfl (h := fun W hS => ?_)
 refine c_seq ?_
 refine c_region ?_
 refine oy hS y_assign ?_
 refine n_thenN ?_
 refine c_seq ?_
 refine c_region ?_
 refine oy hS y_assign ?_
 refine n_thenN ?_
 iterate 2 (refine c_seq ?_)
 refine c_region ?_
 refine oy hS y_assign ?_
 refine n_thenN ?_
 refine c_block ?_
 refine c_loopP hF (fun (q : ((List Int) × Int)) a w' => ∃ (v25 : Value) (LX27 : Own), OwT 3 enc_int 1 q.1 v25 LX27 ∧ (∃ s : Nat → Value, a = Ac (.lit 19 [v0_, s 1, s 2, v25, .int .i64 q.2, s 5, s 6, s 7, s 8, s 9, s 10, s 11, s 12, s 13, s 14, s 15, s 16, s 17, s 18])) ∧ St W g [] (LX27 ++ []) w') ⟨(.slice none 0 0), [], (OwT.nil _ _ _), mk_ex, (hS.re (.take (X := []) (.here [] _) (.nil _)))⟩ ?_
 clear hS hF
 intro n54 q a w hI hq
 obtain ⟨x24, x29⟩ := q
 obtain ⟨v25, LX27, h26, ⟨s55, rfl⟩, hS⟩ := hq
 replace h26 : OwT 3 enc_int 1 x24 v25 LX27 := h26
 obtain ⟨z51, hF, hK52⟩ := iter_step hI
 clear hI
 dsimp only [r0_CopyNumbers_b1] at hF
 iterate 2 (refine c_seq ?_)
 refine c_region ?_
 iterate 2 (refine oy hS y_move ?_)
 refine oy hS (y_len h0 Try.underlying24) ?_
 refine oy hS y_bin ?_
 refine n_thenN ?_
 refine c_if (ht := fun c56 => ?_) (hf := fun c56 => ?_)
 · replace hF := bt c56 hF
   refine wp_skip ?_
   refine c_seq ?_
   refine c_block ?_
   refine c_region ?_
   iterate 3 (refine oy hS y_move ?_)
   obtain ⟨x57, hx57, hF⟩ := ob hF
   obtain ⟨b58, o59, c60, cs61, e62, fz63, hv64, ha65, hb66, hd67, hc68⟩ := SlT.at hx57 h0 enc_len_int
   refine oy hS (y_index hv64 ha65 hb66 Try.underlying24 el_int.size) ?_
   refine oy hS (y_load (fun w hS => hS.block hd67) Try.underlying3 rfl (hc68 0 _ rfl)) ?_
   refine o_buildT val_int ([x57] : List Int) hS el_int (fun _ => rfl) enc_len_int (by decide) rfl (by decide) (hp := rfl) (h := ?_)
   clear hS; intro b69 w hS h70
   have hS : St W g [] ([(b69, blk (([x57] : List Int).flatMap enc_int) 3)] ++ (LX27 ++ [])) w := hS
   obtain ⟨zs76, hzs76, hF⟩ := ob hF
   refine o_appPn (ys := ([x57] : List Int)) (LX := LX27) hzs76 hS el_int h26 rfl enc_len_int (enc_ones_int _) (by decide) ?_
   clear hS; intro v72 LX73 w h74 hS
   refine oy hS y_assign ?_
   refine n_anyN ?_
   refine c_region ?_
   refine oy hS y_move ?_
   refine oy hS y_bin ?_
   refine oy hS y_assign ?_
   refine n_thenN ?_
   obtain rfl := Option.some.inj hF
   exact ⟨_, hK52, v72, LX73, h74, mk_ex, (hS.re (.take (.here _ _) (.nil _)))⟩
 replace hF := bf c56 hF
 refine wp_exit ?_
 refine c_seq ?_
 refine c_region ?_
 refine oy hS y_move ?_
 refine oy hS y_assign ?_
 refine n_thenN ?_
 obtain rfl := Option.some.inj hF
 obtain rfl : _ = r := hK52
 refine wp_ret (r_ret (vs := [v25]) (L' := (LX27 ++ [])) (hS.re (.take (.here _ _) (.nil _))) (show resAll _ _ _ [.tmp 2] _ from ⟨res_tmp, trivial⟩) rfl ⟨_, _, rfl, (by first | rfl | simp only [List.append_assoc, List.cons_append, List.nil_append, List.append_nil]), h26⟩)
theorem w_r0_CopyNumbers {g : Frag} {a0 : (List Int)} {v0_ : Value} {r : (List Int)} (h0 : SlT g enc_int 1 a0 v0_) (hF : r0_CopyNumbers a0 = some r) : LC Try.prog 46 #[v0_] g [] (fun v L => ∃ (u0 : Value) (M0 : Own), u0 = v ∧ L = (M0 ++ []) ∧ OwT 3 enc_int 1 r u0 M0) := w_r0_CopyNumbers_ h0 hF

noncomputable def r0_CopyFlies_b1 (a0 : (List T_Write)) : ((List T_Write) × Int) → Option (Step ((List T_Write) × Int) (List T_Write)) := fun (x24, x29) => bif decide (x29 < (a0.length : Int)) then (at' a0 x29).bind fun x57 => (app' x24 ([x57] : List T_Write)).bind fun zs76 => some (.next (zs76, IntKind.i64.wrap (x29 + 1))) else some (.done (x24))
noncomputable def r0_CopyFlies (a0 : (List T_Write)) : Option (List T_Write) :=
  loop (σ := ((List T_Write) × Int)) (r0_CopyFlies_b1 a0) ([], 0)
set_option maxHeartbeats 2000000 in
theorem w_r0_CopyFlies_ {g : Frag} {a0 : (List T_Write)} {v0_ : Value} {r : (List T_Write)} (h0 : SlT g enc_Write 3 a0 v0_) (hF : r0_CopyFlies a0 = some r) : LC Try.prog 47 #[v0_] g [] (fun v L => ∃ (u0 : Value) (M0 : Own), u0 = v ∧ L = (M0 ++ []) ∧ OwT 71 enc_Write 3 r u0 M0) := by
 unfold r0_CopyFlies at hF
 refine lc_body (k := 19) (av := [v0_]) Try.func47 rfl rfl (h := fun W hS => ?_)
 refine c_seq ?_
 refine c_region ?_
 refine oy hS y_assign ?_
 refine n_thenN ?_
 refine c_seq ?_
 refine c_region ?_
 refine oy hS y_assign ?_
 refine n_thenN ?_
 iterate 2 (refine c_seq ?_)
 refine c_region ?_
 refine oy hS y_assign ?_
 refine n_thenN ?_
 refine c_block ?_
 refine c_loopP hF (fun (q : ((List T_Write) × Int)) a w' => ∃ (v25 : Value) (LX27 : Own), OwT 71 enc_Write 3 q.1 v25 LX27 ∧ (∃ s : Nat → Value, a = Ac (.lit 19 [v0_, s 1, s 2, v25, .int .i64 q.2, s 5, s 6, s 7, s 8, s 9, s 10, s 11, s 12, s 13, s 14, s 15, s 16, s 17, s 18])) ∧ St W g [] (LX27 ++ []) w') ⟨(.slice none 0 0), [], (OwT.nil _ _ _), mk_ex, (hS.re (.take (X := []) (.here [] _) (.nil _)))⟩ ?_
 clear hS hF
 intro n54 q a w hI hq
 obtain ⟨x24, x29⟩ := q
 obtain ⟨v25, LX27, h26, ⟨s55, rfl⟩, hS⟩ := hq
 replace h26 : OwT 71 enc_Write 3 x24 v25 LX27 := h26
 obtain ⟨z51, hF, hK52⟩ := iter_step hI
 clear hI
 dsimp only [r0_CopyFlies_b1] at hF
 iterate 2 (refine c_seq ?_)
 refine c_region ?_
 iterate 2 (refine oy hS y_move ?_)
 refine oy hS (y_len h0 Try.underlying25) ?_
 refine oy hS y_bin ?_
 refine n_thenN ?_
 refine c_if (ht := fun c56 => ?_) (hf := fun c56 => ?_)
 · replace hF := bt c56 hF
   refine wp_skip ?_
   refine c_seq ?_
   refine c_block ?_
   refine c_region ?_
   iterate 3 (refine oy hS y_move ?_)
   obtain ⟨x57, hx57, hF⟩ := ob hF
   obtain ⟨b58, o59, c60, cs61, e62, fz63, hv64, ha65, hb66, hd67, hc68⟩ := SlT.at hx57 h0 enc_len_Write
   refine oy hS (y_index hv64 ha65 hb66 Try.underlying25 el_api_Write.size) ?_
   refine oy hS (y_loadN (vs := [.int .i64 x57.Reg, .int .u32 x57.Value, .int .i64 x57.Left]) (fun w hS => hS.block hd67) Try.underlying71 rfl (by exact sz_api_Write) (fun j u hj => hc68 j u hj)) ?_
   refine o_buildT val_Write ([x57] : List T_Write) hS el_api_Write (fun _ => rfl) enc_len_Write (by decide) rfl (by decide) (hp := rfl) (h := ?_)
   clear hS; intro b69 w hS h70
   have hS : St W g [] ([(b69, blk (([x57] : List T_Write).flatMap enc_Write) 71)] ++ (LX27 ++ [])) w := hS
   obtain ⟨zs76, hzs76, hF⟩ := ob hF
   refine o_appPn (ys := ([x57] : List T_Write)) (LX := LX27) hzs76 hS el_api_Write h26 rfl enc_len_Write (enc_ones_Write _) (by decide) ?_
   clear hS; intro v72 LX73 w h74 hS
   refine oy hS y_assign ?_
   refine n_anyN ?_
   refine c_region ?_
   refine oy hS y_move ?_
   refine oy hS y_bin ?_
   refine oy hS y_assign ?_
   refine n_thenN ?_
   obtain rfl := Option.some.inj hF
   exact ⟨_, hK52, v72, LX73, h74, mk_ex, (hS.re (.take (.here _ _) (.nil _)))⟩
 replace hF := bf c56 hF
 refine wp_exit ?_
 refine c_seq ?_
 refine c_region ?_
 refine oy hS y_move ?_
 refine oy hS y_assign ?_
 refine n_thenN ?_
 obtain rfl := Option.some.inj hF
 obtain rfl : _ = r := hK52
 refine wp_ret (r_ret (vs := [v25]) (L' := (LX27 ++ [])) (hS.re (.take (.here _ _) (.nil _))) (show resAll _ _ _ [.tmp 2] _ from ⟨res_tmp, trivial⟩) rfl ⟨_, _, rfl, (by first | rfl | simp only [List.append_assoc, List.cons_append, List.nil_append, List.append_nil]), h26⟩)
theorem w_r0_CopyFlies {g : Frag} {a0 : (List T_Write)} {v0_ : Value} {r : (List T_Write)} (h0 : SlT g enc_Write 3 a0 v0_) (hF : r0_CopyFlies a0 = some r) : LC Try.prog 47 #[v0_] g [] (fun v L => ∃ (u0 : Value) (M0 : Own), u0 = v ∧ L = (M0 ++ []) ∧ OwT 71 enc_Write 3 r u0 M0) := w_r0_CopyFlies_ h0 hF
end Go.Proofs.Ytadajdcbeegabaa
