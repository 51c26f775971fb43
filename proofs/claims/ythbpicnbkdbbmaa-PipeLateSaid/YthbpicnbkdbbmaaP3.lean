/- Functions, lifted. Printed by lift.py. -/
import Derived.Test.YthbpicnbkdbbmaaProg
import Derived.Test.YthbpicnbkdbbmaaTy
import Derived.KernelRfl
namespace Go.Proofs.Ythbpicnbkdbbmaa
open Go Go.RowKit Fr
set_option linter.unusedVariables false
set_option linter.unusedSimpArgs false
set_option maxRecDepth 20000
open Try
set_option maxHeartbeats 2000000
noncomputable def pipe_Land_b2 (a0 : T_State) : ((List T_Write) × Int × (List Int)) → Option (Step ((List T_Write) × Int × (List Int)) (Step ((List T_Write) × (List Int) × (List Int) × (List Int) × (List Int) × (List Int) × (List T_Write)) T_State)) := fun (x180, x185, x186) => bif decide (x185 < (a0.Fly.length : Int)) then (at' a0.Fly x185).bind fun x227 => bif decide (x227.Left = 0) then (set' x186 x227.Reg x227.Value).bind fun zs245 => some (.next (x180, IntKind.i64.wrap (x185 + 1), zs245)) else (app' x180 ([(⟨x227.Reg, x227.Value, IntKind.i64.wrap (x227.Left - 1)⟩ : T_Write)] : List T_Write)).bind fun zs256 => some (.next (zs256, IntKind.i64.wrap (x185 + 1), x186)) else some (.done (.next (x180, x186, a0.Mem, a0.In_, a0.Out, a0.Stack, a0.Fly)))
noncomputable def pipe_Land_k1 (a0 : T_State) : ((List T_Write) × (List Int) × (List Int) × (List Int) × (List Int) × (List Int) × (List T_Write)) → Option T_State := fun (x110, x115, x120, x125, x130, x135, x140) => some (⟨x115, x120, x125, a0.Taken, x130, a0.PC, x135, a0.Stop, x110, a0.Jump, a0.Delay⟩ : T_State)
noncomputable def pipe_Land (a0 : T_State) : Option T_State :=
  cut (σ := ((List T_Write) × (List Int) × (List Int) × (List Int) × (List Int) × (List Int) × (List T_Write))) (loop (σ := ((List T_Write) × Int × (List Int))) (pipe_Land_b2 a0) ([], 0, a0.Regs)) (pipe_Land_k1 a0)
theorem w_pipe_Land_ {g : Frag} {a0 : T_State} {b0_ : Nat} {LB0_ : Own} {r : T_State} (h0 : Bx_State b0_ a0 LB0_) (hF : pipe_Land a0 = some r) : LC Try.prog 27 #[.pointer (some ⟨b0_, 0, none⟩)] g LB0_ (fun v L => ∃ (LB' : Own), v = .tuple #[] ∧ L = (LB' ++ []) ∧ Bx_State b0_ r LB') := by
 obtain ⟨vP0_0_1, vP0_1_5, vP0_2_9, vP0_4_13, vP0_6_17, vP0_8_21, LXP0_0_2, LXP0_1_6, LXP0_2_10, LXP0_4_14, LXP0_6_18, LXP0_8_22, hL0_, hP0_0_3, hP0_1_7, hP0_2_11, hP0_4_15, hP0_6_19, hP0_8_23⟩ := h0
 unfold pipe_Land at hF
 refine lc_body (k := 39) (av := [.pointer (some ⟨b0_, 0, none⟩)]) func27 rfl rfl (h := fun W hS => ?_)
 have hS := hS.own_eq hL0_
 refine c_seq <| c_region <| oy hS y_assign <| n_thenN ?_
 obtain ⟨z145, hF, hK146⟩ := cut_step hF
 refine c_cutP (fun a w' => ∃ (x110 : (List T_Write)) (x115 : (List Int)) (x120 : (List Int)) (x125 : (List Int)) (x130 : (List Int)) (x135 : (List Int)) (x140 : (List T_Write)) (v111 : Value) (v116 : Value) (v121 : Value) (v126 : Value) (v131 : Value) (v136 : Value) (v141 : Value) (LX113 : Own) (LX118 : Own) (LX123 : Own) (LX128 : Own) (LX133 : Own) (LX138 : Own) (LX143 : Own), pipe_Land_k1 a0 (x110, x115, x120, x125, x130, x135, x140) = some r ∧ OwT 71 enc_Write 3 x110 v111 LX113 ∧ OwT 35 enc_uint32 1 x115 v116 LX118 ∧ OwT 35 enc_uint32 1 x120 v121 LX123 ∧ OwT 35 enc_uint32 1 x125 v126 LX128 ∧ OwT 35 enc_uint32 1 x130 v131 LX133 ∧ OwT 3 enc_int 1 x135 v136 LX138 ∧ OwT 71 enc_Write 3 x140 v141 LX143 ∧ (∃ s : Nat → Value, a = Ac (((Fm.dead 39 s).upd 0 (.pointer (some ⟨b0_, 0, none⟩))).upd 2 v111)) ∧ St W g LB0_ ((b0_, blk (cl_State v116 v121 v126 a0.Taken v131 a0.PC v136 a0.Stop v141 a0.Jump a0.Delay) 27) :: (LX118 ++ (LX123 ++ (LX128 ++ (LX133 ++ (LX138 ++ (LX143 ++ (LX113 ++ [])))))))) w') ?_ ?_
 · skip
   refine c_seq <| c_region <| oy hS y_move <| oy hS y_nilCheck <| oy hS (y_field fa_api_State_8) <| oy hS (y_load (fun w hS => hS.own (mH)) underlying25 rfl rfl) <| oy hS (y_lenO hP0_8_23 underlying25) <| oy hS y_move ?_
   refine n_thenN <| c_block ?_
   refine c_loopP hF (fun (q : ((List T_Write) × Int × (List Int))) a w' => ∃ (v181 : Value) (LX183 : Own) (LX188 : Own), OwT 71 enc_Write 3 q.1 v181 LX183 ∧ OwT 35 enc_uint32 1 q.2.2 vP0_0_1 LX188 ∧ (∃ s : Nat → Value, a = Ac ((((((Fm.dead 39 s).upd 0 (.pointer (some ⟨b0_, 0, none⟩))).upd 2 v181).upd 8 vP0_8_21).upd 9 (.int .i64 (a0.Fly.length : Int))).upd 10 (.int .i64 q.2.1))) ∧ St W g LB0_ ((b0_, blk (cl_State vP0_0_1 vP0_1_5 vP0_2_9 a0.Taken vP0_4_13 a0.PC vP0_6_17 a0.Stop vP0_8_21 a0.Jump a0.Delay) 27) :: (LX188 ++ (LXP0_1_6 ++ (LXP0_2_10 ++ (LXP0_4_14 ++ (LXP0_6_18 ++ (LXP0_8_22 ++ (LX183 ++ [])))))))) w') ⟨(.slice none 0 0), [], LXP0_0_2, (OwT.nil _ _ _), hP0_0_3, mk_exF, (hS.re (.b .hb (.t .h (.t .h (.t .h (.t .h (.t .h (.t .h (.take (X := []) (.here [] _) .n)))))))))⟩ ?_
   clear hS hF
   intro n224 q a w hI hq
   obtain ⟨x180, x185, x186⟩ := q
   obtain ⟨v181, LX183, LX188, h182, h187, ⟨s225, rfl⟩, hS⟩ := hq
   replace h182 : OwT 71 enc_Write 3 x180 v181 LX183 := h182
   replace h187 : OwT 35 enc_uint32 1 x186 vP0_0_1 LX188 := h187
   obtain ⟨z221, hF, hK222⟩ := iter_step hI
   clear hI
   dsimp only [pipe_Land_b2] at hF
   refine c_seq <| c_region <| oy hS y_bin <| n_thenN <| c_seq ?_
   refine c_if (ht := fun c226 => ?_) (hf := fun c226 => ?_)
   · replace hF := bt c226 hF
     refine wp_skip <| c_seq <| c_block <| c_seq <| c_region ?_
     obtain ⟨x227, hx227, hF⟩ := ob hF
     obtain ⟨b228, c229, cl230, hv231, ha232, hb233, hl234, hc235⟩ := OwT.at hx227 hP0_8_23 enc_len_Write
     refine oy hS (y_index hv231 ha232 hb233 underlying25 el_api_Write.size) ?_
     refine oy hS (y_loadN (vs := (enc_Write x227)) (fun w hS => hS.own (mC (mB (mB (mB (mB (mB (mA (mX hl234))))))))) underlying71 rfl (by exact sz_api_Write) (fun j u hj => hc235 j u hj)) ?_
     refine o_allocP (cl := (enc_Write ⟨0, 0, 0⟩)) zr_api_Write rfl hS ?_
     clear hS; intro b236 w hS
     refine o_storeW (vs := (enc_Write x227)) hS (by exact rfl) (Upd.here _) (by exact sz_api_Write) (enc_one_Write _) ?_
     clear hS; intro w hS
     refine n_thenN ?_
     iterate 2 (refine c_seq ?_)
     refine c_region <| oy hS (y_field fa_api_Write_2) <| oy hS (y_load (fun w hS => hS.own (mH)) underlying3 rfl rfl) <| oy hS y_bin <| n_thenN ?_
     refine c_if (ht := fun c237 => ?_) (hf := fun c237 => ?_)
     · replace hF := bt c237 hF
       refine c_seq ?_
       refine c_heldL 9 10 (by kernel_rfl) rfl hS ?_
       clear hS; intro w hS
       refine hy0 0 rfl wn (by kernel_rfl) (nq (P := Try.prog) (fn := Try.f27)) (fun _ => hS.cb) y_move ?_
       refine hy0 1 rfl wn (by kernel_rfl) (nq (P := Try.prog) (fn := Try.f27)) (fun _ => hS.cb) y_nilCheck ?_
       refine hy0 2 rfl wn (by kernel_rfl) (nq (P := Try.prog) (fn := Try.f27)) (fun _ => hS.cb) (y_field fa_api_State_0) ?_
       refine hy 3 rfl wn (by kernel_rfl) (nq (P := Try.prog) (fn := Try.f27)) hS.cb (y_load (fun w hS => hS.own (mC (mH))) underlying23 rfl rfl) ?_
       refine hy0 4 rfl wn (by kernel_rfl) (nq (P := Try.prog) (fn := Try.f27)) (fun _ => hS.cb) (y_field fa_api_Write_0) ?_
       refine hy 5 rfl wn (by kernel_rfl) (nq (P := Try.prog) (fn := Try.f27)) hS.cb (y_load (fun w hS => hS.own (mH)) underlying3 rfl rfl) ?_
       refine hy0 6 rfl wn (by kernel_rfl) (nq (P := Try.prog) (fn := Try.f27)) (fun _ => hS.cb) (y_field fa_api_Write_1) ?_
       refine hy 7 rfl wn (by kernel_rfl) (nq (P := Try.prog) (fn := Try.f27)) hS.cb (y_load (fun w hS => hS.own (mH)) underlying35 rfl rfl) ?_
       obtain ⟨zs245, hzs245, hF⟩ := ob hF
       obtain ⟨b238, c239, cl240, hv241, ha242, hb243, hl244⟩ := OwT.at_set hzs245 h187 enc_len_uint32
       refine hy0 8 rfl wn (by kernel_rfl) (nq (P := Try.prog) (fn := Try.f27)) (fun _ => hS.cb) (y_index hv241 ha242 hb243 underlying23 el_uint32.size) ?_
       refine hb1 9 (by kernel_rfl) (hb_op rfl wn (nl (P := Try.prog) (fn := Try.f27)) ?_)
       refine o_storeO (L' := fun X => ((b236, blk (enc_Write x227) 71) :: ((b0_, blk (cl_State vP0_0_1 vP0_1_5 vP0_2_9 a0.Taken vP0_4_13 a0.PC vP0_6_17 a0.Stop vP0_8_21 a0.Jump a0.Delay) 27) :: (X ++ (LXP0_1_6 ++ (LXP0_2_10 ++ (LXP0_4_14 ++ (LXP0_6_18 ++ (LXP0_8_22 ++ (LX183 ++ [])))))))))) hzs245 hS h187 hl244 (fun X => .thereb _ (.thereb _ (.here _))) enc_len_uint32 rfl (by exact sz_uint32) rfl rfl ?_
       clear hS; intro LX246 w h247 hS
       refine hb_next (fun h => absurd h (by decide)) ?_
       refine hb_done (by kernel_rfl) ?_
       refine wp_exit ?_
       refine c_region <| oy hS y_bin <| oy hS y_move <| n_thenN ?_
       obtain rfl := osi hF
       exact ⟨_, hK222, v181, LX183, LX246, h182, h247, mk_exF, (hS.re (.b (.thereb _ .hb) (.t (.thereb _ .h) (.t (.thereb _ .h) (.t (.thereb _ .h) (.t (.thereb _ .h) (.t (.thereb _ .h) (.t (.thereb _ .h) (.t (.thereb _ .h) .n)))))))))⟩
     replace hF := bf c237 hF
     refine wp_skip <| c_seq <| c_region <| oy hS (y_field fa_api_Write_2) <| oy hS (y_load (fun w hS => hS.own (mH)) underlying3 rfl rfl) <| oy hS y_bin <| oy hS (y_field fa_api_Write_2) ?_
     refine o_storeA1 (o := 2) (cl' := (enc_Write ⟨x227.Reg, x227.Value, IntKind.i64.wrap (x227.Left - 1)⟩)) hS (by kernel_rfl) (by exact Nat.le_of_ble_eq_true rfl) (Upd.here _) (by exact sz_int) rfl rfl ?_
     clear hS; intro w hS
     refine n_thenN <| c_region <| oy hS y_move ?_
     refine oy hS (y_loadW (fun w hS => hS.own (mH)) underlying71 rfl (by exact sz_api_Write)) ?_
     refine o_buildT val_Write ([(⟨x227.Reg, x227.Value, IntKind.i64.wrap (x227.Left - 1)⟩ : T_Write)] : List T_Write) hS el_api_Write (fun _ => rfl) enc_len_Write (by decide) rfl (by decide) (hp := rfl) (h := ?_)
     clear hS; intro b249 w hS h250
     have hS : St W g LB0_ ([(b249, blk (([(⟨x227.Reg, x227.Value, IntKind.i64.wrap (x227.Left - 1)⟩ : T_Write)] : List T_Write).flatMap enc_Write) 71)] ++ ((b236, blk (enc_Write ⟨x227.Reg, x227.Value, IntKind.i64.wrap (x227.Left - 1)⟩) 71) :: ((b0_, blk (cl_State vP0_0_1 vP0_1_5 vP0_2_9 a0.Taken vP0_4_13 a0.PC vP0_6_17 a0.Stop vP0_8_21 a0.Jump a0.Delay) 27) :: (LX188 ++ (LXP0_1_6 ++ (LXP0_2_10 ++ (LXP0_4_14 ++ (LXP0_6_18 ++ (LXP0_8_22 ++ (LX183 ++ [])))))))))) w := hS
     obtain ⟨zs256, hzs256, hF⟩ := ob hF
     have hS := hS.re (.t .h (.t (.thereb _ (.thereb _ (.there _ (.there _ (.there _ (.there _ (.there _ (.there _ .h)))))))) (.b .hb (.b .hb (.t .h (.t .h (.t .h (.t .h (.t .h (.t .h .n))))))))))
     refine o_appPn (ys := ([(⟨x227.Reg, x227.Value, IntKind.i64.wrap (x227.Left - 1)⟩ : T_Write)] : List T_Write)) (LX := LX183) hzs256 hS el_api_Write h182 rfl enc_len_Write (enc_ones_Write _) (by decide) ?_
     clear hS; intro v252 LX253 w h254 hS
     refine oy hS y_assign ?_
     refine n_anyN ?_
     refine c_region <| oy hS y_bin <| oy hS y_move <| n_thenN ?_
     obtain rfl := osi hF
     exact ⟨_, hK222, v252, LX253, LX188, h254, h187, mk_exF, (hS.re (.b (.there _ (.thereb _ .hb)) (.t (.there _ (.thereb _ .h)) (.t (.there _ (.thereb _ .h)) (.t (.there _ (.thereb _ .h)) (.t (.there _ (.thereb _ .h)) (.t (.there _ (.thereb _ .h)) (.t (.there _ (.thereb _ .h)) (.t .h .n)))))))))⟩
   replace hF := bf c226 hF
   refine wp_exit ?_
   obtain rfl := osi hF
   obtain rfl : _ = z145 := hK222
   change ∃ _, _
   exact ⟨x180, x186, a0.Mem, a0.In_, a0.Out, a0.Stack, a0.Fly, v181, vP0_0_1, vP0_1_5, vP0_2_9, vP0_4_13, vP0_6_17, vP0_8_21, LX183, LX188, LXP0_1_6, LXP0_2_10, LXP0_4_14, LXP0_6_18, LXP0_8_22, hK146, h182, h187, hP0_1_7, hP0_2_11, hP0_4_15, hP0_6_19, hP0_8_23, mk_exF, (hS.re (.b .hb (.t .h (.t .h (.t .h (.t .h (.t .h (.t .h (.t .h .n)))))))))⟩
 rintro a w ⟨x110, x115, x120, x125, x130, x135, x140, v111, v116, v121, v126, v131, v136, v141, LX113, LX118, LX123, LX128, LX133, LX138, LX143, hF, h112, h117, h122, h127, h132, h137, h142, ⟨s257, rfl⟩, hS⟩
 dsimp only [pipe_Land_k1] at hF
 refine c_region ?_
 iterate 2 (refine oy hS y_move ?_)
 refine oy hS y_nilCheck <| oy hS (y_field fa_api_State_8) ?_
 refine o_storeA1 (o := 8) (cl' := (cl_State v116 v121 v126 a0.Taken v131 a0.PC v136 a0.Stop v111 a0.Jump a0.Delay)) hS (by kernel_rfl) (by exact Nat.le_of_ble_eq_true rfl) (Upd.here _) (by exact sz_S_api_Write) (h112).one (h112).cell ?_
 clear hS; intro w hS
 refine n_anyN ?_
 obtain rfl := osi hF
 refine (r_end (vs := []) (hS.re (.b .hb (.t .h (.t .h (.t .h (.t .h (.t .h (.t (.there _ .h) .n)))))))) rsN rfl ⟨_, rfl, (by first | rfl | simp only [aa, ac, al, an]), ⟨_, _, _, _, _, _, _, _, _, _, _, _, rfl, h117, h122, h127, h132, h137, h112⟩⟩)
theorem w_pipe_Land {g : Frag} {a0 : T_State} {b0_ : Nat} {LB0_ : Own} {r : T_State} (h0 : Bx_State b0_ a0 LB0_) (hF : pipe_Land a0 = some r) : LC Try.prog 27 #[.pointer (some ⟨b0_, 0, none⟩)] g LB0_ (fun v L => ∃ (LB' : Own), v = .tuple #[] ∧ L = (LB' ++ []) ∧ Bx_State b0_ r LB') := w_pipe_Land_ h0 hF

def pair_Has (a0 : Int) : Bool :=
  bif decide (18 ≤ a0) then decide (a0 ≤ 21) else false
theorem w_pair_Has_ {g : Frag} {a0 : Int} {r : Bool}  (hF : pair_Has a0 = r) : LCs Try.prog 81 #[.int .i64 a0] g (.bool r) := by
 unfold pair_Has at hF
 refine lc_body (k := 9) (av := [.int .i64 a0]) func81 rfl rfl (h := fun W hS => ?_)
 refine c_seq <| c_region <| oy hS y_assign <| n_thenN <| c_seq <| c_region <| oy hS y_move <| oy hS y_bin ?_
 refine o_split (ht := fun c1 => ?_) (hf := fun c1 => ?_)
 · replace hF := bt c1 hF
   refine o_gu rfl rfl rfl <| oy hS y_move <| o_gu rfl rfl rfl <| oy hS y_bin <| oy hS y_pickT <| oy hS y_assign <| n_thenN ?_
   subst hF
   exact wp_ret (wr1 hS)
 replace hF := bf c1 hF
 iterate 2 (refine o_sk rfl rfl ?_)
 refine oy hS y_pickF <| oy hS y_assign <| n_thenN ?_
 subst hF
 exact wp_ret (wr1 hS)
theorem w_pair_Has {g : Frag} {a0 : Int}  : LCs Try.prog 81 #[.int .i64 a0] g (.bool (pair_Has a0)) := w_pair_Has_  rfl

noncomputable def pair_Parts (a0 : Int) : Option (Int × Int) :=
  (shr' .u32 a0 16).bind fun x1 => some (IntKind.i64.wrap (IntKind.i16.wrap a0), IntKind.i64.wrap (IntKind.i16.wrap x1))
theorem w_pair_Parts_ {g : Frag} {a0 : Int} {r : (Int × Int)}  (hF : pair_Parts a0 = some r) : LCs Try.prog 117 #[.int .u32 a0] g (.tuple #[.int .i64 r.1, .int .i64 r.2]) := by
 unfold pair_Parts at hF
 refine lc_body (k := 11) (av := [.int .u32 a0]) func117 rfl rfl (h := fun W hS => ?_)
 refine c_seq <| c_region ?_
 iterate 2 (refine oy hS y_assign ?_)
 refine n_thenN <| c_seq <| c_region <| oy hS y_move <| oy hS (y_conv underlying35 underlying117) <| oy hS (y_conv underlying117 underlying3) <| oy hS y_move ?_
 obtain ⟨x1, hx1, hF⟩ := ob hF
 refine oy hS (y_shr hx1) <| oy hS (y_conv underlying35 underlying117) <| oy hS (y_conv underlying117 underlying3) ?_
 iterate 2 (refine oy hS y_assign ?_)
 refine n_thenN ?_
 obtain rfl := osi hF
 exact wp_ret (wr2 hS)
theorem w_pair_Parts {g : Frag} {a0 : Int} {r : (Int × Int)}  (hF : pair_Parts a0 = some r) : LCs Try.prog 117 #[.int .u32 a0] g (.tuple #[.int .i64 r.1, .int .i64 r.2]) := w_pair_Parts_  hF

noncomputable def pair_number (a0 : Int) : Option (Nat × Nat) :=
  (pair_Parts a0).bind fun r1 => some (FloatKind.f64.nearest r1.1, FloatKind.f64.nearest r1.2)
theorem w_pair_number_ {g : Frag} {a0 : Int} {r : (Nat × Nat)}  (hF : pair_number a0 = some r) : LCs Try.prog 104 #[.int .u32 a0] g (.complex .f64 r.1 r.2) := by
 unfold pair_number at hF
 refine lc_body (k := 15) (av := [.int .u32 a0]) func104 rfl rfl (h := fun W hS => ?_)
 refine c_seq <| c_region <| oy hS y_assign <| n_thenN <| c_seq <| c_region <| oy hS y_move ?_
 obtain ⟨r1, hr1, hF⟩ := ob hF
 refine o_callS hS func117 rfl rfl (hc := (w_pair_Parts (a0 := a0) (hF := hr1))) (h := ?_)
 clear hS; intro w hS
 refine oy hS y_move ?_
 iterate 2 (refine oy hS (y_extract rfl) ?_)
 iterate 2 (refine oy hS y_assign ?_)
 refine n_thenN <| c_seq <| c_region <| oy hS y_move <| oy hS (y_i2f underlying3 underlying119) <| oy hS y_move <| oy hS (y_i2f underlying3 underlying119) <| oy hS y_complex ?_
 refine oy hS y_assign <| n_thenN ?_
 obtain rfl := osi hF
 exact wp_ret (wr1 hS)
theorem w_pair_number {g : Frag} {a0 : Int} {r : (Nat × Nat)}  (hF : pair_number a0 = some r) : LCs Try.prog 104 #[.int .u32 a0] g (.complex .f64 r.1 r.2) := w_pair_number_  hF

noncomputable def pair_Make (a0 : Int) (a1 : Int) : Option Int :=
  (shl' .u32 (IntKind.u32.wrap (IntKind.u16.wrap a1)) 16).bind fun x1 => some (bits .or .u32 (IntKind.u32.wrap (IntKind.u16.wrap a0)) x1)
theorem w_pair_Make_ {g : Frag} {a0 : Int} {a1 : Int} {r : Int}  (hF : pair_Make a0 a1 = some r) : LCs Try.prog 118 #[.int .i64 a0, .int .i64 a1] g (.int .u32 r) := by
 unfold pair_Make at hF
 refine lc_body (k := 13) (av := [.int .i64 a0, .int .i64 a1]) func118 rfl rfl (h := fun W hS => ?_)
 refine c_seq <| c_region <| oy hS y_assign <| n_thenN <| c_seq <| c_region <| oy hS y_move <| oy hS (y_conv underlying3 underlying121) ?_
 refine oy hS (y_conv underlying121 underlying35) <| oy hS y_move <| oy hS (y_conv underlying3 underlying121) <| oy hS (y_conv underlying121 underlying35) ?_
 obtain ⟨x1, hx1, hF⟩ := ob hF
 refine oy hS (y_shl hx1) <| oy hS y_bin <| oy hS y_assign <| n_thenN ?_
 obtain rfl := osi hF
 exact wp_ret (wr1 hS)
theorem w_pair_Make {g : Frag} {a0 : Int} {a1 : Int} {r : Int}  (hF : pair_Make a0 a1 = some r) : LCs Try.prog 118 #[.int .i64 a0, .int .i64 a1] g (.int .u32 r) := w_pair_Make_  hF

noncomputable def pair_packed (a0 : (Nat × Nat)) : Option Int :=
  (floatToIntVal .f64 a0.1 .i64).bind fun x1 => (floatToIntVal .f64 a0.2 .i64).bind fun x2 => (pair_Make x1 x2).bind fun r3 => some (r3)
theorem w_pair_packed_ {g : Frag} {a0 : (Nat × Nat)} {r : Int}  (hF : pair_packed a0 = some r) : LCs Try.prog 105 #[.complex .f64 a0.1 a0.2] g (.int .u32 r) := by
 unfold pair_packed at hF
 refine lc_body (k := 10) (av := [.complex .f64 a0.1 a0.2]) func105 rfl rfl (h := fun W hS => ?_)
 refine c_seq <| c_region <| oy hS y_assign <| n_thenN <| c_seq <| c_region <| oy hS y_move <| oy hS y_real ?_
 obtain ⟨x1, hx1, hF⟩ := ob hF
 refine oy hS (y_f2i hx1 (by rw [underlying119]; rfl) underlying3) ?_
 refine oy hS y_move <| oy hS y_imag ?_
 obtain ⟨x2, hx2, hF⟩ := ob hF
 refine oy hS (y_f2i hx2 (by rw [underlying119]; rfl) underlying3) ?_
 obtain ⟨r3, hr3, hF⟩ := ob hF
 refine o_callS hS func118 rfl rfl (hc := (w_pair_Make (a0 := x1) (a1 := x2) (hF := hr3))) (h := ?_)
 clear hS; intro w hS
 refine oy hS y_assign <| n_thenN ?_
 obtain rfl := osi hF
 exact wp_ret (wr1 hS)
theorem w_pair_packed {g : Frag} {a0 : (Nat × Nat)} {r : Int}  (hF : pair_packed a0 = some r) : LCs Try.prog 105 #[.complex .f64 a0.1 a0.2] g (.int .u32 r) := w_pair_packed_  hF

def pair_turned (a0 : (Nat × Nat)) : (Nat × Nat) :=
  (a0.1, Op.negFloat .f64 a0.2)
theorem w_pair_turned_ {g : Frag} {a0 : (Nat × Nat)} {r : (Nat × Nat)}  (hF : pair_turned a0 = r) : LCs Try.prog 106 #[.complex .f64 a0.1 a0.2] g (.complex .f64 r.1 r.2) := by
 unfold pair_turned at hF
 refine lc_body (k := 9) (av := [.complex .f64 a0.1 a0.2]) func106 rfl rfl (h := fun W hS => ?_)
 refine c_seq <| c_region <| oy hS y_assign <| n_thenN <| c_seq <| c_region <| oy hS y_move <| oy hS y_real ?_
 refine oy hS y_move <| oy hS y_imag <| oy hS y_fneg <| oy hS y_complex <| oy hS y_assign <| n_thenN ?_
 subst hF
 exact wp_ret (wr1 hS)
theorem w_pair_turned {g : Frag} {a0 : (Nat × Nat)}  : LCs Try.prog 106 #[.complex .f64 a0.1 a0.2] g (.complex .f64 (pair_turned a0).1 (pair_turned a0).2) := w_pair_turned_  rfl

noncomputable def pair_Of (a0 : Int) (a1 : Int) (a2 : Int) : Option (Int × Int) :=
  (pair_number a1).bind fun r1 => (pair_number a2).bind fun r2 => bif decide (a0 = 18) then (cSumBits .add .f64 r1.1 r1.2 r2.1 r2.2).bind fun x4 => (pair_packed x4).bind fun r5 => some (r5, 0) else bif decide (a0 = 19) then (cSumBits .sub .f64 r1.1 r1.2 r2.1 r2.2).bind fun x7 => (pair_packed x7).bind fun r8 => some (r8, 0) else bif decide (a0 = 20) then (cMulBits r1.1 r1.2 r2.1 r2.2).bind fun x10 => (pair_packed x10).bind fun r11 => some (r11, 0) else bif decide (a0 = 21) then (pair_packed ((pair_turned r1).1, (pair_turned r1).2)).bind fun r13 => some (r13, 0) else some (0, 1)
theorem w_pair_Of_ {g : Frag} {a0 : Int} {a1 : Int} {a2 : Int} {r : (Int × Int)}  (hF : pair_Of a0 a1 a2 = some r) : LCs Try.prog 82 #[.int .i64 a0, .int .u32 a1, .int .u32 a2] g (.tuple #[.int .u32 r.1, .int .i64 r.2]) := by
 unfold pair_Of at hF
 refine lc_body (k := 38) (av := [.int .i64 a0, .int .u32 a1, .int .u32 a2]) func82 rfl rfl (h := fun W hS => ?_)
 refine c_seq <| c_region ?_
 iterate 2 (refine oy hS y_assign ?_)
 refine n_thenN <| c_seq <| c_region <| oy hS y_move ?_
 obtain ⟨r1, hr1, hF⟩ := ob hF
 refine o_callS hS func104 rfl rfl (hc := (w_pair_number (a0 := a1) (hF := hr1))) (h := ?_)
 clear hS; intro w hS
 refine oy hS y_move ?_
 obtain ⟨r2, hr2, hF⟩ := ob hF
 refine o_callS hS func104 rfl rfl (hc := (w_pair_number (a0 := a2) (hF := hr2))) (h := ?_)
 clear hS; intro w hS
 iterate 2 (refine oy hS y_assign ?_)
 refine n_thenN ?_
 iterate 2 (refine c_seq ?_)
 refine c_region <| oy hS y_move <| n_thenN <| c_block <| c_seq <| c_region <| oy hS y_bin <| oy hS y_assign ?_
 refine n_thenN ?_
 refine c_if (ht := fun c3 => ?_) (hf := fun c3 => ?_)
 · replace hF := bt c3 hF
   refine c_seq <| c_region ?_
   iterate 2 (refine oy hS y_move ?_)
   obtain ⟨x4, hx4, hF⟩ := ob hF
   refine oy hS (y_cadd hx4) ?_
   obtain ⟨r5, hr5, hF⟩ := ob hF
   refine o_callS hS func105 rfl rfl (hc := (w_pair_packed (a0 := x4) (hF := hr5))) (h := ?_)
   clear hS; intro w hS
   iterate 2 (refine oy hS y_assign ?_)
   refine n_thenN ?_
   obtain rfl := osi hF
   exact wp_ret (wr2 hS)
 replace hF := bf c3 hF
 refine c_seq <| c_region <| oy hS y_bin <| oy hS y_assign <| n_thenN ?_
 refine c_if (ht := fun c6 => ?_) (hf := fun c6 => ?_)
 · replace hF := bt c6 hF
   refine c_seq <| c_region ?_
   iterate 2 (refine oy hS y_move ?_)
   obtain ⟨x7, hx7, hF⟩ := ob hF
   refine oy hS (y_csub hx7) ?_
   obtain ⟨r8, hr8, hF⟩ := ob hF
   refine o_callS hS func105 rfl rfl (hc := (w_pair_packed (a0 := x7) (hF := hr8))) (h := ?_)
   clear hS; intro w hS
   iterate 2 (refine oy hS y_assign ?_)
   refine n_thenN ?_
   obtain rfl := osi hF
   exact wp_ret (wr2 hS)
 replace hF := bf c6 hF
 refine c_seq <| c_region <| oy hS y_bin <| oy hS y_assign <| n_thenN ?_
 refine c_if (ht := fun c9 => ?_) (hf := fun c9 => ?_)
 · replace hF := bt c9 hF
   refine c_seq <| c_region ?_
   iterate 2 (refine oy hS y_move ?_)
   obtain ⟨x10, hx10, hF⟩ := ob hF
   refine oy hS (y_cmul hx10) ?_
   obtain ⟨r11, hr11, hF⟩ := ob hF
   refine o_callS hS func105 rfl rfl (hc := (w_pair_packed (a0 := x10) (hF := hr11))) (h := ?_)
   clear hS; intro w hS
   iterate 2 (refine oy hS y_assign ?_)
   refine n_thenN ?_
   obtain rfl := osi hF
   exact wp_ret (wr2 hS)
 replace hF := bf c9 hF
 refine c_seq <| c_region <| oy hS y_bin <| oy hS y_assign <| n_thenN ?_
 refine c_if (ht := fun c12 => ?_) (hf := fun c12 => ?_)
 · replace hF := bt c12 hF
   refine c_seq <| c_region <| oy hS y_move ?_
   refine o_callS hS func106 rfl rfl (hc := (w_pair_turned (a0 := r1))) (h := ?_)
   clear hS; intro w hS
   obtain ⟨r13, hr13, hF⟩ := ob hF
   refine o_callS hS func105 rfl rfl (hc := (w_pair_packed (a0 := ((pair_turned r1).1, (pair_turned r1).2)) (hF := hr13))) (h := ?_)
   clear hS; intro w hS
   iterate 2 (refine oy hS y_assign ?_)
   refine n_thenN ?_
   obtain rfl := osi hF
   exact wp_ret (wr2 hS)
 replace hF := bf c12 hF
 refine wp_skip <| c_seq <| c_region ?_
 iterate 2 (refine oy hS y_assign ?_)
 refine n_thenN ?_
 obtain rfl := osi hF
 exact wp_ret (wr2 hS)
theorem w_pair_Of {g : Frag} {a0 : Int} {a1 : Int} {a2 : Int} {r : (Int × Int)}  (hF : pair_Of a0 a1 a2 = some r) : LCs Try.prog 82 #[.int .i64 a0, .int .u32 a1, .int .u32 a2] g (.tuple #[.int .u32 r.1, .int .i64 r.2]) := w_pair_Of_  hF

def word_Has (a0 : Int) : Bool :=
  bif decide (1 ≤ a0) then decide (a0 ≤ 17) else false
theorem w_word_Has_ {g : Frag} {a0 : Int} {r : Bool}  (hF : word_Has a0 = r) : LCs Try.prog 83 #[.int .i64 a0] g (.bool r) := by
 unfold word_Has at hF
 refine lc_body (k := 9) (av := [.int .i64 a0]) func83 rfl rfl (h := fun W hS => ?_)
 refine c_seq <| c_region <| oy hS y_assign <| n_thenN <| c_seq <| c_region <| oy hS y_move <| oy hS y_bin ?_
 refine o_split (ht := fun c1 => ?_) (hf := fun c1 => ?_)
 · replace hF := bt c1 hF
   refine o_gu rfl rfl rfl <| oy hS y_move <| o_gu rfl rfl rfl <| oy hS y_bin <| oy hS y_pickT <| oy hS y_assign <| n_thenN ?_
   subst hF
   exact wp_ret (wr1 hS)
 replace hF := bf c1 hF
 iterate 2 (refine o_sk rfl rfl ?_)
 refine oy hS y_pickF <| oy hS y_assign <| n_thenN ?_
 subst hF
 exact wp_ret (wr1 hS)
theorem w_word_Has {g : Frag} {a0 : Int}  : LCs Try.prog 83 #[.int .i64 a0] g (.bool (word_Has a0)) := w_word_Has_  rfl

noncomputable def word_logic (a0 : Int) (a1 : Int) (a2 : Int) : Option Int :=
  bif decide (a0 = 1) then some (IntKind.u32.wrap (a1 + a2)) else bif decide (a0 = 2) then some (IntKind.u32.wrap (a1 - a2)) else bif decide (a0 = 3) then some (bits .and .u32 a1 a2) else bif decide (a0 = 4) then some (bits .or .u32 a1 a2) else bif decide (a0 = 5) then some (bits .xor .u32 a1 a2) else bif decide (a0 = 6) then (rem' a2 32).bind fun x7 => (shl' .u32 a1 x7).bind fun x8 => some (x8) else bif decide (a0 = 7) then (rem' a2 32).bind fun x10 => (shr' .u32 a1 x10).bind fun x11 => some (x11) else (rem' a2 32).bind fun x12 => (shr' .i32 (IntKind.i32.wrap a1) x12).bind fun x13 => some (IntKind.u32.wrap x13)
theorem w_word_logic_ {g : Frag} {a0 : Int} {a1 : Int} {a2 : Int} {r : Int}  (hF : word_logic a0 a1 a2 = some r) : LCs Try.prog 107 #[.int .i64 a0, .int .u32 a1, .int .u32 a2] g (.int .u32 r) := by
 unfold word_logic at hF
 refine lc_body (k := 51) (av := [.int .i64 a0, .int .u32 a1, .int .u32 a2]) func107 rfl rfl (h := fun W hS => ?_)
 refine c_seq <| c_region <| oy hS y_assign <| n_thenN ?_
 iterate 2 (refine c_seq ?_)
 refine c_region <| oy hS y_move <| n_thenN <| c_block <| c_seq <| c_region <| oy hS y_bin <| oy hS y_assign ?_
 refine n_thenN ?_
 refine c_if (ht := fun c1 => ?_) (hf := fun c1 => ?_)
 · replace hF := bt c1 hF
   refine c_seq <| c_region ?_
   iterate 2 (refine oy hS y_move ?_)
   refine oy hS y_bin <| oy hS y_assign <| n_thenN ?_
   obtain rfl := osi hF
   exact wp_ret (wr1 hS)
 replace hF := bf c1 hF
 refine c_seq <| c_region <| oy hS y_bin <| oy hS y_assign <| n_thenN ?_
 refine c_if (ht := fun c2 => ?_) (hf := fun c2 => ?_)
 · replace hF := bt c2 hF
   refine c_seq <| c_region ?_
   iterate 2 (refine oy hS y_move ?_)
   refine oy hS y_bin <| oy hS y_assign <| n_thenN ?_
   obtain rfl := osi hF
   exact wp_ret (wr1 hS)
 replace hF := bf c2 hF
 refine c_seq <| c_region <| oy hS y_bin <| oy hS y_assign <| n_thenN ?_
 refine c_if (ht := fun c3 => ?_) (hf := fun c3 => ?_)
 · replace hF := bt c3 hF
   refine c_seq <| c_region ?_
   iterate 2 (refine oy hS y_move ?_)
   refine oy hS y_bin <| oy hS y_assign <| n_thenN ?_
   obtain rfl := osi hF
   exact wp_ret (wr1 hS)
 replace hF := bf c3 hF
 refine c_seq <| c_region <| oy hS y_bin <| oy hS y_assign <| n_thenN ?_
 refine c_if (ht := fun c4 => ?_) (hf := fun c4 => ?_)
 · replace hF := bt c4 hF
   refine c_seq <| c_region ?_
   iterate 2 (refine oy hS y_move ?_)
   refine oy hS y_bin <| oy hS y_assign <| n_thenN ?_
   obtain rfl := osi hF
   exact wp_ret (wr1 hS)
 replace hF := bf c4 hF
 refine c_seq <| c_region <| oy hS y_bin <| oy hS y_assign <| n_thenN ?_
 refine c_if (ht := fun c5 => ?_) (hf := fun c5 => ?_)
 · replace hF := bt c5 hF
   refine c_seq <| c_region ?_
   iterate 2 (refine oy hS y_move ?_)
   refine oy hS y_bin <| oy hS y_assign <| n_thenN ?_
   obtain rfl := osi hF
   exact wp_ret (wr1 hS)
 replace hF := bf c5 hF
 refine c_seq <| c_region <| oy hS y_bin <| oy hS y_assign <| n_thenN ?_
 refine c_if (ht := fun c6 => ?_) (hf := fun c6 => ?_)
 · replace hF := bt c6 hF
   refine c_seq <| c_region ?_
   iterate 2 (refine oy hS y_move ?_)
   obtain ⟨x7, hx7, hF⟩ := ob hF
   refine oy hS (y_rem hx7) ?_
   obtain ⟨x8, hx8, hF⟩ := ob hF
   refine oy hS (y_shl hx8) <| oy hS y_assign <| n_thenN ?_
   obtain rfl := osi hF
   exact wp_ret (wr1 hS)
 replace hF := bf c6 hF
 refine c_seq <| c_region <| oy hS y_bin <| oy hS y_assign <| n_thenN ?_
 refine c_if (ht := fun c9 => ?_) (hf := fun c9 => ?_)
 · replace hF := bt c9 hF
   refine c_seq <| c_region ?_
   iterate 2 (refine oy hS y_move ?_)
   obtain ⟨x10, hx10, hF⟩ := ob hF
   refine oy hS (y_rem hx10) ?_
   obtain ⟨x11, hx11, hF⟩ := ob hF
   refine oy hS (y_shr hx11) <| oy hS y_assign <| n_thenN ?_
   obtain rfl := osi hF
   exact wp_ret (wr1 hS)
 replace hF := bf c9 hF
 refine wp_skip <| c_seq <| c_region <| oy hS y_move <| oy hS (y_conv underlying35 underlying21) <| oy hS y_move ?_
 obtain ⟨x12, hx12, hF⟩ := ob hF
 refine oy hS (y_rem hx12) ?_
 obtain ⟨x13, hx13, hF⟩ := ob hF
 refine oy hS (y_shr hx13) <| oy hS (y_conv underlying21 underlying35) <| oy hS y_assign <| n_thenN ?_
 obtain rfl := osi hF
 exact wp_ret (wr1 hS)
theorem w_word_logic {g : Frag} {a0 : Int} {a1 : Int} {a2 : Int} {r : Int}  (hF : word_logic a0 a1 a2 = some r) : LCs Try.prog 107 #[.int .i64 a0, .int .u32 a1, .int .u32 a2] g (.int .u32 r) := w_word_logic_  hF

def word_flag (a0 : Bool) : Int :=
  bif a0 then 1 else 0
theorem w_word_flag_ {g : Frag} {a0 : Bool} {r : Int}  (hF : word_flag a0 = r) : LCs Try.prog 119 #[.bool a0] g (.int .u32 r) := by
 unfold word_flag at hF
 refine lc_body (k := 4) (av := [.bool a0]) func119 rfl rfl (h := fun W hS => ?_)
 refine c_seq <| c_region <| oy hS y_assign <| n_thenN ?_
 iterate 2 (refine c_seq ?_)
 refine c_region <| oy hS y_move <| n_thenN ?_
 refine c_if (ht := fun c1 => ?_) (hf := fun c1 => ?_)
 · replace hF := bt c1 hF
   refine c_seq <| c_region <| oy hS y_assign <| n_thenN ?_
   subst hF
   exact wp_ret (wr1 hS)
 replace hF := bf c1 hF
 refine wp_skip <| c_seq <| c_region <| oy hS y_assign <| n_thenN ?_
 subst hF
 exact wp_ret (wr1 hS)
theorem w_word_flag {g : Frag} {a0 : Bool}  : LCs Try.prog 119 #[.bool a0] g (.int .u32 (word_flag a0)) := w_word_flag_  rfl

def word_compared (a0 : Int) (a1 : Int) (a2 : Int) : Int :=
  bif decide (a0 = 9) then (word_flag (decide ((IntKind.i32.wrap a1) < (IntKind.i32.wrap a2)))) else bif decide (a0 = 10) then (word_flag (decide (a1 < a2))) else bif decide (a0 = 11) then (word_flag (decide (a1 = a2))) else bif decide (a0 = 12) then IntKind.u32.wrap (imin (IntKind.i32.wrap a1) (IntKind.i32.wrap a2)) else IntKind.u32.wrap (imax (IntKind.i32.wrap a1) (IntKind.i32.wrap a2))
theorem w_word_compared_ {g : Frag} {a0 : Int} {a1 : Int} {a2 : Int} {r : Int}  (hF : word_compared a0 a1 a2 = r) : LCs Try.prog 108 #[.int .i64 a0, .int .u32 a1, .int .u32 a2] g (.int .u32 r) := by
 unfold word_compared at hF
 refine lc_body (k := 42) (av := [.int .i64 a0, .int .u32 a1, .int .u32 a2]) func108 rfl rfl (h := fun W hS => ?_)
 refine c_seq <| c_region <| oy hS y_assign <| n_thenN <| c_seq <| c_region <| oy hS y_move <| oy hS (y_conv underlying35 underlying21) ?_
 refine oy hS y_move <| oy hS (y_conv underlying35 underlying21) ?_
 iterate 2 (refine oy hS y_assign ?_)
 refine n_thenN ?_
 iterate 2 (refine c_seq ?_)
 refine c_region <| oy hS y_move <| n_thenN <| c_block <| c_seq <| c_region <| oy hS y_bin <| oy hS y_assign ?_
 refine n_thenN ?_
 refine c_if (ht := fun c1 => ?_) (hf := fun c1 => ?_)
 · replace hF := bt c1 hF
   refine c_seq <| c_region ?_
   iterate 2 (refine oy hS y_move ?_)
   refine oy hS y_bin ?_
   refine o_callS hS func119 rfl rfl (hc := (w_word_flag (a0 := (decide ((IntKind.i32.wrap a1) < (IntKind.i32.wrap a2)))))) (h := ?_)
   clear hS; intro w hS
   refine oy hS y_assign <| n_thenN ?_
   subst hF
   exact wp_ret (wr1 hS)
 replace hF := bf c1 hF
 refine c_seq <| c_region <| oy hS y_bin <| oy hS y_assign <| n_thenN ?_
 refine c_if (ht := fun c2 => ?_) (hf := fun c2 => ?_)
 · replace hF := bt c2 hF
   refine c_seq <| c_region ?_
   iterate 2 (refine oy hS y_move ?_)
   refine oy hS y_bin ?_
   refine o_callS hS func119 rfl rfl (hc := (w_word_flag (a0 := (decide (a1 < a2))))) (h := ?_)
   clear hS; intro w hS
   refine oy hS y_assign <| n_thenN ?_
   subst hF
   exact wp_ret (wr1 hS)
 replace hF := bf c2 hF
 refine c_seq <| c_region <| oy hS y_bin <| oy hS y_assign <| n_thenN ?_
 refine c_if (ht := fun c3 => ?_) (hf := fun c3 => ?_)
 · replace hF := bt c3 hF
   refine c_seq <| c_region ?_
   iterate 2 (refine oy hS y_move ?_)
   refine oy hS y_bin ?_
   refine o_callS hS func119 rfl rfl (hc := (w_word_flag (a0 := (decide (a1 = a2))))) (h := ?_)
   clear hS; intro w hS
   refine oy hS y_assign <| n_thenN ?_
   subst hF
   exact wp_ret (wr1 hS)
 replace hF := bf c3 hF
 refine c_seq <| c_region <| oy hS y_bin <| oy hS y_assign <| n_thenN ?_
 refine c_if (ht := fun c4 => ?_) (hf := fun c4 => ?_)
 · replace hF := bt c4 hF
   refine c_seq <| c_region ?_
   iterate 2 (refine oy hS y_move ?_)
   refine oy hS y_min <| oy hS (y_conv underlying21 underlying35) <| oy hS y_assign <| n_thenN ?_
   subst hF
   exact wp_ret (wr1 hS)
 replace hF := bf c4 hF
 refine wp_skip <| c_seq <| c_region ?_
 iterate 2 (refine oy hS y_move ?_)
 refine oy hS y_max <| oy hS (y_conv underlying21 underlying35) <| oy hS y_assign <| n_thenN ?_
 subst hF
 exact wp_ret (wr1 hS)
theorem w_word_compared {g : Frag} {a0 : Int} {a1 : Int} {a2 : Int}  : LCs Try.prog 108 #[.int .i64 a0, .int .u32 a1, .int .u32 a2] g (.int .u32 (word_compared a0 a1 a2)) := w_word_compared_  rfl

noncomputable def word_product (a0 : Int) (a1 : Int) (a2 : Int) : Option Int :=
  bif decide (a0 = 14) then some (IntKind.u32.wrap (a1 * a2)) else bif decide (a0 = 15) then (shr' .i64 (IntKind.i64.wrap ((IntKind.i64.wrap (IntKind.i32.wrap a1)) * (IntKind.i64.wrap (IntKind.i32.wrap a2)))) 32).bind fun x3 => some (IntKind.u32.wrap x3) else bif decide (a0 = 16) then (quo' .i32 (IntKind.i32.wrap a1) (IntKind.i32.wrap a2)).bind fun x5 => some (IntKind.u32.wrap x5) else (rem' (IntKind.i32.wrap a1) (IntKind.i32.wrap a2)).bind fun x6 => some (IntKind.u32.wrap x6)
theorem w_word_product_ {g : Frag} {a0 : Int} {a1 : Int} {a2 : Int} {r : Int}  (hF : word_product a0 a1 a2 = some r) : LCs Try.prog 109 #[.int .i64 a0, .int .u32 a1, .int .u32 a2] g (.int .u32 r) := by
 unfold word_product at hF
 refine lc_body (k := 38) (av := [.int .i64 a0, .int .u32 a1, .int .u32 a2]) func109 rfl rfl (h := fun W hS => ?_)
 refine c_seq <| c_region <| oy hS y_assign <| n_thenN <| c_seq <| c_region <| oy hS y_move <| oy hS (y_conv underlying35 underlying21) ?_
 refine oy hS y_move <| oy hS (y_conv underlying35 underlying21) ?_
 iterate 2 (refine oy hS y_assign ?_)
 refine n_thenN ?_
 iterate 2 (refine c_seq ?_)
 refine c_region <| oy hS y_move <| n_thenN <| c_block <| c_seq <| c_region <| oy hS y_bin <| oy hS y_assign ?_
 refine n_thenN ?_
 refine c_if (ht := fun c1 => ?_) (hf := fun c1 => ?_)
 · replace hF := bt c1 hF
   refine c_seq <| c_region ?_
   iterate 2 (refine oy hS y_move ?_)
   refine oy hS y_bin <| oy hS y_assign <| n_thenN ?_
   obtain rfl := osi hF
   exact wp_ret (wr1 hS)
 replace hF := bf c1 hF
 refine c_seq <| c_region <| oy hS y_bin <| oy hS y_assign <| n_thenN ?_
 refine c_if (ht := fun c2 => ?_) (hf := fun c2 => ?_)
 · replace hF := bt c2 hF
   refine c_seq <| c_region <| oy hS y_move <| oy hS (y_conv underlying21 underlying2) <| oy hS y_move <| oy hS (y_conv underlying21 underlying2) <| oy hS y_bin ?_
   obtain ⟨x3, hx3, hF⟩ := ob hF
   refine oy hS (y_shr hx3) <| oy hS (y_conv underlying2 underlying35) <| oy hS y_assign <| n_thenN ?_
   obtain rfl := osi hF
   exact wp_ret (wr1 hS)
 replace hF := bf c2 hF
 refine c_seq <| c_region <| oy hS y_bin <| oy hS y_assign <| n_thenN ?_
 refine c_if (ht := fun c4 => ?_) (hf := fun c4 => ?_)
 · replace hF := bt c4 hF
   refine c_seq <| c_region ?_
   iterate 2 (refine oy hS y_move ?_)
   obtain ⟨x5, hx5, hF⟩ := ob hF
   refine oy hS (y_quo hx5) <| oy hS (y_conv underlying21 underlying35) <| oy hS y_assign <| n_thenN ?_
   obtain rfl := osi hF
   exact wp_ret (wr1 hS)
 replace hF := bf c4 hF
 refine wp_skip <| c_seq <| c_region ?_
 iterate 2 (refine oy hS y_move ?_)
 obtain ⟨x6, hx6, hF⟩ := ob hF
 refine oy hS (y_rem hx6) <| oy hS (y_conv underlying21 underlying35) <| oy hS y_assign <| n_thenN ?_
 obtain rfl := osi hF
 exact wp_ret (wr1 hS)
theorem w_word_product {g : Frag} {a0 : Int} {a1 : Int} {a2 : Int} {r : Int}  (hF : word_product a0 a1 a2 = some r) : LCs Try.prog 109 #[.int .i64 a0, .int .u32 a1, .int .u32 a2] g (.int .u32 r) := w_word_product_  hF

noncomputable def word_Of (a0 : Int) (a1 : Int) (a2 : Int) : Option (Int × Int) :=
  bif !(word_Has a0) then some (0, 1) else bif decide (a2 = 0) then bif decide (a0 = 16) then some (0, 7) else bif decide (a0 = 17) then some (0, 7) else bif decide (a0 ≤ 8) then (word_logic a0 a1 a2).bind fun r6 => some (r6, 0) else bif decide (a0 ≤ 13) then some ((word_compared a0 a1 a2), 0) else (word_product a0 a1 a2).bind fun r8 => some (r8, 0) else bif decide (a0 ≤ 8) then (word_logic a0 a1 a2).bind fun r10 => some (r10, 0) else bif decide (a0 ≤ 13) then some ((word_compared a0 a1 a2), 0) else (word_product a0 a1 a2).bind fun r12 => some (r12, 0)
theorem w_word_Of_ {g : Frag} {a0 : Int} {a1 : Int} {a2 : Int} {r : (Int × Int)}  (hF : word_Of a0 a1 a2 = some r) : LCs Try.prog 84 #[.int .i64 a0, .int .u32 a1, .int .u32 a2] g (.tuple #[.int .u32 r.1, .int .i64 r.2]) := by
 unfold word_Of at hF
 refine lc_body (k := 41) (av := [.int .i64 a0, .int .u32 a1, .int .u32 a2]) func84 rfl rfl (h := fun W hS => ?_)
 refine c_seq <| c_region ?_
 iterate 2 (refine oy hS y_assign ?_)
 refine n_thenN <| c_seq <| c_block <| c_seq <| c_region <| oy hS y_move ?_
 refine o_callS hS func83 rfl rfl (hc := (w_word_Has (a0 := a0))) (h := ?_)
 clear hS; intro w hS
 refine oy hS y_not <| oy hS y_assign <| n_thenN ?_
 refine c_if (ht := fun c1 => ?_) (hf := fun c1 => ?_)
 · replace hF := bt c1 hF
   refine c_seq <| c_region ?_
   iterate 2 (refine oy hS y_assign ?_)
   refine n_thenN ?_
   obtain rfl := osi hF
   exact wp_ret (wr2 hS)
 replace hF := bf c1 hF
 refine c_seq <| c_region <| oy hS y_move <| oy hS y_bin ?_
 refine o_split (ht := fun c2 => ?_) (hf := fun c2 => ?_)
 · replace hF := bt c2 hF
   refine o_gu rfl rfl rfl <| oy hS y_move <| o_gu rfl rfl rfl <| oy hS y_bin <| o_gu rfl rfl rfl ?_
   refine o_split (ht := fun c3 => ?_) (hf := fun c3 => ?_)
   · replace hF := bt c3 hF
     iterate 2 (refine o_sk rfl rfl ?_)
     refine o_gu rfl rfl rfl ?_
     iterate 2 (refine oy hS y_pickT ?_)
     refine oy hS y_assign <| n_thenN ?_
     refine c_if_true (h := ?_)
     refine c_seq <| c_region ?_
     iterate 2 (refine oy hS y_assign ?_)
     refine n_thenN ?_
     obtain rfl := osi hF
     exact wp_ret (wr2 hS)
   replace hF := bf c3 hF
   refine o_gu rfl rfl rfl <| oy hS y_move <| o_gu rfl rfl rfl <| oy hS y_bin <| o_gu rfl rfl rfl <| oy hS y_pickF <| oy hS y_pickT <| oy hS y_assign ?_
   refine n_thenN ?_
   refine c_if (ht := fun c4 => ?_) (hf := fun c4 => ?_)
   · replace hF := bt c4 hF
     refine c_seq <| c_region ?_
     iterate 2 (refine oy hS y_assign ?_)
     refine n_thenN ?_
     obtain rfl := osi hF
     exact wp_ret (wr2 hS)
   replace hF := bf c4 hF
   refine c_seq <| c_region <| oy hS y_move <| oy hS y_bin <| oy hS y_assign <| n_thenN ?_
   refine c_if (ht := fun c5 => ?_) (hf := fun c5 => ?_)
   · replace hF := bt c5 hF
     refine c_seq <| c_region ?_
     iterate 3 (refine oy hS y_move ?_)
     obtain ⟨r6, hr6, hF⟩ := ob hF
     refine o_callS hS func107 rfl rfl (hc := (w_word_logic (a0 := a0) (a1 := a1) (a2 := a2) (hF := hr6))) (h := ?_)
     clear hS; intro w hS
     iterate 2 (refine oy hS y_assign ?_)
     refine n_thenN ?_
     obtain rfl := osi hF
     exact wp_ret (wr2 hS)
   replace hF := bf c5 hF
   refine c_seq <| c_region <| oy hS y_move <| oy hS y_bin <| oy hS y_assign <| n_thenN ?_
   refine c_if (ht := fun c7 => ?_) (hf := fun c7 => ?_)
   · replace hF := bt c7 hF
     refine c_seq <| c_region ?_
     iterate 3 (refine oy hS y_move ?_)
     refine o_callS hS func108 rfl rfl (hc := (w_word_compared (a0 := a0) (a1 := a1) (a2 := a2))) (h := ?_)
     clear hS; intro w hS
     iterate 2 (refine oy hS y_assign ?_)
     refine n_thenN ?_
     obtain rfl := osi hF
     exact wp_ret (wr2 hS)
   replace hF := bf c7 hF
   refine wp_skip <| c_seq <| c_region ?_
   iterate 3 (refine oy hS y_move ?_)
   obtain ⟨r8, hr8, hF⟩ := ob hF
   refine o_callS hS func109 rfl rfl (hc := (w_word_product (a0 := a0) (a1 := a1) (a2 := a2) (hF := hr8))) (h := ?_)
   clear hS; intro w hS
   iterate 2 (refine oy hS y_assign ?_)
   refine n_thenN ?_
   obtain rfl := osi hF
   exact wp_ret (wr2 hS)
 replace hF := bf c2 hF
 iterate 3 (refine o_sk rfl rfl ?_)
 iterate 2 (refine o_sku rfl rfl ?_)
 refine o_sk rfl rfl ?_
 refine oy hS y_pickF <| oy hS y_assign <| n_thenN ?_
 refine c_if_false (h := ?_)
 refine c_seq <| c_region <| oy hS y_move <| oy hS y_bin <| oy hS y_assign <| n_thenN ?_
 refine c_if (ht := fun c9 => ?_) (hf := fun c9 => ?_)
 · replace hF := bt c9 hF
   refine c_seq <| c_region ?_
   iterate 3 (refine oy hS y_move ?_)
   obtain ⟨r10, hr10, hF⟩ := ob hF
   refine o_callS hS func107 rfl rfl (hc := (w_word_logic (a0 := a0) (a1 := a1) (a2 := a2) (hF := hr10))) (h := ?_)
   clear hS; intro w hS
   iterate 2 (refine oy hS y_assign ?_)
   refine n_thenN ?_
   obtain rfl := osi hF
   exact wp_ret (wr2 hS)
 replace hF := bf c9 hF
 refine c_seq <| c_region <| oy hS y_move <| oy hS y_bin <| oy hS y_assign <| n_thenN ?_
 refine c_if (ht := fun c11 => ?_) (hf := fun c11 => ?_)
 · replace hF := bt c11 hF
   refine c_seq <| c_region ?_
   iterate 3 (refine oy hS y_move ?_)
   refine o_callS hS func108 rfl rfl (hc := (w_word_compared (a0 := a0) (a1 := a1) (a2 := a2))) (h := ?_)
   clear hS; intro w hS
   iterate 2 (refine oy hS y_assign ?_)
   refine n_thenN ?_
   obtain rfl := osi hF
   exact wp_ret (wr2 hS)
 replace hF := bf c11 hF
 refine wp_skip <| c_seq <| c_region ?_
 iterate 3 (refine oy hS y_move ?_)
 obtain ⟨r12, hr12, hF⟩ := ob hF
 refine o_callS hS func109 rfl rfl (hc := (w_word_product (a0 := a0) (a1 := a1) (a2 := a2) (hF := hr12))) (h := ?_)
 clear hS; intro w hS
 iterate 2 (refine oy hS y_assign ?_)
 refine n_thenN ?_
 obtain rfl := osi hF
 exact wp_ret (wr2 hS)
theorem w_word_Of {g : Frag} {a0 : Int} {a1 : Int} {a2 : Int} {r : (Int × Int)}  (hF : word_Of a0 a1 a2 = some r) : LCs Try.prog 84 #[.int .i64 a0, .int .u32 a1, .int .u32 a2] g (.tuple #[.int .u32 r.1, .int .i64 r.2]) := w_word_Of_  hF

noncomputable def seq_memory (a0 : T_State) (a1 : T_Ins) (a2 : Int) (a3 : Int) : Option (T_State × Int × Int) :=
  bif decide (256 ≤ (IntKind.u32.wrap (a2 + (IntKind.u32.wrap a1.Imm)))) then some (a0, 0, 2) else bif decide (a1.Op = 25) then (set' a0.Mem (IntKind.u32.wrap (a2 + (IntKind.u32.wrap a1.Imm))) a3).bind fun zs11 => (at' zs11 (IntKind.u32.wrap (a2 + (IntKind.u32.wrap a1.Imm)))).bind fun x15 => some ((⟨a0.Regs, zs11, a0.In_, a0.Taken, a0.Out, a0.PC, a0.Stack, a0.Stop, a0.Fly, a0.Jump, a0.Delay⟩ : T_State), x15, 0) else (at' a0.Mem (IntKind.u32.wrap (a2 + (IntKind.u32.wrap a1.Imm)))).bind fun x24 => some (a0, x24, 0)
theorem w_seq_memory_ {g : Frag} {a0 : T_State} {b0_ : Nat} {LB0_ : Own} {a1 : T_Ins} {a2 : Int} {a3 : Int} {r : (T_State × Int × Int)} (h0 : Bx_State b0_ a0 LB0_) (hF : seq_memory a0 a1 a2 a3 = some r) : LC Try.prog 85 #[.pointer (some ⟨b0_, 0, none⟩), .agg (enc_Ins a1).toArray, .int .u32 a2, .int .u32 a3] g LB0_ (fun v L => ∃ (LB' : Own), v = .tuple #[.int .u32 r.2.1, .int .i64 r.2.2] ∧ L = (LB' ++ []) ∧ Bx_State b0_ r.1 LB') := by
 obtain ⟨vP0_0_1, vP0_1_5, vP0_2_9, vP0_4_13, vP0_6_17, vP0_8_21, LXP0_0_2, LXP0_1_6, LXP0_2_10, LXP0_4_14, LXP0_6_18, LXP0_8_22, hL0_, hP0_0_3, hP0_1_7, hP0_2_11, hP0_4_15, hP0_6_19, hP0_8_23⟩ := h0
 unfold seq_memory at hF
 refine lc_body (k := 37) (av := [.pointer (some ⟨b0_, 0, none⟩), .agg (enc_Ins a1).toArray, .int .u32 a2, .int .u32 a3]) func85 rfl rfl (h := fun W hS => ?_)
 have hS := hS.own_eq hL0_
 refine c_seq <| c_region ?_
 refine o_boxP (cl := (enc_Ins a1)) rfl hS ?_
 clear hS; intro b1 w hS
 iterate 2 (refine oy hS y_assign ?_)
 refine n_thenN <| c_seq <| c_region <| oy hS y_move <| oy hS (y_field fa_api_Ins_4) <| oy hS (y_load (fun w hS => hS.own (mH)) underlying3 rfl rfl) <| oy hS (y_conv underlying3 underlying35) <| oy hS y_bin ?_
 refine oy hS y_assign <| n_thenN <| c_seq <| c_block <| c_seq <| c_region <| oy hS y_move <| oy hS y_bin ?_
 refine oy hS y_assign <| n_thenN ?_
 refine c_if (ht := fun c2 => ?_) (hf := fun c2 => ?_)
 · replace hF := bt c2 hF
   refine c_seq <| c_region ?_
   iterate 2 (refine oy hS y_assign ?_)
   refine n_thenN ?_
   obtain rfl := osi hF
   refine wp_ret (r_ret (vs := [.int .u32 0, .int .i64 2]) (hS.re (.b (.thereb _ .hb) (.t (.thereb _ .h) (.t (.thereb _ .h) (.t (.thereb _ .h) (.t (.thereb _ .h) (.t (.thereb _ .h) (.t (.thereb _ .h) .n)))))))) (rsC res_tmp (rsC res_tmp rsN)) rfl ⟨_, rfl, (by first | rfl | simp only [aa, ac, al, an]), ⟨_, _, _, _, _, _, _, _, _, _, _, _, rfl, hP0_0_3, hP0_1_7, hP0_2_11, hP0_4_15, hP0_6_19, hP0_8_23⟩⟩)
 replace hF := bf c2 hF
 refine c_seq <| c_region <| oy hS (y_field fa_api_Ins_0) <| oy hS (y_load (fun w hS => hS.own (mH)) underlying3 rfl rfl) <| oy hS y_bin <| oy hS y_assign <| n_thenN ?_
 refine c_if (ht := fun c3 => ?_) (hf := fun c3 => ?_)
 · replace hF := bt c3 hF
   refine c_region <| oy hS y_move <| oy hS y_nilCheck <| oy hS (y_field fa_api_State_1) <| oy hS (y_load (fun w hS => hS.own (mC (mH))) underlying23 rfl rfl) ?_
   iterate 2 (refine oy hS y_move ?_)
   obtain ⟨zs11, hzs11, hF⟩ := ob hF
   obtain ⟨b4, c5, cl6, hv7, ha8, hb9, hl10⟩ := OwT.at_set hzs11 hP0_1_7 enc_len_uint32
   refine oy hS (y_index hv7 ha8 hb9 underlying23 el_uint32.size) ?_
   refine o_storeO (L' := fun X => ((b1, blk (enc_Ins a1) 31) :: ((b0_, blk (cl_State vP0_0_1 vP0_1_5 vP0_2_9 a0.Taken vP0_4_13 a0.PC vP0_6_17 a0.Stop vP0_8_21 a0.Jump a0.Delay) 27) :: (LXP0_0_2 ++ (X ++ (LXP0_2_10 ++ (LXP0_4_14 ++ (LXP0_6_18 ++ (LXP0_8_22 ++ []))))))))) hzs11 hS hP0_1_7 hl10 (fun X => .thereb _ (.thereb _ (.there _ (.here _)))) enc_len_uint32 rfl (by exact sz_uint32) rfl rfl ?_
   clear hS; intro LX12 w h13 hS
   refine n_anyN ?_
   refine c_seq <| c_region <| oy hS y_move <| oy hS y_nilCheck <| oy hS (y_field fa_api_State_1) <| oy hS (y_load (fun w hS => hS.own (mC (mH))) underlying23 rfl rfl) <| oy hS y_move ?_
   obtain ⟨x15, hx15, hF⟩ := ob hF
   obtain ⟨b16, c17, cl18, hv19, ha20, hb21, hl22, hc23⟩ := OwT.at hx15 h13 enc_len_uint32
   refine oy hS (y_index hv19 ha20 hb21 underlying23 el_uint32.size) <| oy hS (y_load (fun w hS => hS.own (mC (mC (mB (mA (mX hl22)))))) underlying35 rfl (hc23 0 _ rfl)) ?_
   iterate 2 (refine oy hS y_assign ?_)
   refine n_thenN ?_
   obtain rfl := osi hF
   refine wp_ret (r_ret (vs := [.int .u32 x15, .int .i64 0]) (hS.re (.b (.thereb _ .hb) (.t (.thereb _ .h) (.t (.thereb _ .h) (.t (.thereb _ .h) (.t (.thereb _ .h) (.t (.thereb _ .h) (.t (.thereb _ .h) .n)))))))) (rsC res_tmp (rsC res_tmp rsN)) rfl ⟨_, rfl, (by first | rfl | simp only [aa, ac, al, an]), ⟨_, _, _, _, _, _, _, _, _, _, _, _, rfl, hP0_0_3, h13, hP0_2_11, hP0_4_15, hP0_6_19, hP0_8_23⟩⟩)
 replace hF := bf c3 hF
 refine wp_skip <| c_seq <| c_region <| oy hS y_move <| oy hS y_nilCheck <| oy hS (y_field fa_api_State_1) <| oy hS (y_load (fun w hS => hS.own (mC (mH))) underlying23 rfl rfl) <| oy hS y_move ?_
 obtain ⟨x24, hx24, hF⟩ := ob hF
 obtain ⟨b25, c26, cl27, hv28, ha29, hb30, hl31, hc32⟩ := OwT.at hx24 hP0_1_7 enc_len_uint32
 refine oy hS (y_index hv28 ha29 hb30 underlying23 el_uint32.size) <| oy hS (y_load (fun w hS => hS.own (mC (mC (mB (mA (mX hl31)))))) underlying35 rfl (hc32 0 _ rfl)) ?_
 iterate 2 (refine oy hS y_assign ?_)
 refine n_thenN ?_
 obtain rfl := osi hF
 refine wp_ret (r_ret (vs := [.int .u32 x24, .int .i64 0]) (hS.re (.b (.thereb _ .hb) (.t (.thereb _ .h) (.t (.thereb _ .h) (.t (.thereb _ .h) (.t (.thereb _ .h) (.t (.thereb _ .h) (.t (.thereb _ .h) .n)))))))) (rsC res_tmp (rsC res_tmp rsN)) rfl ⟨_, rfl, (by first | rfl | simp only [aa, ac, al, an]), ⟨_, _, _, _, _, _, _, _, _, _, _, _, rfl, hP0_0_3, hP0_1_7, hP0_2_11, hP0_4_15, hP0_6_19, hP0_8_23⟩⟩)
theorem w_seq_memory {g : Frag} {a0 : T_State} {b0_ : Nat} {LB0_ : Own} {a1 : T_Ins} {a2 : Int} {a3 : Int} {r : (T_State × Int × Int)} (h0 : Bx_State b0_ a0 LB0_) (hF : seq_memory a0 a1 a2 a3 = some r) : LC Try.prog 85 #[.pointer (some ⟨b0_, 0, none⟩), .agg (enc_Ins a1).toArray, .int .u32 a2, .int .u32 a3] g LB0_ (fun v L => ∃ (LB' : Own), v = .tuple #[.int .u32 r.2.1, .int .i64 r.2.2] ∧ L = (LB' ++ []) ∧ Bx_State b0_ r.1 LB') := w_seq_memory_ h0 hF

noncomputable def seq_Act (a0 : T_State) (a1 : T_Ins) (a2 : Int) (a3 : Int) : Option (T_State × Int × Int) :=
  bif (pair_Has a1.Op) then (pair_Of a1.Op a2 a3).bind fun r3 => some (a0, r3.1, 0) else bif (word_Has a1.Op) then (word_Of a1.Op a2 a3).bind fun r5 => bif decide (r5.2 ≠ 0) then some (a0, 0, 3) else some (a0, r5.1, 0) else bif decide (a1.Op = 22) then some (a0, IntKind.u32.wrap (a2 + (IntKind.u32.wrap a1.Imm)), 0) else bif decide (a1.Op = 23) then some (a0, IntKind.u32.wrap a1.Imm, 0) else bif decide (a1.Op = 24) then (seq_memory a0 a1 a2 a3).bind fun r10 => some (r10.1, r10.2.1, r10.2.2) else bif decide (a1.Op = 25) then (seq_memory a0 a1 a2 a3).bind fun r41 => some (r41.1, r41.2.1, r41.2.2) else bif decide (a1.Op = 26) then bif decide (a0.Taken < (a0.In_.length : Int)) then (at' a0.In_ a0.Taken).bind fun x73 => some ((⟨a0.Regs, a0.Mem, a0.In_, IntKind.i64.wrap (a0.Taken + 1), a0.Out, a0.PC, a0.Stack, a0.Stop, a0.Fly, a0.Jump, a0.Delay⟩ : T_State), x73, 0) else bif decide (a1.Op = 27) then (app' a0.Out ([a2] : List Int)).bind fun zs90 => some ((⟨a0.Regs, a0.Mem, a0.In_, a0.Taken, zs90, a0.PC, a0.Stack, a0.Stop, a0.Fly, a0.Jump, a0.Delay⟩ : T_State), 0, 0) else bif decide (a1.Op = 33) then some (a0, 0, 1) else some (a0, 0, 0) else bif decide (a1.Op = 27) then (app' a0.Out ([a2] : List Int)).bind fun zs100 => some ((⟨a0.Regs, a0.Mem, a0.In_, a0.Taken, zs100, a0.PC, a0.Stack, a0.Stop, a0.Fly, a0.Jump, a0.Delay⟩ : T_State), 0, 0) else bif decide (a1.Op = 33) then some (a0, 0, 1) else some (a0, 0, 0)
theorem w_seq_Act_ {g : Frag} {a0 : T_State} {b0_ : Nat} {LB0_ : Own} {a1 : T_Ins} {a2 : Int} {a3 : Int} {r : (T_State × Int × Int)} (h0 : Bx_State b0_ a0 LB0_) (hF : seq_Act a0 a1 a2 a3 = some r) : LC Try.prog 63 #[.pointer (some ⟨b0_, 0, none⟩), .agg (enc_Ins a1).toArray, .int .u32 a2, .int .u32 a3] g LB0_ (fun v L => ∃ (LB' : Own), v = .tuple #[.int .u32 r.2.1, .int .i64 r.2.2] ∧ L = (LB' ++ []) ∧ Bx_State b0_ r.1 LB') := by
 obtain ⟨vP0_0_1, vP0_1_5, vP0_2_9, vP0_4_13, vP0_6_17, vP0_8_21, LXP0_0_2, LXP0_1_6, LXP0_2_10, LXP0_4_14, LXP0_6_18, LXP0_8_22, hL0_, hP0_0_3, hP0_1_7, hP0_2_11, hP0_4_15, hP0_6_19, hP0_8_23⟩ := h0
 unfold seq_Act at hF
 refine lc_body (k := 121) (av := [.pointer (some ⟨b0_, 0, none⟩), .agg (enc_Ins a1).toArray, .int .u32 a2, .int .u32 a3]) func63 rfl rfl (h := fun W hS => ?_)
 have hS := hS.own_eq hL0_
 refine c_seq <| c_region ?_
 refine o_boxP (cl := (enc_Ins a1)) rfl hS ?_
 clear hS; intro b1 w hS
 iterate 2 (refine oy hS y_assign ?_)
 refine n_thenN <| c_seq <| c_block <| c_seq <| c_region <| oy hS (y_field fa_api_Ins_0) <| oy hS (y_load (fun w hS => hS.own (mH)) underlying3 rfl rfl) ?_
 refine o_callS hS func81 rfl rfl (hc := (w_pair_Has (a0 := a1.Op))) (h := ?_)
 clear hS; intro w hS
 refine oy hS y_assign <| n_thenN ?_
 refine c_if (ht := fun c2 => ?_) (hf := fun c2 => ?_)
 · replace hF := bt c2 hF
   refine c_region <| oy hS (y_field fa_api_Ins_0) <| oy hS (y_load (fun w hS => hS.own (mH)) underlying3 rfl rfl) ?_
   iterate 2 (refine oy hS y_move ?_)
   obtain ⟨r3, hr3, hF⟩ := ob hF
   refine o_callS hS func82 rfl rfl (hc := (w_pair_Of (a0 := a1.Op) (a1 := a2) (a2 := a3) (hF := hr3))) (h := ?_)
   clear hS; intro w hS
   refine oy hS y_move ?_
   iterate 2 (refine oy hS (y_extract rfl) ?_)
   refine oy hS y_assign ?_
   refine n_anyN ?_
   refine c_seq <| c_region <| oy hS y_move ?_
   iterate 2 (refine oy hS y_assign ?_)
   refine n_thenN ?_
   obtain rfl := osi hF
   refine wp_ret (r_ret (vs := [.int .u32 r3.1, .int .i64 0]) (hS.re (.b (.thereb _ .hb) (.t (.thereb _ .h) (.t (.thereb _ .h) (.t (.thereb _ .h) (.t (.thereb _ .h) (.t (.thereb _ .h) (.t (.thereb _ .h) .n)))))))) (rsC res_tmp (rsC res_tmp rsN)) rfl ⟨_, rfl, (by first | rfl | simp only [aa, ac, al, an]), ⟨_, _, _, _, _, _, _, _, _, _, _, _, rfl, hP0_0_3, hP0_1_7, hP0_2_11, hP0_4_15, hP0_6_19, hP0_8_23⟩⟩)
 replace hF := bf c2 hF
 refine c_seq <| c_region <| oy hS (y_field fa_api_Ins_0) <| oy hS (y_load (fun w hS => hS.own (mH)) underlying3 rfl rfl) ?_
 refine o_callS hS func83 rfl rfl (hc := (w_word_Has (a0 := a1.Op))) (h := ?_)
 clear hS; intro w hS
 refine oy hS y_assign <| n_thenN ?_
 refine c_if (ht := fun c4 => ?_) (hf := fun c4 => ?_)
 · replace hF := bt c4 hF
   refine c_seq <| c_region <| oy hS y_assign <| n_thenN <| c_seq <| c_region <| oy hS (y_field fa_api_Ins_0) <| oy hS (y_load (fun w hS => hS.own (mH)) underlying3 rfl rfl) ?_
   iterate 2 (refine oy hS y_move ?_)
   obtain ⟨r5, hr5, hF⟩ := ob hF
   refine o_callS hS func84 rfl rfl (hc := (w_word_Of (a0 := a1.Op) (a1 := a2) (a2 := a3) (hF := hr5))) (h := ?_)
   clear hS; intro w hS
   refine oy hS y_move ?_
   iterate 2 (refine oy hS (y_extract rfl) ?_)
   iterate 2 (refine oy hS y_assign ?_)
   refine n_thenN <| c_seq <| c_region <| oy hS y_move <| oy hS y_bin <| n_thenN ?_
   refine c_if (ht := fun c6 => ?_) (hf := fun c6 => ?_)
   · replace hF := bt c6 hF
     refine c_seq <| c_region ?_
     iterate 2 (refine oy hS y_assign ?_)
     refine n_thenN ?_
     obtain rfl := osi hF
     refine wp_ret (r_ret (vs := [.int .u32 0, .int .i64 3]) (hS.re (.b (.thereb _ .hb) (.t (.thereb _ .h) (.t (.thereb _ .h) (.t (.thereb _ .h) (.t (.thereb _ .h) (.t (.thereb _ .h) (.t (.thereb _ .h) .n)))))))) (rsC res_tmp (rsC res_tmp rsN)) rfl ⟨_, rfl, (by first | rfl | simp only [aa, ac, al, an]), ⟨_, _, _, _, _, _, _, _, _, _, _, _, rfl, hP0_0_3, hP0_1_7, hP0_2_11, hP0_4_15, hP0_6_19, hP0_8_23⟩⟩)
   replace hF := bf c6 hF
   refine wp_skip <| c_seq <| c_region <| oy hS y_move ?_
   iterate 2 (refine oy hS y_assign ?_)
   refine n_thenN ?_
   obtain rfl := osi hF
   refine wp_ret (r_ret (vs := [.int .u32 r5.1, .int .i64 0]) (hS.re (.b (.thereb _ .hb) (.t (.thereb _ .h) (.t (.thereb _ .h) (.t (.thereb _ .h) (.t (.thereb _ .h) (.t (.thereb _ .h) (.t (.thereb _ .h) .n)))))))) (rsC res_tmp (rsC res_tmp rsN)) rfl ⟨_, rfl, (by first | rfl | simp only [aa, ac, al, an]), ⟨_, _, _, _, _, _, _, _, _, _, _, _, rfl, hP0_0_3, hP0_1_7, hP0_2_11, hP0_4_15, hP0_6_19, hP0_8_23⟩⟩)
 replace hF := bf c4 hF
 refine c_seq <| c_region <| oy hS (y_field fa_api_Ins_0) <| oy hS (y_load (fun w hS => hS.own (mH)) underlying3 rfl rfl) <| oy hS y_bin <| oy hS y_assign <| n_thenN ?_
 refine c_if (ht := fun c7 => ?_) (hf := fun c7 => ?_)
 · replace hF := bt c7 hF
   refine c_region <| oy hS y_move <| oy hS (y_field fa_api_Ins_4) <| oy hS (y_load (fun w hS => hS.own (mH)) underlying3 rfl rfl) <| oy hS (y_conv underlying3 underlying35) <| oy hS y_bin <| oy hS y_assign ?_
   refine n_anyN ?_
   refine c_seq <| c_region <| oy hS y_move ?_
   iterate 2 (refine oy hS y_assign ?_)
   refine n_thenN ?_
   obtain rfl := osi hF
   refine wp_ret (r_ret (vs := [.int .u32 (IntKind.u32.wrap (a2 + (IntKind.u32.wrap a1.Imm))), .int .i64 0]) (hS.re (.b (.thereb _ .hb) (.t (.thereb _ .h) (.t (.thereb _ .h) (.t (.thereb _ .h) (.t (.thereb _ .h) (.t (.thereb _ .h) (.t (.thereb _ .h) .n)))))))) (rsC res_tmp (rsC res_tmp rsN)) rfl ⟨_, rfl, (by first | rfl | simp only [aa, ac, al, an]), ⟨_, _, _, _, _, _, _, _, _, _, _, _, rfl, hP0_0_3, hP0_1_7, hP0_2_11, hP0_4_15, hP0_6_19, hP0_8_23⟩⟩)
 replace hF := bf c7 hF
 refine c_seq <| c_region <| oy hS (y_field fa_api_Ins_0) <| oy hS (y_load (fun w hS => hS.own (mH)) underlying3 rfl rfl) <| oy hS y_bin <| oy hS y_assign <| n_thenN ?_
 refine c_if (ht := fun c8 => ?_) (hf := fun c8 => ?_)
 · replace hF := bt c8 hF
   refine c_region <| oy hS (y_field fa_api_Ins_4) <| oy hS (y_load (fun w hS => hS.own (mH)) underlying3 rfl rfl) <| oy hS (y_conv underlying3 underlying35) <| oy hS y_assign ?_
   refine n_anyN ?_
   refine c_seq <| c_region <| oy hS y_move ?_
   iterate 2 (refine oy hS y_assign ?_)
   refine n_thenN ?_
   obtain rfl := osi hF
   refine wp_ret (r_ret (vs := [.int .u32 (IntKind.u32.wrap a1.Imm), .int .i64 0]) (hS.re (.b (.thereb _ .hb) (.t (.thereb _ .h) (.t (.thereb _ .h) (.t (.thereb _ .h) (.t (.thereb _ .h) (.t (.thereb _ .h) (.t (.thereb _ .h) .n)))))))) (rsC res_tmp (rsC res_tmp rsN)) rfl ⟨_, rfl, (by first | rfl | simp only [aa, ac, al, an]), ⟨_, _, _, _, _, _, _, _, _, _, _, _, rfl, hP0_0_3, hP0_1_7, hP0_2_11, hP0_4_15, hP0_6_19, hP0_8_23⟩⟩)
 replace hF := bf c8 hF
 refine c_seq <| c_region <| oy hS (y_field fa_api_Ins_0) <| oy hS (y_load (fun w hS => hS.own (mH)) underlying3 rfl rfl) <| oy hS y_bin ?_
 refine o_split (ht := fun c9 => ?_) (hf := fun c9 => ?_)
 · replace hF := bt c9 hF
   iterate 3 (refine o_sk rfl rfl ?_)
   refine oy hS y_pickT <| oy hS y_assign <| n_thenN ?_
   refine c_if_true (h := ?_)
   refine c_seq <| c_region <| oy hS y_move ?_
   refine oy hS (y_loadW (fun w hS => hS.own (mH)) underlying31 rfl (by exact sz_api_Ins)) ?_
   iterate 2 (refine oy hS y_move ?_)
   have hS := hS.re (.b (.thereb _ .hb) (.t (.thereb _ .h) (.t (.thereb _ .h) (.t (.thereb _ .h) (.t (.thereb _ .h) (.t (.thereb _ .h) (.t (.thereb _ .h) (.b .hb .n))))))))
   have hS2 := hS.spl (.cons _ (.app _ (.app _ (.app _ (.app _ (.app _ (.app _ (.nil _))))))))
   obtain ⟨r10, hr10, hF⟩ := ob hF
   refine o_call hS2 func85 rfl rfl (hc := (w_seq_memory (a0 := a0) (a1 := a1) (a2 := a2) (a3 := a3) (h0 := (⟨_, _, _, _, _, _, _, _, _, _, _, _, rfl, hP0_0_3, hP0_1_7, hP0_2_11, hP0_4_15, hP0_6_19, hP0_8_23⟩ : Bx_State b0_ a0 ((b0_, blk (cl_State vP0_0_1 vP0_1_5 vP0_2_9 a0.Taken vP0_4_13 a0.PC vP0_6_17 a0.Stop vP0_8_21 a0.Jump a0.Delay) 27) :: (LXP0_0_2 ++ (LXP0_1_6 ++ (LXP0_2_10 ++ (LXP0_4_14 ++ (LXP0_6_18 ++ (LXP0_8_22 ++ []))))))))) (hF := hr10))) (h := ?_)
   clear hS; intro v11 LY12 w hS hr13
   clear hS2
   obtain ⟨LB14, rfl, rfl, hb15⟩ := hr13
   obtain ⟨vB_0_16, vB_1_20, vB_2_24, vB_4_28, vB_6_32, vB_8_36, LXB_0_17, LXB_1_21, LXB_2_25, LXB_4_29, LXB_6_33, LXB_8_37, rfl, hB_0_18, hB_1_22, hB_2_26, hB_4_30, hB_6_34, hB_8_38⟩ := hb15
   simp only [aa, ac, al] at hS
   iterate 2 (refine oy hS (y_extract rfl) ?_)
   iterate 2 (refine oy hS y_assign ?_)
   refine n_thenN ?_
   obtain rfl := osi hF
   refine wp_ret (r_ret (vs := [.int .u32 r10.2.1, .int .i64 r10.2.2]) (hS.re (.b .hb (.t .h (.t .h (.t .h (.t .h (.t .h (.t .h .n)))))))) (rsC res_tmp (rsC res_tmp rsN)) rfl ⟨_, rfl, (by first | rfl | simp only [aa, ac, al, an]), ⟨_, _, _, _, _, _, _, _, _, _, _, _, rfl, hB_0_18, hB_1_22, hB_2_26, hB_4_30, hB_6_34, hB_8_38⟩⟩)
 replace hF := bf c9 hF
 refine o_gu rfl rfl rfl <| oy hS (y_field fa_api_Ins_0) <| o_gu rfl rfl rfl <| oy hS (y_load (fun w hS => hS.own (mH)) underlying3 rfl rfl) <| o_gu rfl rfl rfl <| oy hS y_bin <| oy hS y_pickF <| oy hS y_assign ?_
 refine n_thenN ?_
 refine c_if (ht := fun c40 => ?_) (hf := fun c40 => ?_)
 · replace hF := bt c40 hF
   refine c_seq <| c_region <| oy hS y_move ?_
   refine oy hS (y_loadW (fun w hS => hS.own (mH)) underlying31 rfl (by exact sz_api_Ins)) ?_
   iterate 2 (refine oy hS y_move ?_)
   have hS := hS.re (.b (.thereb _ .hb) (.t (.thereb _ .h) (.t (.thereb _ .h) (.t (.thereb _ .h) (.t (.thereb _ .h) (.t (.thereb _ .h) (.t (.thereb _ .h) (.b .hb .n))))))))
   have hS2 := hS.spl (.cons _ (.app _ (.app _ (.app _ (.app _ (.app _ (.app _ (.nil _))))))))
   obtain ⟨r41, hr41, hF⟩ := ob hF
   refine o_call hS2 func85 rfl rfl (hc := (w_seq_memory (a0 := a0) (a1 := a1) (a2 := a2) (a3 := a3) (h0 := (⟨_, _, _, _, _, _, _, _, _, _, _, _, rfl, hP0_0_3, hP0_1_7, hP0_2_11, hP0_4_15, hP0_6_19, hP0_8_23⟩ : Bx_State b0_ a0 ((b0_, blk (cl_State vP0_0_1 vP0_1_5 vP0_2_9 a0.Taken vP0_4_13 a0.PC vP0_6_17 a0.Stop vP0_8_21 a0.Jump a0.Delay) 27) :: (LXP0_0_2 ++ (LXP0_1_6 ++ (LXP0_2_10 ++ (LXP0_4_14 ++ (LXP0_6_18 ++ (LXP0_8_22 ++ []))))))))) (hF := hr41))) (h := ?_)
   clear hS; intro v42 LY43 w hS hr44
   clear hS2
   obtain ⟨LB45, rfl, rfl, hb46⟩ := hr44
   obtain ⟨vB_0_47, vB_1_51, vB_2_55, vB_4_59, vB_6_63, vB_8_67, LXB_0_48, LXB_1_52, LXB_2_56, LXB_4_60, LXB_6_64, LXB_8_68, rfl, hB_0_49, hB_1_53, hB_2_57, hB_4_61, hB_6_65, hB_8_69⟩ := hb46
   simp only [aa, ac, al] at hS
   iterate 2 (refine oy hS (y_extract rfl) ?_)
   iterate 2 (refine oy hS y_assign ?_)
   refine n_thenN ?_
   obtain rfl := osi hF
   refine wp_ret (r_ret (vs := [.int .u32 r41.2.1, .int .i64 r41.2.2]) (hS.re (.b .hb (.t .h (.t .h (.t .h (.t .h (.t .h (.t .h .n)))))))) (rsC res_tmp (rsC res_tmp rsN)) rfl ⟨_, rfl, (by first | rfl | simp only [aa, ac, al, an]), ⟨_, _, _, _, _, _, _, _, _, _, _, _, rfl, hB_0_49, hB_1_53, hB_2_57, hB_4_61, hB_6_65, hB_8_69⟩⟩)
 replace hF := bf c40 hF
 refine c_seq ?_
 refine c_quiet (by kernel_rfl) (by kernel_rfl) hS ?_
 refine qy (y_field fa_api_Ins_0) <| qy (y_load (fun w hS => hS.own (mH)) underlying3 rfl rfl) <| qy y_bin ?_
 refine q_split (ht := fun c71 => ?_) (hf := fun c71 => ?_)
 · replace hF := bt c71 hF
   refine q_gu rfl rfl rfl ?_
   refine qy y_move ?_
   refine q_gu rfl rfl rfl ?_
   refine qy y_nilCheck ?_
   refine q_gu rfl rfl rfl ?_
   refine qy (y_field fa_api_State_3) ?_
   refine q_gu rfl rfl rfl ?_
   refine qy (y_load (fun w hS => hS.own (mC (mH))) underlying3 rfl rfl) ?_
   refine q_gu rfl rfl rfl ?_
   refine qy y_move ?_
   refine q_gu rfl rfl rfl ?_
   refine qy y_nilCheck ?_
   refine q_gu rfl rfl rfl ?_
   refine qy (y_field fa_api_State_2) ?_
   refine q_gu rfl rfl rfl ?_
   refine qy (y_load (fun w hS => hS.own (mC (mH))) underlying23 rfl rfl) ?_
   refine q_gu rfl rfl rfl ?_
   refine qy (y_lenO hP0_2_11 underlying23) ?_
   refine q_gu rfl rfl rfl ?_
   refine qy y_bin <| qy y_pickT <| qy y_assign ?_
   refine q_nilN (h := ?_)
   clear hS; intro w hS
   refine c_if (ht := fun c72 => ?_) (hf := fun c72 => ?_)
   · replace hF := bt c72 hF
     refine c_seq ?_
     refine c_quiet (by kernel_rfl) (by kernel_rfl) hS ?_
     refine qy y_move <| qy y_nilCheck <| qy (y_field fa_api_State_2) <| qy (y_load (fun w hS => hS.own (mC (mH))) underlying23 rfl rfl) <| qy y_move <| qy y_nilCheck <| qy (y_field fa_api_State_3) <| qy (y_load (fun w hS => hS.own (mC (mH))) underlying3 rfl rfl) ?_
     obtain ⟨x73, hx73, hF⟩ := ob hF
     obtain ⟨b74, c75, cl76, hv77, ha78, hb79, hl80, hc81⟩ := OwT.at hx73 hP0_2_11 enc_len_uint32
     refine qy (y_index hv77 ha78 hb79 underlying23 el_uint32.size) <| qy (y_load (fun w hS => hS.own (mC (mC (mB (mB (mA (mX hl80))))))) underlying35 rfl (hc81 0 _ rfl)) <| qy y_assign ?_
     refine q_nilN (h := ?_)
     clear hS; intro w hS
     refine c_region <| oy hS y_move <| oy hS y_nilCheck <| oy hS (y_field fa_api_State_3) <| oy hS (y_load (fun w hS => hS.own (mC (mH))) underlying3 rfl rfl) <| oy hS y_bin <| oy hS y_nilCheck <| oy hS (y_field fa_api_State_3) ?_
     refine o_storeA1 (o := 3) (cl' := (cl_State vP0_0_1 vP0_1_5 vP0_2_9 (IntKind.i64.wrap (a0.Taken + 1)) vP0_4_13 a0.PC vP0_6_17 a0.Stop vP0_8_21 a0.Jump a0.Delay)) hS (by kernel_rfl) (by exact Nat.le_of_ble_eq_true rfl) (Upd.there _ (Upd.here _)) (by exact sz_int) rfl rfl ?_
     clear hS; intro w hS
     refine n_anyN ?_
     refine c_seq <| c_region <| oy hS y_move ?_
     iterate 2 (refine oy hS y_assign ?_)
     refine n_thenN ?_
     obtain rfl := osi hF
     refine wp_ret (r_ret (vs := [.int .u32 x73, .int .i64 0]) (hS.re (.b (.thereb _ .hb) (.t (.thereb _ .h) (.t (.thereb _ .h) (.t (.thereb _ .h) (.t (.thereb _ .h) (.t (.thereb _ .h) (.t (.thereb _ .h) .n)))))))) (rsC res_tmp (rsC res_tmp rsN)) rfl ⟨_, rfl, (by first | rfl | simp only [aa, ac, al, an]), ⟨_, _, _, _, _, _, _, _, _, _, _, _, rfl, hP0_0_3, hP0_1_7, hP0_2_11, hP0_4_15, hP0_6_19, hP0_8_23⟩⟩)
   replace hF := bf c72 hF
   refine c_seq <| c_region <| oy hS (y_field fa_api_Ins_0) <| oy hS (y_load (fun w hS => hS.own (mH)) underlying3 rfl rfl) <| oy hS y_bin <| oy hS y_assign <| n_thenN ?_
   refine c_if (ht := fun c82 => ?_) (hf := fun c82 => ?_)
   · replace hF := bt c82 hF
     refine c_region ?_
     iterate 2 (refine oy hS y_move ?_)
     refine oy hS y_nilCheck <| oy hS (y_field fa_api_State_4) <| oy hS (y_load (fun w hS => hS.own (mC (mH))) underlying23 rfl rfl) <| oy hS y_move ?_
     refine o_buildT val_uint32 ([a2] : List Int) hS el_uint32 (fun _ => rfl) enc_len_uint32 (by decide) rfl (by decide) (hp := rfl) (h := ?_)
     clear hS; intro b83 w hS h84
     have hS : St W g LB0_ ([(b83, blk (([a2] : List Int).flatMap enc_uint32) 35)] ++ ((b1, blk (enc_Ins a1) 31) :: ((b0_, blk (cl_State vP0_0_1 vP0_1_5 vP0_2_9 a0.Taken vP0_4_13 a0.PC vP0_6_17 a0.Stop vP0_8_21 a0.Jump a0.Delay) 27) :: (LXP0_0_2 ++ (LXP0_1_6 ++ (LXP0_2_10 ++ (LXP0_4_14 ++ (LXP0_6_18 ++ (LXP0_8_22 ++ []))))))))) w := hS
     obtain ⟨zs90, hzs90, hF⟩ := ob hF
     have hS := hS.re (.t .h (.t (.thereb _ (.thereb _ (.there _ (.there _ (.there _ .h))))) (.b .hb (.b .hb (.t .h (.t .h (.t .h (.t .h (.t .h .n)))))))))
     refine o_appPn (ys := ([a2] : List Int)) (LX := LXP0_4_14) hzs90 hS el_uint32 hP0_4_15 rfl enc_len_uint32 (enc_ones_uint32 _) (by decide) ?_
     clear hS; intro v86 LX87 w h88 hS
     refine oy hS y_nilCheck <| oy hS (y_field fa_api_State_4) ?_
     have hS := hS.re (.b (.there _ (.thereb _ .hb)) (.t .h (.b .hb (.t .h (.t .h (.t .h (.t .h (.t .h .n))))))))
     refine o_storeA1 (o := 4) (cl' := (cl_State vP0_0_1 vP0_1_5 vP0_2_9 a0.Taken v86 a0.PC vP0_6_17 a0.Stop vP0_8_21 a0.Jump a0.Delay)) hS (by kernel_rfl) (by exact Nat.le_of_ble_eq_true rfl) (Upd.here _) (by exact sz_S_uint32) (h88).one (h88).cell ?_
     clear hS; intro w hS
     refine n_anyN ?_
     refine c_seq <| c_region <| oy hS y_move ?_
     iterate 2 (refine oy hS y_assign ?_)
     refine n_thenN ?_
     obtain rfl := osi hF
     refine wp_ret (r_ret (vs := [.int .u32 0, .int .i64 0]) (hS.re (.b .hb (.t (.there _ (.thereb _ .h)) (.t (.there _ (.thereb _ .h)) (.t (.there _ (.thereb _ .h)) (.t .h (.t (.thereb _ .h) (.t (.thereb _ .h) .n)))))))) (rsC res_tmp (rsC res_tmp rsN)) rfl ⟨_, rfl, (by first | rfl | simp only [aa, ac, al, an]), ⟨_, _, _, _, _, _, _, _, _, _, _, _, rfl, hP0_0_3, hP0_1_7, hP0_2_11, h88, hP0_6_19, hP0_8_23⟩⟩)
   replace hF := bf c82 hF
   refine c_seq <| c_region <| oy hS (y_field fa_api_Ins_0) <| oy hS (y_load (fun w hS => hS.own (mH)) underlying3 rfl rfl) <| oy hS y_bin <| oy hS y_assign <| n_thenN ?_
   refine c_if (ht := fun c91 => ?_) (hf := fun c91 => ?_)
   · replace hF := bt c91 hF
     refine c_seq <| c_region ?_
     iterate 2 (refine oy hS y_assign ?_)
     refine n_thenN ?_
     obtain rfl := osi hF
     refine wp_ret (r_ret (vs := [.int .u32 0, .int .i64 1]) (hS.re (.b (.thereb _ .hb) (.t (.thereb _ .h) (.t (.thereb _ .h) (.t (.thereb _ .h) (.t (.thereb _ .h) (.t (.thereb _ .h) (.t (.thereb _ .h) .n)))))))) (rsC res_tmp (rsC res_tmp rsN)) rfl ⟨_, rfl, (by first | rfl | simp only [aa, ac, al, an]), ⟨_, _, _, _, _, _, _, _, _, _, _, _, rfl, hP0_0_3, hP0_1_7, hP0_2_11, hP0_4_15, hP0_6_19, hP0_8_23⟩⟩)
   replace hF := bf c91 hF
   refine wp_skip <| c_seq <| c_region <| oy hS y_move ?_
   iterate 2 (refine oy hS y_assign ?_)
   refine n_thenN ?_
   obtain rfl := osi hF
   refine wp_ret (r_ret (vs := [.int .u32 0, .int .i64 0]) (hS.re (.b (.thereb _ .hb) (.t (.thereb _ .h) (.t (.thereb _ .h) (.t (.thereb _ .h) (.t (.thereb _ .h) (.t (.thereb _ .h) (.t (.thereb _ .h) .n)))))))) (rsC res_tmp (rsC res_tmp rsN)) rfl ⟨_, rfl, (by first | rfl | simp only [aa, ac, al, an]), ⟨_, _, _, _, _, _, _, _, _, _, _, _, rfl, hP0_0_3, hP0_1_7, hP0_2_11, hP0_4_15, hP0_6_19, hP0_8_23⟩⟩)
 replace hF := bf c71 hF
 iterate 10 (refine q_sk rfl rfl ?_)
 refine qy y_pickF <| qy y_assign ?_
 refine q_nilN (h := ?_)
 clear hS; intro w hS
 refine c_if_false (h := ?_)
 refine c_seq <| c_region <| oy hS (y_field fa_api_Ins_0) <| oy hS (y_load (fun w hS => hS.own (mH)) underlying3 rfl rfl) <| oy hS y_bin <| oy hS y_assign <| n_thenN ?_
 refine c_if (ht := fun c92 => ?_) (hf := fun c92 => ?_)
 · replace hF := bt c92 hF
   refine c_region ?_
   iterate 2 (refine oy hS y_move ?_)
   refine oy hS y_nilCheck <| oy hS (y_field fa_api_State_4) <| oy hS (y_load (fun w hS => hS.own (mC (mH))) underlying23 rfl rfl) <| oy hS y_move ?_
   refine o_buildT val_uint32 ([a2] : List Int) hS el_uint32 (fun _ => rfl) enc_len_uint32 (by decide) rfl (by decide) (hp := rfl) (h := ?_)
   clear hS; intro b93 w hS h94
   have hS : St W g LB0_ ([(b93, blk (([a2] : List Int).flatMap enc_uint32) 35)] ++ ((b1, blk (enc_Ins a1) 31) :: ((b0_, blk (cl_State vP0_0_1 vP0_1_5 vP0_2_9 a0.Taken vP0_4_13 a0.PC vP0_6_17 a0.Stop vP0_8_21 a0.Jump a0.Delay) 27) :: (LXP0_0_2 ++ (LXP0_1_6 ++ (LXP0_2_10 ++ (LXP0_4_14 ++ (LXP0_6_18 ++ (LXP0_8_22 ++ []))))))))) w := hS
   obtain ⟨zs100, hzs100, hF⟩ := ob hF
   have hS := hS.re (.t .h (.t (.thereb _ (.thereb _ (.there _ (.there _ (.there _ .h))))) (.b .hb (.b .hb (.t .h (.t .h (.t .h (.t .h (.t .h .n)))))))))
   refine o_appPn (ys := ([a2] : List Int)) (LX := LXP0_4_14) hzs100 hS el_uint32 hP0_4_15 rfl enc_len_uint32 (enc_ones_uint32 _) (by decide) ?_
   clear hS; intro v96 LX97 w h98 hS
   refine oy hS y_nilCheck <| oy hS (y_field fa_api_State_4) ?_
   have hS := hS.re (.b (.there _ (.thereb _ .hb)) (.t .h (.b .hb (.t .h (.t .h (.t .h (.t .h (.t .h .n))))))))
   refine o_storeA1 (o := 4) (cl' := (cl_State vP0_0_1 vP0_1_5 vP0_2_9 a0.Taken v96 a0.PC vP0_6_17 a0.Stop vP0_8_21 a0.Jump a0.Delay)) hS (by kernel_rfl) (by exact Nat.le_of_ble_eq_true rfl) (Upd.here _) (by exact sz_S_uint32) (h98).one (h98).cell ?_
   clear hS; intro w hS
   refine n_anyN ?_
   refine c_seq <| c_region <| oy hS y_move ?_
   iterate 2 (refine oy hS y_assign ?_)
   refine n_thenN ?_
   obtain rfl := osi hF
   refine wp_ret (r_ret (vs := [.int .u32 0, .int .i64 0]) (hS.re (.b .hb (.t (.there _ (.thereb _ .h)) (.t (.there _ (.thereb _ .h)) (.t (.there _ (.thereb _ .h)) (.t .h (.t (.thereb _ .h) (.t (.thereb _ .h) .n)))))))) (rsC res_tmp (rsC res_tmp rsN)) rfl ⟨_, rfl, (by first | rfl | simp only [aa, ac, al, an]), ⟨_, _, _, _, _, _, _, _, _, _, _, _, rfl, hP0_0_3, hP0_1_7, hP0_2_11, h98, hP0_6_19, hP0_8_23⟩⟩)
 replace hF := bf c92 hF
 refine c_seq <| c_region <| oy hS (y_field fa_api_Ins_0) <| oy hS (y_load (fun w hS => hS.own (mH)) underlying3 rfl rfl) <| oy hS y_bin <| oy hS y_assign <| n_thenN ?_
 refine c_if (ht := fun c101 => ?_) (hf := fun c101 => ?_)
 · replace hF := bt c101 hF
   refine c_seq <| c_region ?_
   iterate 2 (refine oy hS y_assign ?_)
   refine n_thenN ?_
   obtain rfl := osi hF
   refine wp_ret (r_ret (vs := [.int .u32 0, .int .i64 1]) (hS.re (.b (.thereb _ .hb) (.t (.thereb _ .h) (.t (.thereb _ .h) (.t (.thereb _ .h) (.t (.thereb _ .h) (.t (.thereb _ .h) (.t (.thereb _ .h) .n)))))))) (rsC res_tmp (rsC res_tmp rsN)) rfl ⟨_, rfl, (by first | rfl | simp only [aa, ac, al, an]), ⟨_, _, _, _, _, _, _, _, _, _, _, _, rfl, hP0_0_3, hP0_1_7, hP0_2_11, hP0_4_15, hP0_6_19, hP0_8_23⟩⟩)
 replace hF := bf c101 hF
 refine wp_skip <| c_seq <| c_region <| oy hS y_move ?_
 iterate 2 (refine oy hS y_assign ?_)
 refine n_thenN ?_
 obtain rfl := osi hF
 refine wp_ret (r_ret (vs := [.int .u32 0, .int .i64 0]) (hS.re (.b (.thereb _ .hb) (.t (.thereb _ .h) (.t (.thereb _ .h) (.t (.thereb _ .h) (.t (.thereb _ .h) (.t (.thereb _ .h) (.t (.thereb _ .h) .n)))))))) (rsC res_tmp (rsC res_tmp rsN)) rfl ⟨_, rfl, (by first | rfl | simp only [aa, ac, al, an]), ⟨_, _, _, _, _, _, _, _, _, _, _, _, rfl, hP0_0_3, hP0_1_7, hP0_2_11, hP0_4_15, hP0_6_19, hP0_8_23⟩⟩)
theorem w_seq_Act {g : Frag} {a0 : T_State} {b0_ : Nat} {LB0_ : Own} {a1 : T_Ins} {a2 : Int} {a3 : Int} {r : (T_State × Int × Int)} (h0 : Bx_State b0_ a0 LB0_) (hF : seq_Act a0 a1 a2 a3 = some r) : LC Try.prog 63 #[.pointer (some ⟨b0_, 0, none⟩), .agg (enc_Ins a1).toArray, .int .u32 a2, .int .u32 a3] g LB0_ (fun v L => ∃ (LB' : Own), v = .tuple #[.int .u32 r.2.1, .int .i64 r.2.2] ∧ L = (LB' ++ []) ∧ Bx_State b0_ r.1 LB') := w_seq_Act_ h0 hF
end Go.Proofs.Ythbpicnbkdbbmaa
