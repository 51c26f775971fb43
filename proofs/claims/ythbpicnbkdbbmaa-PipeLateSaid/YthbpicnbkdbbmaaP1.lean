/- Functions, lifted. Printed by lift.py. -/
import Derived.Test.YthbpicnbkdbbmaaProg
import Derived.Test.YthbpicnbkdbbmaaP8
import Derived.KernelRfl
namespace Go.Proofs.Ythbpicnbkdbbmaa
open Go Go.RowKit Fr
set_option linter.unusedVariables false
set_option linter.unusedSimpArgs false
set_option maxRecDepth 20000
open Try
set_option maxHeartbeats 2000000
noncomputable def l6_at (a0 : T_Ins) : Option (A4 T_Ins) :=
  (at' (r3_Slots a0.Op) 0).bind fun x11 => (at' [(⟨0, 0, 0, 0, 0, ByteArray.empty⟩ : T_Ins), (⟨0, 0, 0, 0, 0, ByteArray.empty⟩ : T_Ins), (⟨0, 0, 0, 0, 0, ByteArray.empty⟩ : T_Ins), (⟨0, 0, 0, 0, 0, ByteArray.empty⟩ : T_Ins)] x11).bind fun x20 => (A4.put (⟨(⟨0, 0, 0, 0, 0, ByteArray.empty⟩ : T_Ins), (⟨0, 0, 0, 0, 0, ByteArray.empty⟩ : T_Ins), (⟨0, 0, 0, 0, 0, ByteArray.empty⟩ : T_Ins), (⟨0, 0, 0, 0, 0, ByteArray.empty⟩ : T_Ins)⟩ : (A4 T_Ins)) x11 a0).bind fun z21 => some (z21)
theorem w_l6_at_ {g : Frag} {a0 : T_Ins} {r : (A4 T_Ins)}  (hF : l6_at a0 = some r) : LCs Try.prog 9 #[.agg (enc_Ins a0).toArray] g (.agg (enc_Bundle r).toArray) := by
 unfold l6_at at hF
 refine lc_body (k := 14) (av := [.agg (enc_Ins a0).toArray]) func9 rfl rfl (h := fun W hS => ?_)
 refine c_seq <| c_region ?_
 refine o_boxP (cl := (enc_Ins a0)) rfl hS ?_
 clear hS; intro b1 w hS
 refine o_allocP (cl := (enc_Bundle ⟨(⟨0, 0, 0, 0, 0, ByteArray.empty⟩ : T_Ins), (⟨0, 0, 0, 0, 0, ByteArray.empty⟩ : T_Ins), (⟨0, 0, 0, 0, 0, ByteArray.empty⟩ : T_Ins), (⟨0, 0, 0, 0, 0, ByteArray.empty⟩ : T_Ins)⟩)) zr_api_Bundle rfl hS ?_
 clear hS; intro b2 w hS
 refine n_thenN <| c_seq <| c_region ?_
 refine o_allocP (cl := (enc_Bundle ⟨(⟨0, 0, 0, 0, 0, ByteArray.empty⟩ : T_Ins), (⟨0, 0, 0, 0, 0, ByteArray.empty⟩ : T_Ins), (⟨0, 0, 0, 0, 0, ByteArray.empty⟩ : T_Ins), (⟨0, 0, 0, 0, 0, ByteArray.empty⟩ : T_Ins)⟩)) zr_api_Bundle rfl hS ?_
 clear hS; intro b3 w hS
 refine n_thenN <| c_seq <| c_region <| oy hS (y_field fa_api_Ins_0) <| oy hS (y_load (fun w hS => hS.own (mC (mC (mH)))) underlying3 rfl rfl) ?_
 refine o_call0 hS func24 rfl rfl (hc := (w_r3_Slots (a0 := a0.Op))) (h := ?_)
 clear hS; intro v4 LY5 w hS hr6
 obtain ⟨v_0_7, LX_0_8, rfl, rfl, h_0_9⟩ := hr6
 simp only [aa, ac, al] at hS
 refine oy hS y_assign <| n_thenN <| c_seq ?_
 refine c_heldL 5 6 (by kernel_rfl) rfl hS ?_
 clear hS; intro w hS
 refine hy0 0 rfl wn (by kernel_rfl) (nq (P := Try.prog) (fn := Try.f9)) (fun _ => hS.cb) y_move ?_
 obtain ⟨x11, hx11, hF⟩ := ob hF
 obtain ⟨b12, c13, cl14, hv15, ha16, hb17, hl18, hc19⟩ := OwT.at hx11 h_0_9 enc_len_int
 refine hy0 1 rfl wn (by kernel_rfl) (nq (P := Try.prog) (fn := Try.f9)) (fun _ => hS.cb) (y_index hv15 ha16 hb17 underlying24 el_int.size) ?_
 refine hy 2 rfl wn (by kernel_rfl) (nq (P := Try.prog) (fn := Try.f9)) hS.cb (y_load (fun w hS => hS.own (mA (mX hl18))) underlying3 rfl (hc19 0 _ rfl)) ?_
 refine hy 3 rfl wn (by kernel_rfl) (nq (P := Try.prog) (fn := Try.f9)) hS.cb (y_loadW (fun w hS => hS.own (mB (mC (mC (mH))))) underlying31 rfl (by exact sz_api_Ins)) ?_
 obtain ⟨x20, hx20, hF⟩ := ob hF
 refine hy0 4 rfl wn (by kernel_rfl) (nq (P := Try.prog) (fn := Try.f9)) (fun _ => hS.cb) (y_indexA (at'_bnd hx20 rfl).1 (at'_bnd hx20 (n := 4) rfl).2 underlying37 (by exact sz_api_Ins)) ?_
 refine hb1 5 (by kernel_rfl) (hb_op rfl wn (nl (P := Try.prog) (fn := Try.f9)) ?_)
 have hS := hS.re (.b (.there _ .hb) (.t .h (.b .hb (.b .hb .n))))
 obtain ⟨z21, hz21, hF⟩ := ob hF
 refine o_storeAN (o := 0 + (x11).toNat * 6) (cl := (enc_Bundle ⟨(⟨0, 0, 0, 0, 0, ByteArray.empty⟩ : T_Ins), (⟨0, 0, 0, 0, 0, ByteArray.empty⟩ : T_Ins), (⟨0, 0, 0, 0, 0, ByteArray.empty⟩ : T_Ins), (⟨0, 0, 0, 0, 0, ByteArray.empty⟩ : T_Ins)⟩)) (cl' := (enc_Bundle z21)) (vs := (enc_Ins a0)) hS (by rcases A4.put_cases hz21 with ⟨hi, rfl⟩ | ⟨hi, rfl⟩ | ⟨hi, rfl⟩ | ⟨hi, rfl⟩ <;> rw [hi] <;> rfl) (by have q1 := (A4.put_lt hz21).1; have q2 := (A4.put_lt hz21).2; simp only [List.length_cons, List.length_nil]; omega) (Upd.here _) (by exact sz_api_Ins) (enc_one_Ins _) ?_
 clear hS; intro w hS
 refine hb_next (fun h => absurd h (by decide)) ?_
 refine hb_done (by kernel_rfl) ?_
 refine c_seq <| c_region ?_
 refine oy hS (y_loadW (fun w hS => hS.own (mH)) underlying37 rfl (by exact sz_api_Bundle)) ?_
 have hS := hS.re (.b (.thereb _ (.there _ .hb)) (.b .hb (.t .h (.b .hb .n))))
 refine o_storeW (vs := (enc_Bundle z21)) hS (by exact rfl) (Upd.here _) (by exact sz_api_Bundle) (enc_one_Bundle _) ?_
 clear hS; intro w hS
 refine n_thenN ?_
 obtain rfl := osi hF
 refine wp_ret (r_ret (vs := [.agg (enc_Bundle z21).toArray]) (hS.re (.nil _)) (rsC (res_cell (hS.own (mH)) underlying37 rfl (by exact sz_api_Bundle)) rsN) rfl ⟨rfl, rfl⟩)
theorem w_l6_at {g : Frag} {a0 : T_Ins} {r : (A4 T_Ins)}  (hF : l6_at a0 = some r) : LCs Try.prog 9 #[.agg (enc_Ins a0).toArray] g (.agg (enc_Bundle r).toArray) := w_l6_at_  hF

noncomputable def l6_wakes  : Option Bool :=
  (r5_New ([])).bind fun r4 => (set' r4.Mem 0 9).bind fun zs43 => (pipe_Run ([(⟨(⟨0, 0, 0, 0, 0, ByteArray.empty⟩ : T_Ins), (⟨0, 0, 0, 0, 0, ByteArray.empty⟩ : T_Ins), (⟨24, 1, 0, 0, 0, ByteArray.empty⟩ : T_Ins), (⟨0, 0, 0, 0, 0, ByteArray.empty⟩ : T_Ins)⟩ : (A4 T_Ins)), (⟨(⟨0, 0, 0, 0, 0, ByteArray.empty⟩ : T_Ins), (⟨0, 0, 0, 0, 0, ByteArray.empty⟩ : T_Ins), (⟨0, 0, 0, 0, 0, ByteArray.empty⟩ : T_Ins), (⟨0, 0, 0, 0, 0, ByteArray.empty⟩ : T_Ins)⟩ : (A4 T_Ins)), (⟨(⟨0, 0, 0, 0, 0, ByteArray.empty⟩ : T_Ins), (⟨0, 0, 0, 0, 0, ByteArray.empty⟩ : T_Ins), (⟨0, 0, 0, 0, 0, ByteArray.empty⟩ : T_Ins), (⟨0, 0, 0, 0, 0, ByteArray.empty⟩ : T_Ins)⟩ : (A4 T_Ins)), (⟨(⟨33, 0, 0, 0, 0, ByteArray.empty⟩ : T_Ins), (⟨0, 0, 0, 0, 0, ByteArray.empty⟩ : T_Ins), (⟨0, 0, 0, 0, 0, ByteArray.empty⟩ : T_Ins), (⟨0, 0, 0, 0, 0, ByteArray.empty⟩ : T_Ins)⟩ : (A4 T_Ins))] : List (A4 T_Ins)) (⟨r4.Regs, zs43, r4.In_, r4.Taken, r4.Out, r4.PC, r4.Stack, r4.Stop, r4.Fly, r4.Jump, r4.Delay⟩ : T_State) 3).bind fun r47 => (pipe_Run ([(⟨(⟨0, 0, 0, 0, 0, ByteArray.empty⟩ : T_Ins), (⟨0, 0, 0, 0, 0, ByteArray.empty⟩ : T_Ins), (⟨24, 1, 0, 0, 0, ByteArray.empty⟩ : T_Ins), (⟨0, 0, 0, 0, 0, ByteArray.empty⟩ : T_Ins)⟩ : (A4 T_Ins)), (⟨(⟨0, 0, 0, 0, 0, ByteArray.empty⟩ : T_Ins), (⟨0, 0, 0, 0, 0, ByteArray.empty⟩ : T_Ins), (⟨0, 0, 0, 0, 0, ByteArray.empty⟩ : T_Ins), (⟨0, 0, 0, 0, 0, ByteArray.empty⟩ : T_Ins)⟩ : (A4 T_Ins)), (⟨(⟨0, 0, 0, 0, 0, ByteArray.empty⟩ : T_Ins), (⟨0, 0, 0, 0, 0, ByteArray.empty⟩ : T_Ins), (⟨0, 0, 0, 0, 0, ByteArray.empty⟩ : T_Ins), (⟨0, 0, 0, 0, 0, ByteArray.empty⟩ : T_Ins)⟩ : (A4 T_Ins)), (⟨(⟨33, 0, 0, 0, 0, ByteArray.empty⟩ : T_Ins), (⟨0, 0, 0, 0, 0, ByteArray.empty⟩ : T_Ins), (⟨0, 0, 0, 0, 0, ByteArray.empty⟩ : T_Ins), (⟨0, 0, 0, 0, 0, ByteArray.empty⟩ : T_Ins)⟩ : (A4 T_Ins))] : List (A4 T_Ins)) (⟨r4.Regs, zs43, r4.In_, r4.Taken, r4.Out, r4.PC, r4.Stack, r4.Stop, r4.Fly, r4.Jump, r4.Delay⟩ : T_State) 9).bind fun r79 => bif decide ((l6_num r47.2.2) = 0) then bif decide ((l6_num r79.2.2) = 0) then bif decide (r47.2.1 = 3) then bif decide ((r47.1.Regs.length : Int) = 16) then (at' r47.1.Regs 1).bind fun x115 => bif decide (x115 = 0) then bif decide (r79.2.1 = 4) then bif decide ((r79.1.Regs.length : Int) = 16) then (at' r79.1.Regs 1).bind fun x127 => bif decide (x127 = 9) then some (decide (r79.1.Stop = 1)) else some (false) else some (false) else some (false) else some (false) else some (false) else some (false) else some (false) else some (false)
theorem w_l6_wakes_ {g : Frag}  {r : Bool}  (hF : l6_wakes = some r) : LCs Try.prog 15 #[] g (.bool r) := by
 unfold l6_wakes at hF
 refine lc_body (k := 83) (av := []) func15 rfl rfl (h := fun W hS => ?_)
 refine c_seq <| c_region <| oy hS y_assign <| n_thenN <| c_seq <| c_region ?_
 iterate 2 (refine oy hS (y_build (cl := (enc_Ins ⟨0, 0, 0, 0, 0, ByteArray.empty⟩)) bt_api_Ins rfl (by kernel_rfl)) ?_)
 refine oy hS (y_build (cl := (enc_Ins ⟨24, 1, 0, 0, 0, ByteArray.empty⟩)) bt_api_Ins rfl (by kernel_rfl)) ?_
 refine oy hS (y_buildA (cl := (enc_Bundle ⟨(⟨0, 0, 0, 0, 0, ByteArray.empty⟩ : T_Ins), (⟨0, 0, 0, 0, 0, ByteArray.empty⟩ : T_Ins), (⟨24, 1, 0, 0, 0, ByteArray.empty⟩ : T_Ins), (⟨0, 0, 0, 0, 0, ByteArray.empty⟩ : T_Ins)⟩)) bta_api_Bundle rfl (by kernel_rfl)) ?_
 iterate 2 (refine oy hS (y_buildA (cl := (enc_Bundle ⟨(⟨0, 0, 0, 0, 0, ByteArray.empty⟩ : T_Ins), (⟨0, 0, 0, 0, 0, ByteArray.empty⟩ : T_Ins), (⟨0, 0, 0, 0, 0, ByteArray.empty⟩ : T_Ins), (⟨0, 0, 0, 0, 0, ByteArray.empty⟩ : T_Ins)⟩)) bta_api_Bundle rfl (by kernel_rfl)) ?_)
 refine oy hS (y_build (cl := (enc_Ins ⟨33, 0, 0, 0, 0, ByteArray.empty⟩)) bt_api_Ins rfl (by kernel_rfl)) ?_
 refine oy hS (y_buildA (cl := (enc_Bundle ⟨(⟨33, 0, 0, 0, 0, ByteArray.empty⟩ : T_Ins), (⟨0, 0, 0, 0, 0, ByteArray.empty⟩ : T_Ins), (⟨0, 0, 0, 0, 0, ByteArray.empty⟩ : T_Ins), (⟨0, 0, 0, 0, 0, ByteArray.empty⟩ : T_Ins)⟩)) bta_api_Bundle rfl (by kernel_rfl)) ?_
 refine o_buildT val_Bundle ([(⟨(⟨0, 0, 0, 0, 0, ByteArray.empty⟩ : T_Ins), (⟨0, 0, 0, 0, 0, ByteArray.empty⟩ : T_Ins), (⟨24, 1, 0, 0, 0, ByteArray.empty⟩ : T_Ins), (⟨0, 0, 0, 0, 0, ByteArray.empty⟩ : T_Ins)⟩ : (A4 T_Ins)), (⟨(⟨0, 0, 0, 0, 0, ByteArray.empty⟩ : T_Ins), (⟨0, 0, 0, 0, 0, ByteArray.empty⟩ : T_Ins), (⟨0, 0, 0, 0, 0, ByteArray.empty⟩ : T_Ins), (⟨0, 0, 0, 0, 0, ByteArray.empty⟩ : T_Ins)⟩ : (A4 T_Ins)), (⟨(⟨0, 0, 0, 0, 0, ByteArray.empty⟩ : T_Ins), (⟨0, 0, 0, 0, 0, ByteArray.empty⟩ : T_Ins), (⟨0, 0, 0, 0, 0, ByteArray.empty⟩ : T_Ins), (⟨0, 0, 0, 0, 0, ByteArray.empty⟩ : T_Ins)⟩ : (A4 T_Ins)), (⟨(⟨33, 0, 0, 0, 0, ByteArray.empty⟩ : T_Ins), (⟨0, 0, 0, 0, 0, ByteArray.empty⟩ : T_Ins), (⟨0, 0, 0, 0, 0, ByteArray.empty⟩ : T_Ins), (⟨0, 0, 0, 0, 0, ByteArray.empty⟩ : T_Ins)⟩ : (A4 T_Ins))] : List (A4 T_Ins)) hS el_api_Bundle (fun _ => rfl) enc_len_Bundle (by decide) rfl (by decide) (hp := rfl) (h := ?_)
 clear hS; intro b1 w hS h2
 have hS : St W g [] ([(b1, blk (([(⟨(⟨0, 0, 0, 0, 0, ByteArray.empty⟩ : T_Ins), (⟨0, 0, 0, 0, 0, ByteArray.empty⟩ : T_Ins), (⟨24, 1, 0, 0, 0, ByteArray.empty⟩ : T_Ins), (⟨0, 0, 0, 0, 0, ByteArray.empty⟩ : T_Ins)⟩ : (A4 T_Ins)), (⟨(⟨0, 0, 0, 0, 0, ByteArray.empty⟩ : T_Ins), (⟨0, 0, 0, 0, 0, ByteArray.empty⟩ : T_Ins), (⟨0, 0, 0, 0, 0, ByteArray.empty⟩ : T_Ins), (⟨0, 0, 0, 0, 0, ByteArray.empty⟩ : T_Ins)⟩ : (A4 T_Ins)), (⟨(⟨0, 0, 0, 0, 0, ByteArray.empty⟩ : T_Ins), (⟨0, 0, 0, 0, 0, ByteArray.empty⟩ : T_Ins), (⟨0, 0, 0, 0, 0, ByteArray.empty⟩ : T_Ins), (⟨0, 0, 0, 0, 0, ByteArray.empty⟩ : T_Ins)⟩ : (A4 T_Ins)), (⟨(⟨33, 0, 0, 0, 0, ByteArray.empty⟩ : T_Ins), (⟨0, 0, 0, 0, 0, ByteArray.empty⟩ : T_Ins), (⟨0, 0, 0, 0, 0, ByteArray.empty⟩ : T_Ins), (⟨0, 0, 0, 0, 0, ByteArray.empty⟩ : T_Ins)⟩ : (A4 T_Ins))] : List (A4 T_Ins)).flatMap enc_Bundle) 37)] ++ []) w := hS
 refine oy hS y_assign <| n_thenN <| c_seq <| c_region ?_
 obtain ⟨r4, hr4, hF⟩ := ob hF
 refine o_call0 hS func8 rfl rfl (hc := (w_r5_New (a0 := ([])) (h0 := (SlR.nil _ _)) (hF := hr4))) (h := ?_)
 clear hS; intro v5 LY6 w hS hr7
 obtain ⟨v_0_8, LX_0_9, rfl, rfl, h_0_10⟩ := hr7
 obtain ⟨vR0_0_11, vR0_1_15, vR0_2_19, vR0_4_23, vR0_6_27, vR0_8_31, LXR0_0_12, LXR0_1_16, LXR0_2_20, LXR0_4_24, LXR0_6_28, LXR0_8_32, rfl, rfl, hR0_0_13, hR0_1_17, hR0_2_21, hR0_4_25, hR0_6_29, hR0_8_33⟩ := h_0_10
 simp only [aa, ac, al] at hS
 have hS : St W g [] (LXR0_0_12 ++ (LXR0_1_16 ++ (LXR0_2_20 ++ (LXR0_4_24 ++ (LXR0_6_28 ++ (LXR0_8_32 ++ ([(b1, blk (([(⟨(⟨0, 0, 0, 0, 0, ByteArray.empty⟩ : T_Ins), (⟨0, 0, 0, 0, 0, ByteArray.empty⟩ : T_Ins), (⟨24, 1, 0, 0, 0, ByteArray.empty⟩ : T_Ins), (⟨0, 0, 0, 0, 0, ByteArray.empty⟩ : T_Ins)⟩ : (A4 T_Ins)), (⟨(⟨0, 0, 0, 0, 0, ByteArray.empty⟩ : T_Ins), (⟨0, 0, 0, 0, 0, ByteArray.empty⟩ : T_Ins), (⟨0, 0, 0, 0, 0, ByteArray.empty⟩ : T_Ins), (⟨0, 0, 0, 0, 0, ByteArray.empty⟩ : T_Ins)⟩ : (A4 T_Ins)), (⟨(⟨0, 0, 0, 0, 0, ByteArray.empty⟩ : T_Ins), (⟨0, 0, 0, 0, 0, ByteArray.empty⟩ : T_Ins), (⟨0, 0, 0, 0, 0, ByteArray.empty⟩ : T_Ins), (⟨0, 0, 0, 0, 0, ByteArray.empty⟩ : T_Ins)⟩ : (A4 T_Ins)), (⟨(⟨33, 0, 0, 0, 0, ByteArray.empty⟩ : T_Ins), (⟨0, 0, 0, 0, 0, ByteArray.empty⟩ : T_Ins), (⟨0, 0, 0, 0, 0, ByteArray.empty⟩ : T_Ins), (⟨0, 0, 0, 0, 0, ByteArray.empty⟩ : T_Ins)⟩ : (A4 T_Ins))] : List (A4 T_Ins)).flatMap enc_Bundle) 37)] ++ []))))))) w := hS
 refine o_allocP (cl := (cl_State (.slice none 0 0) (.slice none 0 0) (.slice none 0 0) 0 (.slice none 0 0) 0 (.slice none 0 0) 0 (.slice none 0 0) 0 0)) zr_api_State rfl hS ?_
 clear hS; intro b35 w hS
 refine o_storeW (vs := (cl_State vR0_0_11 vR0_1_15 vR0_2_19 r4.Taken vR0_4_23 r4.PC vR0_6_27 r4.Stop vR0_8_31 r4.Jump r4.Delay)) hS (by exact rfl) (Upd.here _) (by exact sz_api_State) (one_State (hR0_0_13).one (hR0_1_17).one (hR0_2_21).one (hR0_4_25).one (hR0_6_29).one (hR0_8_33).one) ?_
 clear hS; intro w hS
 refine n_thenN <| c_seq <| c_region <| oy hS (y_field fa_api_State_1) <| oy hS (y_load (fun w hS => hS.own (mH)) underlying23 rfl rfl) ?_
 obtain ⟨zs43, hzs43, hF⟩ := ob hF
 obtain ⟨b36, c37, cl38, hv39, ha40, hb41, hl42⟩ := OwT.at_set hzs43 hR0_1_17 enc_len_uint32
 refine oy hS (y_index hv39 ha40 hb41 underlying23 el_uint32.size) ?_
 refine o_storeO (L' := fun X => ((b35, blk (cl_State vR0_0_11 vR0_1_15 vR0_2_19 r4.Taken vR0_4_23 r4.PC vR0_6_27 r4.Stop vR0_8_31 r4.Jump r4.Delay) 27) :: (LXR0_0_12 ++ (X ++ (LXR0_2_20 ++ (LXR0_4_24 ++ (LXR0_6_28 ++ (LXR0_8_32 ++ ([(b1, blk (([(⟨(⟨0, 0, 0, 0, 0, ByteArray.empty⟩ : T_Ins), (⟨0, 0, 0, 0, 0, ByteArray.empty⟩ : T_Ins), (⟨24, 1, 0, 0, 0, ByteArray.empty⟩ : T_Ins), (⟨0, 0, 0, 0, 0, ByteArray.empty⟩ : T_Ins)⟩ : (A4 T_Ins)), (⟨(⟨0, 0, 0, 0, 0, ByteArray.empty⟩ : T_Ins), (⟨0, 0, 0, 0, 0, ByteArray.empty⟩ : T_Ins), (⟨0, 0, 0, 0, 0, ByteArray.empty⟩ : T_Ins), (⟨0, 0, 0, 0, 0, ByteArray.empty⟩ : T_Ins)⟩ : (A4 T_Ins)), (⟨(⟨0, 0, 0, 0, 0, ByteArray.empty⟩ : T_Ins), (⟨0, 0, 0, 0, 0, ByteArray.empty⟩ : T_Ins), (⟨0, 0, 0, 0, 0, ByteArray.empty⟩ : T_Ins), (⟨0, 0, 0, 0, 0, ByteArray.empty⟩ : T_Ins)⟩ : (A4 T_Ins)), (⟨(⟨33, 0, 0, 0, 0, ByteArray.empty⟩ : T_Ins), (⟨0, 0, 0, 0, 0, ByteArray.empty⟩ : T_Ins), (⟨0, 0, 0, 0, 0, ByteArray.empty⟩ : T_Ins), (⟨0, 0, 0, 0, 0, ByteArray.empty⟩ : T_Ins)⟩ : (A4 T_Ins))] : List (A4 T_Ins)).flatMap enc_Bundle) 37)] ++ []))))))))) hzs43 hS hR0_1_17 hl42 (fun X => .thereb _ (.there _ (.here _))) enc_len_uint32 rfl (by exact sz_uint32) rfl rfl ?_
 clear hS; intro LX44 w h45 hS
 refine n_thenN <| c_seq <| c_region <| oy hS y_move ?_
 refine oy hS (y_loadW (fun w hS => hS.own (mH)) underlying27 rfl (by exact sz_api_State)) ?_
 obtain ⟨r47, hr47, hF⟩ := ob hF
 refine o_call0 hS func10 rfl rfl (hc := (w_pipe_Run (a0 := ([(⟨(⟨0, 0, 0, 0, 0, ByteArray.empty⟩ : T_Ins), (⟨0, 0, 0, 0, 0, ByteArray.empty⟩ : T_Ins), (⟨24, 1, 0, 0, 0, ByteArray.empty⟩ : T_Ins), (⟨0, 0, 0, 0, 0, ByteArray.empty⟩ : T_Ins)⟩ : (A4 T_Ins)), (⟨(⟨0, 0, 0, 0, 0, ByteArray.empty⟩ : T_Ins), (⟨0, 0, 0, 0, 0, ByteArray.empty⟩ : T_Ins), (⟨0, 0, 0, 0, 0, ByteArray.empty⟩ : T_Ins), (⟨0, 0, 0, 0, 0, ByteArray.empty⟩ : T_Ins)⟩ : (A4 T_Ins)), (⟨(⟨0, 0, 0, 0, 0, ByteArray.empty⟩ : T_Ins), (⟨0, 0, 0, 0, 0, ByteArray.empty⟩ : T_Ins), (⟨0, 0, 0, 0, 0, ByteArray.empty⟩ : T_Ins), (⟨0, 0, 0, 0, 0, ByteArray.empty⟩ : T_Ins)⟩ : (A4 T_Ins)), (⟨(⟨33, 0, 0, 0, 0, ByteArray.empty⟩ : T_Ins), (⟨0, 0, 0, 0, 0, ByteArray.empty⟩ : T_Ins), (⟨0, 0, 0, 0, 0, ByteArray.empty⟩ : T_Ins), (⟨0, 0, 0, 0, 0, ByteArray.empty⟩ : T_Ins)⟩ : (A4 T_Ins))] : List (A4 T_Ins))) (a1 := (⟨r4.Regs, zs43, r4.In_, r4.Taken, r4.Out, r4.PC, r4.Stack, r4.Stop, r4.Fly, r4.Jump, r4.Delay⟩ : T_State)) (a2 := 3) (h0 := (OwT.plus h2 hS (fun p hp => mC (mB (mB (mB (mB (mB (mB (mA (hp))))))))))) (h1 := ⟨_, _, _, _, _, _, rfl, (OwT.plus hR0_0_13 hS (fun p hp => mC (mA (hp)))), (OwT.plus h45 hS (fun p hp => mC (mB (mA (hp))))), (OwT.plus hR0_2_21 hS (fun p hp => mC (mB (mB (mA (hp)))))), (OwT.plus hR0_4_25 hS (fun p hp => mC (mB (mB (mB (mA (hp))))))), (OwT.plus hR0_6_29 hS (fun p hp => mC (mB (mB (mB (mB (mA (hp)))))))), (OwT.plus hR0_8_33 hS (fun p hp => mC (mB (mB (mB (mB (mB (mA (hp)))))))))⟩) (hF := hr47))) (h := ?_)
 clear hS; intro v48 LY49 w hS hr50
 obtain ⟨v_0_51, LX_0_52, rfl, rfl, h_0_53⟩ := hr50
 obtain ⟨vR0_0_54, vR0_1_58, vR0_2_62, vR0_4_66, vR0_6_70, vR0_8_74, LXR0_0_55, LXR0_1_59, LXR0_2_63, LXR0_4_67, LXR0_6_71, LXR0_8_75, rfl, rfl, hR0_0_56, hR0_1_60, hR0_2_64, hR0_4_68, hR0_6_72, hR0_8_76⟩ := h_0_53
 simp only [aa, ac, al] at hS
 have hS : St W g [] (LXR0_0_55 ++ (LXR0_1_59 ++ (LXR0_2_63 ++ (LXR0_4_67 ++ (LXR0_6_71 ++ (LXR0_8_75 ++ ((b35, blk (cl_State vR0_0_11 vR0_1_15 vR0_2_19 r4.Taken vR0_4_23 r4.PC vR0_6_27 r4.Stop vR0_8_31 r4.Jump r4.Delay) 27) :: (LXR0_0_12 ++ (LX44 ++ (LXR0_2_20 ++ (LXR0_4_24 ++ (LXR0_6_28 ++ (LXR0_8_32 ++ ([(b1, blk (([(⟨(⟨0, 0, 0, 0, 0, ByteArray.empty⟩ : T_Ins), (⟨0, 0, 0, 0, 0, ByteArray.empty⟩ : T_Ins), (⟨24, 1, 0, 0, 0, ByteArray.empty⟩ : T_Ins), (⟨0, 0, 0, 0, 0, ByteArray.empty⟩ : T_Ins)⟩ : (A4 T_Ins)), (⟨(⟨0, 0, 0, 0, 0, ByteArray.empty⟩ : T_Ins), (⟨0, 0, 0, 0, 0, ByteArray.empty⟩ : T_Ins), (⟨0, 0, 0, 0, 0, ByteArray.empty⟩ : T_Ins), (⟨0, 0, 0, 0, 0, ByteArray.empty⟩ : T_Ins)⟩ : (A4 T_Ins)), (⟨(⟨0, 0, 0, 0, 0, ByteArray.empty⟩ : T_Ins), (⟨0, 0, 0, 0, 0, ByteArray.empty⟩ : T_Ins), (⟨0, 0, 0, 0, 0, ByteArray.empty⟩ : T_Ins), (⟨0, 0, 0, 0, 0, ByteArray.empty⟩ : T_Ins)⟩ : (A4 T_Ins)), (⟨(⟨33, 0, 0, 0, 0, ByteArray.empty⟩ : T_Ins), (⟨0, 0, 0, 0, 0, ByteArray.empty⟩ : T_Ins), (⟨0, 0, 0, 0, 0, ByteArray.empty⟩ : T_Ins), (⟨0, 0, 0, 0, 0, ByteArray.empty⟩ : T_Ins)⟩ : (A4 T_Ins))] : List (A4 T_Ins)).flatMap enc_Bundle) 37)] ++ [])))))))))))))) w := hS
 refine oy hS y_move ?_
 iterate 3 (refine oy hS (y_extract rfl) ?_)
 refine o_allocP (cl := (cl_State (.slice none 0 0) (.slice none 0 0) (.slice none 0 0) 0 (.slice none 0 0) 0 (.slice none 0 0) 0 (.slice none 0 0) 0 0)) zr_api_State rfl hS ?_
 clear hS; intro b78 w hS
 refine o_storeW (vs := (cl_State vR0_0_54 vR0_1_58 vR0_2_62 r47.1.Taken vR0_4_66 r47.1.PC vR0_6_70 r47.1.Stop vR0_8_74 r47.1.Jump r47.1.Delay)) hS (by exact rfl) (Upd.here _) (by exact sz_api_State) (one_State (hR0_0_56).one (hR0_1_60).one (hR0_2_64).one (hR0_4_68).one (hR0_6_72).one (hR0_8_76).one) ?_
 clear hS; intro w hS
 iterate 2 (refine oy hS y_assign ?_)
 refine n_thenN <| c_seq <| c_region <| oy hS y_move ?_
 refine oy hS (y_loadW (fun w hS => hS.own (mC (mB (mB (mB (mB (mB (mB (mH))))))))) underlying27 rfl (by exact sz_api_State)) ?_
 obtain ⟨r79, hr79, hF⟩ := ob hF
 refine o_call0 hS func10 rfl rfl (hc := (w_pipe_Run (a0 := ([(⟨(⟨0, 0, 0, 0, 0, ByteArray.empty⟩ : T_Ins), (⟨0, 0, 0, 0, 0, ByteArray.empty⟩ : T_Ins), (⟨24, 1, 0, 0, 0, ByteArray.empty⟩ : T_Ins), (⟨0, 0, 0, 0, 0, ByteArray.empty⟩ : T_Ins)⟩ : (A4 T_Ins)), (⟨(⟨0, 0, 0, 0, 0, ByteArray.empty⟩ : T_Ins), (⟨0, 0, 0, 0, 0, ByteArray.empty⟩ : T_Ins), (⟨0, 0, 0, 0, 0, ByteArray.empty⟩ : T_Ins), (⟨0, 0, 0, 0, 0, ByteArray.empty⟩ : T_Ins)⟩ : (A4 T_Ins)), (⟨(⟨0, 0, 0, 0, 0, ByteArray.empty⟩ : T_Ins), (⟨0, 0, 0, 0, 0, ByteArray.empty⟩ : T_Ins), (⟨0, 0, 0, 0, 0, ByteArray.empty⟩ : T_Ins), (⟨0, 0, 0, 0, 0, ByteArray.empty⟩ : T_Ins)⟩ : (A4 T_Ins)), (⟨(⟨33, 0, 0, 0, 0, ByteArray.empty⟩ : T_Ins), (⟨0, 0, 0, 0, 0, ByteArray.empty⟩ : T_Ins), (⟨0, 0, 0, 0, 0, ByteArray.empty⟩ : T_Ins), (⟨0, 0, 0, 0, 0, ByteArray.empty⟩ : T_Ins)⟩ : (A4 T_Ins))] : List (A4 T_Ins))) (a1 := (⟨r4.Regs, zs43, r4.In_, r4.Taken, r4.Out, r4.PC, r4.Stack, r4.Stop, r4.Fly, r4.Jump, r4.Delay⟩ : T_State)) (a2 := 9) (h0 := (OwT.plus h2 hS (fun p hp => mC (mB (mB (mB (mB (mB (mB (mC (mB (mB (mB (mB (mB (mB (mA (hp)))))))))))))))))) (h1 := ⟨_, _, _, _, _, _, rfl, (OwT.plus hR0_0_13 hS (fun p hp => mC (mB (mB (mB (mB (mB (mB (mC (mA (hp))))))))))), (OwT.plus h45 hS (fun p hp => mC (mB (mB (mB (mB (mB (mB (mC (mB (mA (hp)))))))))))), (OwT.plus hR0_2_21 hS (fun p hp => mC (mB (mB (mB (mB (mB (mB (mC (mB (mB (mA (hp))))))))))))), (OwT.plus hR0_4_25 hS (fun p hp => mC (mB (mB (mB (mB (mB (mB (mC (mB (mB (mB (mA (hp)))))))))))))), (OwT.plus hR0_6_29 hS (fun p hp => mC (mB (mB (mB (mB (mB (mB (mC (mB (mB (mB (mB (mA (hp))))))))))))))), (OwT.plus hR0_8_33 hS (fun p hp => mC (mB (mB (mB (mB (mB (mB (mC (mB (mB (mB (mB (mB (mA (hp))))))))))))))))⟩) (hF := hr79))) (h := ?_)
 clear hS; intro v80 LY81 w hS hr82
 obtain ⟨v_0_83, LX_0_84, rfl, rfl, h_0_85⟩ := hr82
 obtain ⟨vR0_0_86, vR0_1_90, vR0_2_94, vR0_4_98, vR0_6_102, vR0_8_106, LXR0_0_87, LXR0_1_91, LXR0_2_95, LXR0_4_99, LXR0_6_103, LXR0_8_107, rfl, rfl, hR0_0_88, hR0_1_92, hR0_2_96, hR0_4_100, hR0_6_104, hR0_8_108⟩ := h_0_85
 simp only [aa, ac, al] at hS
 have hS : St W g [] (LXR0_0_87 ++ (LXR0_1_91 ++ (LXR0_2_95 ++ (LXR0_4_99 ++ (LXR0_6_103 ++ (LXR0_8_107 ++ ((b78, blk (cl_State vR0_0_54 vR0_1_58 vR0_2_62 r47.1.Taken vR0_4_66 r47.1.PC vR0_6_70 r47.1.Stop vR0_8_74 r47.1.Jump r47.1.Delay) 27) :: (LXR0_0_55 ++ (LXR0_1_59 ++ (LXR0_2_63 ++ (LXR0_4_67 ++ (LXR0_6_71 ++ (LXR0_8_75 ++ ((b35, blk (cl_State vR0_0_11 vR0_1_15 vR0_2_19 r4.Taken vR0_4_23 r4.PC vR0_6_27 r4.Stop vR0_8_31 r4.Jump r4.Delay) 27) :: (LXR0_0_12 ++ (LX44 ++ (LXR0_2_20 ++ (LXR0_4_24 ++ (LXR0_6_28 ++ (LXR0_8_32 ++ ([(b1, blk (([(⟨(⟨0, 0, 0, 0, 0, ByteArray.empty⟩ : T_Ins), (⟨0, 0, 0, 0, 0, ByteArray.empty⟩ : T_Ins), (⟨24, 1, 0, 0, 0, ByteArray.empty⟩ : T_Ins), (⟨0, 0, 0, 0, 0, ByteArray.empty⟩ : T_Ins)⟩ : (A4 T_Ins)), (⟨(⟨0, 0, 0, 0, 0, ByteArray.empty⟩ : T_Ins), (⟨0, 0, 0, 0, 0, ByteArray.empty⟩ : T_Ins), (⟨0, 0, 0, 0, 0, ByteArray.empty⟩ : T_Ins), (⟨0, 0, 0, 0, 0, ByteArray.empty⟩ : T_Ins)⟩ : (A4 T_Ins)), (⟨(⟨0, 0, 0, 0, 0, ByteArray.empty⟩ : T_Ins), (⟨0, 0, 0, 0, 0, ByteArray.empty⟩ : T_Ins), (⟨0, 0, 0, 0, 0, ByteArray.empty⟩ : T_Ins), (⟨0, 0, 0, 0, 0, ByteArray.empty⟩ : T_Ins)⟩ : (A4 T_Ins)), (⟨(⟨33, 0, 0, 0, 0, ByteArray.empty⟩ : T_Ins), (⟨0, 0, 0, 0, 0, ByteArray.empty⟩ : T_Ins), (⟨0, 0, 0, 0, 0, ByteArray.empty⟩ : T_Ins), (⟨0, 0, 0, 0, 0, ByteArray.empty⟩ : T_Ins)⟩ : (A4 T_Ins))] : List (A4 T_Ins)).flatMap enc_Bundle) 37)] ++ []))))))))))))))))))))) w := hS
 refine oy hS y_move ?_
 iterate 3 (refine oy hS (y_extract rfl) ?_)
 refine o_allocP (cl := (cl_State (.slice none 0 0) (.slice none 0 0) (.slice none 0 0) 0 (.slice none 0 0) 0 (.slice none 0 0) 0 (.slice none 0 0) 0 0)) zr_api_State rfl hS ?_
 clear hS; intro b110 w hS
 refine o_storeW (vs := (cl_State vR0_0_86 vR0_1_90 vR0_2_94 r79.1.Taken vR0_4_98 r79.1.PC vR0_6_102 r79.1.Stop vR0_8_106 r79.1.Jump r79.1.Delay)) hS (by exact rfl) (Upd.here _) (by exact sz_api_State) (one_State (hR0_0_88).one (hR0_1_92).one (hR0_2_96).one (hR0_4_100).one (hR0_6_104).one (hR0_8_108).one) ?_
 clear hS; intro w hS
 iterate 2 (refine oy hS y_assign ?_)
 refine n_thenN <| c_seq <| c_region <| oy hS y_move ?_
 refine o_callS hS func12 rfl rfl (hc := (w_l6_num (a0 := r47.2.2))) (h := ?_)
 clear hS; intro w hS
 refine oy hS y_bin ?_
 refine o_split (ht := fun c111 => ?_) (hf := fun c111 => ?_)
 · replace hF := bt c111 hF
   refine o_gu rfl rfl rfl <| oy hS y_move <| o_gu rfl rfl rfl ?_
   refine o_callS hS func12 rfl rfl (hc := (w_l6_num (a0 := r79.2.2))) (h := ?_)
   clear hS; intro w hS
   refine o_gu rfl rfl rfl <| oy hS y_bin <| oy hS y_pickT ?_
   refine o_split (ht := fun c112 => ?_) (hf := fun c112 => ?_)
   · replace hF := bt c112 hF
     refine o_gu rfl rfl rfl <| oy hS y_move <| o_gu rfl rfl rfl <| oy hS y_bin <| oy hS y_pickT ?_
     refine o_split (ht := fun c113 => ?_) (hf := fun c113 => ?_)
     · replace hF := bt c113 hF
       refine o_gu rfl rfl rfl <| oy hS (y_field fa_api_State_0) <| o_gu rfl rfl rfl <| oy hS (y_load (fun w hS => hS.own (mC (mB (mB (mB (mB (mB (mB (mH))))))))) underlying23 rfl rfl) <| o_gu rfl rfl rfl <| oy hS (y_lenO hR0_0_56 underlying23) <| o_gu rfl rfl rfl <| oy hS y_bin ?_
       refine oy hS y_pickT ?_
       refine o_split (ht := fun c114 => ?_) (hf := fun c114 => ?_)
       · replace hF := bt c114 hF
         refine o_gu rfl rfl rfl <| oy hS (y_field fa_api_State_0) <| o_gu rfl rfl rfl <| oy hS (y_load (fun w hS => hS.own (mC (mB (mB (mB (mB (mB (mB (mH))))))))) underlying23 rfl rfl) <| o_gu rfl rfl rfl ?_
         obtain ⟨x115, hx115, hF⟩ := ob hF
         obtain ⟨b116, c117, cl118, hv119, ha120, hb121, hl122, hc123⟩ := OwT.at hx115 hR0_0_56 enc_len_uint32
         refine oy hS (y_index hv119 ha120 hb121 underlying23 el_uint32.size) <| o_gu rfl rfl rfl <| oy hS (y_load (fun w hS => hS.own (mC (mB (mB (mB (mB (mB (mB (mC (mA (mX hl122))))))))))) underlying35 rfl (hc123 0 _ rfl)) <| o_gu rfl rfl rfl <| oy hS y_bin <| oy hS y_pickT ?_
         refine o_split (ht := fun c124 => ?_) (hf := fun c124 => ?_)
         · replace hF := bt c124 hF
           refine o_gu rfl rfl rfl <| oy hS y_move <| o_gu rfl rfl rfl <| oy hS y_bin <| oy hS y_pickT ?_
           refine o_split (ht := fun c125 => ?_) (hf := fun c125 => ?_)
           · replace hF := bt c125 hF
             refine o_gu rfl rfl rfl <| oy hS (y_field fa_api_State_0) <| o_gu rfl rfl rfl <| oy hS (y_load (fun w hS => hS.own (mH)) underlying23 rfl rfl) <| o_gu rfl rfl rfl <| oy hS (y_lenO hR0_0_88 underlying23) <| o_gu rfl rfl rfl <| oy hS y_bin ?_
             refine oy hS y_pickT ?_
             refine o_split (ht := fun c126 => ?_) (hf := fun c126 => ?_)
             · replace hF := bt c126 hF
               refine o_gu rfl rfl rfl <| oy hS (y_field fa_api_State_0) <| o_gu rfl rfl rfl <| oy hS (y_load (fun w hS => hS.own (mH)) underlying23 rfl rfl) <| o_gu rfl rfl rfl ?_
               obtain ⟨x127, hx127, hF⟩ := ob hF
               obtain ⟨b128, c129, cl130, hv131, ha132, hb133, hl134, hc135⟩ := OwT.at hx127 hR0_0_88 enc_len_uint32
               refine oy hS (y_index hv131 ha132 hb133 underlying23 el_uint32.size) <| o_gu rfl rfl rfl <| oy hS (y_load (fun w hS => hS.own (mC (mA (mX hl134)))) underlying35 rfl (hc135 0 _ rfl)) <| o_gu rfl rfl rfl <| oy hS y_bin <| oy hS y_pickT ?_
               refine o_split (ht := fun c136 => ?_) (hf := fun c136 => ?_)
               · replace hF := bt c136 hF
                 refine o_gu rfl rfl rfl <| oy hS (y_field fa_api_State_7) <| o_gu rfl rfl rfl <| oy hS (y_load (fun w hS => hS.own (mH)) underlying3 rfl rfl) <| o_gu rfl rfl rfl <| oy hS y_bin <| oy hS y_pickT <| oy hS y_assign ?_
                 refine n_thenN ?_
                 obtain rfl := osi hF
                 exact wp_ret (wr1 hS)
               replace hF := bf c136 hF
               iterate 3 (refine o_sk rfl rfl ?_)
               refine oy hS y_pickF <| oy hS y_assign <| n_thenN ?_
               obtain rfl := osi hF
               exact wp_ret (wr1 hS)
             replace hF := bf c126 hF
             iterate 5 (refine o_sk rfl rfl ?_)
             refine oy hS y_pickF <| oy hS y_move ?_
             iterate 3 (refine o_sk rfl rfl ?_)
             refine oy hS y_pickF <| oy hS y_assign <| n_thenN ?_
             obtain rfl := osi hF
             exact wp_ret (wr1 hS)
           replace hF := bf c125 hF
           iterate 4 (refine o_sk rfl rfl ?_)
           refine oy hS y_pickF <| oy hS y_move ?_
           iterate 5 (refine o_sk rfl rfl ?_)
           refine oy hS y_pickF <| oy hS y_move ?_
           iterate 3 (refine o_sk rfl rfl ?_)
           refine oy hS y_pickF <| oy hS y_assign <| n_thenN ?_
           obtain rfl := osi hF
           exact wp_ret (wr1 hS)
         replace hF := bf c124 hF
         iterate 2 (refine o_sk rfl rfl ?_)
         refine oy hS y_pickF <| oy hS y_move ?_
         iterate 4 (refine o_sk rfl rfl ?_)
         refine oy hS y_pickF <| oy hS y_move ?_
         iterate 5 (refine o_sk rfl rfl ?_)
         refine oy hS y_pickF <| oy hS y_move ?_
         iterate 3 (refine o_sk rfl rfl ?_)
         refine oy hS y_pickF <| oy hS y_assign <| n_thenN ?_
         obtain rfl := osi hF
         exact wp_ret (wr1 hS)
       replace hF := bf c114 hF
       iterate 5 (refine o_sk rfl rfl ?_)
       refine oy hS y_pickF <| oy hS y_move ?_
       iterate 2 (refine o_sk rfl rfl ?_)
       refine oy hS y_pickF <| oy hS y_move ?_
       iterate 4 (refine o_sk rfl rfl ?_)
       refine oy hS y_pickF <| oy hS y_move ?_
       iterate 5 (refine o_sk rfl rfl ?_)
       refine oy hS y_pickF <| oy hS y_move ?_
       iterate 3 (refine o_sk rfl rfl ?_)
       refine oy hS y_pickF <| oy hS y_assign <| n_thenN ?_
       obtain rfl := osi hF
       exact wp_ret (wr1 hS)
     replace hF := bf c113 hF
     iterate 4 (refine o_sk rfl rfl ?_)
     refine oy hS y_pickF <| oy hS y_move ?_
     iterate 5 (refine o_sk rfl rfl ?_)
     refine oy hS y_pickF <| oy hS y_move ?_
     iterate 2 (refine o_sk rfl rfl ?_)
     refine oy hS y_pickF <| oy hS y_move ?_
     iterate 4 (refine o_sk rfl rfl ?_)
     refine oy hS y_pickF <| oy hS y_move ?_
     iterate 5 (refine o_sk rfl rfl ?_)
     refine oy hS y_pickF <| oy hS y_move ?_
     iterate 3 (refine o_sk rfl rfl ?_)
     refine oy hS y_pickF <| oy hS y_assign <| n_thenN ?_
     obtain rfl := osi hF
     exact wp_ret (wr1 hS)
   replace hF := bf c112 hF
   iterate 2 (refine o_sk rfl rfl ?_)
   refine oy hS y_pickF <| oy hS y_move ?_
   iterate 4 (refine o_sk rfl rfl ?_)
   refine oy hS y_pickF <| oy hS y_move ?_
   iterate 5 (refine o_sk rfl rfl ?_)
   refine oy hS y_pickF <| oy hS y_move ?_
   iterate 2 (refine o_sk rfl rfl ?_)
   refine oy hS y_pickF <| oy hS y_move ?_
   iterate 4 (refine o_sk rfl rfl ?_)
   refine oy hS y_pickF <| oy hS y_move ?_
   iterate 5 (refine o_sk rfl rfl ?_)
   refine oy hS y_pickF <| oy hS y_move ?_
   iterate 3 (refine o_sk rfl rfl ?_)
   refine oy hS y_pickF <| oy hS y_assign <| n_thenN ?_
   obtain rfl := osi hF
   exact wp_ret (wr1 hS)
 replace hF := bf c111 hF
 iterate 3 (refine o_sk rfl rfl ?_)
 refine oy hS y_pickF <| oy hS y_move ?_
 iterate 2 (refine o_sk rfl rfl ?_)
 refine oy hS y_pickF <| oy hS y_move ?_
 iterate 4 (refine o_sk rfl rfl ?_)
 refine oy hS y_pickF <| oy hS y_move ?_
 iterate 5 (refine o_sk rfl rfl ?_)
 refine oy hS y_pickF <| oy hS y_move ?_
 iterate 2 (refine o_sk rfl rfl ?_)
 refine oy hS y_pickF <| oy hS y_move ?_
 iterate 4 (refine o_sk rfl rfl ?_)
 refine oy hS y_pickF <| oy hS y_move ?_
 iterate 5 (refine o_sk rfl rfl ?_)
 refine oy hS y_pickF <| oy hS y_move ?_
 iterate 3 (refine o_sk rfl rfl ?_)
 refine oy hS y_pickF <| oy hS y_assign <| n_thenN ?_
 obtain rfl := osi hF
 exact wp_ret (wr1 hS)
theorem w_l6_wakes {g : Frag}  {r : Bool}  (hF : l6_wakes = some r) : LCs Try.prog 15 #[] g (.bool r) := w_l6_wakes_  hF
end Go.Proofs.Ythbpicnbkdbbmaa
