/- Functions, lifted. Printed by lift.py. -/
import Derived.Test.YtadajdcbeegabaaProg
import Derived.Test.YtadajdcbeegabaaTy
import Derived.KernelRfl
namespace Go.Proofs.Ytadajdcbeegabaa
open Go Go.RowKit Fr
set_option linter.unusedVariables false
set_option linter.unusedSimpArgs false
set_option maxRecDepth 20000
noncomputable def l0_CodesWeight_b1 (a0 : (List T_Ins)) : (Int × Int) → Option (Step (Int × Int) Int) := fun (x16, x17) => bif decide (x17 < (a0.length : Int)) then bif decide (x16 < 1048576) then (at' a0 x17).bind fun x39 => (quo' .i64 (x39.Sym.size : Int) 8).bind fun x51 => some (.next (IntKind.i64.wrap (x16 + x51), IntKind.i64.wrap (x17 + 1))) else some (.done (x16)) else some (.done (x16))
noncomputable def l0_CodesWeight (a0 : (List T_Ins)) : Option Int :=
  loop (σ := (Int × Int)) (l0_CodesWeight_b1 a0) ((a0.length : Int), 0)
set_option maxHeartbeats 2000000 in
theorem w_l0_CodesWeight_ {g : Frag} {a0 : (List T_Ins)} {v0_ : Value} {r : Int} (h0 : SlT g enc_Ins 6 a0 v0_) (hF : l0_CodesWeight a0 = some r) : LCs Try.prog 33 #[v0_] g (.int .i64 r) := by
 unfold l0_CodesWeight at hF
 refine lc_body (k := 27) (av := [v0_]) Try.func33 rfl rfl (h := fun W hS => ?_)
 refine c_seq ?_
 refine c_region ?_
 refine oy hS y_assign ?_
 refine n_thenN ?_
 refine c_seq ?_
 refine c_region ?_
 refine oy hS y_move ?_
 refine oy hS (y_len h0 Try.underlying22) ?_
 refine oy hS y_assign ?_
 refine n_thenN ?_
 iterate 2 (refine c_seq ?_)
 refine c_region ?_
 refine oy hS y_assign ?_
 refine n_thenN ?_
 refine c_block ?_
 refine c_loopP hF (fun (q : (Int × Int)) a w' => (∃ s : Nat → Value, a = Ac (.lit 27 [v0_, s 1, s 2, .int .i64 q.1, .int .i64 q.2, s 5, s 6, s 7, s 8, s 9, s 10, s 11, s 12, s 13, s 14, s 15, s 16, s 17, s 18, s 19, s 20, s 21, s 22, s 23, s 24, s 25, s 26])) ∧ St W g [] [] w') ⟨mk_ex, (hS.re (.nil _))⟩ ?_
 clear hS hF
 intro n35 q a w hI hq
 obtain ⟨x16, x17⟩ := q
 obtain ⟨⟨s36, rfl⟩, hS⟩ := hq
 obtain ⟨z33, hF, hK34⟩ := iter_step hI
 clear hI
 dsimp only [l0_CodesWeight_b1] at hF
 iterate 2 (refine c_seq ?_)
 refine c_region ?_
 iterate 2 (refine oy hS y_move ?_)
 refine oy hS (y_len h0 Try.underlying22) ?_
 refine oy hS y_bin ?_
 refine o_split (ht := fun c37 => ?_) (hf := fun c37 => ?_)
 · replace hF := bt c37 hF
   refine o_gu rfl rfl rfl ?_
   refine oy hS y_move ?_
   refine o_gu rfl rfl rfl ?_
   refine oy hS y_bin ?_
   refine oy hS y_pickT ?_
   refine n_thenN ?_
   refine c_if (ht := fun c38 => ?_) (hf := fun c38 => ?_)
   · replace hF := bt c38 hF
     refine wp_skip ?_
     refine c_seq ?_
     refine c_block ?_
     refine c_region ?_
     iterate 3 (refine oy hS y_move ?_)
     obtain ⟨x39, hx39, hF⟩ := ob hF
     obtain ⟨b40, o41, c42, cs43, e44, fz45, hv46, ha47, hb48, hd49, hc50⟩ := SlT.at hx39 h0 enc_len_Ins
     refine oy hS (y_index hv46 ha47 hb48 Try.underlying22 el_api_Ins.size) ?_
     refine oy hS (y_field fa_api_Ins_5) ?_
     refine oy hS (y_load (fun w hS => hS.block hd49) Try.underlying9 rfl (hc50 5 _ rfl)) ?_
     refine oy hS (y_lens Try.underlying9) ?_
     obtain ⟨x51, hx51, hF⟩ := ob hF
     refine oy hS (y_quo hx51) ?_
     refine oy hS y_bin ?_
     refine oy hS y_assign ?_
     refine n_anyN ?_
     refine c_region ?_
     refine oy hS y_move ?_
     refine oy hS y_bin ?_
     refine oy hS y_assign ?_
     refine n_thenN ?_
     obtain rfl := Option.some.inj hF
     exact ⟨_, hK34, mk_ex, (hS.re (.nil _))⟩
   replace hF := bf c38 hF
   refine wp_exit ?_
   refine c_seq ?_
   refine c_region ?_
   refine oy hS y_move ?_
   refine oy hS y_assign ?_
   refine n_thenN ?_
   obtain rfl := Option.some.inj hF
   obtain rfl : _ = r := hK34
   exact wp_ret (wr1 hS)
 replace hF := bf c37 hF
 iterate 2 (refine o_sk rfl rfl ?_)
 refine oy hS y_pickF ?_
 refine n_thenN ?_
 refine c_if_false (h := ?_)
 refine wp_exit ?_
 refine c_seq ?_
 refine c_region ?_
 refine oy hS y_move ?_
 refine oy hS y_assign ?_
 refine n_thenN ?_
 obtain rfl := Option.some.inj hF
 obtain rfl : _ = r := hK34
 exact wp_ret (wr1 hS)
theorem w_l0_CodesWeight {g : Frag} {a0 : (List T_Ins)} {v0_ : Value} {r : Int} (h0 : SlT g enc_Ins 6 a0 v0_) (hF : l0_CodesWeight a0 = some r) : LCs Try.prog 33 #[v0_] g (.int .i64 r) := w_l0_CodesWeight_ h0 hF

noncomputable def l0_StateWeight (a0 : T_State) : Option Int :=
  (quo' .i64 (a0.Regs.length : Int) 4).bind fun x2 => (quo' .i64 (a0.Mem.length : Int) 16).bind fun x3 => (quo' .i64 (a0.Out.length : Int) 4).bind fun x4 => some (IntKind.i64.wrap ((IntKind.i64.wrap ((IntKind.i64.wrap ((IntKind.i64.wrap ((IntKind.i64.wrap (x2 + x3)) + (a0.In_.length : Int))) + x4)) + (a0.Stack.length : Int))) + (a0.Fly.length : Int)))
set_option maxHeartbeats 2000000 in
theorem w_l0_StateWeight_ {g : Frag} {a0 : T_State} {v0_ : Value} {r : Int} (h0 : Rd_State g a0 v0_) (hF : l0_StateWeight a0 = some r) : LCs Try.prog 34 #[v0_] g (.int .i64 r) := by
 obtain ⟨v0_0_, v0_1_, v0_2_, v0_4_, v0_6_, v0_8_, rfl, h0_0_, h0_1_, h0_2_, h0_4_, h0_6_, h0_8_⟩ := h0
 unfold l0_StateWeight at hF
 refine lc_body (k := 29) (av := [.agg #[v0_0_, v0_1_, v0_2_, .int .i64 a0.Taken, v0_4_, .int .i64 a0.PC, v0_6_, .int .i64 a0.Stop, v0_8_, .int .i64 a0.Jump, .int .i64 a0.Delay]]) Try.func34 rfl rfl (h := fun W hS => ?_)
 refine c_seq ?_
 refine c_region ?_
 refine o_boxP (cl := [v0_0_, v0_1_, v0_2_, .int .i64 a0.Taken, v0_4_, .int .i64 a0.PC, v0_6_, .int .i64 a0.Stop, v0_8_, .int .i64 a0.Jump, .int .i64 a0.Delay]) rfl hS ?_
 clear hS; intro b1 w hS
 refine oy hS y_assign ?_
 refine n_thenN ?_
 refine c_seq ?_
 refine c_region ?_
 refine oy hS (y_field fa_api_State_0) ?_
 refine oy hS (y_load (fun w hS => hS.own (mH)) Try.underlying23 rfl rfl) ?_
 refine oy hS (y_len h0_0_ Try.underlying23) ?_
 obtain ⟨x2, hx2, hF⟩ := ob hF
 refine oy hS (y_quo hx2) ?_
 refine oy hS (y_field fa_api_State_1) ?_
 refine oy hS (y_load (fun w hS => hS.own (mH)) Try.underlying23 rfl rfl) ?_
 refine oy hS (y_len h0_1_ Try.underlying23) ?_
 obtain ⟨x3, hx3, hF⟩ := ob hF
 refine oy hS (y_quo hx3) ?_
 refine oy hS y_bin ?_
 refine oy hS (y_field fa_api_State_2) ?_
 refine oy hS (y_load (fun w hS => hS.own (mH)) Try.underlying23 rfl rfl) ?_
 refine oy hS (y_len h0_2_ Try.underlying23) ?_
 refine oy hS y_bin ?_
 refine oy hS (y_field fa_api_State_4) ?_
 refine oy hS (y_load (fun w hS => hS.own (mH)) Try.underlying23 rfl rfl) ?_
 refine oy hS (y_len h0_4_ Try.underlying23) ?_
 obtain ⟨x4, hx4, hF⟩ := ob hF
 refine oy hS (y_quo hx4) ?_
 refine oy hS y_bin ?_
 refine oy hS (y_field fa_api_State_6) ?_
 refine oy hS (y_load (fun w hS => hS.own (mH)) Try.underlying24 rfl rfl) ?_
 refine oy hS (y_len h0_6_ Try.underlying24) ?_
 refine oy hS y_bin ?_
 refine oy hS (y_field fa_api_State_8) ?_
 refine oy hS (y_load (fun w hS => hS.own (mH)) Try.underlying25 rfl rfl) ?_
 refine oy hS (y_len h0_8_ Try.underlying25) ?_
 refine oy hS y_bin ?_
 refine oy hS y_assign ?_
 refine n_thenN ?_
 obtain rfl := Option.some.inj hF
 exact wp_ret (wr1 hS)
theorem w_l0_StateWeight {g : Frag} {a0 : T_State} {v0_ : Value} {r : Int} (h0 : Rd_State g a0 v0_) (hF : l0_StateWeight a0 = some r) : LCs Try.prog 34 #[v0_] g (.int .i64 r) := w_l0_StateWeight_ h0 hF

noncomputable def l5_Heavy (a0 : T_Script) : Option Bool :=
  (l0_CodesWeight a0.P).bind fun r2 => (l0_StateWeight a0.S).bind fun r3 => some (decide (700 < (IntKind.i64.wrap ((IntKind.i64.wrap ((IntKind.i64.wrap (r2 + r3)) + (a0.In_.length : Int))) + (a0.N.length : Int)))))
set_option maxHeartbeats 2000000 in
theorem w_l5_Heavy_ {g : Frag} {a0 : T_Script} {v0_ : Value} {r : Bool} (h0 : Rd_Script g a0 v0_) (hF : l5_Heavy a0 = some r) : LCs Try.prog 12 #[v0_] g (.bool r) := by
 obtain ⟨v0_0_, v0_1_, v0_2_, v0_3_, v0_5_, v0_7_, v0_9_, v0_12_, v0_13_, rfl, h0_0_, h0_1_, h0_2_, h0_3_, h0_5_, h0_7_, h0_9_, h0_12_, h0_13_⟩ := h0
 unfold l5_Heavy at hF
 refine lc_body (k := 19) (av := [.agg #[v0_0_, v0_1_, v0_2_, v0_3_, .int .i64 a0.S.Taken, v0_5_, .int .i64 a0.S.PC, v0_7_, .int .i64 a0.S.Stop, v0_9_, .int .i64 a0.S.Jump, .int .i64 a0.S.Delay, v0_12_, v0_13_]]) Try.func12 rfl rfl (h := fun W hS => ?_)
 refine c_seq ?_
 refine c_region ?_
 refine o_boxP (cl := [v0_0_, v0_1_, v0_2_, v0_3_, .int .i64 a0.S.Taken, v0_5_, .int .i64 a0.S.PC, v0_7_, .int .i64 a0.S.Stop, v0_9_, .int .i64 a0.S.Jump, .int .i64 a0.S.Delay, v0_12_, v0_13_]) rfl hS ?_
 clear hS; intro b1 w hS
 refine oy hS y_assign ?_
 refine n_thenN ?_
 refine c_seq ?_
 refine c_quiet (by kernel_rfl) (by kernel_rfl) hS ?_
 refine qy (y_field fa_sledgelaw5_Script_0) ?_
 refine qy (y_load (fun w hS => hS.own (mH)) Try.underlying22 rfl rfl) ?_
 obtain ⟨r2, hr2, hF⟩ := ob hF
 refine q_callS Try.func33 rfl rfl (hc := (w_l0_CodesWeight (a0 := a0.P) (h0 := h0_0_.plus) (hF := hr2))) (h := ?_)
 refine qy (y_field fa_sledgelaw5_Script_1) ?_
 refine qy (y_loadN (vs := [v0_1_, v0_2_, v0_3_, .int .i64 a0.S.Taken, v0_5_, .int .i64 a0.S.PC, v0_7_, .int .i64 a0.S.Stop, v0_9_, .int .i64 a0.S.Jump, .int .i64 a0.S.Delay]) (fun w hS => hS.own (mH)) Try.underlying27 rfl (by exact sz_api_State) (subc (pre := [v0_0_]) (vs := [v0_1_, v0_2_, v0_3_, .int .i64 a0.S.Taken, v0_5_, .int .i64 a0.S.PC, v0_7_, .int .i64 a0.S.Stop, v0_9_, .int .i64 a0.S.Jump, .int .i64 a0.S.Delay]) (post := [v0_12_, v0_13_]) rfl rfl)) ?_
 obtain ⟨r3, hr3, hF⟩ := ob hF
 refine q_callS Try.func34 rfl rfl (hc := (w_l0_StateWeight (a0 := a0.S) (h0 := ⟨_, _, _, _, _, _, rfl, h0_1_.plus, h0_2_.plus, h0_3_.plus, h0_5_.plus, h0_7_.plus, h0_9_.plus⟩) (hF := hr3))) (h := ?_)
 refine qy y_bin ?_
 refine qy (y_field fa_sledgelaw5_Script_2) ?_
 refine qy (y_load (fun w hS => hS.own (mH)) Try.underlying23 rfl rfl) ?_
 refine qy (y_len h0_12_ Try.underlying23) ?_
 refine qy y_bin ?_
 refine qy (y_field fa_sledgelaw5_Script_3) ?_
 refine qy (y_load (fun w hS => hS.own (mH)) Try.underlying24 rfl rfl) ?_
 refine qy (y_len h0_13_ Try.underlying24) ?_
 iterate 2 (refine qy y_bin ?_)
 refine qy y_assign ?_
 refine q_nilN (h := ?_)
 clear hS; intro w hS
 obtain rfl := Option.some.inj hF
 exact wp_ret (wr1 hS)
theorem w_l5_Heavy {g : Frag} {a0 : T_Script} {v0_ : Value} {r : Bool} (h0 : Rd_Script g a0 v0_) (hF : l5_Heavy a0 = some r) : LCs Try.prog 12 #[v0_] g (.bool r) := w_l5_Heavy_ h0 hF

def r0_Between (a0 : Int) (a1 : Int) (a2 : Int) : Bool :=
  bif decide (a1 ≤ a0) then decide (a0 ≤ a2) else false
set_option maxHeartbeats 2000000 in
theorem w_r0_Between_ {g : Frag} {a0 : Int} {a1 : Int} {a2 : Int} {r : Bool}  (hF : r0_Between a0 a1 a2 = r) : LCs Try.prog 86 #[.int .i64 a0, .int .i64 a1, .int .i64 a2] g (.bool r) := by
 unfold r0_Between at hF
 refine lc_body (k := 15) (av := [.int .i64 a0, .int .i64 a1, .int .i64 a2]) Try.func86 rfl rfl (h := fun W hS => ?_)
 refine c_seq ?_
 refine c_region ?_
 refine oy hS y_assign ?_
 refine n_thenN ?_
 refine c_seq ?_
 refine c_region ?_
 iterate 2 (refine oy hS y_move ?_)
 refine oy hS y_bin ?_
 refine o_split (ht := fun c1 => ?_) (hf := fun c1 => ?_)
 · replace hF := bt c1 hF
   refine o_gu rfl rfl rfl ?_
   refine oy hS y_move ?_
   refine o_gu rfl rfl rfl ?_
   refine oy hS y_move ?_
   refine o_gu rfl rfl rfl ?_
   refine oy hS y_bin ?_
   refine oy hS y_pickT ?_
   refine oy hS y_assign ?_
   refine n_thenN ?_
   subst hF
   exact wp_ret (wr1 hS)
 replace hF := bf c1 hF
 iterate 3 (refine o_sk rfl rfl ?_)
 refine oy hS y_pickF ?_
 refine oy hS y_assign ?_
 refine n_thenN ?_
 subst hF
 exact wp_ret (wr1 hS)
theorem w_r0_Between {g : Frag} {a0 : Int} {a1 : Int} {a2 : Int}  : LCs Try.prog 86 #[.int .i64 a0, .int .i64 a1, .int .i64 a2] g (.bool (r0_Between a0 a1 a2)) := w_r0_Between_  rfl

def r3_Valid (a0 : Int) : Bool :=
  (r0_Between a0 0 33)
set_option maxHeartbeats 2000000 in
theorem w_r3_Valid_ {g : Frag} {a0 : Int} {r : Bool}  (hF : r3_Valid a0 = r) : LCs Try.prog 64 #[.int .i64 a0] g (.bool r) := by
 unfold r3_Valid at hF
 refine lc_body (k := 5) (av := [.int .i64 a0]) Try.func64 rfl rfl (h := fun W hS => ?_)
 refine c_seq ?_
 refine c_region ?_
 refine oy hS y_assign ?_
 refine n_thenN ?_
 refine c_seq ?_
 refine c_region ?_
 refine oy hS y_move ?_
 refine o_callS hS Try.func86 rfl rfl (hc := (w_r0_Between (a0 := a0) (a1 := 0) (a2 := 33))) (h := ?_)
 clear hS; intro w hS
 refine oy hS y_assign ?_
 refine n_thenN ?_
 subst hF
 exact wp_ret (wr1 hS)
theorem w_r3_Valid {g : Frag} {a0 : Int}  : LCs Try.prog 64 #[.int .i64 a0] g (.bool (r3_Valid a0)) := w_r3_Valid_  rfl

noncomputable def r3_Form (a0 : Int) : Option Int :=
  (at' ([0, 1, 1, 1, 1, 1, 1, 1, 1, 1, 1, 1, 1, 1, 1, 1, 1, 1, 1, 1, 1, 2, 3, 4, 3, 5, 6, 7, 8, 9, 9, 8, 0, 0] : List Int) a0).bind fun x4 => some (x4)
set_option maxHeartbeats 2000000 in
theorem w_r3_Form_ {g : Frag} {a0 : Int} {r : Int}  (hF : r3_Form a0 = some r) : LCs Try.prog 43 #[.int .i64 a0] g (.int .i64 r) := by
 unfold r3_Form at hF
 refine lc_body (k := 7) (av := [.int .i64 a0]) Try.func43 rfl rfl (h := fun W hS => ?_)
 refine c_seq ?_
 refine c_region ?_
 refine oy hS y_assign ?_
 refine n_thenN ?_
 refine c_seq ?_
 refine c_region ?_
 refine o_buildT val_int ([0, 1, 1, 1, 1, 1, 1, 1, 1, 1, 1, 1, 1, 1, 1, 1, 1, 1, 1, 1, 1, 2, 3, 4, 3, 5, 6, 7, 8, 9, 9, 8, 0, 0] : List Int) hS el_int (fun _ => rfl) enc_len_int (by decide) rfl (by decide) (hp := rfl) (h := ?_)
 clear hS; intro b1 w hS h2
 have hS : St W g [] ([(b1, blk (([0, 1, 1, 1, 1, 1, 1, 1, 1, 1, 1, 1, 1, 1, 1, 1, 1, 1, 1, 1, 1, 2, 3, 4, 3, 5, 6, 7, 8, 9, 9, 8, 0, 0] : List Int).flatMap enc_int) 3)] ++ []) w := hS
 refine oy hS y_move ?_
 obtain ⟨x4, hx4, hF⟩ := ob hF
 obtain ⟨b5, c6, cl7, hv8, ha9, hb10, hl11, hc12⟩ := OwT.at hx4 h2 enc_len_int
 refine oy hS (y_index hv8 ha9 hb10 Try.underlying24 el_int.size) ?_
 refine oy hS (y_load (fun w hS => hS.own (mA (mX hl11))) Try.underlying3 rfl (hc12 0 _ rfl)) ?_
 refine oy hS y_assign ?_
 refine n_thenN ?_
 obtain rfl := Option.some.inj hF
 exact wp_ret (wr1 hS)
theorem w_r3_Form {g : Frag} {a0 : Int} {r : Int}  (hF : r3_Form a0 = some r) : LCs Try.prog 43 #[.int .i64 a0] g (.int .i64 r) := w_r3_Form_  hF

def r3_HasD (a0 : Int) : Bool :=
  bif (r0_Between a0 1 4) then true else decide (a0 = 6)
set_option maxHeartbeats 2000000 in
theorem w_r3_HasD_ {g : Frag} {a0 : Int} {r : Bool}  (hF : r3_HasD a0 = r) : LCs Try.prog 66 #[.int .i64 a0] g (.bool r) := by
 unfold r3_HasD at hF
 refine lc_body (k := 9) (av := [.int .i64 a0]) Try.func66 rfl rfl (h := fun W hS => ?_)
 refine c_seq ?_
 refine c_region ?_
 refine oy hS y_assign ?_
 refine n_thenN ?_
 refine c_seq ?_
 refine c_region ?_
 refine oy hS y_move ?_
 refine o_callS hS Try.func86 rfl rfl (hc := (w_r0_Between (a0 := a0) (a1 := 1) (a2 := 4))) (h := ?_)
 clear hS; intro w hS
 refine o_split (ht := fun c1 => ?_) (hf := fun c1 => ?_)
 · replace hF := bt c1 hF
   iterate 2 (refine o_sk rfl rfl ?_)
   refine oy hS y_pickT ?_
   refine oy hS y_assign ?_
   refine n_thenN ?_
   subst hF
   exact wp_ret (wr1 hS)
 replace hF := bf c1 hF
 refine o_gu rfl rfl rfl ?_
 refine oy hS y_move ?_
 refine o_gu rfl rfl rfl ?_
 refine oy hS y_bin ?_
 refine oy hS y_pickF ?_
 refine oy hS y_assign ?_
 refine n_thenN ?_
 subst hF
 exact wp_ret (wr1 hS)
theorem w_r3_HasD {g : Frag} {a0 : Int}  : LCs Try.prog 66 #[.int .i64 a0] g (.bool (r3_HasD a0)) := w_r3_HasD_  rfl

def r0_Num (a0 : Int) (a1 : Int) : Bool :=
  bif decide (0 ≤ a0) then decide (a0 ≤ a1) else false
set_option maxHeartbeats 2000000 in
theorem w_r0_Num_ {g : Frag} {a0 : Int} {a1 : Int} {r : Bool}  (hF : r0_Num a0 a1 = r) : LCs Try.prog 29 #[.int .i64 a0, .int .i64 a1] g (.bool r) := by
 unfold r0_Num at hF
 refine lc_body (k := 12) (av := [.int .i64 a0, .int .i64 a1]) Try.func29 rfl rfl (h := fun W hS => ?_)
 refine c_seq ?_
 refine c_region ?_
 refine oy hS y_assign ?_
 refine n_thenN ?_
 refine c_seq ?_
 refine c_region ?_
 refine oy hS y_move ?_
 refine oy hS y_bin ?_
 refine o_split (ht := fun c1 => ?_) (hf := fun c1 => ?_)
 · replace hF := bt c1 hF
   refine o_gu rfl rfl rfl ?_
   refine oy hS y_move ?_
   refine o_gu rfl rfl rfl ?_
   refine oy hS y_move ?_
   refine o_gu rfl rfl rfl ?_
   refine oy hS y_bin ?_
   refine oy hS y_pickT ?_
   refine oy hS y_assign ?_
   refine n_thenN ?_
   subst hF
   exact wp_ret (wr1 hS)
 replace hF := bf c1 hF
 iterate 3 (refine o_sk rfl rfl ?_)
 refine oy hS y_pickF ?_
 refine oy hS y_assign ?_
 refine n_thenN ?_
 subst hF
 exact wp_ret (wr1 hS)
theorem w_r0_Num {g : Frag} {a0 : Int} {a1 : Int}  : LCs Try.prog 29 #[.int .i64 a0, .int .i64 a1] g (.bool (r0_Num a0 a1)) := w_r0_Num_  rfl

def r3_reg (a0 : Int) (a1 : Bool) : Bool :=
  bif a1 then (r0_Num a0 15) else decide (a0 = 0)
set_option maxHeartbeats 2000000 in
theorem w_r3_reg_ {g : Frag} {a0 : Int} {a1 : Bool} {r : Bool}  (hF : r3_reg a0 a1 = r) : LCs Try.prog 65 #[.int .i64 a0, .bool a1] g (.bool r) := by
 unfold r3_reg at hF
 refine lc_body (k := 10) (av := [.int .i64 a0, .bool a1]) Try.func65 rfl rfl (h := fun W hS => ?_)
 refine c_seq ?_
 refine c_region ?_
 refine oy hS y_assign ?_
 refine n_thenN ?_
 iterate 2 (refine c_seq ?_)
 refine c_region ?_
 refine oy hS y_move ?_
 refine n_thenN ?_
 refine c_if (ht := fun c1 => ?_) (hf := fun c1 => ?_)
 · replace hF := bt c1 hF
   refine c_seq ?_
   refine c_region ?_
   refine oy hS y_move ?_
   refine o_callS hS Try.func29 rfl rfl (hc := (w_r0_Num (a0 := a0) (a1 := 15))) (h := ?_)
   clear hS; intro w hS
   refine oy hS y_assign ?_
   refine n_thenN ?_
   subst hF
   exact wp_ret (wr1 hS)
 replace hF := bf c1 hF
 refine wp_skip ?_
 refine c_seq ?_
 refine c_region ?_
 refine oy hS y_move ?_
 refine oy hS y_bin ?_
 refine oy hS y_assign ?_
 refine n_thenN ?_
 subst hF
 exact wp_ret (wr1 hS)
theorem w_r3_reg {g : Frag} {a0 : Int} {a1 : Bool}  : LCs Try.prog 65 #[.int .i64 a0, .bool a1] g (.bool (r3_reg a0 a1)) := w_r3_reg_  rfl

def r3_HasA (a0 : Int) : Bool :=
  bif (r0_Between a0 1 3) then true else bif decide (a0 = 5) then true else bif decide (a0 = 7) then true else decide (a0 = 9)
set_option maxHeartbeats 2000000 in
theorem w_r3_HasA_ {g : Frag} {a0 : Int} {r : Bool}  (hF : r3_HasA a0 = r) : LCs Try.prog 67 #[.int .i64 a0] g (.bool r) := by
 unfold r3_HasA at hF
 refine lc_body (k := 17) (av := [.int .i64 a0]) Try.func67 rfl rfl (h := fun W hS => ?_)
 refine c_seq ?_
 refine c_region ?_
 refine oy hS y_assign ?_
 refine n_thenN ?_
 refine c_seq ?_
 refine c_region ?_
 refine oy hS y_move ?_
 refine o_callS hS Try.func86 rfl rfl (hc := (w_r0_Between (a0 := a0) (a1 := 1) (a2 := 3))) (h := ?_)
 clear hS; intro w hS
 refine o_split (ht := fun c1 => ?_) (hf := fun c1 => ?_)
 · replace hF := bt c1 hF
   iterate 2 (refine o_sk rfl rfl ?_)
   refine oy hS y_pickT ?_
   refine oy hS y_move ?_
   iterate 2 (refine o_sk rfl rfl ?_)
   refine oy hS y_pickT ?_
   refine oy hS y_move ?_
   iterate 2 (refine o_sk rfl rfl ?_)
   refine oy hS y_pickT ?_
   refine oy hS y_assign ?_
   refine n_thenN ?_
   subst hF
   exact wp_ret (wr1 hS)
 replace hF := bf c1 hF
 refine o_gu rfl rfl rfl ?_
 refine oy hS y_move ?_
 refine o_gu rfl rfl rfl ?_
 refine oy hS y_bin ?_
 refine oy hS y_pickF ?_
 refine o_split (ht := fun c2 => ?_) (hf := fun c2 => ?_)
 · replace hF := bt c2 hF
   iterate 2 (refine o_sk rfl rfl ?_)
   refine oy hS y_pickT ?_
   refine oy hS y_move ?_
   iterate 2 (refine o_sk rfl rfl ?_)
   refine oy hS y_pickT ?_
   refine oy hS y_assign ?_
   refine n_thenN ?_
   subst hF
   exact wp_ret (wr1 hS)
 replace hF := bf c2 hF
 refine o_gu rfl rfl rfl ?_
 refine oy hS y_move ?_
 refine o_gu rfl rfl rfl ?_
 refine oy hS y_bin ?_
 refine oy hS y_pickF ?_
 refine o_split (ht := fun c3 => ?_) (hf := fun c3 => ?_)
 · replace hF := bt c3 hF
   iterate 2 (refine o_sk rfl rfl ?_)
   refine oy hS y_pickT ?_
   refine oy hS y_assign ?_
   refine n_thenN ?_
   subst hF
   exact wp_ret (wr1 hS)
 replace hF := bf c3 hF
 refine o_gu rfl rfl rfl ?_
 refine oy hS y_move ?_
 refine o_gu rfl rfl rfl ?_
 refine oy hS y_bin ?_
 refine oy hS y_pickF ?_
 refine oy hS y_assign ?_
 refine n_thenN ?_
 subst hF
 exact wp_ret (wr1 hS)
theorem w_r3_HasA {g : Frag} {a0 : Int}  : LCs Try.prog 67 #[.int .i64 a0] g (.bool (r3_HasA a0)) := w_r3_HasA_  rfl

def r3_HasB (a0 : Int) : Bool :=
  bif decide (a0 = 1) then true else decide (a0 = 5)
set_option maxHeartbeats 2000000 in
theorem w_r3_HasB_ {g : Frag} {a0 : Int} {r : Bool}  (hF : r3_HasB a0 = r) : LCs Try.prog 68 #[.int .i64 a0] g (.bool r) := by
 unfold r3_HasB at hF
 refine lc_body (k := 9) (av := [.int .i64 a0]) Try.func68 rfl rfl (h := fun W hS => ?_)
 refine c_seq ?_
 refine c_region ?_
 refine oy hS y_assign ?_
 refine n_thenN ?_
 refine c_seq ?_
 refine c_region ?_
 refine oy hS y_move ?_
 refine oy hS y_bin ?_
 refine o_split (ht := fun c1 => ?_) (hf := fun c1 => ?_)
 · replace hF := bt c1 hF
   iterate 2 (refine o_sk rfl rfl ?_)
   refine oy hS y_pickT ?_
   refine oy hS y_assign ?_
   refine n_thenN ?_
   subst hF
   exact wp_ret (wr1 hS)
 replace hF := bf c1 hF
 refine o_gu rfl rfl rfl ?_
 refine oy hS y_move ?_
 refine o_gu rfl rfl rfl ?_
 refine oy hS y_bin ?_
 refine oy hS y_pickF ?_
 refine oy hS y_assign ?_
 refine n_thenN ?_
 subst hF
 exact wp_ret (wr1 hS)
theorem w_r3_HasB {g : Frag} {a0 : Int}  : LCs Try.prog 68 #[.int .i64 a0] g (.bool (r3_HasB a0)) := w_r3_HasB_  rfl

noncomputable def r3_Name_b2 (a0 : ByteArray) : Int → Option (Step Int Bool) := fun x38 => bif decide (x38 < (a0.size : Int)) then (byte' a0 x38).bind fun x66 => bif decide (97 ≤ x66) then (byte' a0 x38).bind fun x68 => bif decide (x68 ≤ 122) then bif !true then some (.done (false)) else some (.next (IntKind.i64.wrap (x38 + 1))) else (byte' a0 x38).bind fun x71 => bif decide (x71 = 95) then bif !true then some (.done (false)) else some (.next (IntKind.i64.wrap (x38 + 1))) else (byte' a0 x38).bind fun x74 => bif decide (48 ≤ x74) then (byte' a0 x38).bind fun x76 => bif !(decide (x76 ≤ 57)) then some (.done (false)) else some (.next (IntKind.i64.wrap (x38 + 1))) else bif !false then some (.done (false)) else some (.next (IntKind.i64.wrap (x38 + 1))) else (byte' a0 x38).bind fun x79 => bif decide (x79 = 95) then bif !true then some (.done (false)) else some (.next (IntKind.i64.wrap (x38 + 1))) else (byte' a0 x38).bind fun x82 => bif decide (48 ≤ x82) then (byte' a0 x38).bind fun x84 => bif !(decide (x84 ≤ 57)) then some (.done (false)) else some (.next (IntKind.i64.wrap (x38 + 1))) else bif !false then some (.done (false)) else some (.next (IntKind.i64.wrap (x38 + 1))) else some (.done (true))
noncomputable def r3_Name_k1 (a0 : ByteArray) : Unit → Option Bool := fun _ => loop (σ := Int) (r3_Name_b2 a0) 0
noncomputable def r3_Name (a0 : ByteArray) : Option Bool :=
  cut (σ := Unit) (bif decide ((a0.size : Int) = 0) then some (.done (false)) else bif decide (12 < (a0.size : Int)) then some (.done (false)) else (byte' a0 0).bind fun x11 => bif decide (48 ≤ x11) then (byte' a0 0).bind fun x13 => bif decide (x13 ≤ 57) then some (.done (false)) else some (.next ()) else some (.next ())) (r3_Name_k1 a0)
set_option maxHeartbeats 2000000 in
theorem w_r3_Name_ {g : Frag} {a0 : ByteArray} {r : Bool}  (hF : r3_Name a0 = some r) : LCs Try.prog 69 #[.string a0] g (.bool r) := by
 unfold r3_Name at hF
 refine lc_body (k := 57) (av := [.string a0]) Try.func69 rfl rfl (h := fun W hS => ?_)
 refine c_seq ?_
 refine c_region ?_
 refine oy hS y_assign ?_
 refine n_thenN ?_
 obtain ⟨z7, hF, hK8⟩ := cut_step hF
 refine c_cutP (fun a w' => r3_Name_k1 a0 () = some r ∧ (∃ s : Nat → Value, a = Ac (.lit 57 [.string a0, s 1, s 2, s 3, s 4, s 5, s 6, s 7, s 8, s 9, s 10, s 11, s 12, s 13, s 14, s 15, s 16, s 17, s 18, s 19, s 20, s 21, s 22, s 23, s 24, s 25, s 26, s 27, s 28, s 29, s 30, s 31, s 32, s 33, s 34, s 35, s 36, s 37, s 38, s 39, s 40, s 41, s 42, s 43, s 44, s 45, s 46, s 47, s 48, s 49, s 50, s 51, s 52, s 53, s 54, s 55, s 56])) ∧ St W g [] [] w') ?_ ?_
 · skip
   refine c_seq ?_
   refine c_region ?_
   refine oy hS y_move ?_
   refine oy hS (y_lens Try.underlying9) ?_
   refine oy hS y_bin ?_
   refine o_split (ht := fun c9 => ?_) (hf := fun c9 => ?_)
   · replace hF := bt c9 hF
     iterate 3 (refine o_sk rfl rfl ?_)
     refine oy hS y_pickT ?_
     refine oy hS y_move ?_
     iterate 4 (refine o_sk rfl rfl ?_)
     iterate 3 (refine o_sku rfl rfl ?_)
     refine o_sk rfl rfl ?_
     refine oy hS y_pickT ?_
     refine n_thenN ?_
     refine c_if_true (h := ?_)
     refine c_seq ?_
     refine c_region ?_
     refine oy hS y_assign ?_
     refine n_thenN ?_
     obtain rfl := Option.some.inj hF
     obtain rfl : _ = r := hK8
     exact wp_ret (wr1 hS)
   replace hF := bf c9 hF
   refine o_gu rfl rfl rfl ?_
   refine oy hS y_move ?_
   refine o_gu rfl rfl rfl ?_
   refine oy hS (y_lens Try.underlying9) ?_
   refine o_gu rfl rfl rfl ?_
   refine oy hS y_bin ?_
   refine oy hS y_pickF ?_
   refine o_split (ht := fun c10 => ?_) (hf := fun c10 => ?_)
   · replace hF := bt c10 hF
     iterate 4 (refine o_sk rfl rfl ?_)
     iterate 3 (refine o_sku rfl rfl ?_)
     refine o_sk rfl rfl ?_
     refine oy hS y_pickT ?_
     refine n_thenN ?_
     refine c_if_true (h := ?_)
     refine c_seq ?_
     refine c_region ?_
     refine oy hS y_assign ?_
     refine n_thenN ?_
     obtain rfl := Option.some.inj hF
     obtain rfl : _ = r := hK8
     exact wp_ret (wr1 hS)
   replace hF := bf c10 hF
   refine o_gu rfl rfl rfl ?_
   refine oy hS y_move ?_
   refine o_gu rfl rfl rfl ?_
   obtain ⟨x11, hx11, hF⟩ := ob hF
   refine oy hS (y_byte hx11 Try.underlying9) ?_
   refine o_gu rfl rfl rfl ?_
   refine oy hS y_bin ?_
   refine o_gu rfl rfl rfl ?_
   refine o_split (ht := fun c12 => ?_) (hf := fun c12 => ?_)
   · replace hF := bt c12 hF
     refine o_gu rfl rfl rfl ?_
     refine oy hS y_move ?_
     refine o_gu rfl rfl rfl ?_
     obtain ⟨x13, hx13, hF⟩ := ob hF
     refine oy hS (y_byte hx13 Try.underlying9) ?_
     refine o_gu rfl rfl rfl ?_
     refine oy hS y_bin ?_
     refine o_gu rfl rfl rfl ?_
     refine oy hS y_pickT ?_
     refine oy hS y_pickF ?_
     refine n_thenN ?_
     refine c_if (ht := fun c14 => ?_) (hf := fun c14 => ?_)
     · replace hF := bt c14 hF
       refine c_seq ?_
       refine c_region ?_
       refine oy hS y_assign ?_
       refine n_thenN ?_
       obtain rfl := Option.some.inj hF
       obtain rfl : _ = r := hK8
       exact wp_ret (wr1 hS)
     replace hF := bf c14 hF
     refine wp_skip ?_
     obtain rfl := Option.some.inj hF
     change _ ∧ _
     exact ⟨hK8, mk_ex, (hS.re (.nil _))⟩
   replace hF := bf c12 hF
   iterate 3 (refine o_sk rfl rfl ?_)
   refine o_gu rfl rfl rfl ?_
   iterate 2 (refine oy hS y_pickF ?_)
   refine n_thenN ?_
   refine c_if_false (h := ?_)
   refine wp_skip ?_
   obtain rfl := Option.some.inj hF
   change _ ∧ _
   exact ⟨hK8, mk_ex, (hS.re (.nil _))⟩
 rintro a w ⟨hF, ⟨s15, rfl⟩, hS⟩
 dsimp only [r3_Name_k1] at hF
 iterate 2 (refine c_seq ?_)
 refine c_region ?_
 refine oy hS y_assign ?_
 refine n_thenN ?_
 refine c_block ?_
 refine c_loopP hF (fun (q : Int) a w' => (∃ s : Nat → Value, a = Ac (.lit 57 [.string a0, s 1, s 2, .int .i64 q, s 4, s 5, s 6, s 7, s 8, s 9, s 10, s 11, s 12, s 13, s 14, s 15, s 16, s 17, s 18, s 19, s 20, s 21, s 22, s 23, s 24, s 25, s 26, s 27, s 28, s 29, s 30, s 31, s 32, s 33, s 34, s 35, s 36, s 37, s 38, s 39, s 40, s 41, s 42, s 43, s 44, s 45, s 46, s 47, s 48, s 49, s 50, s 51, s 52, s 53, s 54, s 55, s 56])) ∧ St W g [] [] w') ⟨mk_ex, (hS.re (.nil _))⟩ ?_
 clear hS hF
 intro n63 q a w hI hq
 revert hq hI; revert q; intro x38 hI hq
 obtain ⟨⟨s64, rfl⟩, hS⟩ := hq
 obtain ⟨z61, hF, hK62⟩ := iter_step hI
 clear hI
 dsimp only [r3_Name_b2] at hF
 iterate 2 (refine c_seq ?_)
 refine c_region ?_
 iterate 2 (refine oy hS y_move ?_)
 refine oy hS (y_lens Try.underlying9) ?_
 refine oy hS y_bin ?_
 refine n_thenN ?_
 refine c_if (ht := fun c65 => ?_) (hf := fun c65 => ?_)
 · replace hF := bt c65 hF
   refine wp_skip ?_
   refine c_seq ?_
   refine c_block ?_
   refine c_seq ?_
   refine c_region ?_
   iterate 2 (refine oy hS y_move ?_)
   obtain ⟨x66, hx66, hF⟩ := ob hF
   refine oy hS (y_byte hx66 Try.underlying9) ?_
   refine oy hS y_bin ?_
   refine o_split (ht := fun c67 => ?_) (hf := fun c67 => ?_)
   · replace hF := bt c67 hF
     refine o_gu rfl rfl rfl ?_
     refine oy hS y_move ?_
     refine o_gu rfl rfl rfl ?_
     refine oy hS y_move ?_
     refine o_gu rfl rfl rfl ?_
     obtain ⟨x68, hx68, hF⟩ := ob hF
     refine oy hS (y_byte hx68 Try.underlying9) ?_
     refine o_gu rfl rfl rfl ?_
     refine oy hS y_bin ?_
     refine oy hS y_pickT ?_
     refine o_split (ht := fun c69 => ?_) (hf := fun c69 => ?_)
     · replace hF := bt c69 hF
       iterate 4 (refine o_sk rfl rfl ?_)
       refine oy hS y_pickT ?_
       refine oy hS y_move ?_
       iterate 5 (refine o_sk rfl rfl ?_)
       iterate 4 (refine o_sku rfl rfl ?_)
       refine o_sk rfl rfl ?_
       refine oy hS y_pickT ?_
       refine oy hS y_not ?_
       refine n_thenN ?_
       refine c_if (ht := fun c70 => ?_) (hf := fun c70 => ?_)
       · replace hF := bt c70 hF
         refine c_seq ?_
         refine c_region ?_
         refine oy hS y_assign ?_
         refine n_thenN ?_
         obtain rfl := Option.some.inj hF
         obtain rfl : _ = r := hK62
         exact wp_ret (wr1 hS)
       replace hF := bf c70 hF
       refine wp_skip ?_
       refine c_region ?_
       refine oy hS y_move ?_
       refine oy hS y_bin ?_
       refine oy hS y_assign ?_
       refine n_thenN ?_
       obtain rfl := Option.some.inj hF
       exact ⟨_, hK62, mk_ex, (hS.re (.nil _))⟩
     replace hF := bf c69 hF
     refine o_gu rfl rfl rfl ?_
     refine oy hS y_move ?_
     refine o_gu rfl rfl rfl ?_
     refine oy hS y_move ?_
     refine o_gu rfl rfl rfl ?_
     obtain ⟨x71, hx71, hF⟩ := ob hF
     refine oy hS (y_byte hx71 Try.underlying9) ?_
     refine o_gu rfl rfl rfl ?_
     refine oy hS y_bin ?_
     refine oy hS y_pickF ?_
     refine o_split (ht := fun c72 => ?_) (hf := fun c72 => ?_)
     · replace hF := bt c72 hF
       iterate 5 (refine o_sk rfl rfl ?_)
       iterate 4 (refine o_sku rfl rfl ?_)
       refine o_sk rfl rfl ?_
       refine oy hS y_pickT ?_
       refine oy hS y_not ?_
       refine n_thenN ?_
       refine c_if (ht := fun c73 => ?_) (hf := fun c73 => ?_)
       · replace hF := bt c73 hF
         refine c_seq ?_
         refine c_region ?_
         refine oy hS y_assign ?_
         refine n_thenN ?_
         obtain rfl := Option.some.inj hF
         obtain rfl : _ = r := hK62
         exact wp_ret (wr1 hS)
       replace hF := bf c73 hF
       refine wp_skip ?_
       refine c_region ?_
       refine oy hS y_move ?_
       refine oy hS y_bin ?_
       refine oy hS y_assign ?_
       refine n_thenN ?_
       obtain rfl := Option.some.inj hF
       exact ⟨_, hK62, mk_ex, (hS.re (.nil _))⟩
     replace hF := bf c72 hF
     refine o_gu rfl rfl rfl ?_
     refine oy hS y_move ?_
     refine o_gu rfl rfl rfl ?_
     refine oy hS y_move ?_
     refine o_gu rfl rfl rfl ?_
     obtain ⟨x74, hx74, hF⟩ := ob hF
     refine oy hS (y_byte hx74 Try.underlying9) ?_
     refine o_gu rfl rfl rfl ?_
     refine oy hS y_bin ?_
     refine o_gu rfl rfl rfl ?_
     refine o_split (ht := fun c75 => ?_) (hf := fun c75 => ?_)
     · replace hF := bt c75 hF
       refine o_gu rfl rfl rfl ?_
       refine oy hS y_move ?_
       refine o_gu rfl rfl rfl ?_
       refine oy hS y_move ?_
       refine o_gu rfl rfl rfl ?_
       obtain ⟨x76, hx76, hF⟩ := ob hF
       refine oy hS (y_byte hx76 Try.underlying9) ?_
       refine o_gu rfl rfl rfl ?_
       refine oy hS y_bin ?_
       refine o_gu rfl rfl rfl ?_
       refine oy hS y_pickT ?_
       refine oy hS y_pickF ?_
       refine oy hS y_not ?_
       refine n_thenN ?_
       refine c_if (ht := fun c77 => ?_) (hf := fun c77 => ?_)
       · replace hF := bt c77 hF
         refine c_seq ?_
         refine c_region ?_
         refine oy hS y_assign ?_
         refine n_thenN ?_
         obtain rfl := Option.some.inj hF
         obtain rfl : _ = r := hK62
         exact wp_ret (wr1 hS)
       replace hF := bf c77 hF
       refine wp_skip ?_
       refine c_region ?_
       refine oy hS y_move ?_
       refine oy hS y_bin ?_
       refine oy hS y_assign ?_
       refine n_thenN ?_
       obtain rfl := Option.some.inj hF
       exact ⟨_, hK62, mk_ex, (hS.re (.nil _))⟩
     replace hF := bf c75 hF
     iterate 4 (refine o_sk rfl rfl ?_)
     refine o_gu rfl rfl rfl ?_
     iterate 2 (refine oy hS y_pickF ?_)
     refine oy hS y_not ?_
     refine n_thenN ?_
     refine c_if (ht := fun c78 => ?_) (hf := fun c78 => ?_)
     · replace hF := bt c78 hF
       refine c_seq ?_
       refine c_region ?_
       refine oy hS y_assign ?_
       refine n_thenN ?_
       obtain rfl := Option.some.inj hF
       obtain rfl : _ = r := hK62
       exact wp_ret (wr1 hS)
     replace hF := bf c78 hF
     refine wp_skip ?_
     refine c_region ?_
     refine oy hS y_move ?_
     refine oy hS y_bin ?_
     refine oy hS y_assign ?_
     refine n_thenN ?_
     obtain rfl := Option.some.inj hF
     exact ⟨_, hK62, mk_ex, (hS.re (.nil _))⟩
   replace hF := bf c67 hF
   iterate 4 (refine o_sk rfl rfl ?_)
   refine oy hS y_pickF ?_
   refine oy hS y_move ?_
   refine o_gu rfl rfl rfl ?_
   refine oy hS y_move ?_
   refine o_gu rfl rfl rfl ?_
   refine oy hS y_move ?_
   refine o_gu rfl rfl rfl ?_
   obtain ⟨x79, hx79, hF⟩ := ob hF
   refine oy hS (y_byte hx79 Try.underlying9) ?_
   refine o_gu rfl rfl rfl ?_
   refine oy hS y_bin ?_
   refine oy hS y_pickF ?_
   refine o_split (ht := fun c80 => ?_) (hf := fun c80 => ?_)
   · replace hF := bt c80 hF
     iterate 5 (refine o_sk rfl rfl ?_)
     iterate 4 (refine o_sku rfl rfl ?_)
     refine o_sk rfl rfl ?_
     refine oy hS y_pickT ?_
     refine oy hS y_not ?_
     refine n_thenN ?_
     refine c_if (ht := fun c81 => ?_) (hf := fun c81 => ?_)
     · replace hF := bt c81 hF
       refine c_seq ?_
       refine c_region ?_
       refine oy hS y_assign ?_
       refine n_thenN ?_
       obtain rfl := Option.some.inj hF
       obtain rfl : _ = r := hK62
       exact wp_ret (wr1 hS)
     replace hF := bf c81 hF
     refine wp_skip ?_
     refine c_region ?_
     refine oy hS y_move ?_
     refine oy hS y_bin ?_
     refine oy hS y_assign ?_
     refine n_thenN ?_
     obtain rfl := Option.some.inj hF
     exact ⟨_, hK62, mk_ex, (hS.re (.nil _))⟩
   replace hF := bf c80 hF
   refine o_gu rfl rfl rfl ?_
   refine oy hS y_move ?_
   refine o_gu rfl rfl rfl ?_
   refine oy hS y_move ?_
   refine o_gu rfl rfl rfl ?_
   obtain ⟨x82, hx82, hF⟩ := ob hF
   refine oy hS (y_byte hx82 Try.underlying9) ?_
   refine o_gu rfl rfl rfl ?_
   refine oy hS y_bin ?_
   refine o_gu rfl rfl rfl ?_
   refine o_split (ht := fun c83 => ?_) (hf := fun c83 => ?_)
   · replace hF := bt c83 hF
     refine o_gu rfl rfl rfl ?_
     refine oy hS y_move ?_
     refine o_gu rfl rfl rfl ?_
     refine oy hS y_move ?_
     refine o_gu rfl rfl rfl ?_
     obtain ⟨x84, hx84, hF⟩ := ob hF
     refine oy hS (y_byte hx84 Try.underlying9) ?_
     refine o_gu rfl rfl rfl ?_
     refine oy hS y_bin ?_
     refine o_gu rfl rfl rfl ?_
     refine oy hS y_pickT ?_
     refine oy hS y_pickF ?_
     refine oy hS y_not ?_
     refine n_thenN ?_
     refine c_if (ht := fun c85 => ?_) (hf := fun c85 => ?_)
     · replace hF := bt c85 hF
       refine c_seq ?_
       refine c_region ?_
       refine oy hS y_assign ?_
       refine n_thenN ?_
       obtain rfl := Option.some.inj hF
       obtain rfl : _ = r := hK62
       exact wp_ret (wr1 hS)
     replace hF := bf c85 hF
     refine wp_skip ?_
     refine c_region ?_
     refine oy hS y_move ?_
     refine oy hS y_bin ?_
     refine oy hS y_assign ?_
     refine n_thenN ?_
     obtain rfl := Option.some.inj hF
     exact ⟨_, hK62, mk_ex, (hS.re (.nil _))⟩
   replace hF := bf c83 hF
   iterate 4 (refine o_sk rfl rfl ?_)
   refine o_gu rfl rfl rfl ?_
   iterate 2 (refine oy hS y_pickF ?_)
   refine oy hS y_not ?_
   refine n_thenN ?_
   refine c_if (ht := fun c86 => ?_) (hf := fun c86 => ?_)
   · replace hF := bt c86 hF
     refine c_seq ?_
     refine c_region ?_
     refine oy hS y_assign ?_
     refine n_thenN ?_
     obtain rfl := Option.some.inj hF
     obtain rfl : _ = r := hK62
     exact wp_ret (wr1 hS)
   replace hF := bf c86 hF
   refine wp_skip ?_
   refine c_region ?_
   refine oy hS y_move ?_
   refine oy hS y_bin ?_
   refine oy hS y_assign ?_
   refine n_thenN ?_
   obtain rfl := Option.some.inj hF
   exact ⟨_, hK62, mk_ex, (hS.re (.nil _))⟩
 replace hF := bf c65 hF
 refine wp_exit ?_
 refine c_seq ?_
 refine c_region ?_
 refine oy hS y_assign ?_
 refine n_thenN ?_
 obtain rfl := Option.some.inj hF
 obtain rfl : _ = r := hK62
 exact wp_ret (wr1 hS)
theorem w_r3_Name {g : Frag} {a0 : ByteArray} {r : Bool}  (hF : r3_Name a0 = some r) : LCs Try.prog 69 #[.string a0] g (.bool r) := w_r3_Name_  hF

noncomputable def r1_Fits (a0 : Int) (a1 : Int) : Option Bool :=
  (shl' .i64 1 (IntKind.i64.wrap (a1 - 1))).bind fun x1 => bif decide ((IntKind.i64.wrap (0 - x1)) ≤ a0) then some (decide (a0 < x1)) else some (false)
set_option maxHeartbeats 2000000 in
theorem w_r1_Fits_ {g : Frag} {a0 : Int} {a1 : Int} {r : Bool}  (hF : r1_Fits a0 a1 = some r) : LCs Try.prog 70 #[.int .i64 a0, .int .i64 a1] g (.bool r) := by
 unfold r1_Fits at hF
 refine lc_body (k := 18) (av := [.int .i64 a0, .int .i64 a1]) Try.func70 rfl rfl (h := fun W hS => ?_)
 refine c_seq ?_
 refine c_region ?_
 refine oy hS y_assign ?_
 refine n_thenN ?_
 refine c_seq ?_
 refine c_region ?_
 refine oy hS y_move ?_
 refine oy hS y_bin ?_
 obtain ⟨x1, hx1, hF⟩ := ob hF
 refine oy hS (y_shl hx1) ?_
 refine oy hS y_assign ?_
 refine n_thenN ?_
 refine c_seq ?_
 refine c_region ?_
 iterate 2 (refine oy hS y_move ?_)
 refine oy hS y_neg ?_
 refine oy hS y_bin ?_
 refine o_split (ht := fun c2 => ?_) (hf := fun c2 => ?_)
 · replace hF := bt c2 hF
   refine o_gu rfl rfl rfl ?_
   refine oy hS y_move ?_
   refine o_gu rfl rfl rfl ?_
   refine oy hS y_move ?_
   refine o_gu rfl rfl rfl ?_
   refine oy hS y_bin ?_
   refine oy hS y_pickT ?_
   refine oy hS y_assign ?_
   refine n_thenN ?_
   obtain rfl := Option.some.inj hF
   exact wp_ret (wr1 hS)
 replace hF := bf c2 hF
 iterate 3 (refine o_sk rfl rfl ?_)
 refine oy hS y_pickF ?_
 refine oy hS y_assign ?_
 refine n_thenN ?_
 obtain rfl := Option.some.inj hF
 exact wp_ret (wr1 hS)
theorem w_r1_Fits {g : Frag} {a0 : Int} {a1 : Int} {r : Bool}  (hF : r1_Fits a0 a1 = some r) : LCs Try.prog 70 #[.int .i64 a0, .int .i64 a1] g (.bool r) := w_r1_Fits_  hF

def r3_Target (a0 : Int) : Bool :=
  bif decide (a0 = 8) then true else decide (a0 = 9)
set_option maxHeartbeats 2000000 in
theorem w_r3_Target_ {g : Frag} {a0 : Int} {r : Bool}  (hF : r3_Target a0 = r) : LCs Try.prog 71 #[.int .i64 a0] g (.bool r) := by
 unfold r3_Target at hF
 refine lc_body (k := 9) (av := [.int .i64 a0]) Try.func71 rfl rfl (h := fun W hS => ?_)
 refine c_seq ?_
 refine c_region ?_
 refine oy hS y_assign ?_
 refine n_thenN ?_
 refine c_seq ?_
 refine c_region ?_
 refine oy hS y_move ?_
 refine oy hS y_bin ?_
 refine o_split (ht := fun c1 => ?_) (hf := fun c1 => ?_)
 · replace hF := bt c1 hF
   iterate 2 (refine o_sk rfl rfl ?_)
   refine oy hS y_pickT ?_
   refine oy hS y_assign ?_
   refine n_thenN ?_
   subst hF
   exact wp_ret (wr1 hS)
 replace hF := bf c1 hF
 refine o_gu rfl rfl rfl ?_
 refine oy hS y_move ?_
 refine o_gu rfl rfl rfl ?_
 refine oy hS y_bin ?_
 refine oy hS y_pickF ?_
 refine oy hS y_assign ?_
 refine n_thenN ?_
 subst hF
 exact wp_ret (wr1 hS)
theorem w_r3_Target {g : Frag} {a0 : Int}  : LCs Try.prog 71 #[.int .i64 a0] g (.bool (r3_Target a0)) := w_r3_Target_  rfl

def r3_Bits (a0 : Int) : Int :=
  bif decide (a0 = 3) then bif decide (a0 = 3) then 14 else bif decide (a0 = 4) then bif decide (a0 = 4) then 18 else 0 else bif decide (a0 = 8) then 18 else 0 else bif decide (a0 = 5) then bif decide (a0 = 5) then 14 else bif decide (a0 = 4) then bif decide (a0 = 4) then 18 else 0 else bif decide (a0 = 8) then 18 else 0 else bif decide (a0 = 9) then 14 else bif decide (a0 = 4) then bif decide (a0 = 4) then 18 else 0 else bif decide (a0 = 8) then 18 else 0
set_option maxHeartbeats 2000000 in
theorem w_r3_Bits_ {g : Frag} {a0 : Int} {r : Int}  (hF : r3_Bits a0 = r) : LCs Try.prog 72 #[.int .i64 a0] g (.int .i64 r) := by
 unfold r3_Bits at hF
 refine lc_body (k := 11) (av := [.int .i64 a0]) Try.func72 rfl rfl (h := fun W hS => ?_)
 refine c_seq ?_
 refine c_region ?_
 refine oy hS y_assign ?_
 refine n_thenN ?_
 iterate 2 (refine c_seq ?_)
 refine c_region ?_
 refine oy hS y_move ?_
 refine n_thenN ?_
 refine c_block ?_
 iterate 2 (refine c_seq ?_)
 refine c_region ?_
 refine oy hS y_bin ?_
 refine oy hS y_assign ?_
 refine n_thenN ?_
 refine c_if (ht := fun c1 => ?_) (hf := fun c1 => ?_)
 · replace hF := bt c1 hF
   refine wp_skip ?_
   refine c_if (ht := fun c2 => ?_) (hf := fun c2 => ?_)
   · replace hF := bt c2 hF
     refine c_seq ?_
     refine c_region ?_
     refine oy hS y_assign ?_
     refine n_thenN ?_
     subst hF
     exact wp_ret (wr1 hS)
   replace hF := bf c2 hF
   iterate 2 (refine c_seq ?_)
   refine c_region ?_
   refine oy hS y_bin ?_
   refine oy hS y_assign ?_
   refine n_thenN ?_
   refine c_if (ht := fun c3 => ?_) (hf := fun c3 => ?_)
   · replace hF := bt c3 hF
     refine wp_skip ?_
     refine c_if (ht := fun c4 => ?_) (hf := fun c4 => ?_)
     · replace hF := bt c4 hF
       refine c_seq ?_
       refine c_region ?_
       refine oy hS y_assign ?_
       refine n_thenN ?_
       subst hF
       exact wp_ret (wr1 hS)
     replace hF := bf c4 hF
     refine wp_skip ?_
     refine c_seq ?_
     refine c_region ?_
     refine oy hS y_assign ?_
     refine n_thenN ?_
     subst hF
     exact wp_ret (wr1 hS)
   replace hF := bf c3 hF
   refine c_region ?_
   refine oy hS y_bin ?_
   refine oy hS y_assign ?_
   refine n_thenN ?_
   refine c_if (ht := fun c5 => ?_) (hf := fun c5 => ?_)
   · replace hF := bt c5 hF
     refine c_seq ?_
     refine c_region ?_
     refine oy hS y_assign ?_
     refine n_thenN ?_
     subst hF
     exact wp_ret (wr1 hS)
   replace hF := bf c5 hF
   refine wp_skip ?_
   refine c_seq ?_
   refine c_region ?_
   refine oy hS y_assign ?_
   refine n_thenN ?_
   subst hF
   exact wp_ret (wr1 hS)
 replace hF := bf c1 hF
 refine c_seq ?_
 refine c_region ?_
 refine oy hS y_bin ?_
 refine oy hS y_assign ?_
 refine n_thenN ?_
 refine c_if (ht := fun c6 => ?_) (hf := fun c6 => ?_)
 · replace hF := bt c6 hF
   refine wp_skip ?_
   refine c_if (ht := fun c7 => ?_) (hf := fun c7 => ?_)
   · replace hF := bt c7 hF
     refine c_seq ?_
     refine c_region ?_
     refine oy hS y_assign ?_
     refine n_thenN ?_
     subst hF
     exact wp_ret (wr1 hS)
   replace hF := bf c7 hF
   iterate 2 (refine c_seq ?_)
   refine c_region ?_
   refine oy hS y_bin ?_
   refine oy hS y_assign ?_
   refine n_thenN ?_
   refine c_if (ht := fun c8 => ?_) (hf := fun c8 => ?_)
   · replace hF := bt c8 hF
     refine wp_skip ?_
     refine c_if (ht := fun c9 => ?_) (hf := fun c9 => ?_)
     · replace hF := bt c9 hF
       refine c_seq ?_
       refine c_region ?_
       refine oy hS y_assign ?_
       refine n_thenN ?_
       subst hF
       exact wp_ret (wr1 hS)
     replace hF := bf c9 hF
     refine wp_skip ?_
     refine c_seq ?_
     refine c_region ?_
     refine oy hS y_assign ?_
     refine n_thenN ?_
     subst hF
     exact wp_ret (wr1 hS)
   replace hF := bf c8 hF
   refine c_region ?_
   refine oy hS y_bin ?_
   refine oy hS y_assign ?_
   refine n_thenN ?_
   refine c_if (ht := fun c10 => ?_) (hf := fun c10 => ?_)
   · replace hF := bt c10 hF
     refine c_seq ?_
     refine c_region ?_
     refine oy hS y_assign ?_
     refine n_thenN ?_
     subst hF
     exact wp_ret (wr1 hS)
   replace hF := bf c10 hF
   refine wp_skip ?_
   refine c_seq ?_
   refine c_region ?_
   refine oy hS y_assign ?_
   refine n_thenN ?_
   subst hF
   exact wp_ret (wr1 hS)
 replace hF := bf c6 hF
 refine c_region ?_
 refine oy hS y_bin ?_
 refine oy hS y_assign ?_
 refine n_thenN ?_
 refine c_if (ht := fun c11 => ?_) (hf := fun c11 => ?_)
 · replace hF := bt c11 hF
   refine c_seq ?_
   refine c_region ?_
   refine oy hS y_assign ?_
   refine n_thenN ?_
   subst hF
   exact wp_ret (wr1 hS)
 replace hF := bf c11 hF
 iterate 2 (refine c_seq ?_)
 refine c_region ?_
 refine oy hS y_bin ?_
 refine oy hS y_assign ?_
 refine n_thenN ?_
 refine c_if (ht := fun c12 => ?_) (hf := fun c12 => ?_)
 · replace hF := bt c12 hF
   refine wp_skip ?_
   refine c_if (ht := fun c13 => ?_) (hf := fun c13 => ?_)
   · replace hF := bt c13 hF
     refine c_seq ?_
     refine c_region ?_
     refine oy hS y_assign ?_
     refine n_thenN ?_
     subst hF
     exact wp_ret (wr1 hS)
   replace hF := bf c13 hF
   refine wp_skip ?_
   refine c_seq ?_
   refine c_region ?_
   refine oy hS y_assign ?_
   refine n_thenN ?_
   subst hF
   exact wp_ret (wr1 hS)
 replace hF := bf c12 hF
 refine c_region ?_
 refine oy hS y_bin ?_
 refine oy hS y_assign ?_
 refine n_thenN ?_
 refine c_if (ht := fun c14 => ?_) (hf := fun c14 => ?_)
 · replace hF := bt c14 hF
   refine c_seq ?_
   refine c_region ?_
   refine oy hS y_assign ?_
   refine n_thenN ?_
   subst hF
   exact wp_ret (wr1 hS)
 replace hF := bf c14 hF
 refine wp_skip ?_
 refine c_seq ?_
 refine c_region ?_
 refine oy hS y_assign ?_
 refine n_thenN ?_
 subst hF
 exact wp_ret (wr1 hS)
theorem w_r3_Bits {g : Frag} {a0 : Int}  : LCs Try.prog 72 #[.int .i64 a0] g (.int .i64 (r3_Bits a0)) := w_r3_Bits_  rfl

noncomputable def r3_Ins_k1 (a0 : T_Ins) (r3 : Int) : Unit → Option Bool := fun _ => bif !(decide (a0.Sym = (ByteArray.mk #[]))) then (r3_Name a0.Sym).bind fun r14 => bif r14 then bif decide (a0.Op = 23) then (r1_Fits a0.Imm 18).bind fun r17 => bif r17 then some (true) else bif (r3_Target r3) then some (decide (a0.Imm = 0)) else some (false) else bif (r3_Target r3) then some (decide (a0.Imm = 0)) else some (false) else some (false) else bif (r3_Target r3) then some (r0_Num a0.Imm 1023) else bif decide (0 < (r3_Bits r3)) then (r1_Fits a0.Imm (r3_Bits r3)).bind fun r23 => some (r23) else some (decide (a0.Imm = 0))
noncomputable def r3_Ins (a0 : T_Ins) : Option Bool :=
  bif !(r3_Valid a0.Op) then some (false) else (r3_Form a0.Op).bind fun r3 => cut (σ := Unit) (bif !(r3_reg a0.D (r3_HasD r3)) then some (.done (false)) else bif !(r3_reg a0.A (r3_HasA r3)) then some (.done (false)) else bif !(r3_reg a0.B (r3_HasB r3)) then some (.done (false)) else some (.next ())) (r3_Ins_k1 a0 r3)
set_option maxHeartbeats 2000000 in
theorem w_r3_Ins_ {g : Frag} {a0 : T_Ins} {r : Bool}  (hF : r3_Ins a0 = some r) : LCs Try.prog 44 #[.agg #[.int .i64 a0.Op, .int .i64 a0.D, .int .i64 a0.A, .int .i64 a0.B, .int .i64 a0.Imm, .string a0.Sym]] g (.bool r) := by
 unfold r3_Ins at hF
 refine lc_body (k := 76) (av := [.agg #[.int .i64 a0.Op, .int .i64 a0.D, .int .i64 a0.A, .int .i64 a0.B, .int .i64 a0.Imm, .string a0.Sym]]) Try.func44 rfl rfl (h := fun W hS => ?_)
 refine c_seq ?_
 refine c_region ?_
 refine o_boxP (cl := [.int .i64 a0.Op, .int .i64 a0.D, .int .i64 a0.A, .int .i64 a0.B, .int .i64 a0.Imm, .string a0.Sym]) rfl hS ?_
 clear hS; intro b1 w hS
 refine oy hS y_assign ?_
 refine n_thenN ?_
 iterate 2 (refine c_seq ?_)
 refine c_region ?_
 refine oy hS (y_field fa_api_Ins_0) ?_
 refine oy hS (y_load (fun w hS => hS.own (mH)) Try.underlying3 rfl rfl) ?_
 refine o_callS hS Try.func64 rfl rfl (hc := (w_r3_Valid (a0 := a0.Op))) (h := ?_)
 clear hS; intro w hS
 refine oy hS y_not ?_
 refine n_thenN ?_
 refine c_if (ht := fun c2 => ?_) (hf := fun c2 => ?_)
 · replace hF := bt c2 hF
   refine c_seq ?_
   refine c_region ?_
   refine oy hS y_assign ?_
   refine n_thenN ?_
   obtain rfl := Option.some.inj hF
   exact wp_ret (wr1 hS)
 replace hF := bf c2 hF
 refine wp_skip ?_
 refine c_seq ?_
 refine c_region ?_
 refine oy hS (y_field fa_api_Ins_0) ?_
 refine oy hS (y_load (fun w hS => hS.own (mH)) Try.underlying3 rfl rfl) ?_
 obtain ⟨r3, hr3, hF⟩ := ob hF
 refine o_callS hS Try.func43 rfl rfl (hc := (w_r3_Form (a0 := a0.Op) (hF := hr3))) (h := ?_)
 clear hS; intro w hS
 refine oy hS y_assign ?_
 refine n_thenN ?_
 obtain ⟨z7, hF, hK8⟩ := cut_step hF
 refine c_cutP (fun a w' => r3_Ins_k1 a0 r3 () = some r ∧ (∃ s : Nat → Value, a = Ac (.lit 76 [s 0, .pointer (some ⟨b1, 0, none⟩), s 2, .int .i64 r3, s 4, s 5, s 6, s 7, s 8, s 9, s 10, s 11, s 12, s 13, s 14, s 15, s 16, s 17, s 18, s 19, s 20, s 21, s 22, s 23, s 24, s 25, s 26, s 27, s 28, s 29, s 30, s 31, s 32, s 33, s 34, s 35, s 36, s 37, s 38, s 39, s 40, s 41, s 42, s 43, s 44, s 45, s 46, s 47, s 48, s 49, s 50, s 51, s 52, s 53, s 54, s 55, s 56, s 57, s 58, s 59, s 60, s 61, s 62, s 63, s 64, s 65, s 66, s 67, s 68, s 69, s 70, s 71, s 72, s 73, s 74, s 75])) ∧ St W g [] ((b1, blk [.int .i64 a0.Op, .int .i64 a0.D, .int .i64 a0.A, .int .i64 a0.B, .int .i64 a0.Imm, .string a0.Sym] 43) :: []) w') ?_ ?_
 · skip
   refine c_seq ?_
   refine c_quiet (by kernel_rfl) (by kernel_rfl) hS ?_
   refine qy (y_field fa_api_Ins_1) ?_
   refine qy (y_load (fun w hS => hS.own (mH)) Try.underlying3 rfl rfl) ?_
   refine qy y_move ?_
   refine q_callS Try.func66 rfl rfl (hc := (w_r3_HasD (a0 := r3))) (h := ?_)
   refine q_callS Try.func65 rfl rfl (hc := (w_r3_reg (a0 := a0.D) (a1 := (r3_HasD r3)))) (h := ?_)
   refine qy y_not ?_
   refine q_split (ht := fun c9 => ?_) (hf := fun c9 => ?_)
   · replace hF := bt c9 hF
     iterate 6 (refine q_sk rfl rfl ?_)
     refine qy y_pickT ?_
     refine qy y_move ?_
     iterate 6 (refine q_sk rfl rfl ?_)
     refine qy y_pickT ?_
     refine q_nilN (h := ?_)
     clear hS; intro w hS
     refine c_if_true (h := ?_)
     refine c_seq ?_
     refine c_region ?_
     refine oy hS y_assign ?_
     refine n_thenN ?_
     obtain rfl := Option.some.inj hF
     obtain rfl : _ = r := hK8
     exact wp_ret (wr1 hS)
   replace hF := bf c9 hF
   refine q_gu rfl rfl rfl ?_
   refine qy (y_field fa_api_Ins_2) ?_
   refine q_gu rfl rfl rfl ?_
   refine qy (y_load (fun w hS => hS.own (mH)) Try.underlying3 rfl rfl) ?_
   refine q_gu rfl rfl rfl ?_
   refine qy y_move ?_
   refine q_gu rfl rfl rfl ?_
   refine q_callS Try.func67 rfl rfl (hc := (w_r3_HasA (a0 := r3))) (h := ?_)
   refine q_gu rfl rfl rfl ?_
   refine q_callS Try.func65 rfl rfl (hc := (w_r3_reg (a0 := a0.A) (a1 := (r3_HasA r3)))) (h := ?_)
   refine q_gu rfl rfl rfl ?_
   refine qy y_not ?_
   refine qy y_pickF ?_
   refine q_split (ht := fun c10 => ?_) (hf := fun c10 => ?_)
   · replace hF := bt c10 hF
     iterate 6 (refine q_sk rfl rfl ?_)
     refine qy y_pickT ?_
     refine q_nilN (h := ?_)
     clear hS; intro w hS
     refine c_if_true (h := ?_)
     refine c_seq ?_
     refine c_region ?_
     refine oy hS y_assign ?_
     refine n_thenN ?_
     obtain rfl := Option.some.inj hF
     obtain rfl : _ = r := hK8
     exact wp_ret (wr1 hS)
   replace hF := bf c10 hF
   refine q_gu rfl rfl rfl ?_
   refine qy (y_field fa_api_Ins_3) ?_
   refine q_gu rfl rfl rfl ?_
   refine qy (y_load (fun w hS => hS.own (mH)) Try.underlying3 rfl rfl) ?_
   refine q_gu rfl rfl rfl ?_
   refine qy y_move ?_
   refine q_gu rfl rfl rfl ?_
   refine q_callS Try.func68 rfl rfl (hc := (w_r3_HasB (a0 := r3))) (h := ?_)
   refine q_gu rfl rfl rfl ?_
   refine q_callS Try.func65 rfl rfl (hc := (w_r3_reg (a0 := a0.B) (a1 := (r3_HasB r3)))) (h := ?_)
   refine q_gu rfl rfl rfl ?_
   refine qy y_not ?_
   refine qy y_pickF ?_
   refine q_nilN (h := ?_)
   clear hS; intro w hS
   refine c_if (ht := fun c11 => ?_) (hf := fun c11 => ?_)
   · replace hF := bt c11 hF
     refine c_seq ?_
     refine c_region ?_
     refine oy hS y_assign ?_
     refine n_thenN ?_
     obtain rfl := Option.some.inj hF
     obtain rfl : _ = r := hK8
     exact wp_ret (wr1 hS)
   replace hF := bf c11 hF
   refine wp_skip ?_
   obtain rfl := Option.some.inj hF
   change _ ∧ _
   exact ⟨hK8, mk_ex, (hS.re (.takeb (.hereb _ _) (.nil _)))⟩
 rintro a w ⟨hF, ⟨s12, rfl⟩, hS⟩
 dsimp only [r3_Ins_k1] at hF
 iterate 2 (refine c_seq ?_)
 refine c_region ?_
 refine oy hS (y_field fa_api_Ins_5) ?_
 refine oy hS (y_load (fun w hS => hS.own (mH)) Try.underlying9 rfl rfl) ?_
 refine oy hS y_sneq ?_
 refine n_thenN ?_
 refine c_if (ht := fun c13 => ?_) (hf := fun c13 => ?_)
 · replace hF := bt c13 hF
   refine c_seq ?_
   refine c_region ?_
   refine oy hS (y_field fa_api_Ins_5) ?_
   refine oy hS (y_load (fun w hS => hS.own (mH)) Try.underlying9 rfl rfl) ?_
   obtain ⟨r14, hr14, hF⟩ := ob hF
   refine o_callS hS Try.func69 rfl rfl (hc := (w_r3_Name (a0 := a0.Sym) (hF := hr14))) (h := ?_)
   clear hS; intro w hS
   refine o_split (ht := fun c15 => ?_) (hf := fun c15 => ?_)
   · replace hF := bt c15 hF
     refine o_gu rfl rfl rfl ?_
     refine oy hS (y_field fa_api_Ins_0) ?_
     refine o_gu rfl rfl rfl ?_
     refine oy hS (y_load (fun w hS => hS.own (mH)) Try.underlying3 rfl rfl) ?_
     refine o_gu rfl rfl rfl ?_
     refine oy hS y_bin ?_
     refine o_gu rfl rfl rfl ?_
     refine o_split (ht := fun c16 => ?_) (hf := fun c16 => ?_)
     · replace hF := bt c16 hF
       refine o_gu rfl rfl rfl ?_
       refine oy hS (y_field fa_api_Ins_4) ?_
       refine o_gu rfl rfl rfl ?_
       refine oy hS (y_load (fun w hS => hS.own (mH)) Try.underlying3 rfl rfl) ?_
       refine o_gu rfl rfl rfl ?_
       obtain ⟨r17, hr17, hF⟩ := ob hF
       refine o_callS hS Try.func70 rfl rfl (hc := (w_r1_Fits (a0 := a0.Imm) (a1 := 18) (hF := hr17))) (h := ?_)
       clear hS; intro w hS
       refine o_gu rfl rfl rfl ?_
       refine oy hS y_pickT ?_
       refine o_gu rfl rfl rfl ?_
       refine o_split (ht := fun c18 => ?_) (hf := fun c18 => ?_)
       · replace hF := bt c18 hF
         iterate 3 (refine o_sk rfl rfl ?_)
         iterate 3 (refine o_sku rfl rfl ?_)
         refine o_sk rfl rfl ?_
         refine o_gu rfl rfl rfl ?_
         iterate 2 (refine oy hS y_pickT ?_)
         refine oy hS y_assign ?_
         refine n_thenN ?_
         obtain rfl := Option.some.inj hF
         exact wp_ret (wr1 hS)
       replace hF := bf c18 hF
       refine o_gu rfl rfl rfl ?_
       refine oy hS y_move ?_
       refine o_gu rfl rfl rfl ?_
       refine o_callS hS Try.func71 rfl rfl (hc := (w_r3_Target (a0 := r3))) (h := ?_)
       clear hS; intro w hS
       refine o_gu rfl rfl rfl ?_
       refine o_split (ht := fun c19 => ?_) (hf := fun c19 => ?_)
       · replace hF := bt c19 hF
         refine o_gu rfl rfl rfl ?_
         refine oy hS (y_field fa_api_Ins_4) ?_
         refine o_gu rfl rfl rfl ?_
         refine oy hS (y_load (fun w hS => hS.own (mH)) Try.underlying3 rfl rfl) ?_
         refine o_gu rfl rfl rfl ?_
         refine oy hS y_bin ?_
         refine o_gu rfl rfl rfl ?_
         refine oy hS y_pickT ?_
         refine o_gu rfl rfl rfl ?_
         refine oy hS y_pickF ?_
         refine oy hS y_pickT ?_
         refine oy hS y_assign ?_
         refine n_thenN ?_
         obtain rfl := Option.some.inj hF
         exact wp_ret (wr1 hS)
       replace hF := bf c19 hF
       iterate 3 (refine o_sk rfl rfl ?_)
       refine o_gu rfl rfl rfl ?_
       refine oy hS y_pickF ?_
       refine o_gu rfl rfl rfl ?_
       refine oy hS y_pickF ?_
       refine oy hS y_pickT ?_
       refine oy hS y_assign ?_
       refine n_thenN ?_
       obtain rfl := Option.some.inj hF
       exact wp_ret (wr1 hS)
     replace hF := bf c16 hF
     iterate 3 (refine o_sk rfl rfl ?_)
     refine o_gu rfl rfl rfl ?_
     refine oy hS y_pickF ?_
     refine o_gu rfl rfl rfl ?_
     refine oy hS y_move ?_
     refine o_gu rfl rfl rfl ?_
     refine oy hS y_move ?_
     refine o_gu rfl rfl rfl ?_
     refine o_callS hS Try.func71 rfl rfl (hc := (w_r3_Target (a0 := r3))) (h := ?_)
     clear hS; intro w hS
     refine o_gu rfl rfl rfl ?_
     refine o_split (ht := fun c20 => ?_) (hf := fun c20 => ?_)
     · replace hF := bt c20 hF
       refine o_gu rfl rfl rfl ?_
       refine oy hS (y_field fa_api_Ins_4) ?_
       refine o_gu rfl rfl rfl ?_
       refine oy hS (y_load (fun w hS => hS.own (mH)) Try.underlying3 rfl rfl) ?_
       refine o_gu rfl rfl rfl ?_
       refine oy hS y_bin ?_
       refine o_gu rfl rfl rfl ?_
       refine oy hS y_pickT ?_
       refine o_gu rfl rfl rfl ?_
       refine oy hS y_pickF ?_
       refine oy hS y_pickT ?_
       refine oy hS y_assign ?_
       refine n_thenN ?_
       obtain rfl := Option.some.inj hF
       exact wp_ret (wr1 hS)
     replace hF := bf c20 hF
     iterate 3 (refine o_sk rfl rfl ?_)
     refine o_gu rfl rfl rfl ?_
     refine oy hS y_pickF ?_
     refine o_gu rfl rfl rfl ?_
     refine oy hS y_pickF ?_
     refine oy hS y_pickT ?_
     refine oy hS y_assign ?_
     refine n_thenN ?_
     obtain rfl := Option.some.inj hF
     exact wp_ret (wr1 hS)
   replace hF := bf c15 hF
   iterate 4 (refine o_sk rfl rfl ?_)
   iterate 3 (refine o_sku rfl rfl ?_)
   iterate 2 (refine o_sk rfl rfl ?_)
   iterate 7 (refine o_sku rfl rfl ?_)
   refine o_sk rfl rfl ?_
   refine oy hS y_pickF ?_
   refine oy hS y_assign ?_
   refine n_thenN ?_
   obtain rfl := Option.some.inj hF
   exact wp_ret (wr1 hS)
 replace hF := bf c13 hF
 refine wp_skip ?_
 refine c_seq ?_
 refine c_block ?_
 refine c_seq ?_
 refine c_region ?_
 refine oy hS y_move ?_
 refine o_callS hS Try.func71 rfl rfl (hc := (w_r3_Target (a0 := r3))) (h := ?_)
 clear hS; intro w hS
 refine oy hS y_assign ?_
 refine n_thenN ?_
 refine c_if (ht := fun c21 => ?_) (hf := fun c21 => ?_)
 · replace hF := bt c21 hF
   refine c_seq ?_
   refine c_region ?_
   refine oy hS (y_field fa_api_Ins_4) ?_
   refine oy hS (y_load (fun w hS => hS.own (mH)) Try.underlying3 rfl rfl) ?_
   refine o_callS hS Try.func29 rfl rfl (hc := (w_r0_Num (a0 := a0.Imm) (a1 := 1023))) (h := ?_)
   clear hS; intro w hS
   refine oy hS y_assign ?_
   refine n_thenN ?_
   obtain rfl := Option.some.inj hF
   exact wp_ret (wr1 hS)
 replace hF := bf c21 hF
 refine c_seq ?_
 refine c_region ?_
 refine oy hS y_move ?_
 refine o_callS hS Try.func72 rfl rfl (hc := (w_r3_Bits (a0 := r3))) (h := ?_)
 clear hS; intro w hS
 refine oy hS y_bin ?_
 refine oy hS y_assign ?_
 refine n_thenN ?_
 refine c_if (ht := fun c22 => ?_) (hf := fun c22 => ?_)
 · replace hF := bt c22 hF
   refine c_seq ?_
   refine c_quiet (by kernel_rfl) (by kernel_rfl) hS ?_
   refine qy (y_field fa_api_Ins_4) ?_
   refine qy (y_load (fun w hS => hS.own (mH)) Try.underlying3 rfl rfl) ?_
   refine qy y_move ?_
   refine q_callS Try.func72 rfl rfl (hc := (w_r3_Bits (a0 := r3))) (h := ?_)
   obtain ⟨r23, hr23, hF⟩ := ob hF
   refine q_callS Try.func70 rfl rfl (hc := (w_r1_Fits (a0 := a0.Imm) (a1 := (r3_Bits r3)) (hF := hr23))) (h := ?_)
   refine qy y_assign ?_
   refine q_nilN (h := ?_)
   clear hS; intro w hS
   obtain rfl := Option.some.inj hF
   exact wp_ret (wr1 hS)
 replace hF := bf c22 hF
 refine wp_skip ?_
 refine c_seq ?_
 refine c_region ?_
 refine oy hS (y_field fa_api_Ins_4) ?_
 refine oy hS (y_load (fun w hS => hS.own (mH)) Try.underlying3 rfl rfl) ?_
 refine oy hS y_bin ?_
 refine oy hS y_assign ?_
 refine n_thenN ?_
 obtain rfl := Option.some.inj hF
 exact wp_ret (wr1 hS)
theorem w_r3_Ins {g : Frag} {a0 : T_Ins} {r : Bool}  (hF : r3_Ins a0 = some r) : LCs Try.prog 44 #[.agg #[.int .i64 a0.Op, .int .i64 a0.D, .int .i64 a0.A, .int .i64 a0.B, .int .i64 a0.Imm, .string a0.Sym]] g (.bool r) := w_r3_Ins_  hF

noncomputable def r3_Program_b1 (a0 : (List T_Ins)) : Int → Option (Step Int Bool) := fun x30 => bif decide (x30 < (a0.length : Int)) then bif decide (x30 ≤ 1024) then (at' a0 x30).bind fun x66 => (r3_Ins x66).bind fun r78 => bif !r78 then some (.done (false)) else (at' a0 x30).bind fun x80 => bif !(decide (x80.Sym = (ByteArray.mk #[]))) then some (.done (false)) else some (.next (IntKind.i64.wrap (x30 + 1))) else some (.done (decide ((a0.length : Int) ≤ 1024))) else some (.done (decide ((a0.length : Int) ≤ 1024)))
noncomputable def r3_Program (a0 : (List T_Ins)) : Option Bool :=
  loop (σ := Int) (r3_Program_b1 a0) 0
set_option maxHeartbeats 2000000 in
theorem w_r3_Program_ {g : Frag} {a0 : (List T_Ins)} {v0_ : Value} {r : Bool} (h0 : SlT g enc_Ins 6 a0 v0_) (hF : r3_Program a0 = some r) : LCs Try.prog 35 #[v0_] g (.bool r) := by
 unfold r3_Program at hF
 refine lc_body (k := 31) (av := [v0_]) Try.func35 rfl rfl (h := fun W hS => ?_)
 refine c_seq ?_
 refine c_region ?_
 refine oy hS y_assign ?_
 refine n_thenN ?_
 iterate 2 (refine c_seq ?_)
 refine c_region ?_
 refine oy hS y_assign ?_
 refine n_thenN ?_
 refine c_block ?_
 refine c_loopP hF (fun (q : Int) a w' => (∃ s : Nat → Value, a = Ac (.lit 31 [v0_, s 1, s 2, .int .i64 q, s 4, s 5, s 6, s 7, s 8, s 9, s 10, s 11, s 12, s 13, s 14, s 15, s 16, s 17, s 18, s 19, s 20, s 21, s 22, s 23, s 24, s 25, s 26, s 27, s 28, s 29, s 30])) ∧ St W g [] [] w') ⟨mk_ex, (hS.re (.nil _))⟩ ?_
 clear hS hF
 intro n62 q a w hI hq
 revert hq hI; revert q; intro x30 hI hq
 obtain ⟨⟨s63, rfl⟩, hS⟩ := hq
 obtain ⟨z60, hF, hK61⟩ := iter_step hI
 clear hI
 dsimp only [r3_Program_b1] at hF
 iterate 2 (refine c_seq ?_)
 refine c_region ?_
 iterate 2 (refine oy hS y_move ?_)
 refine oy hS (y_len h0 Try.underlying22) ?_
 refine oy hS y_bin ?_
 refine o_split (ht := fun c64 => ?_) (hf := fun c64 => ?_)
 · replace hF := bt c64 hF
   refine o_gu rfl rfl rfl ?_
   refine oy hS y_move ?_
   refine o_gu rfl rfl rfl ?_
   refine oy hS y_bin ?_
   refine oy hS y_pickT ?_
   refine n_thenN ?_
   refine c_if (ht := fun c65 => ?_) (hf := fun c65 => ?_)
   · replace hF := bt c65 hF
     refine wp_skip ?_
     refine c_seq ?_
     refine c_block ?_
     refine c_seq ?_
     refine c_region ?_
     iterate 2 (refine oy hS y_move ?_)
     obtain ⟨x66, hx66, hF⟩ := ob hF
     obtain ⟨b67, o68, c69, cs70, e71, fz72, hv73, ha74, hb75, hd76, hc77⟩ := SlT.at hx66 h0 enc_len_Ins
     refine oy hS (y_index hv73 ha74 hb75 Try.underlying22 el_api_Ins.size) ?_
     refine oy hS (y_loadN (vs := [.int .i64 x66.Op, .int .i64 x66.D, .int .i64 x66.A, .int .i64 x66.B, .int .i64 x66.Imm, .string x66.Sym]) (fun w hS => hS.block hd76) Try.underlying43 rfl (by exact sz_api_Ins) (fun j u hj => hc77 j u hj)) ?_
     obtain ⟨r78, hr78, hF⟩ := ob hF
     refine o_callS hS Try.func44 rfl rfl (hc := (w_r3_Ins (a0 := x66) (hF := hr78))) (h := ?_)
     clear hS; intro w hS
     refine oy hS y_not ?_
     refine o_split (ht := fun c79 => ?_) (hf := fun c79 => ?_)
     · replace hF := bt c79 hF
       iterate 6 (refine o_sk rfl rfl ?_)
       refine oy hS y_pickT ?_
       refine n_thenN ?_
       refine c_if_true (h := ?_)
       refine c_seq ?_
       refine c_region ?_
       refine oy hS y_assign ?_
       refine n_thenN ?_
       obtain rfl := Option.some.inj hF
       obtain rfl : _ = r := hK61
       exact wp_ret (wr1 hS)
     replace hF := bf c79 hF
     refine o_gu rfl rfl rfl ?_
     refine oy hS y_move ?_
     refine o_gu rfl rfl rfl ?_
     refine oy hS y_move ?_
     refine o_gu rfl rfl rfl ?_
     obtain ⟨x80, hx80, hF⟩ := ob hF
     obtain ⟨b81, o82, c83, cs84, e85, fz86, hv87, ha88, hb89, hd90, hc91⟩ := SlT.at hx80 h0 enc_len_Ins
     refine oy hS (y_index hv87 ha88 hb89 Try.underlying22 el_api_Ins.size) ?_
     refine o_gu rfl rfl rfl ?_
     refine oy hS (y_field fa_api_Ins_5) ?_
     refine o_gu rfl rfl rfl ?_
     refine oy hS (y_load (fun w hS => hS.block hd90) Try.underlying9 rfl (hc91 5 _ rfl)) ?_
     refine o_gu rfl rfl rfl ?_
     refine oy hS y_sneq ?_
     refine oy hS y_pickF ?_
     refine n_thenN ?_
     refine c_if (ht := fun c92 => ?_) (hf := fun c92 => ?_)
     · replace hF := bt c92 hF
       refine c_seq ?_
       refine c_region ?_
       refine oy hS y_assign ?_
       refine n_thenN ?_
       obtain rfl := Option.some.inj hF
       obtain rfl : _ = r := hK61
       exact wp_ret (wr1 hS)
     replace hF := bf c92 hF
     refine wp_skip ?_
     refine c_region ?_
     refine oy hS y_move ?_
     refine oy hS y_bin ?_
     refine oy hS y_assign ?_
     refine n_thenN ?_
     obtain rfl := Option.some.inj hF
     exact ⟨_, hK61, mk_ex, (hS.re (.nil _))⟩
   replace hF := bf c65 hF
   refine wp_exit ?_
   refine c_seq ?_
   refine c_region ?_
   refine oy hS y_move ?_
   refine oy hS (y_len h0 Try.underlying22) ?_
   refine oy hS y_bin ?_
   refine oy hS y_assign ?_
   refine n_thenN ?_
   obtain rfl := Option.some.inj hF
   obtain rfl : _ = r := hK61
   exact wp_ret (wr1 hS)
 replace hF := bf c64 hF
 iterate 2 (refine o_sk rfl rfl ?_)
 refine oy hS y_pickF ?_
 refine n_thenN ?_
 refine c_if_false (h := ?_)
 refine wp_exit ?_
 refine c_seq ?_
 refine c_region ?_
 refine oy hS y_move ?_
 refine oy hS (y_len h0 Try.underlying22) ?_
 refine oy hS y_bin ?_
 refine oy hS y_assign ?_
 refine n_thenN ?_
 obtain rfl := Option.some.inj hF
 obtain rfl : _ = r := hK61
 exact wp_ret (wr1 hS)
theorem w_r3_Program {g : Frag} {a0 : (List T_Ins)} {v0_ : Value} {r : Bool} (h0 : SlT g enc_Ins 6 a0 v0_) (hF : r3_Program a0 = some r) : LCs Try.prog 35 #[v0_] g (.bool r) := w_r3_Program_ h0 hF

noncomputable def r5_common_b2 (a0 : T_State) : Int → Option (Step Int Bool) := fun x31 => bif decide (x31 < (a0.Stack.length : Int)) then (at' a0.Stack x31).bind fun x51 => bif !(r0_Num x51 1024) then some (.done (false)) else some (.next (IntKind.i64.wrap (x31 + 1))) else some (.done (true))
noncomputable def r5_common_k1 (a0 : T_State) : Unit → Option Bool := fun _ => loop (σ := Int) (r5_common_b2 a0) 0
noncomputable def r5_common (a0 : T_State) : Option Bool :=
  cut (σ := Unit) (bif decide ((a0.Regs.length : Int) ≠ 16) then some (.done (false)) else bif decide ((a0.Mem.length : Int) ≠ 256) then some (.done (false)) else bif decide (100 < (a0.In_.length : Int)) then some (.done (false)) else bif !(r0_Num a0.Taken (a0.In_.length : Int)) then some (.done (false)) else bif !(r0_Num a0.PC 1024) then some (.done (false)) else bif decide (16 < (a0.Stack.length : Int)) then some (.done (false)) else some (.next ())) (r5_common_k1 a0)
set_option maxHeartbeats 2000000 in
theorem w_r5_common_ {g : Frag} {a0 : T_State} {v0_ : Value} {r : Bool} (h0 : Rd_State g a0 v0_) (hF : r5_common a0 = some r) : LCs Try.prog 48 #[v0_] g (.bool r) := by
 obtain ⟨v0_0_, v0_1_, v0_2_, v0_4_, v0_6_, v0_8_, rfl, h0_0_, h0_1_, h0_2_, h0_4_, h0_6_, h0_8_⟩ := h0
 unfold r5_common at hF
 refine lc_body (k := 55) (av := [.agg #[v0_0_, v0_1_, v0_2_, .int .i64 a0.Taken, v0_4_, .int .i64 a0.PC, v0_6_, .int .i64 a0.Stop, v0_8_, .int .i64 a0.Jump, .int .i64 a0.Delay]]) Try.func48 rfl rfl (h := fun W hS => ?_)
 refine c_seq ?_
 refine c_region ?_
 refine o_boxP (cl := [v0_0_, v0_1_, v0_2_, .int .i64 a0.Taken, v0_4_, .int .i64 a0.PC, v0_6_, .int .i64 a0.Stop, v0_8_, .int .i64 a0.Jump, .int .i64 a0.Delay]) rfl hS ?_
 clear hS; intro b1 w hS
 refine oy hS y_assign ?_
 refine n_thenN ?_
 obtain ⟨z8, hF, hK9⟩ := cut_step hF
 refine c_cutP (fun a w' => r5_common_k1 a0 () = some r ∧ (∃ s : Nat → Value, a = Ac (.lit 55 [s 0, .pointer (some ⟨b1, 0, none⟩), s 2, s 3, s 4, s 5, s 6, s 7, s 8, s 9, s 10, s 11, s 12, s 13, s 14, s 15, s 16, s 17, s 18, s 19, s 20, s 21, s 22, s 23, s 24, s 25, s 26, s 27, s 28, s 29, s 30, s 31, s 32, s 33, s 34, s 35, s 36, s 37, s 38, s 39, s 40, s 41, s 42, s 43, s 44, s 45, s 46, s 47, s 48, s 49, s 50, s 51, s 52, s 53, s 54])) ∧ St W g [] ((b1, blk [v0_0_, v0_1_, v0_2_, .int .i64 a0.Taken, v0_4_, .int .i64 a0.PC, v0_6_, .int .i64 a0.Stop, v0_8_, .int .i64 a0.Jump, .int .i64 a0.Delay] 27) :: []) w') ?_ ?_
 · skip
   refine c_seq ?_
   refine c_region ?_
   refine oy hS (y_field fa_api_State_0) ?_
   refine oy hS (y_load (fun w hS => hS.own (mH)) Try.underlying23 rfl rfl) ?_
   refine oy hS (y_len h0_0_ Try.underlying23) ?_
   refine oy hS y_bin ?_
   refine o_split (ht := fun c10 => ?_) (hf := fun c10 => ?_)
   · replace hF := bt c10 hF
     iterate 4 (refine o_sk rfl rfl ?_)
     refine oy hS y_pickT ?_
     refine oy hS y_move ?_
     iterate 4 (refine o_sk rfl rfl ?_)
     refine oy hS y_pickT ?_
     refine oy hS y_move ?_
     iterate 7 (refine o_sk rfl rfl ?_)
     refine oy hS y_pickT ?_
     refine oy hS y_move ?_
     iterate 4 (refine o_sk rfl rfl ?_)
     refine oy hS y_pickT ?_
     refine oy hS y_move ?_
     iterate 4 (refine o_sk rfl rfl ?_)
     refine oy hS y_pickT ?_
     refine n_thenN ?_
     refine c_if_true (h := ?_)
     refine c_seq ?_
     refine c_region ?_
     refine oy hS y_assign ?_
     refine n_thenN ?_
     obtain rfl := Option.some.inj hF
     obtain rfl : _ = r := hK9
     exact wp_ret (wr1 hS)
   replace hF := bf c10 hF
   refine o_gu rfl rfl rfl ?_
   refine oy hS (y_field fa_api_State_1) ?_
   refine o_gu rfl rfl rfl ?_
   refine oy hS (y_load (fun w hS => hS.own (mH)) Try.underlying23 rfl rfl) ?_
   refine o_gu rfl rfl rfl ?_
   refine oy hS (y_len h0_1_ Try.underlying23) ?_
   refine o_gu rfl rfl rfl ?_
   refine oy hS y_bin ?_
   refine oy hS y_pickF ?_
   refine o_split (ht := fun c11 => ?_) (hf := fun c11 => ?_)
   · replace hF := bt c11 hF
     iterate 4 (refine o_sk rfl rfl ?_)
     refine oy hS y_pickT ?_
     refine oy hS y_move ?_
     iterate 7 (refine o_sk rfl rfl ?_)
     refine oy hS y_pickT ?_
     refine oy hS y_move ?_
     iterate 4 (refine o_sk rfl rfl ?_)
     refine oy hS y_pickT ?_
     refine oy hS y_move ?_
     iterate 4 (refine o_sk rfl rfl ?_)
     refine oy hS y_pickT ?_
     refine n_thenN ?_
     refine c_if_true (h := ?_)
     refine c_seq ?_
     refine c_region ?_
     refine oy hS y_assign ?_
     refine n_thenN ?_
     obtain rfl := Option.some.inj hF
     obtain rfl : _ = r := hK9
     exact wp_ret (wr1 hS)
   replace hF := bf c11 hF
   refine o_gu rfl rfl rfl ?_
   refine oy hS (y_field fa_api_State_2) ?_
   refine o_gu rfl rfl rfl ?_
   refine oy hS (y_load (fun w hS => hS.own (mH)) Try.underlying23 rfl rfl) ?_
   refine o_gu rfl rfl rfl ?_
   refine oy hS (y_len h0_2_ Try.underlying23) ?_
   refine o_gu rfl rfl rfl ?_
   refine oy hS y_bin ?_
   refine oy hS y_pickF ?_
   refine o_split (ht := fun c12 => ?_) (hf := fun c12 => ?_)
   · replace hF := bt c12 hF
     iterate 7 (refine o_sk rfl rfl ?_)
     refine oy hS y_pickT ?_
     refine oy hS y_move ?_
     iterate 4 (refine o_sk rfl rfl ?_)
     refine oy hS y_pickT ?_
     refine oy hS y_move ?_
     iterate 4 (refine o_sk rfl rfl ?_)
     refine oy hS y_pickT ?_
     refine n_thenN ?_
     refine c_if_true (h := ?_)
     refine c_seq ?_
     refine c_region ?_
     refine oy hS y_assign ?_
     refine n_thenN ?_
     obtain rfl := Option.some.inj hF
     obtain rfl : _ = r := hK9
     exact wp_ret (wr1 hS)
   replace hF := bf c12 hF
   refine o_gu rfl rfl rfl ?_
   refine oy hS (y_field fa_api_State_3) ?_
   refine o_gu rfl rfl rfl ?_
   refine oy hS (y_load (fun w hS => hS.own (mH)) Try.underlying3 rfl rfl) ?_
   refine o_gu rfl rfl rfl ?_
   refine oy hS (y_field fa_api_State_2) ?_
   refine o_gu rfl rfl rfl ?_
   refine oy hS (y_load (fun w hS => hS.own (mH)) Try.underlying23 rfl rfl) ?_
   refine o_gu rfl rfl rfl ?_
   refine oy hS (y_len h0_2_ Try.underlying23) ?_
   refine o_gu rfl rfl rfl ?_
   refine o_callS hS Try.func29 rfl rfl (hc := (w_r0_Num (a0 := a0.Taken) (a1 := (a0.In_.length : Int)))) (h := ?_)
   clear hS; intro w hS
   refine o_gu rfl rfl rfl ?_
   refine oy hS y_not ?_
   refine oy hS y_pickF ?_
   refine o_split (ht := fun c13 => ?_) (hf := fun c13 => ?_)
   · replace hF := bt c13 hF
     iterate 4 (refine o_sk rfl rfl ?_)
     refine oy hS y_pickT ?_
     refine oy hS y_move ?_
     iterate 4 (refine o_sk rfl rfl ?_)
     refine oy hS y_pickT ?_
     refine n_thenN ?_
     refine c_if_true (h := ?_)
     refine c_seq ?_
     refine c_region ?_
     refine oy hS y_assign ?_
     refine n_thenN ?_
     obtain rfl := Option.some.inj hF
     obtain rfl : _ = r := hK9
     exact wp_ret (wr1 hS)
   replace hF := bf c13 hF
   refine o_gu rfl rfl rfl ?_
   refine oy hS (y_field fa_api_State_5) ?_
   refine o_gu rfl rfl rfl ?_
   refine oy hS (y_load (fun w hS => hS.own (mH)) Try.underlying3 rfl rfl) ?_
   refine o_gu rfl rfl rfl ?_
   refine o_callS hS Try.func29 rfl rfl (hc := (w_r0_Num (a0 := a0.PC) (a1 := 1024))) (h := ?_)
   clear hS; intro w hS
   refine o_gu rfl rfl rfl ?_
   refine oy hS y_not ?_
   refine oy hS y_pickF ?_
   refine o_split (ht := fun c14 => ?_) (hf := fun c14 => ?_)
   · replace hF := bt c14 hF
     iterate 4 (refine o_sk rfl rfl ?_)
     refine oy hS y_pickT ?_
     refine n_thenN ?_
     refine c_if_true (h := ?_)
     refine c_seq ?_
     refine c_region ?_
     refine oy hS y_assign ?_
     refine n_thenN ?_
     obtain rfl := Option.some.inj hF
     obtain rfl : _ = r := hK9
     exact wp_ret (wr1 hS)
   replace hF := bf c14 hF
   refine o_gu rfl rfl rfl ?_
   refine oy hS (y_field fa_api_State_6) ?_
   refine o_gu rfl rfl rfl ?_
   refine oy hS (y_load (fun w hS => hS.own (mH)) Try.underlying24 rfl rfl) ?_
   refine o_gu rfl rfl rfl ?_
   refine oy hS (y_len h0_6_ Try.underlying24) ?_
   refine o_gu rfl rfl rfl ?_
   refine oy hS y_bin ?_
   refine oy hS y_pickF ?_
   refine n_thenN ?_
   refine c_if (ht := fun c15 => ?_) (hf := fun c15 => ?_)
   · replace hF := bt c15 hF
     refine c_seq ?_
     refine c_region ?_
     refine oy hS y_assign ?_
     refine n_thenN ?_
     obtain rfl := Option.some.inj hF
     obtain rfl : _ = r := hK9
     exact wp_ret (wr1 hS)
   replace hF := bf c15 hF
   refine wp_skip ?_
   obtain rfl := Option.some.inj hF
   change _ ∧ _
   exact ⟨hK9, mk_ex, (hS.re (.takeb (.hereb _ _) (.nil _)))⟩
 rintro a w ⟨hF, ⟨s16, rfl⟩, hS⟩
 dsimp only [r5_common_k1] at hF
 iterate 2 (refine c_seq ?_)
 refine c_region ?_
 refine oy hS y_assign ?_
 refine n_thenN ?_
 refine c_block ?_
 refine c_loopP hF (fun (q : Int) a w' => (∃ s : Nat → Value, a = Ac (.lit 55 [s 0, .pointer (some ⟨b1, 0, none⟩), s 2, .int .i64 q, s 4, s 5, s 6, s 7, s 8, s 9, s 10, s 11, s 12, s 13, s 14, s 15, s 16, s 17, s 18, s 19, s 20, s 21, s 22, s 23, s 24, s 25, s 26, s 27, s 28, s 29, s 30, s 31, s 32, s 33, s 34, s 35, s 36, s 37, s 38, s 39, s 40, s 41, s 42, s 43, s 44, s 45, s 46, s 47, s 48, s 49, s 50, s 51, s 52, s 53, s 54])) ∧ St W g [] ((b1, blk [v0_0_, v0_1_, v0_2_, .int .i64 a0.Taken, v0_4_, .int .i64 a0.PC, v0_6_, .int .i64 a0.Stop, v0_8_, .int .i64 a0.Jump, .int .i64 a0.Delay] 27) :: []) w') ⟨mk_ex, (hS.re (.takeb (.hereb _ _) (.nil _)))⟩ ?_
 clear hS hF
 intro n48 q a w hI hq
 revert hq hI; revert q; intro x31 hI hq
 obtain ⟨⟨s49, rfl⟩, hS⟩ := hq
 obtain ⟨z46, hF, hK47⟩ := iter_step hI
 clear hI
 dsimp only [r5_common_b2] at hF
 iterate 2 (refine c_seq ?_)
 refine c_region ?_
 refine oy hS y_move ?_
 refine oy hS (y_field fa_api_State_6) ?_
 refine oy hS (y_load (fun w hS => hS.own (mH)) Try.underlying24 rfl rfl) ?_
 refine oy hS (y_len h0_6_ Try.underlying24) ?_
 refine oy hS y_bin ?_
 refine n_thenN ?_
 refine c_if (ht := fun c50 => ?_) (hf := fun c50 => ?_)
 · replace hF := bt c50 hF
   refine wp_skip ?_
   refine c_seq ?_
   refine c_block ?_
   refine c_seq ?_
   refine c_region ?_
   refine oy hS (y_field fa_api_State_6) ?_
   refine oy hS (y_load (fun w hS => hS.own (mH)) Try.underlying24 rfl rfl) ?_
   refine oy hS y_move ?_
   obtain ⟨x51, hx51, hF⟩ := ob hF
   obtain ⟨b52, o53, c54, cs55, e56, fz57, hv58, ha59, hb60, hd61, hc62⟩ := SlT.at hx51 h0_6_ enc_len_int
   refine oy hS (y_index hv58 ha59 hb60 Try.underlying24 el_int.size) ?_
   refine oy hS (y_load (fun w hS => hS.block hd61) Try.underlying3 rfl (hc62 0 _ rfl)) ?_
   refine o_callS hS Try.func29 rfl rfl (hc := (w_r0_Num (a0 := x51) (a1 := 1024))) (h := ?_)
   clear hS; intro w hS
   refine oy hS y_not ?_
   refine n_thenN ?_
   refine c_if (ht := fun c63 => ?_) (hf := fun c63 => ?_)
   · replace hF := bt c63 hF
     refine c_seq ?_
     refine c_region ?_
     refine oy hS y_assign ?_
     refine n_thenN ?_
     obtain rfl := Option.some.inj hF
     obtain rfl : _ = r := hK47
     exact wp_ret (wr1 hS)
   replace hF := bf c63 hF
   refine wp_skip ?_
   refine c_region ?_
   refine oy hS y_move ?_
   refine oy hS y_bin ?_
   refine oy hS y_assign ?_
   refine n_thenN ?_
   obtain rfl := Option.some.inj hF
   exact ⟨_, hK47, mk_ex, (hS.re (.takeb (.hereb _ _) (.nil _)))⟩
 replace hF := bf c50 hF
 refine wp_exit ?_
 refine c_seq ?_
 refine c_region ?_
 refine oy hS y_assign ?_
 refine n_thenN ?_
 obtain rfl := Option.some.inj hF
 obtain rfl : _ = r := hK47
 exact wp_ret (wr1 hS)
theorem w_r5_common {g : Frag} {a0 : T_State} {v0_ : Value} {r : Bool} (h0 : Rd_State g a0 v0_) (hF : r5_common a0 = some r) : LCs Try.prog 48 #[v0_] g (.bool r) := w_r5_common_ h0 hF

noncomputable def r5_State (a0 : T_State) : Option Bool :=
  (r5_common a0).bind fun r2 => bif r2 then bif (r0_Num a0.Stop 5) then bif decide ((a0.Fly.length : Int) = 0) then bif decide (a0.Jump = 0) then some (decide (a0.Delay = 0)) else some (false) else some (false) else some (false) else some (false)
set_option maxHeartbeats 2000000 in
theorem w_r5_State_ {g : Frag} {a0 : T_State} {v0_ : Value} {r : Bool} (h0 : Rd_State g a0 v0_) (hF : r5_State a0 = some r) : LCs Try.prog 26 #[v0_] g (.bool r) := by
 obtain ⟨v0_0_, v0_1_, v0_2_, v0_4_, v0_6_, v0_8_, rfl, h0_0_, h0_1_, h0_2_, h0_4_, h0_6_, h0_8_⟩ := h0
 unfold r5_State at hF
 refine lc_body (k := 26) (av := [.agg #[v0_0_, v0_1_, v0_2_, .int .i64 a0.Taken, v0_4_, .int .i64 a0.PC, v0_6_, .int .i64 a0.Stop, v0_8_, .int .i64 a0.Jump, .int .i64 a0.Delay]]) Try.func26 rfl rfl (h := fun W hS => ?_)
 refine c_seq ?_
 refine c_region ?_
 refine o_boxP (cl := [v0_0_, v0_1_, v0_2_, .int .i64 a0.Taken, v0_4_, .int .i64 a0.PC, v0_6_, .int .i64 a0.Stop, v0_8_, .int .i64 a0.Jump, .int .i64 a0.Delay]) rfl hS ?_
 clear hS; intro b1 w hS
 refine oy hS y_assign ?_
 refine n_thenN ?_
 refine c_seq ?_
 refine c_region ?_
 refine oy hS (y_loadW (fun w hS => hS.own (mH)) Try.underlying27 rfl (by exact sz_api_State)) ?_
 obtain ⟨r2, hr2, hF⟩ := ob hF
 refine o_callS hS Try.func48 rfl rfl (hc := (w_r5_common (a0 := a0) (h0 := ⟨_, _, _, _, _, _, rfl, h0_0_.plus, h0_1_.plus, h0_2_.plus, h0_4_.plus, h0_6_.plus, h0_8_.plus⟩) (hF := hr2))) (h := ?_)
 clear hS; intro w hS
 refine o_split (ht := fun c3 => ?_) (hf := fun c3 => ?_)
 · replace hF := bt c3 hF
   refine o_gu rfl rfl rfl ?_
   refine oy hS (y_field fa_api_State_7) ?_
   refine o_gu rfl rfl rfl ?_
   refine oy hS (y_load (fun w hS => hS.own (mH)) Try.underlying3 rfl rfl) ?_
   refine o_gu rfl rfl rfl ?_
   refine o_callS hS Try.func29 rfl rfl (hc := (w_r0_Num (a0 := a0.Stop) (a1 := 5))) (h := ?_)
   clear hS; intro w hS
   refine oy hS y_pickT ?_
   refine o_split (ht := fun c4 => ?_) (hf := fun c4 => ?_)
   · replace hF := bt c4 hF
     refine o_gu rfl rfl rfl ?_
     refine oy hS (y_field fa_api_State_8) ?_
     refine o_gu rfl rfl rfl ?_
     refine oy hS (y_load (fun w hS => hS.own (mH)) Try.underlying25 rfl rfl) ?_
     refine o_gu rfl rfl rfl ?_
     refine oy hS (y_len h0_8_ Try.underlying25) ?_
     refine o_gu rfl rfl rfl ?_
     refine oy hS y_bin ?_
     refine oy hS y_pickT ?_
     refine o_split (ht := fun c5 => ?_) (hf := fun c5 => ?_)
     · replace hF := bt c5 hF
       refine o_gu rfl rfl rfl ?_
       refine oy hS (y_field fa_api_State_9) ?_
       refine o_gu rfl rfl rfl ?_
       refine oy hS (y_load (fun w hS => hS.own (mH)) Try.underlying3 rfl rfl) ?_
       refine o_gu rfl rfl rfl ?_
       refine oy hS y_bin ?_
       refine oy hS y_pickT ?_
       refine o_split (ht := fun c6 => ?_) (hf := fun c6 => ?_)
       · replace hF := bt c6 hF
         refine o_gu rfl rfl rfl ?_
         refine oy hS (y_field fa_api_State_10) ?_
         refine o_gu rfl rfl rfl ?_
         refine oy hS (y_load (fun w hS => hS.own (mH)) Try.underlying3 rfl rfl) ?_
         refine o_gu rfl rfl rfl ?_
         refine oy hS y_bin ?_
         refine oy hS y_pickT ?_
         refine oy hS y_assign ?_
         refine n_thenN ?_
         obtain rfl := Option.some.inj hF
         exact wp_ret (wr1 hS)
       replace hF := bf c6 hF
       iterate 3 (refine o_sk rfl rfl ?_)
       refine oy hS y_pickF ?_
       refine oy hS y_assign ?_
       refine n_thenN ?_
       obtain rfl := Option.some.inj hF
       exact wp_ret (wr1 hS)
     replace hF := bf c5 hF
     iterate 3 (refine o_sk rfl rfl ?_)
     refine oy hS y_pickF ?_
     refine oy hS y_move ?_
     iterate 3 (refine o_sk rfl rfl ?_)
     refine oy hS y_pickF ?_
     refine oy hS y_assign ?_
     refine n_thenN ?_
     obtain rfl := Option.some.inj hF
     exact wp_ret (wr1 hS)
   replace hF := bf c4 hF
   iterate 4 (refine o_sk rfl rfl ?_)
   refine oy hS y_pickF ?_
   refine oy hS y_move ?_
   iterate 3 (refine o_sk rfl rfl ?_)
   refine oy hS y_pickF ?_
   refine oy hS y_move ?_
   iterate 3 (refine o_sk rfl rfl ?_)
   refine oy hS y_pickF ?_
   refine oy hS y_assign ?_
   refine n_thenN ?_
   obtain rfl := Option.some.inj hF
   exact wp_ret (wr1 hS)
 replace hF := bf c3 hF
 iterate 3 (refine o_sk rfl rfl ?_)
 refine oy hS y_pickF ?_
 refine oy hS y_move ?_
 iterate 4 (refine o_sk rfl rfl ?_)
 refine oy hS y_pickF ?_
 refine oy hS y_move ?_
 iterate 3 (refine o_sk rfl rfl ?_)
 refine oy hS y_pickF ?_
 refine oy hS y_move ?_
 iterate 3 (refine o_sk rfl rfl ?_)
 refine oy hS y_pickF ?_
 refine oy hS y_assign ?_
 refine n_thenN ?_
 obtain rfl := Option.some.inj hF
 exact wp_ret (wr1 hS)
theorem w_r5_State {g : Frag} {a0 : T_State} {v0_ : Value} {r : Bool} (h0 : Rd_State g a0 v0_) (hF : r5_State a0 = some r) : LCs Try.prog 26 #[v0_] g (.bool r) := w_r5_State_ h0 hF

noncomputable def l5_May (a0 : T_Script) : Option Bool :=
  (r3_Program a0.P).bind fun r2 => bif r2 then (r5_State a0.S).bind fun r4 => some (r4) else some (false)
set_option maxHeartbeats 2000000 in
theorem w_l5_May_ {g : Frag} {a0 : T_Script} {v0_ : Value} {r : Bool} (h0 : Rd_Script g a0 v0_) (hF : l5_May a0 = some r) : LCs Try.prog 13 #[v0_] g (.bool r) := by
 obtain ⟨v0_0_, v0_1_, v0_2_, v0_3_, v0_5_, v0_7_, v0_9_, v0_12_, v0_13_, rfl, h0_0_, h0_1_, h0_2_, h0_3_, h0_5_, h0_7_, h0_9_, h0_12_, h0_13_⟩ := h0
 unfold l5_May at hF
 refine lc_body (k := 11) (av := [.agg #[v0_0_, v0_1_, v0_2_, v0_3_, .int .i64 a0.S.Taken, v0_5_, .int .i64 a0.S.PC, v0_7_, .int .i64 a0.S.Stop, v0_9_, .int .i64 a0.S.Jump, .int .i64 a0.S.Delay, v0_12_, v0_13_]]) Try.func13 rfl rfl (h := fun W hS => ?_)
 refine c_seq ?_
 refine c_region ?_
 refine o_boxP (cl := [v0_0_, v0_1_, v0_2_, v0_3_, .int .i64 a0.S.Taken, v0_5_, .int .i64 a0.S.PC, v0_7_, .int .i64 a0.S.Stop, v0_9_, .int .i64 a0.S.Jump, .int .i64 a0.S.Delay, v0_12_, v0_13_]) rfl hS ?_
 clear hS; intro b1 w hS
 refine oy hS y_assign ?_
 refine n_thenN ?_
 refine c_seq ?_
 refine c_region ?_
 refine oy hS (y_field fa_sledgelaw5_Script_0) ?_
 refine oy hS (y_load (fun w hS => hS.own (mH)) Try.underlying22 rfl rfl) ?_
 obtain ⟨r2, hr2, hF⟩ := ob hF
 refine o_callS hS Try.func35 rfl rfl (hc := (w_r3_Program (a0 := a0.P) (h0 := h0_0_.plus) (hF := hr2))) (h := ?_)
 clear hS; intro w hS
 refine o_split (ht := fun c3 => ?_) (hf := fun c3 => ?_)
 · replace hF := bt c3 hF
   refine o_gu rfl rfl rfl ?_
   refine oy hS (y_field fa_sledgelaw5_Script_1) ?_
   refine o_gu rfl rfl rfl ?_
   refine oy hS (y_loadN (vs := [v0_1_, v0_2_, v0_3_, .int .i64 a0.S.Taken, v0_5_, .int .i64 a0.S.PC, v0_7_, .int .i64 a0.S.Stop, v0_9_, .int .i64 a0.S.Jump, .int .i64 a0.S.Delay]) (fun w hS => hS.own (mH)) Try.underlying27 rfl (by exact sz_api_State) (subc (pre := [v0_0_]) (vs := [v0_1_, v0_2_, v0_3_, .int .i64 a0.S.Taken, v0_5_, .int .i64 a0.S.PC, v0_7_, .int .i64 a0.S.Stop, v0_9_, .int .i64 a0.S.Jump, .int .i64 a0.S.Delay]) (post := [v0_12_, v0_13_]) rfl rfl)) ?_
   refine o_gu rfl rfl rfl ?_
   obtain ⟨r4, hr4, hF⟩ := ob hF
   refine o_callS hS Try.func26 rfl rfl (hc := (w_r5_State (a0 := a0.S) (h0 := ⟨_, _, _, _, _, _, rfl, h0_1_.plus, h0_2_.plus, h0_3_.plus, h0_5_.plus, h0_7_.plus, h0_9_.plus⟩) (hF := hr4))) (h := ?_)
   clear hS; intro w hS
   refine oy hS y_pickT ?_
   refine oy hS y_assign ?_
   refine n_thenN ?_
   obtain rfl := Option.some.inj hF
   exact wp_ret (wr1 hS)
 replace hF := bf c3 hF
 iterate 3 (refine o_sk rfl rfl ?_)
 refine oy hS y_pickF ?_
 refine oy hS y_assign ?_
 refine n_thenN ?_
 obtain rfl := Option.some.inj hF
 exact wp_ret (wr1 hS)
theorem w_l5_May {g : Frag} {a0 : T_Script} {v0_ : Value} {r : Bool} (h0 : Rd_Script g a0 v0_) (hF : l5_May a0 = some r) : LCs Try.prog 13 #[v0_] g (.bool r) := w_l5_May_ h0 hF

def isa_Is (a0 : Int) : Bool :=
  bif decide (0 ≤ a0) then decide (a0 ≤ 33) else false
set_option maxHeartbeats 2000000 in
theorem w_isa_Is_ {g : Frag} {a0 : Int} {r : Bool}  (hF : isa_Is a0 = r) : LCs Try.prog 74 #[.int .i64 a0] g (.bool r) := by
 unfold isa_Is at hF
 refine lc_body (k := 9) (av := [.int .i64 a0]) Try.func74 rfl rfl (h := fun W hS => ?_)
 refine c_seq ?_
 refine c_region ?_
 refine oy hS y_assign ?_
 refine n_thenN ?_
 refine c_seq ?_
 refine c_region ?_
 refine oy hS y_move ?_
 refine oy hS y_bin ?_
 refine o_split (ht := fun c1 => ?_) (hf := fun c1 => ?_)
 · replace hF := bt c1 hF
   refine o_gu rfl rfl rfl ?_
   refine oy hS y_move ?_
   refine o_gu rfl rfl rfl ?_
   refine oy hS y_bin ?_
   refine oy hS y_pickT ?_
   refine oy hS y_assign ?_
   refine n_thenN ?_
   subst hF
   exact wp_ret (wr1 hS)
 replace hF := bf c1 hF
 iterate 2 (refine o_sk rfl rfl ?_)
 refine oy hS y_pickF ?_
 refine oy hS y_assign ?_
 refine n_thenN ?_
 subst hF
 exact wp_ret (wr1 hS)
theorem w_isa_Is {g : Frag} {a0 : Int}  : LCs Try.prog 74 #[.int .i64 a0] g (.bool (isa_Is a0)) := w_isa_Is_  rfl
end Go.Proofs.Ytadajdcbeegabaa
