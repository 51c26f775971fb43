/- Functions, lifted. Printed by lift.py. -/
import Derived.Test.YtfnmihhcopkkbaaGreatProg
import Derived.Test.YtfnmihhcopkkbaaGreatP2
import Derived.KernelRfl
namespace Go.Proofs.YtfnmihhcopkkbaaGreat
open Go Go.RowKit Fr
set_option linter.unusedVariables false
set_option linter.unusedSimpArgs false
set_option maxRecDepth 20000
open Tryz
set_option maxHeartbeats 2000000
noncomputable def word_Of (a0 : Int) (a1 : Int) (a2 : Int) : Option (Int × Int) :=
  bif !(word_Has a0) then some (0, 1) else bif decide (a2 = 0) then bif decide (a0 = 16) then some (0, 7) else bif decide (a0 = 17) then some (0, 7) else bif decide (a0 ≤ 8) then (word_logic a0 a1 a2).bind fun r6 => some (r6, 0) else bif decide (a0 ≤ 13) then some ((word_compared a0 a1 a2), 0) else (word_product a0 a1 a2).bind fun r8 => some (r8, 0) else bif decide (a0 ≤ 8) then (word_logic a0 a1 a2).bind fun r10 => some (r10, 0) else bif decide (a0 ≤ 13) then some ((word_compared a0 a1 a2), 0) else (word_product a0 a1 a2).bind fun r12 => some (r12, 0)
theorem w_word_Of_ {g : Frag} {a0 : Int} {a1 : Int} {a2 : Int} {r : (Int × Int)}  (hF : word_Of a0 a1 a2 = some r) : LCs Tryz.prog 105 #[.int .i64 a0, .int .u32 a1, .int .u32 a2] g (.tuple #[.int .u32 r.1, .int .i64 r.2]) := by
 unfold word_Of at hF
 refine lc_body (k := 41) (av := [.int .i64 a0, .int .u32 a1, .int .u32 a2]) func105 rfl rfl (h := fun W hS => ?_)
 refine c_seq <| c_region ?_
 iterate 2 (refine oy hS y_assign ?_)
 refine n_thenN <| c_seq <| c_block <| c_seq <| c_region <| oy hS y_move ?_
 refine o_callS hS func104 rfl rfl (hc := (w_word_Has (a0 := a0))) (h := ?_)
 clear hS; intro w hS
 refine oy hS y_not <| oy hS y_assign <| n_thenN ?_
 refine c_if (ht := fun c1 => ?_) (hf := fun c1 => ?_)
 · replace hF := bt c1 hF
   refine c_seq <| c_region ?_
   iterate 2 (refine oy hS y_assign ?_)
   refine n_thenN ?_
   obtain rfl := osi hF
   exact wp_ret (wr2 hS)
 replace hF := bf c1 hF
 refine c_seq <| c_region <| oy hS y_move <| oy hS y_bin ?_
 refine o_split (ht := fun c2 => ?_) (hf := fun c2 => ?_)
 · replace hF := bt c2 hF
   refine o_gu rfl rfl rfl <| oy hS y_move <| o_gu rfl rfl rfl <| oy hS y_bin <| o_gu rfl rfl rfl ?_
   refine o_split (ht := fun c3 => ?_) (hf := fun c3 => ?_)
   · replace hF := bt c3 hF
     iterate 2 (refine o_sk rfl rfl ?_)
     refine o_gu rfl rfl rfl ?_
     iterate 2 (refine oy hS y_pickT ?_)
     refine oy hS y_assign <| n_thenN ?_
     refine c_if_true (h := ?_)
     refine c_seq <| c_region ?_
     iterate 2 (refine oy hS y_assign ?_)
     refine n_thenN ?_
     obtain rfl := osi hF
     exact wp_ret (wr2 hS)
   replace hF := bf c3 hF
   refine o_gu rfl rfl rfl <| oy hS y_move <| o_gu rfl rfl rfl <| oy hS y_bin <| o_gu rfl rfl rfl <| oy hS y_pickF <| oy hS y_pickT <| oy hS y_assign ?_
   refine n_thenN ?_
   refine c_if (ht := fun c4 => ?_) (hf := fun c4 => ?_)
   · replace hF := bt c4 hF
     refine c_seq <| c_region ?_
     iterate 2 (refine oy hS y_assign ?_)
     refine n_thenN ?_
     obtain rfl := osi hF
     exact wp_ret (wr2 hS)
   replace hF := bf c4 hF
   refine c_seq <| c_region <| oy hS y_move <| oy hS y_bin <| oy hS y_assign <| n_thenN ?_
   refine c_if (ht := fun c5 => ?_) (hf := fun c5 => ?_)
   · replace hF := bt c5 hF
     refine c_seq <| c_region ?_
     iterate 3 (refine oy hS y_move ?_)
     obtain ⟨r6, hr6, hF⟩ := ob hF
     refine o_callS hS func133 rfl rfl (hc := (w_word_logic (a0 := a0) (a1 := a1) (a2 := a2) (hF := hr6))) (h := ?_)
     clear hS; intro w hS
     iterate 2 (refine oy hS y_assign ?_)
     refine n_thenN ?_
     obtain rfl := osi hF
     exact wp_ret (wr2 hS)
   replace hF := bf c5 hF
   refine c_seq <| c_region <| oy hS y_move <| oy hS y_bin <| oy hS y_assign <| n_thenN ?_
   refine c_if (ht := fun c7 => ?_) (hf := fun c7 => ?_)
   · replace hF := bt c7 hF
     refine c_seq <| c_region ?_
     iterate 3 (refine oy hS y_move ?_)
     refine o_callS hS func134 rfl rfl (hc := (w_word_compared (a0 := a0) (a1 := a1) (a2 := a2))) (h := ?_)
     clear hS; intro w hS
     iterate 2 (refine oy hS y_assign ?_)
     refine n_thenN ?_
     obtain rfl := osi hF
     exact wp_ret (wr2 hS)
   replace hF := bf c7 hF
   refine wp_skip <| c_seq <| c_region ?_
   iterate 3 (refine oy hS y_move ?_)
   obtain ⟨r8, hr8, hF⟩ := ob hF
   refine o_callS hS func135 rfl rfl (hc := (w_word_product (a0 := a0) (a1 := a1) (a2 := a2) (hF := hr8))) (h := ?_)
   clear hS; intro w hS
   iterate 2 (refine oy hS y_assign ?_)
   refine n_thenN ?_
   obtain rfl := osi hF
   exact wp_ret (wr2 hS)
 replace hF := bf c2 hF
 iterate 3 (refine o_sk rfl rfl ?_)
 iterate 2 (refine o_sku rfl rfl ?_)
 refine o_sk rfl rfl ?_
 refine oy hS y_pickF <| oy hS y_assign <| n_thenN ?_
 refine c_if_false (h := ?_)
 refine c_seq <| c_region <| oy hS y_move <| oy hS y_bin <| oy hS y_assign <| n_thenN ?_
 refine c_if (ht := fun c9 => ?_) (hf := fun c9 => ?_)
 · replace hF := bt c9 hF
   refine c_seq <| c_region ?_
   iterate 3 (refine oy hS y_move ?_)
   obtain ⟨r10, B0, hF⟩ := ob hF
   refine o_callS hS func133 rfl rfl (hc := (w_word_logic (a0 := a0) (a1 := a1) (a2 := a2) (hF := B0))) (h := ?_)
   clear hS; intro w hS
   iterate 2 (refine oy hS y_assign ?_)
   refine n_thenN ?_
   obtain rfl := osi hF
   exact wp_ret (wr2 hS)
 replace hF := bf c9 hF
 refine c_seq <| c_region <| oy hS y_move <| oy hS y_bin <| oy hS y_assign <| n_thenN ?_
 refine c_if (ht := fun c11 => ?_) (hf := fun c11 => ?_)
 · replace hF := bt c11 hF
   refine c_seq <| c_region ?_
   iterate 3 (refine oy hS y_move ?_)
   refine o_callS hS func134 rfl rfl (hc := (w_word_compared (a0 := a0) (a1 := a1) (a2 := a2))) (h := ?_)
   clear hS; intro w hS
   iterate 2 (refine oy hS y_assign ?_)
   refine n_thenN ?_
   obtain rfl := osi hF
   exact wp_ret (wr2 hS)
 replace hF := bf c11 hF
 refine wp_skip <| c_seq <| c_region ?_
 iterate 3 (refine oy hS y_move ?_)
 obtain ⟨r12, D0, hF⟩ := ob hF
 refine o_callS hS func135 rfl rfl (hc := (w_word_product (a0 := a0) (a1 := a1) (a2 := a2) (hF := D0))) (h := ?_)
 clear hS; intro w hS
 iterate 2 (refine oy hS y_assign ?_)
 refine n_thenN ?_
 obtain rfl := osi hF
 exact wp_ret (wr2 hS)
theorem w_word_Of {g : Frag} {a0 : Int} {a1 : Int} {a2 : Int} {r : (Int × Int)}  (hF : word_Of a0 a1 a2 = some r) : LCs Tryz.prog 105 #[.int .i64 a0, .int .u32 a1, .int .u32 a2] g (.tuple #[.int .u32 r.1, .int .i64 r.2]) := w_word_Of_  hF

noncomputable def seq_memory (a0 : T_State) (a1 : T_Ins) (a2 : Int) (a3 : Int) : Option (T_State × Int × Int) :=
  bif decide (256 ≤ (IntKind.u32.wrap (a2 + (IntKind.u32.wrap a1.Imm)))) then some (a0, 0, 2) else bif decide (a1.Op = 25) then (set' a0.Mem (IntKind.u32.wrap (a2 + (IntKind.u32.wrap a1.Imm))) a3).bind fun B0 => (at' B0 (IntKind.u32.wrap (a2 + (IntKind.u32.wrap a1.Imm)))).bind fun x15 => some ((⟨a0.Regs, B0, a0.In_, a0.Taken, a0.Out, a0.PC, a0.Stack, a0.Stop, a0.Fly, a0.Jump, a0.Delay⟩ : T_State), x15, 0) else (at' a0.Mem (IntKind.u32.wrap (a2 + (IntKind.u32.wrap a1.Imm)))).bind fun x24 => some (a0, x24, 0)
theorem w_seq_memory_ {g : Frag} {a0 : T_State} {b0_ : Nat} {LB0_ : Own} {a1 : T_Ins} {a2 : Int} {a3 : Int} {r : (T_State × Int × Int)} (h0 : Bx_State b0_ a0 LB0_) (hF : seq_memory a0 a1 a2 a3 = some r) : LC Tryz.prog 106 #[.pointer (some ⟨b0_, 0, none⟩), .agg (enc_Ins a1).toArray, .int .u32 a2, .int .u32 a3] g LB0_ (fun v L => ∃ (LB' : Own), v = .tuple #[.int .u32 r.2.1, .int .i64 r.2.2] ∧ L = (LB' ++ []) ∧ Bx_State b0_ r.1 LB') := by
 obtain ⟨Z0, B1, D1, T0, U0, V0, X0, E1, K0, M0, N0, R0, G1, J0, B0, D0, E0, G0, I0⟩ := h0
 unfold seq_memory at hF
 refine lc_body (k := 37) (av := [.pointer (some ⟨b0_, 0, none⟩), .agg (enc_Ins a1).toArray, .int .u32 a2, .int .u32 a3]) func106 rfl rfl (h := fun W hS => ?_)
 have hS := hS.own_eq G1
 refine c_seq <| c_region ?_
 refine o_boxP (cl := (enc_Ins a1)) rfl hS ?_
 clear hS; intro b1 w hS
 iterate 2 (refine oy hS y_assign ?_)
 refine n_thenN <| c_seq <| c_region <| oy hS y_move <| oy hS (y_field fa_api_Ins_4) <| oy hS (y_load oH underlying3 rfl rfl) <| oy hS (y_conv underlying3 underlying87) <| oy hS y_bin ?_
 refine oy hS y_assign <| n_thenN <| c_seq <| c_block <| c_seq <| c_region <| oy hS y_move <| oy hS y_bin ?_
 refine oy hS y_assign <| n_thenN ?_
 refine c_if (ht := fun c2 => ?_) (hf := fun c2 => ?_)
 · replace hF := bt c2 hF
   refine c_seq <| c_region ?_
   iterate 2 (refine oy hS y_assign ?_)
   refine n_thenN ?_
   obtain rfl := osi hF
   refine wp_ret (r_ret (vs := [.int .u32 0, .int .i64 2]) (hS.re (.b (.e .hb) (.t (.e .h) (.t (.e .h) (.t (.e .h) (.t (.e .h) (.t (.e .h) (.t (.e .h) .n)))))))) (rsC res_tmp (rsC res_tmp rsN)) rfl ⟨_, rfl, (by first | rfl | simp only [aa, ac, al, an]), ⟨_, _, _, _, _, _, _, _, _, _, _, _, rfl, J0, B0, D0, E0, G0, I0⟩⟩)
 replace hF := bf c2 hF
 refine c_seq <| c_region <| oy hS (y_field fa_api_Ins_0) <| oy hS (y_load oH underlying3 rfl rfl) <| oy hS y_bin <| oy hS y_assign <| n_thenN ?_
 refine c_if (ht := fun c3 => ?_) (hf := fun c3 => ?_)
 · replace hF := bt c3 hF
   refine c_region <| oy hS y_move <| oy hS y_nilCheck <| oy hS (y_field fa_api_State_1) <| oy hS (y_load (fun w hS => hS.own (mC (mH))) underlying31 rfl rfl) ?_
   iterate 2 (refine oy hS y_move ?_)
   obtain ⟨D2, Y0, hF⟩ := ob hF
   obtain ⟨b4, c5, cl6, hv7, ha8, hb9, I1⟩ := OwT.at_set Y0 B0 enc_len_uint32
   refine oy hS (y_index hv7 ha8 hb9 underlying31 el_uint32.size) ?_
   refine o_storeO (L' := fun X => ((b1, blk (enc_Ins a1) 81) :: ((b0_, blk (cl_State Z0 B1 D1 a0.Taken T0 a0.PC U0 a0.Stop V0 a0.Jump a0.Delay) 62) :: (X0 ++ (X ++ (K0 ++ (M0 ++ (N0 ++ (R0 ++ []))))))))) Y0 hS B0 I1 (fun X => .thereb _ (.thereb _ (.there _ (.here _)))) enc_len_uint32 rfl (by exact sz_uint32) rfl rfl ?_
   clear hS; intro E2 w h13 hS
   refine n_anyN ?_
   refine c_seq <| c_region <| oy hS y_move <| oy hS y_nilCheck <| oy hS (y_field fa_api_State_1) <| oy hS (y_load (fun w hS => hS.own (mC (mH))) underlying31 rfl rfl) <| oy hS y_move ?_
   obtain ⟨x15, J1, hF⟩ := ob hF
   obtain ⟨b16, c17, G2, K1, M1, N1, R1, T1⟩ := OwT.at J1 h13 enc_len_uint32
   refine oy hS (y_index K1 M1 N1 underlying31 el_uint32.size) <| oy hS (y_load (fun w hS => hS.own (mC (mC (mB (mA (mX R1)))))) underlying87 rfl (T1 0 _ rfl)) ?_
   iterate 2 (refine oy hS y_assign ?_)
   refine n_thenN ?_
   obtain rfl := osi hF
   refine wp_ret (r_ret (vs := [.int .u32 x15, .int .i64 0]) (hS.re (.b (.e .hb) (.t (.e .h) (.t (.e .h) (.t (.e .h) (.t (.e .h) (.t (.e .h) (.t (.e .h) .n)))))))) (rsC res_tmp (rsC res_tmp rsN)) rfl ⟨_, rfl, (by first | rfl | simp only [aa, ac, al, an]), ⟨_, _, _, _, _, _, _, _, _, _, _, _, rfl, J0, h13, D0, E0, G0, I0⟩⟩)
 replace hF := bf c3 hF
 refine wp_skip <| c_seq <| c_region <| oy hS y_move <| oy hS y_nilCheck <| oy hS (y_field fa_api_State_1) <| oy hS (y_load (fun w hS => hS.own (mC (mH))) underlying31 rfl rfl) <| oy hS y_move ?_
 obtain ⟨x24, U1, hF⟩ := ob hF
 obtain ⟨b25, c26, I2, V1, X1, Y1, Z1, B2⟩ := OwT.at U1 B0 enc_len_uint32
 refine oy hS (y_index V1 X1 Y1 underlying31 el_uint32.size) <| oy hS (y_load (fun w hS => hS.own (mC (mC (mB (mA (mX Z1)))))) underlying87 rfl (B2 0 _ rfl)) ?_
 iterate 2 (refine oy hS y_assign ?_)
 refine n_thenN ?_
 obtain rfl := osi hF
 refine wp_ret (r_ret (vs := [.int .u32 x24, .int .i64 0]) (hS.re (.b (.e .hb) (.t (.e .h) (.t (.e .h) (.t (.e .h) (.t (.e .h) (.t (.e .h) (.t (.e .h) .n)))))))) (rsC res_tmp (rsC res_tmp rsN)) rfl ⟨_, rfl, (by first | rfl | simp only [aa, ac, al, an]), ⟨_, _, _, _, _, _, _, _, _, _, _, _, rfl, J0, B0, D0, E0, G0, I0⟩⟩)
theorem w_seq_memory {g : Frag} {a0 : T_State} {b0_ : Nat} {LB0_ : Own} {a1 : T_Ins} {a2 : Int} {a3 : Int} {r : (T_State × Int × Int)} (h0 : Bx_State b0_ a0 LB0_) (hF : seq_memory a0 a1 a2 a3 = some r) : LC Tryz.prog 106 #[.pointer (some ⟨b0_, 0, none⟩), .agg (enc_Ins a1).toArray, .int .u32 a2, .int .u32 a3] g LB0_ (fun v L => ∃ (LB' : Own), v = .tuple #[.int .u32 r.2.1, .int .i64 r.2.2] ∧ L = (LB' ++ []) ∧ Bx_State b0_ r.1 LB') := w_seq_memory_ h0 hF

noncomputable def seq_Act (a0 : T_State) (a1 : T_Ins) (a2 : Int) (a3 : Int) : Option (T_State × Int × Int) :=
  bif (pair_Has a1.Op) then (pair_Of a1.Op a2 a3).bind fun r3 => some (a0, r3.1, 0) else bif (word_Has a1.Op) then (word_Of a1.Op a2 a3).bind fun r5 => bif decide (r5.2 ≠ 0) then some (a0, 0, 3) else some (a0, r5.1, 0) else bif decide (a1.Op = 22) then some (a0, IntKind.u32.wrap (a2 + (IntKind.u32.wrap a1.Imm)), 0) else bif decide (a1.Op = 23) then some (a0, IntKind.u32.wrap a1.Imm, 0) else bif decide (a1.Op = 24) then (seq_memory a0 a1 a2 a3).bind fun r10 => some (r10.1, r10.2.1, r10.2.2) else bif decide (a1.Op = 25) then (seq_memory a0 a1 a2 a3).bind fun r41 => some (r41.1, r41.2.1, r41.2.2) else bif decide (a1.Op = 26) then bif decide (a0.Taken < (a0.In_.length : Int)) then (at' a0.In_ a0.Taken).bind fun x73 => some ((⟨a0.Regs, a0.Mem, a0.In_, IntKind.i64.wrap (a0.Taken + 1), a0.Out, a0.PC, a0.Stack, a0.Stop, a0.Fly, a0.Jump, a0.Delay⟩ : T_State), x73, 0) else bif decide (a1.Op = 27) then (app' a0.Out ([a2] : List Int)).bind fun D0 => some ((⟨a0.Regs, a0.Mem, a0.In_, a0.Taken, D0, a0.PC, a0.Stack, a0.Stop, a0.Fly, a0.Jump, a0.Delay⟩ : T_State), 0, 0) else bif decide (a1.Op = 33) then some (a0, 0, 1) else some (a0, 0, 0) else bif decide (a1.Op = 27) then (app' a0.Out ([a2] : List Int)).bind fun B0 => some ((⟨a0.Regs, a0.Mem, a0.In_, a0.Taken, B0, a0.PC, a0.Stack, a0.Stop, a0.Fly, a0.Jump, a0.Delay⟩ : T_State), 0, 0) else bif decide (a1.Op = 33) then some (a0, 0, 1) else some (a0, 0, 0)
theorem w_seq_Act_ {g : Frag} {a0 : T_State} {b0_ : Nat} {LB0_ : Own} {a1 : T_Ins} {a2 : Int} {a3 : Int} {r : (T_State × Int × Int)} (h0 : Bx_State b0_ a0 LB0_) (hF : seq_Act a0 a1 a2 a3 = some r) : LC Tryz.prog 59 #[.pointer (some ⟨b0_, 0, none⟩), .agg (enc_Ins a1).toArray, .int .u32 a2, .int .u32 a3] g LB0_ (fun v L => ∃ (LB' : Own), v = .tuple #[.int .u32 r.2.1, .int .i64 r.2.2] ∧ L = (LB' ++ []) ∧ Bx_State b0_ r.1 LB') := by
 obtain ⟨R0, T0, U0, V0, K0, M0, B1, D1, X0, N0, Y0, Z0, J1, I0, J0, B0, D0, E0, G0⟩ := h0
 unfold seq_Act at hF
 refine lc_body (k := 121) (av := [.pointer (some ⟨b0_, 0, none⟩), .agg (enc_Ins a1).toArray, .int .u32 a2, .int .u32 a3]) func59 rfl rfl (h := fun W hS => ?_)
 have hS := hS.own_eq J1
 refine c_seq <| c_region ?_
 refine o_boxP (cl := (enc_Ins a1)) rfl hS ?_
 clear hS; intro b1 w hS
 iterate 2 (refine oy hS y_assign ?_)
 refine n_thenN <| c_seq <| c_block <| c_seq <| c_region <| oy hS (y_field fa_api_Ins_0) <| oy hS (y_load oH underlying3 rfl rfl) ?_
 refine o_callS hS func102 rfl rfl (hc := (w_pair_Has (a0 := a1.Op))) (h := ?_)
 clear hS; intro w hS
 refine oy hS y_assign <| n_thenN ?_
 refine c_if (ht := fun c2 => ?_) (hf := fun c2 => ?_)
 · replace hF := bt c2 hF
   refine c_region <| oy hS (y_field fa_api_Ins_0) <| oy hS (y_load oH underlying3 rfl rfl) ?_
   iterate 2 (refine oy hS y_move ?_)
   obtain ⟨r3, hr3, hF⟩ := ob hF
   refine o_callS hS func103 rfl rfl (hc := (w_pair_Of (a0 := a1.Op) (a1 := a2) (a2 := a3) (hF := hr3))) (h := ?_)
   clear hS; intro w hS
   refine oy hS y_move ?_
   iterate 2 (refine oy hS (y_extract rfl) ?_)
   refine oy hS y_assign ?_
   refine n_anyN ?_
   refine c_seq <| c_region <| oy hS y_move ?_
   iterate 2 (refine oy hS y_assign ?_)
   refine n_thenN ?_
   obtain rfl := osi hF
   refine wp_ret (r_ret (vs := [.int .u32 r3.1, .int .i64 0]) (hS.re (.b (.e .hb) (.t (.e .h) (.t (.e .h) (.t (.e .h) (.t (.e .h) (.t (.e .h) (.t (.e .h) .n)))))))) (rsC res_tmp (rsC res_tmp rsN)) rfl ⟨_, rfl, (by first | rfl | simp only [aa, ac, al, an]), ⟨_, _, _, _, _, _, _, _, _, _, _, _, rfl, I0, J0, B0, D0, E0, G0⟩⟩)
 replace hF := bf c2 hF
 refine c_seq <| c_region <| oy hS (y_field fa_api_Ins_0) <| oy hS (y_load oH underlying3 rfl rfl) ?_
 refine o_callS hS func104 rfl rfl (hc := (w_word_Has (a0 := a1.Op))) (h := ?_)
 clear hS; intro w hS
 refine oy hS y_assign <| n_thenN ?_
 refine c_if (ht := fun c4 => ?_) (hf := fun c4 => ?_)
 · replace hF := bt c4 hF
   refine c_seq <| c_region <| oy hS y_assign <| n_thenN <| c_seq <| c_region <| oy hS (y_field fa_api_Ins_0) <| oy hS (y_load oH underlying3 rfl rfl) ?_
   iterate 2 (refine oy hS y_move ?_)
   obtain ⟨r5, hr5, hF⟩ := ob hF
   refine o_callS hS func105 rfl rfl (hc := (w_word_Of (a0 := a1.Op) (a1 := a2) (a2 := a3) (hF := hr5))) (h := ?_)
   clear hS; intro w hS
   refine oy hS y_move ?_
   iterate 2 (refine oy hS (y_extract rfl) ?_)
   iterate 2 (refine oy hS y_assign ?_)
   refine n_thenN <| c_seq <| c_region <| oy hS y_move <| oy hS y_bin <| n_thenN ?_
   refine c_if (ht := fun c6 => ?_) (hf := fun c6 => ?_)
   · replace hF := bt c6 hF
     refine c_seq <| c_region ?_
     iterate 2 (refine oy hS y_assign ?_)
     refine n_thenN ?_
     obtain rfl := osi hF
     refine wp_ret (r_ret (vs := [.int .u32 0, .int .i64 3]) (hS.re (.b (.e .hb) (.t (.e .h) (.t (.e .h) (.t (.e .h) (.t (.e .h) (.t (.e .h) (.t (.e .h) .n)))))))) (rsC res_tmp (rsC res_tmp rsN)) rfl ⟨_, rfl, (by first | rfl | simp only [aa, ac, al, an]), ⟨_, _, _, _, _, _, _, _, _, _, _, _, rfl, I0, J0, B0, D0, E0, G0⟩⟩)
   replace hF := bf c6 hF
   refine wp_skip <| c_seq <| c_region <| oy hS y_move ?_
   iterate 2 (refine oy hS y_assign ?_)
   refine n_thenN ?_
   obtain rfl := osi hF
   refine wp_ret (r_ret (vs := [.int .u32 r5.1, .int .i64 0]) (hS.re (.b (.e .hb) (.t (.e .h) (.t (.e .h) (.t (.e .h) (.t (.e .h) (.t (.e .h) (.t (.e .h) .n)))))))) (rsC res_tmp (rsC res_tmp rsN)) rfl ⟨_, rfl, (by first | rfl | simp only [aa, ac, al, an]), ⟨_, _, _, _, _, _, _, _, _, _, _, _, rfl, I0, J0, B0, D0, E0, G0⟩⟩)
 replace hF := bf c4 hF
 refine c_seq <| c_region <| oy hS (y_field fa_api_Ins_0) <| oy hS (y_load oH underlying3 rfl rfl) <| oy hS y_bin <| oy hS y_assign <| n_thenN ?_
 refine c_if (ht := fun c7 => ?_) (hf := fun c7 => ?_)
 · replace hF := bt c7 hF
   refine c_region <| oy hS y_move <| oy hS (y_field fa_api_Ins_4) <| oy hS (y_load oH underlying3 rfl rfl) <| oy hS (y_conv underlying3 underlying87) <| oy hS y_bin <| oy hS y_assign ?_
   refine n_anyN ?_
   refine c_seq <| c_region <| oy hS y_move ?_
   iterate 2 (refine oy hS y_assign ?_)
   refine n_thenN ?_
   obtain rfl := osi hF
   refine wp_ret (r_ret (vs := [.int .u32 (IntKind.u32.wrap (a2 + (IntKind.u32.wrap a1.Imm))), .int .i64 0]) (hS.re (.b (.e .hb) (.t (.e .h) (.t (.e .h) (.t (.e .h) (.t (.e .h) (.t (.e .h) (.t (.e .h) .n)))))))) (rsC res_tmp (rsC res_tmp rsN)) rfl ⟨_, rfl, (by first | rfl | simp only [aa, ac, al, an]), ⟨_, _, _, _, _, _, _, _, _, _, _, _, rfl, I0, J0, B0, D0, E0, G0⟩⟩)
 replace hF := bf c7 hF
 refine c_seq <| c_region <| oy hS (y_field fa_api_Ins_0) <| oy hS (y_load oH underlying3 rfl rfl) <| oy hS y_bin <| oy hS y_assign <| n_thenN ?_
 refine c_if (ht := fun c8 => ?_) (hf := fun c8 => ?_)
 · replace hF := bt c8 hF
   refine c_region <| oy hS (y_field fa_api_Ins_4) <| oy hS (y_load oH underlying3 rfl rfl) <| oy hS (y_conv underlying3 underlying87) <| oy hS y_assign ?_
   refine n_anyN ?_
   refine c_seq <| c_region <| oy hS y_move ?_
   iterate 2 (refine oy hS y_assign ?_)
   refine n_thenN ?_
   obtain rfl := osi hF
   refine wp_ret (r_ret (vs := [.int .u32 (IntKind.u32.wrap a1.Imm), .int .i64 0]) (hS.re (.b (.e .hb) (.t (.e .h) (.t (.e .h) (.t (.e .h) (.t (.e .h) (.t (.e .h) (.t (.e .h) .n)))))))) (rsC res_tmp (rsC res_tmp rsN)) rfl ⟨_, rfl, (by first | rfl | simp only [aa, ac, al, an]), ⟨_, _, _, _, _, _, _, _, _, _, _, _, rfl, I0, J0, B0, D0, E0, G0⟩⟩)
 replace hF := bf c8 hF
 refine c_seq <| c_region <| oy hS (y_field fa_api_Ins_0) <| oy hS (y_load oH underlying3 rfl rfl) <| oy hS y_bin ?_
 refine o_split (ht := fun c9 => ?_) (hf := fun c9 => ?_)
 · replace hF := bt c9 hF
   iterate 3 (refine o_sk rfl rfl ?_)
   refine oy hS y_pickT <| oy hS y_assign <| n_thenN ?_
   refine c_if_true (h := ?_)
   refine c_seq <| c_region <| oy hS y_move ?_
   refine oy hS (y_loadW oH underlying81 rfl (by exact sz_api_Ins)) ?_
   iterate 2 (refine oy hS y_move ?_)
   have hS := hS.re (.b (.e .hb) (.t (.e .h) (.t (.e .h) (.t (.e .h) (.t (.e .h) (.t (.e .h) (.t (.e .h) (.b .hb .n))))))))
   have hS2 := hS.spl (.cons _ (.app _ (.app _ (.app _ (.app _ (.app _ (.app _ (.nil _))))))))
   obtain ⟨r10, K1, hF⟩ := ob hF
   refine o_call hS2 func106 rfl rfl (hc := (w_seq_memory (a0 := a0) (a1 := a1) (a2 := a2) (a3 := a3) (h0 := (⟨_, _, _, _, _, _, _, _, _, _, _, _, rfl, I0, J0, B0, D0, E0, G0⟩ : Bx_State b0_ a0 ((b0_, blk (cl_State R0 T0 U0 a0.Taken V0 a0.PC K0 a0.Stop M0 a0.Jump a0.Delay) 62) :: (B1 ++ (D1 ++ (X0 ++ (N0 ++ (Y0 ++ (Z0 ++ []))))))))) (hF := K1))) (h := ?_)
   clear hS; intro v11 G2 w hS M1
   clear hS2
   obtain ⟨I2, rfl, rfl, N1⟩ := M1
   obtain ⟨vB_0_16, vB_1_20, vB_2_24, vB_4_28, vB_6_32, vB_8_36, LXB_0_17, LXB_1_21, LXB_2_25, LXB_4_29, LXB_6_33, LXB_8_37, rfl, hB_0_18, hB_1_22, hB_2_26, hB_4_30, hB_6_34, hB_8_38⟩ := N1
   simp only [aa, ac, al] at hS
   iterate 2 (refine oy hS (y_extract rfl) ?_)
   iterate 2 (refine oy hS y_assign ?_)
   refine n_thenN ?_
   obtain rfl := osi hF
   refine wp_ret (r_ret (vs := [.int .u32 r10.2.1, .int .i64 r10.2.2]) (hS.re (.b .hb (.t .h (.t .h (.t .h (.t .h (.t .h (.t .h .n)))))))) (rsC res_tmp (rsC res_tmp rsN)) rfl ⟨_, rfl, (by first | rfl | simp only [aa, ac, al, an]), ⟨_, _, _, _, _, _, _, _, _, _, _, _, rfl, hB_0_18, hB_1_22, hB_2_26, hB_4_30, hB_6_34, hB_8_38⟩⟩)
 replace hF := bf c9 hF
 refine o_gu rfl rfl rfl <| oy hS (y_field fa_api_Ins_0) <| o_gu rfl rfl rfl <| oy hS (y_load oH underlying3 rfl rfl) <| o_gu rfl rfl rfl <| oy hS y_bin <| oy hS y_pickF <| oy hS y_assign ?_
 refine n_thenN ?_
 refine c_if (ht := fun c40 => ?_) (hf := fun c40 => ?_)
 · replace hF := bt c40 hF
   refine c_seq <| c_region <| oy hS y_move ?_
   refine oy hS (y_loadW oH underlying81 rfl (by exact sz_api_Ins)) ?_
   iterate 2 (refine oy hS y_move ?_)
   have hS := hS.re (.b (.e .hb) (.t (.e .h) (.t (.e .h) (.t (.e .h) (.t (.e .h) (.t (.e .h) (.t (.e .h) (.b .hb .n))))))))
   have hS2 := hS.spl (.cons _ (.app _ (.app _ (.app _ (.app _ (.app _ (.app _ (.nil _))))))))
   obtain ⟨r41, R1, hF⟩ := ob hF
   refine o_call hS2 func106 rfl rfl (hc := (w_seq_memory (a0 := a0) (a1 := a1) (a2 := a2) (a3 := a3) (h0 := (⟨_, _, _, _, _, _, _, _, _, _, _, _, rfl, I0, J0, B0, D0, E0, G0⟩ : Bx_State b0_ a0 ((b0_, blk (cl_State R0 T0 U0 a0.Taken V0 a0.PC K0 a0.Stop M0 a0.Jump a0.Delay) 62) :: (B1 ++ (D1 ++ (X0 ++ (N0 ++ (Y0 ++ (Z0 ++ []))))))))) (hF := R1))) (h := ?_)
   clear hS; intro v42 J2 w hS T1
   clear hS2
   obtain ⟨K2, rfl, rfl, U1⟩ := T1
   obtain ⟨vB_0_47, vB_1_51, vB_2_55, vB_4_59, vB_6_63, vB_8_67, LXB_0_48, LXB_1_52, LXB_2_56, LXB_4_60, LXB_6_64, LXB_8_68, rfl, hB_0_49, hB_1_53, hB_2_57, hB_4_61, hB_6_65, hB_8_69⟩ := U1
   simp only [aa, ac, al] at hS
   iterate 2 (refine oy hS (y_extract rfl) ?_)
   iterate 2 (refine oy hS y_assign ?_)
   refine n_thenN ?_
   obtain rfl := osi hF
   refine wp_ret (r_ret (vs := [.int .u32 r41.2.1, .int .i64 r41.2.2]) (hS.re (.b .hb (.t .h (.t .h (.t .h (.t .h (.t .h (.t .h .n)))))))) (rsC res_tmp (rsC res_tmp rsN)) rfl ⟨_, rfl, (by first | rfl | simp only [aa, ac, al, an]), ⟨_, _, _, _, _, _, _, _, _, _, _, _, rfl, hB_0_49, hB_1_53, hB_2_57, hB_4_61, hB_6_65, hB_8_69⟩⟩)
 replace hF := bf c40 hF
 refine c_seq ?_
 refine c_quiet (by kernel_rfl) (by kernel_rfl) hS ?_
 refine qy (y_field fa_api_Ins_0) <| qy (y_load (fun w hS => hS.own (mH)) underlying3 rfl rfl) <| qy y_bin ?_
 refine q_split (ht := fun c71 => ?_) (hf := fun c71 => ?_)
 · replace hF := bt c71 hF
   refine q_gu rfl rfl rfl ?_
   refine qy y_move ?_
   refine q_gu rfl rfl rfl ?_
   refine qy y_nilCheck ?_
   refine q_gu rfl rfl rfl ?_
   refine qy (y_field fa_api_State_3) ?_
   refine q_gu rfl rfl rfl ?_
   refine qy (y_load (fun w hS => hS.own (mC (mH))) underlying3 rfl rfl) ?_
   refine q_gu rfl rfl rfl ?_
   refine qy y_move ?_
   refine q_gu rfl rfl rfl ?_
   refine qy y_nilCheck ?_
   refine q_gu rfl rfl rfl ?_
   refine qy (y_field fa_api_State_2) ?_
   refine q_gu rfl rfl rfl ?_
   refine qy (y_load (fun w hS => hS.own (mC (mH))) underlying31 rfl rfl) ?_
   refine q_gu rfl rfl rfl ?_
   refine qy (y_lenO B0 underlying31) ?_
   refine q_gu rfl rfl rfl ?_
   refine qy y_bin <| qy y_pickT <| qy y_assign ?_
   refine q_nilN (h := ?_)
   clear hS; intro w hS
   refine c_if (ht := fun c72 => ?_) (hf := fun c72 => ?_)
   · replace hF := bt c72 hF
     refine c_seq ?_
     refine c_quiet (by kernel_rfl) (by kernel_rfl) hS ?_
     refine qy y_move <| qy y_nilCheck <| qy (y_field fa_api_State_2) <| qy (y_load (fun w hS => hS.own (mC (mH))) underlying31 rfl rfl) <| qy y_move <| qy y_nilCheck <| qy (y_field fa_api_State_3) <| qy (y_load (fun w hS => hS.own (mC (mH))) underlying3 rfl rfl) ?_
     obtain ⟨x73, V1, hF⟩ := ob hF
     obtain ⟨b74, c75, M2, X1, Y1, Z1, B2, D2⟩ := OwT.at V1 B0 enc_len_uint32
     refine qy (y_index X1 Y1 Z1 underlying31 el_uint32.size) <| qy (y_load (fun w hS => hS.own (mC (mC (mB (mB (mA (mX B2))))))) underlying87 rfl (D2 0 _ rfl)) <| qy y_assign ?_
     refine q_nilN (h := ?_)
     clear hS; intro w hS
     refine c_region <| oy hS y_move <| oy hS y_nilCheck <| oy hS (y_field fa_api_State_3) <| oy hS (y_load (fun w hS => hS.own (mC (mH))) underlying3 rfl rfl) <| oy hS y_bin <| oy hS y_nilCheck <| oy hS (y_field fa_api_State_3) ?_
     refine o_storeA1 (o := 3) (cl' := (cl_State R0 T0 U0 (IntKind.i64.wrap (a0.Taken + 1)) V0 a0.PC K0 a0.Stop M0 a0.Jump a0.Delay)) hS (by kernel_rfl) (by exact Nat.le_of_ble_eq_true rfl) (Upd.there _ (Upd.here _)) (by exact sz_int) rfl rfl ?_
     clear hS; intro w hS
     refine n_anyN ?_
     refine c_seq <| c_region <| oy hS y_move ?_
     iterate 2 (refine oy hS y_assign ?_)
     refine n_thenN ?_
     obtain rfl := osi hF
     refine wp_ret (r_ret (vs := [.int .u32 x73, .int .i64 0]) (hS.re (.b (.e .hb) (.t (.e .h) (.t (.e .h) (.t (.e .h) (.t (.e .h) (.t (.e .h) (.t (.e .h) .n)))))))) (rsC res_tmp (rsC res_tmp rsN)) rfl ⟨_, rfl, (by first | rfl | simp only [aa, ac, al, an]), ⟨_, _, _, _, _, _, _, _, _, _, _, _, rfl, I0, J0, B0, D0, E0, G0⟩⟩)
   replace hF := bf c72 hF
   refine c_seq <| c_region <| oy hS (y_field fa_api_Ins_0) <| oy hS (y_load oH underlying3 rfl rfl) <| oy hS y_bin <| oy hS y_assign <| n_thenN ?_
   refine c_if (ht := fun c82 => ?_) (hf := fun c82 => ?_)
   · replace hF := bt c82 hF
     refine c_region ?_
     iterate 2 (refine oy hS y_move ?_)
     refine oy hS y_nilCheck <| oy hS (y_field fa_api_State_4) <| oy hS (y_load (fun w hS => hS.own (mC (mH))) underlying31 rfl rfl) <| oy hS y_move ?_
     refine o_buildT val_uint32 ([a2] : List Int) hS el_uint32 (fun _ => rfl) enc_len_uint32 (by decide) rfl (by decide) (hp := rfl) (h := ?_)
     clear hS; intro b83 w hS h84
     have hS : St W g LB0_ ([(b83, blk (([a2] : List Int).flatMap enc_uint32) 87)] ++ ((b1, blk (enc_Ins a1) 81) :: ((b0_, blk (cl_State R0 T0 U0 a0.Taken V0 a0.PC K0 a0.Stop M0 a0.Jump a0.Delay) 62) :: (B1 ++ (D1 ++ (X0 ++ (N0 ++ (Y0 ++ (Z0 ++ []))))))))) w := hS
     obtain ⟨N2, I1, hF⟩ := ob hF
     have hS := hS.re (.t .h (.t (.e (.e (.d (.d (.d .h))))) (.b .hb (.b .hb (.t .h (.t .h (.t .h (.t .h (.t .h .n)))))))))
     refine o_appPn (ys := ([a2] : List Int)) (LX := N0) I1 hS el_uint32 D0 rfl enc_len_uint32 (enc_ones_uint32 _) (by decide) ?_
     clear hS; intro v86 R2 w h88 hS
     refine oy hS y_nilCheck <| oy hS (y_field fa_api_State_4) ?_
     have hS := hS.re (.b (.d (.e .hb)) (.t .h (.b .hb (.t .h (.t .h (.t .h (.t .h (.t .h .n))))))))
     refine o_storeA1 (o := 4) (cl' := (cl_State R0 T0 U0 a0.Taken v86 a0.PC K0 a0.Stop M0 a0.Jump a0.Delay)) hS (by kernel_rfl) (by exact Nat.le_of_ble_eq_true rfl) (Upd.here _) (by exact sz_S_uint32) (h88).one (h88).cell ?_
     clear hS; intro w hS
     refine n_anyN ?_
     refine c_seq <| c_region <| oy hS y_move ?_
     iterate 2 (refine oy hS y_assign ?_)
     refine n_thenN ?_
     obtain rfl := osi hF
     refine wp_ret (r_ret (vs := [.int .u32 0, .int .i64 0]) (hS.re (.b .hb (.t (.d (.e .h)) (.t (.d (.e .h)) (.t (.d (.e .h)) (.t .h (.t (.e .h) (.t (.e .h) .n)))))))) (rsC res_tmp (rsC res_tmp rsN)) rfl ⟨_, rfl, (by first | rfl | simp only [aa, ac, al, an]), ⟨_, _, _, _, _, _, _, _, _, _, _, _, rfl, I0, J0, B0, h88, E0, G0⟩⟩)
   replace hF := bf c82 hF
   refine c_seq <| c_region <| oy hS (y_field fa_api_Ins_0) <| oy hS (y_load oH underlying3 rfl rfl) <| oy hS y_bin <| oy hS y_assign <| n_thenN ?_
   refine c_if (ht := fun c91 => ?_) (hf := fun c91 => ?_)
   · replace hF := bt c91 hF
     refine c_seq <| c_region ?_
     iterate 2 (refine oy hS y_assign ?_)
     refine n_thenN ?_
     obtain rfl := osi hF
     refine wp_ret (r_ret (vs := [.int .u32 0, .int .i64 1]) (hS.re (.b (.e .hb) (.t (.e .h) (.t (.e .h) (.t (.e .h) (.t (.e .h) (.t (.e .h) (.t (.e .h) .n)))))))) (rsC res_tmp (rsC res_tmp rsN)) rfl ⟨_, rfl, (by first | rfl | simp only [aa, ac, al, an]), ⟨_, _, _, _, _, _, _, _, _, _, _, _, rfl, I0, J0, B0, D0, E0, G0⟩⟩)
   replace hF := bf c91 hF
   refine wp_skip <| c_seq <| c_region <| oy hS y_move ?_
   iterate 2 (refine oy hS y_assign ?_)
   refine n_thenN ?_
   obtain rfl := osi hF
   refine wp_ret (r_ret (vs := [.int .u32 0, .int .i64 0]) (hS.re (.b (.e .hb) (.t (.e .h) (.t (.e .h) (.t (.e .h) (.t (.e .h) (.t (.e .h) (.t (.e .h) .n)))))))) (rsC res_tmp (rsC res_tmp rsN)) rfl ⟨_, rfl, (by first | rfl | simp only [aa, ac, al, an]), ⟨_, _, _, _, _, _, _, _, _, _, _, _, rfl, I0, J0, B0, D0, E0, G0⟩⟩)
 replace hF := bf c71 hF
 iterate 10 (refine q_sk rfl rfl ?_)
 refine qy y_pickF <| qy y_assign ?_
 refine q_nilN (h := ?_)
 clear hS; intro w hS
 refine c_if_false (h := ?_)
 refine c_seq <| c_region <| oy hS (y_field fa_api_Ins_0) <| oy hS (y_load oH underlying3 rfl rfl) <| oy hS y_bin <| oy hS y_assign <| n_thenN ?_
 refine c_if (ht := fun c92 => ?_) (hf := fun c92 => ?_)
 · replace hF := bt c92 hF
   refine c_region ?_
   iterate 2 (refine oy hS y_move ?_)
   refine oy hS y_nilCheck <| oy hS (y_field fa_api_State_4) <| oy hS (y_load (fun w hS => hS.own (mC (mH))) underlying31 rfl rfl) <| oy hS y_move ?_
   refine o_buildT val_uint32 ([a2] : List Int) hS el_uint32 (fun _ => rfl) enc_len_uint32 (by decide) rfl (by decide) (hp := rfl) (h := ?_)
   clear hS; intro b93 w hS h94
   have hS : St W g LB0_ ([(b93, blk (([a2] : List Int).flatMap enc_uint32) 87)] ++ ((b1, blk (enc_Ins a1) 81) :: ((b0_, blk (cl_State R0 T0 U0 a0.Taken V0 a0.PC K0 a0.Stop M0 a0.Jump a0.Delay) 62) :: (B1 ++ (D1 ++ (X0 ++ (N0 ++ (Y0 ++ (Z0 ++ []))))))))) w := hS
   obtain ⟨E2, G1, hF⟩ := ob hF
   have hS := hS.re (.t .h (.t (.e (.e (.d (.d (.d .h))))) (.b .hb (.b .hb (.t .h (.t .h (.t .h (.t .h (.t .h .n)))))))))
   refine o_appPn (ys := ([a2] : List Int)) (LX := N0) G1 hS el_uint32 D0 rfl enc_len_uint32 (enc_ones_uint32 _) (by decide) ?_
   clear hS; intro v96 T2 w h98 hS
   refine oy hS y_nilCheck <| oy hS (y_field fa_api_State_4) ?_
   have hS := hS.re (.b (.d (.e .hb)) (.t .h (.b .hb (.t .h (.t .h (.t .h (.t .h (.t .h .n))))))))
   refine o_storeA1 (o := 4) (cl' := (cl_State R0 T0 U0 a0.Taken v96 a0.PC K0 a0.Stop M0 a0.Jump a0.Delay)) hS (by kernel_rfl) (by exact Nat.le_of_ble_eq_true rfl) (Upd.here _) (by exact sz_S_uint32) (h98).one (h98).cell ?_
   clear hS; intro w hS
   refine n_anyN ?_
   refine c_seq <| c_region <| oy hS y_move ?_
   iterate 2 (refine oy hS y_assign ?_)
   refine n_thenN ?_
   obtain rfl := osi hF
   refine wp_ret (r_ret (vs := [.int .u32 0, .int .i64 0]) (hS.re (.b .hb (.t (.d (.e .h)) (.t (.d (.e .h)) (.t (.d (.e .h)) (.t .h (.t (.e .h) (.t (.e .h) .n)))))))) (rsC res_tmp (rsC res_tmp rsN)) rfl ⟨_, rfl, (by first | rfl | simp only [aa, ac, al, an]), ⟨_, _, _, _, _, _, _, _, _, _, _, _, rfl, I0, J0, B0, h98, E0, G0⟩⟩)
 replace hF := bf c92 hF
 refine c_seq <| c_region <| oy hS (y_field fa_api_Ins_0) <| oy hS (y_load oH underlying3 rfl rfl) <| oy hS y_bin <| oy hS y_assign <| n_thenN ?_
 refine c_if (ht := fun E1 => ?_) (hf := fun E1 => ?_)
 · replace hF := bt E1 hF
   refine c_seq <| c_region ?_
   iterate 2 (refine oy hS y_assign ?_)
   refine n_thenN ?_
   obtain rfl := osi hF
   refine wp_ret (r_ret (vs := [.int .u32 0, .int .i64 1]) (hS.re (.b (.e .hb) (.t (.e .h) (.t (.e .h) (.t (.e .h) (.t (.e .h) (.t (.e .h) (.t (.e .h) .n)))))))) (rsC res_tmp (rsC res_tmp rsN)) rfl ⟨_, rfl, (by first | rfl | simp only [aa, ac, al, an]), ⟨_, _, _, _, _, _, _, _, _, _, _, _, rfl, I0, J0, B0, D0, E0, G0⟩⟩)
 replace hF := bf E1 hF
 refine wp_skip <| c_seq <| c_region <| oy hS y_move ?_
 iterate 2 (refine oy hS y_assign ?_)
 refine n_thenN ?_
 obtain rfl := osi hF
 refine wp_ret (r_ret (vs := [.int .u32 0, .int .i64 0]) (hS.re (.b (.e .hb) (.t (.e .h) (.t (.e .h) (.t (.e .h) (.t (.e .h) (.t (.e .h) (.t (.e .h) .n)))))))) (rsC res_tmp (rsC res_tmp rsN)) rfl ⟨_, rfl, (by first | rfl | simp only [aa, ac, al, an]), ⟨_, _, _, _, _, _, _, _, _, _, _, _, rfl, I0, J0, B0, D0, E0, G0⟩⟩)
theorem w_seq_Act {g : Frag} {a0 : T_State} {b0_ : Nat} {LB0_ : Own} {a1 : T_Ins} {a2 : Int} {a3 : Int} {r : (T_State × Int × Int)} (h0 : Bx_State b0_ a0 LB0_) (hF : seq_Act a0 a1 a2 a3 = some r) : LC Tryz.prog 59 #[.pointer (some ⟨b0_, 0, none⟩), .agg (enc_Ins a1).toArray, .int .u32 a2, .int .u32 a3] g LB0_ (fun v L => ∃ (LB' : Own), v = .tuple #[.int .u32 r.2.1, .int .i64 r.2.2] ∧ L = (LB' ++ []) ∧ Bx_State b0_ r.1 LB') := w_seq_Act_ h0 hF

noncomputable def seq_Turn_k1 (a0 : T_State) (a1 : T_Ins) (a3 : Int) : (Bool × (List Int) × (List Int) × (List Int) × (List Int) × (List T_Write)) → Option (T_State × Int × Bool × Int) := fun (x7, x8, x13, x18, x23, x28) => bif x7 then some ((⟨a0.Regs, x8, x13, a0.Taken, x18, a0.PC, x23, a0.Stop, x28, a0.Jump, a0.Delay⟩ : T_State), a1.Imm, true, 0) else bif decide (a1.Op = 31) then bif decide (16 ≤ (x23.length : Int)) then some ((⟨a0.Regs, x8, x13, a0.Taken, x18, a0.PC, x23, a0.Stop, x28, a0.Jump, a0.Delay⟩ : T_State), 0, false, 4) else (app' x23 ([a3] : List Int)).bind fun B0 => some ((⟨a0.Regs, x8, x13, a0.Taken, x18, a0.PC, B0, a0.Stop, x28, a0.Jump, a0.Delay⟩ : T_State), a1.Imm, true, 0) else bif decide (a1.Op = 32) then bif decide ((IntKind.i64.wrap ((x23.length : Int) - 1)) < 0) then some ((⟨a0.Regs, x8, x13, a0.Taken, x18, a0.PC, x23, a0.Stop, x28, a0.Jump, a0.Delay⟩ : T_State), 0, false, 4) else (at' x23 (IntKind.i64.wrap ((x23.length : Int) - 1))).bind fun x54 => (upto' x23 (IntKind.i64.wrap ((x23.length : Int) - 1))).bind fun D0 => some ((⟨a0.Regs, x8, x13, a0.Taken, x18, a0.PC, D0, a0.Stop, x28, a0.Jump, a0.Delay⟩ : T_State), x54, true, 0) else some ((⟨a0.Regs, x8, x13, a0.Taken, x18, a0.PC, x23, a0.Stop, x28, a0.Jump, a0.Delay⟩ : T_State), 0, false, 0)
noncomputable def seq_Turn (a0 : T_State) (a1 : T_Ins) (a2 : Int) (a3 : Int) : Option (T_State × Int × Bool × Int) :=
  cut (σ := (Bool × (List Int) × (List Int) × (List Int) × (List Int) × (List T_Write))) (bif decide (a1.Op = 28) then some (.next (decide (a1.Op = 28), a0.Mem, a0.In_, a0.Out, a0.Stack, a0.Fly)) else bif decide (a1.Op = 29) then bif decide (a2 = 0) then some (.next (decide (a2 = 0), a0.Mem, a0.In_, a0.Out, a0.Stack, a0.Fly)) else bif decide (a1.Op = 30) then some (.next (decide (a2 ≠ 0), a0.Mem, a0.In_, a0.Out, a0.Stack, a0.Fly)) else some (.next (false, a0.Mem, a0.In_, a0.Out, a0.Stack, a0.Fly)) else bif decide (a1.Op = 30) then some (.next (decide (a2 ≠ 0), a0.Mem, a0.In_, a0.Out, a0.Stack, a0.Fly)) else some (.next (false, a0.Mem, a0.In_, a0.Out, a0.Stack, a0.Fly))) (seq_Turn_k1 a0 a1 a3)
theorem w_seq_Turn_ {g : Frag} {a0 : T_State} {b0_ : Nat} {LB0_ : Own} {a1 : T_Ins} {a2 : Int} {a3 : Int} {r : (T_State × Int × Bool × Int)} (h0 : Bx_State b0_ a0 LB0_) (hF : seq_Turn a0 a1 a2 a3 = some r) : LC Tryz.prog 60 #[.pointer (some ⟨b0_, 0, none⟩), .agg (enc_Ins a1).toArray, .int .u32 a2, .int .i64 a3] g LB0_ (fun v L => ∃ (LB' : Own), v = .tuple #[.int .i64 r.2.1, .bool r.2.2.1, .int .i64 r.2.2.2] ∧ L = (LB' ++ []) ∧ Bx_State b0_ r.1 LB') := by
 obtain ⟨B1, V0, X0, I0, J0, K0, E1, M0, B0, D0, E0, G0, T1, Y0, Z0, N0, R0, T0, U0⟩ := h0
 unfold seq_Turn at hF
 refine lc_body (k := 83) (av := [.pointer (some ⟨b0_, 0, none⟩), .agg (enc_Ins a1).toArray, .int .u32 a2, .int .i64 a3]) func60 rfl rfl (h := fun W hS => ?_)
 have hS := hS.own_eq T1
 refine c_seq <| c_region ?_
 refine o_boxP (cl := (enc_Ins a1)) rfl hS ?_
 clear hS; intro b1 w hS
 iterate 3 (refine oy hS y_assign ?_)
 refine n_thenN <| c_seq <| c_block ?_
 obtain ⟨z33, hF, D1⟩ := cut_step hF
 refine c_cutP (fun a w' => ∃ (x7 : Bool) (x8 : (List Int)) (x13 : (List Int)) (x18 : (List Int)) (x23 : (List Int)) (x28 : (List T_Write)) (v9 : Value) (v14 : Value) (v19 : Value) (v24 : Value) (v29 : Value) (I1 : Own) (J1 : Own) (K1 : Own) (G1 : Own) (M1 : Own), seq_Turn_k1 a0 a1 a3 (x7, x8, x13, x18, x23, x28) = some r ∧ OwT 87 enc_uint32 1 x8 v9 I1 ∧ OwT 87 enc_uint32 1 x13 v14 J1 ∧ OwT 87 enc_uint32 1 x18 v19 K1 ∧ OwT 3 enc_int 1 x23 v24 G1 ∧ OwT 89 enc_Write 3 x28 v29 M1 ∧ (∃ s : Nat → Value, a = Ac (((((Fm.dead 83 s).upd 0 (.pointer (some ⟨b0_, 0, none⟩))).upd 3 (.int .i64 a3)).upd 5 (.pointer (some ⟨b1, 0, none⟩))).upd 12 (.bool x7))) ∧ St W g LB0_ ((b0_, blk (cl_State B1 v9 v14 a0.Taken v19 a0.PC v24 a0.Stop v29 a0.Jump a0.Delay) 62) :: ((b1, blk (enc_Ins a1) 81) :: (E1 ++ (I1 ++ (J1 ++ (K1 ++ (G1 ++ (M1 ++ [])))))))) w') ?_ ?_
 · skip
   refine c_seq <| c_region <| oy hS (y_field fa_api_Ins_0) <| oy hS (y_load oH underlying3 rfl rfl) <| oy hS y_bin <| oy hS y_assign <| n_thenN ?_
   refine c_if (ht := fun c35 => ?_) (hf := fun c35 => ?_)
   · replace hF := bt c35 hF
     refine wp_skip ?_
     obtain rfl := osi hF
     change ∃ _, _
     exact ⟨decide (a1.Op = 28), a0.Mem, a0.In_, a0.Out, a0.Stack, a0.Fly, V0, X0, I0, J0, K0, M0, B0, D0, E0, G0, D1, Z0, N0, R0, T0, U0, mk_exF, (hS.re (.b (.e .hb) (.b .hb (.t .h (.t .h (.t .h (.t .h (.t .h (.t .h .n)))))))))⟩
   replace hF := bf c35 hF
   refine c_seq <| c_region <| oy hS (y_field fa_api_Ins_0) <| oy hS (y_load oH underlying3 rfl rfl) <| oy hS y_bin ?_
   refine o_split (ht := fun c36 => ?_) (hf := fun c36 => ?_)
   · replace hF := bt c36 hF
     refine o_gu rfl rfl rfl <| oy hS y_move <| o_gu rfl rfl rfl <| oy hS y_bin <| oy hS y_pickT <| oy hS y_assign <| n_thenN ?_
     refine c_if (ht := fun c37 => ?_) (hf := fun c37 => ?_)
     · replace hF := bt c37 hF
       refine wp_skip ?_
       obtain rfl := osi hF
       change ∃ _, _
       exact ⟨decide (a2 = 0), a0.Mem, a0.In_, a0.Out, a0.Stack, a0.Fly, V0, X0, I0, J0, K0, M0, B0, D0, E0, G0, D1, Z0, N0, R0, T0, U0, mk_exF, (hS.re (.b (.e .hb) (.b .hb (.t .h (.t .h (.t .h (.t .h (.t .h (.t .h .n)))))))))⟩
     replace hF := bf c37 hF
     refine c_region <| oy hS (y_field fa_api_Ins_0) <| oy hS (y_load oH underlying3 rfl rfl) <| oy hS y_bin ?_
     refine o_split (ht := fun c38 => ?_) (hf := fun c38 => ?_)
     · replace hF := bt c38 hF
       refine o_gu rfl rfl rfl <| oy hS y_move <| o_gu rfl rfl rfl <| oy hS y_bin <| oy hS y_pickT <| oy hS y_assign <| n_thenN ?_
       obtain rfl := osi hF
       change ∃ _, _
       exact ⟨decide (a2 ≠ 0), a0.Mem, a0.In_, a0.Out, a0.Stack, a0.Fly, V0, X0, I0, J0, K0, M0, B0, D0, E0, G0, D1, Z0, N0, R0, T0, U0, mk_exF, (hS.re (.b (.e .hb) (.b .hb (.t .h (.t .h (.t .h (.t .h (.t .h (.t .h .n)))))))))⟩
     replace hF := bf c38 hF
     iterate 2 (refine o_sk rfl rfl ?_)
     refine oy hS y_pickF <| oy hS y_assign <| n_thenN ?_
     obtain rfl := osi hF
     change ∃ _, _
     exact ⟨false, a0.Mem, a0.In_, a0.Out, a0.Stack, a0.Fly, V0, X0, I0, J0, K0, M0, B0, D0, E0, G0, D1, Z0, N0, R0, T0, U0, mk_exF, (hS.re (.b (.e .hb) (.b .hb (.t .h (.t .h (.t .h (.t .h (.t .h (.t .h .n)))))))))⟩
   replace hF := bf c36 hF
   iterate 2 (refine o_sk rfl rfl ?_)
   refine oy hS y_pickF <| oy hS y_assign <| n_thenN ?_
   refine c_if_false (h := ?_)
   refine c_region <| oy hS (y_field fa_api_Ins_0) <| oy hS (y_load oH underlying3 rfl rfl) <| oy hS y_bin ?_
   refine o_split (ht := fun c39 => ?_) (hf := fun c39 => ?_)
   · replace hF := bt c39 hF
     refine o_gu rfl rfl rfl <| oy hS y_move <| o_gu rfl rfl rfl <| oy hS y_bin <| oy hS y_pickT <| oy hS y_assign <| n_thenN ?_
     obtain rfl := osi hF
     change ∃ _, _
     exact ⟨decide (a2 ≠ 0), a0.Mem, a0.In_, a0.Out, a0.Stack, a0.Fly, V0, X0, I0, J0, K0, M0, B0, D0, E0, G0, D1, Z0, N0, R0, T0, U0, mk_exF, (hS.re (.b (.e .hb) (.b .hb (.t .h (.t .h (.t .h (.t .h (.t .h (.t .h .n)))))))))⟩
   replace hF := bf c39 hF
   iterate 2 (refine o_sk rfl rfl ?_)
   refine oy hS y_pickF <| oy hS y_assign <| n_thenN ?_
   obtain rfl := osi hF
   change ∃ _, _
   exact ⟨false, a0.Mem, a0.In_, a0.Out, a0.Stack, a0.Fly, V0, X0, I0, J0, K0, M0, B0, D0, E0, G0, D1, Z0, N0, R0, T0, U0, mk_exF, (hS.re (.b (.e .hb) (.b .hb (.t .h (.t .h (.t .h (.t .h (.t .h (.t .h .n)))))))))⟩
 rintro a w ⟨x7, x8, x13, x18, x23, x28, v9, v14, v19, v24, v29, I1, J1, K1, G1, M1, hF, h10, h15, h20, h25, h30, ⟨s40, rfl⟩, hS⟩
 dsimp only [seq_Turn_k1] at hF
 refine c_if (ht := fun c41 => ?_) (hf := fun c41 => ?_)
 · replace hF := bt c41 hF
   refine c_seq <| c_region <| oy hS (y_field fa_api_Ins_4) <| oy hS (y_load (fun w hS => hS.own (mC (mH))) underlying3 rfl rfl) ?_
   iterate 3 (refine oy hS y_assign ?_)
   refine n_thenN ?_
   obtain rfl := osi hF
   refine wp_ret (r_ret (vs := [.int .i64 a1.Imm, .bool true, .int .i64 0]) (hS.re (.b .hb (.t (.e .h) (.t (.e .h) (.t (.e .h) (.t (.e .h) (.t (.e .h) (.t (.e .h) .n)))))))) (rsC res_tmp (rsC res_tmp (rsC res_tmp rsN))) rfl ⟨_, rfl, (by first | rfl | simp only [aa, ac, al, an]), ⟨_, _, _, _, _, _, _, _, _, _, _, _, rfl, Y0, h10, h15, h20, h25, h30⟩⟩)
 replace hF := bf c41 hF
 refine c_seq <| c_region <| oy hS (y_field fa_api_Ins_0) <| oy hS (y_load (fun w hS => hS.own (mC (mH))) underlying3 rfl rfl) <| oy hS y_bin <| oy hS y_assign <| n_thenN ?_
 refine c_if (ht := fun c42 => ?_) (hf := fun c42 => ?_)
 · replace hF := bt c42 hF
   iterate 2 (refine c_seq ?_)
   refine c_region <| oy hS y_move <| oy hS y_nilCheck <| oy hS (y_field fa_api_State_6) <| oy hS (y_load oH underlying37 rfl rfl) <| oy hS (y_lenO h25 underlying37) <| oy hS y_bin <| n_thenN ?_
   refine c_if (ht := fun c43 => ?_) (hf := fun c43 => ?_)
   · replace hF := bt c43 hF
     refine c_seq <| c_region ?_
     iterate 3 (refine oy hS y_assign ?_)
     refine n_thenN ?_
     obtain rfl := osi hF
     refine wp_ret (r_ret (vs := [.int .i64 0, .bool false, .int .i64 4]) (hS.re (.b .hb (.t (.e .h) (.t (.e .h) (.t (.e .h) (.t (.e .h) (.t (.e .h) (.t (.e .h) .n)))))))) (rsC res_tmp (rsC res_tmp (rsC res_tmp rsN))) rfl ⟨_, rfl, (by first | rfl | simp only [aa, ac, al, an]), ⟨_, _, _, _, _, _, _, _, _, _, _, _, rfl, Y0, h10, h15, h20, h25, h30⟩⟩)
   replace hF := bf c43 hF
   refine wp_skip <| c_seq <| c_region ?_
   iterate 2 (refine oy hS y_move ?_)
   refine oy hS y_nilCheck <| oy hS (y_field fa_api_State_6) <| oy hS (y_load oH underlying37 rfl rfl) <| oy hS y_move ?_
   refine o_buildT val_int ([a3] : List Int) hS el_int (fun _ => rfl) enc_len_int (by decide) rfl (by decide) (hp := rfl) (h := ?_)
   clear hS; intro b44 w hS h45
   have hS : St W g LB0_ ([(b44, blk (([a3] : List Int).flatMap enc_int) 3)] ++ ((b0_, blk (cl_State B1 v9 v14 a0.Taken v19 a0.PC v24 a0.Stop v29 a0.Jump a0.Delay) 62) :: ((b1, blk (enc_Ins a1) 81) :: (E1 ++ (I1 ++ (J1 ++ (K1 ++ (G1 ++ (M1 ++ []))))))))) w := hS
   obtain ⟨D2, N1, hF⟩ := ob hF
   have hS := hS.re (.t .h (.t (.e (.e (.d (.d (.d (.d .h)))))) (.b .hb (.b .hb (.t .h (.t .h (.t .h (.t .h (.t .h .n)))))))))
   refine o_appPn (ys := ([a3] : List Int)) (LX := G1) N1 hS el_int h25 rfl enc_len_int (enc_ones_int _) (by decide) ?_
   clear hS; intro v47 E2 w h49 hS
   refine oy hS y_nilCheck <| oy hS (y_field fa_api_State_6) ?_
   have hS := hS.re (.b (.d .hb) (.t .h (.b .hb (.t .h (.t .h (.t .h (.t .h (.t .h .n))))))))
   refine o_storeA1 (o := 6) (cl' := (cl_State B1 v9 v14 a0.Taken v19 a0.PC v47 a0.Stop v29 a0.Jump a0.Delay)) hS (by kernel_rfl) (by exact Nat.le_of_ble_eq_true rfl) (Upd.here _) (by exact sz_S_int) (h49).one (h49).cell ?_
   clear hS; intro w hS
   refine n_thenN <| c_seq <| c_region <| oy hS (y_field fa_api_Ins_4) <| oy hS (y_load (fun w hS => hS.own (mC (mB (mH)))) underlying3 rfl rfl) ?_
   iterate 3 (refine oy hS y_assign ?_)
   refine n_thenN ?_
   obtain rfl := osi hF
   refine wp_ret (r_ret (vs := [.int .i64 a1.Imm, .bool true, .int .i64 0]) (hS.re (.b .hb (.t (.d (.e .h)) (.t (.d (.e .h)) (.t (.d (.e .h)) (.t (.d (.e .h)) (.t .h (.t (.e .h) .n)))))))) (rsC res_tmp (rsC res_tmp (rsC res_tmp rsN))) rfl ⟨_, rfl, (by first | rfl | simp only [aa, ac, al, an]), ⟨_, _, _, _, _, _, _, _, _, _, _, _, rfl, Y0, h10, h15, h20, h49, h30⟩⟩)
 replace hF := bf c42 hF
 refine c_seq <| c_region <| oy hS (y_field fa_api_Ins_0) <| oy hS (y_load (fun w hS => hS.own (mC (mH))) underlying3 rfl rfl) <| oy hS y_bin <| oy hS y_assign <| n_thenN ?_
 refine c_if (ht := fun c52 => ?_) (hf := fun c52 => ?_)
 · replace hF := bt c52 hF
   refine c_seq <| c_region <| oy hS y_move <| oy hS y_nilCheck <| oy hS (y_field fa_api_State_6) <| oy hS (y_load oH underlying37 rfl rfl) <| oy hS (y_lenO h25 underlying37) <| oy hS y_bin ?_
   refine oy hS y_assign <| n_thenN ?_
   iterate 2 (refine c_seq ?_)
   refine c_region <| oy hS y_move <| oy hS y_bin <| n_thenN ?_
   refine c_if (ht := fun c53 => ?_) (hf := fun c53 => ?_)
   · replace hF := bt c53 hF
     refine c_seq <| c_region ?_
     iterate 3 (refine oy hS y_assign ?_)
     refine n_thenN ?_
     obtain rfl := osi hF
     refine wp_ret (r_ret (vs := [.int .i64 0, .bool false, .int .i64 4]) (hS.re (.b .hb (.t (.e .h) (.t (.e .h) (.t (.e .h) (.t (.e .h) (.t (.e .h) (.t (.e .h) .n)))))))) (rsC res_tmp (rsC res_tmp (rsC res_tmp rsN))) rfl ⟨_, rfl, (by first | rfl | simp only [aa, ac, al, an]), ⟨_, _, _, _, _, _, _, _, _, _, _, _, rfl, Y0, h10, h15, h20, h25, h30⟩⟩)
   replace hF := bf c53 hF
   refine wp_skip <| c_seq <| c_region <| oy hS y_move <| oy hS y_nilCheck <| oy hS (y_field fa_api_State_6) <| oy hS (y_load oH underlying37 rfl rfl) <| oy hS y_move ?_
   obtain ⟨x54, U1, hF⟩ := ob hF
   obtain ⟨b55, c56, G2, V1, X1, Y1, Z1, B2⟩ := OwT.at U1 h25 enc_len_int
   refine oy hS (y_index V1 X1 Y1 underlying37 el_int.size) <| oy hS (y_load (fun w hS => hS.own (mC (mC (mB (mB (mB (mB (mA (mX Z1))))))))) underlying3 rfl (B2 0 _ rfl)) <| oy hS y_assign <| n_thenN <| c_seq <| c_region ?_
   iterate 2 (refine oy hS y_move ?_)
   refine oy hS y_nilCheck <| oy hS (y_field fa_api_State_6) <| oy hS (y_load oH underlying37 rfl rfl) <| oy hS y_move ?_
   obtain ⟨I2, R1, hF⟩ := ob hF
   refine o_uptoP R1 h25 enc_len_int underlying37 el_int.size ?_
   intro v64 h65
   refine oy hS y_nilCheck <| oy hS (y_field fa_api_State_6) ?_
   refine o_storeA1 (o := 6) (cl' := (cl_State B1 v9 v14 a0.Taken v19 a0.PC v64 a0.Stop v29 a0.Jump a0.Delay)) hS (by kernel_rfl) (by exact Nat.le_of_ble_eq_true rfl) (Upd.here _) (by exact sz_S_int) (h65).one (h65).cell ?_
   clear hS; intro w hS
   refine n_thenN <| c_seq <| c_region <| oy hS y_move ?_
   iterate 3 (refine oy hS y_assign ?_)
   refine n_thenN ?_
   obtain rfl := osi hF
   refine wp_ret (r_ret (vs := [.int .i64 x54, .bool true, .int .i64 0]) (hS.re (.b .hb (.t (.e .h) (.t (.e .h) (.t (.e .h) (.t (.e .h) (.t (.e .h) (.t (.e .h) .n)))))))) (rsC res_tmp (rsC res_tmp (rsC res_tmp rsN))) rfl ⟨_, rfl, (by first | rfl | simp only [aa, ac, al, an]), ⟨_, _, _, _, _, _, _, _, _, _, _, _, rfl, Y0, h10, h15, h20, h65, h30⟩⟩)
 replace hF := bf c52 hF
 refine wp_skip <| c_seq <| c_region ?_
 iterate 3 (refine oy hS y_assign ?_)
 refine n_thenN ?_
 obtain rfl := osi hF
 refine wp_ret (r_ret (vs := [.int .i64 0, .bool false, .int .i64 0]) (hS.re (.b .hb (.t (.e .h) (.t (.e .h) (.t (.e .h) (.t (.e .h) (.t (.e .h) (.t (.e .h) .n)))))))) (rsC res_tmp (rsC res_tmp (rsC res_tmp rsN))) rfl ⟨_, rfl, (by first | rfl | simp only [aa, ac, al, an]), ⟨_, _, _, _, _, _, _, _, _, _, _, _, rfl, Y0, h10, h15, h20, h25, h30⟩⟩)
theorem w_seq_Turn {g : Frag} {a0 : T_State} {b0_ : Nat} {LB0_ : Own} {a1 : T_Ins} {a2 : Int} {a3 : Int} {r : (T_State × Int × Bool × Int)} (h0 : Bx_State b0_ a0 LB0_) (hF : seq_Turn a0 a1 a2 a3 = some r) : LC Tryz.prog 60 #[.pointer (some ⟨b0_, 0, none⟩), .agg (enc_Ins a1).toArray, .int .u32 a2, .int .i64 a3] g LB0_ (fun v L => ∃ (LB' : Own), v = .tuple #[.int .i64 r.2.1, .bool r.2.2.1, .int .i64 r.2.2.2] ∧ L = (LB' ++ []) ∧ Bx_State b0_ r.1 LB') := w_seq_Turn_ h0 hF

noncomputable def seq_step_k1 (x2 : T_Ins) (r33 : (T_State × Int × Int)) : (Int × Int × (List Int) × (List Int) × (List Int) × Int × (List Int) × Int × (List Int) × Int × (List T_Write) × Int × Int) → Option T_State := fun (x95, x96, x97, B0, D0, E0, G0, T0, I0, N0, J0, K0, M0) => bif decide (x95 ≠ 0) then some (⟨x97, B0, D0, E0, G0, T0, I0, x95, J0, K0, M0⟩ : T_State) else bif (isa_HasD (isa_Shape x2.Op)) then (set' x97 x2.D r33.2.1).bind fun R0 => some (⟨R0, B0, D0, E0, G0, x96, I0, N0, J0, K0, M0⟩ : T_State) else some (⟨x97, B0, D0, E0, G0, x96, I0, N0, J0, K0, M0⟩ : T_State)
noncomputable def seq_step (a0 : (List T_Ins)) (a1 : T_State) : Option T_State :=
  bif decide ((a0.length : Int) ≤ a1.PC) then some (⟨a1.Regs, a1.Mem, a1.In_, a1.Taken, a1.Out, a1.PC, a1.Stack, 5, a1.Fly, a1.Jump, a1.Delay⟩ : T_State) else (at' a0 a1.PC).bind fun x2 => (at' a1.Regs x2.A).bind fun x15 => (at' a1.Regs x2.B).bind fun x24 => (seq_Act a1 x2 x15 x24).bind fun r33 => cut (σ := (Int × Int × (List Int) × (List Int) × (List Int) × Int × (List Int) × Int × (List Int) × Int × (List T_Write) × Int × Int)) (bif decide (r33.2.2 = 0) then (seq_Turn r33.1 x2 x15 (IntKind.i64.wrap (r33.1.PC + 1))).bind fun B0 => bif B0.2.2.1 then some (.next (B0.2.2.2, B0.2.1, B0.1.Regs, B0.1.Mem, B0.1.In_, B0.1.Taken, B0.1.Out, B0.1.PC, B0.1.Stack, B0.1.Stop, B0.1.Fly, B0.1.Jump, B0.1.Delay)) else some (.next (B0.2.2.2, IntKind.i64.wrap (r33.1.PC + 1), B0.1.Regs, B0.1.Mem, B0.1.In_, B0.1.Taken, B0.1.Out, B0.1.PC, B0.1.Stack, B0.1.Stop, B0.1.Fly, B0.1.Jump, B0.1.Delay)) else some (.next (r33.2.2, IntKind.i64.wrap (r33.1.PC + 1), r33.1.Regs, r33.1.Mem, r33.1.In_, r33.1.Taken, r33.1.Out, r33.1.PC, r33.1.Stack, r33.1.Stop, r33.1.Fly, r33.1.Jump, r33.1.Delay))) (seq_step_k1 x2 r33)
theorem w_seq_step_ {g : Frag} {a0 : (List T_Ins)} {v0_ : Value} {a1 : T_State} {b1_ : Nat} {LB1_ : Own} {r : T_State} (h0 : SlT g enc_Ins 6 a0 v0_) (h1 : Bx_State b1_ a1 LB1_) (hF : seq_step a0 a1 = some r) : LC Tryz.prog 48 #[v0_, .pointer (some ⟨b1_, 0, none⟩)] g LB1_ (fun v L => ∃ (LB' : Own), v = .tuple #[] ∧ L = (LB' ++ []) ∧ Bx_State b1_ r LB') := by
 obtain ⟨N1, R1, T1, B1, D1, E1, G2, I2, Y1, Z1, B2, D2, T3, D0, U1, G1, I1, J1, K1⟩ := h1
 unfold seq_step at hF
 refine lc_body (k := 93) (av := [v0_, .pointer (some ⟨b1_, 0, none⟩)]) func48 rfl rfl (h := fun W hS => ?_)
 have hS := hS.own_eq T3
 iterate 2 (refine c_seq ?_)
 refine c_region <| oy hS y_move <| oy hS y_nilCheck <| oy hS (y_field fa_api_State_5) <| oy hS (y_load oH underlying3 rfl rfl) <| oy hS y_move <| oy hS (y_len h0 underlying53) <| oy hS y_bin ?_
 refine n_thenN ?_
 refine c_if (ht := fun c1 => ?_) (hf := fun c1 => ?_)
 · replace hF := bt c1 hF
   refine c_seq <| c_region <| oy hS y_move <| oy hS y_nilCheck <| oy hS (y_field fa_api_State_7) ?_
   refine o_storeA1 (o := 7) (cl' := (cl_State N1 R1 T1 a1.Taken B1 a1.PC D1 5 E1 a1.Jump a1.Delay)) hS (by kernel_rfl) (by exact Nat.le_of_ble_eq_true rfl) (Upd.here _) (by exact sz_int) rfl rfl ?_
   clear hS; intro w hS
   refine n_thenN ?_
   obtain rfl := osi hF
   refine wp_ret (r_ret (vs := []) (hS.re (.b .hb (.t .h (.t .h (.t .h (.t .h (.t .h (.t .h .n)))))))) rsN rfl ⟨_, rfl, (by first | rfl | simp only [aa, ac, al, an]), ⟨_, _, _, _, _, _, _, _, _, _, _, _, rfl, D0, U1, G1, I1, J1, K1⟩⟩)
 replace hF := bf c1 hF
 refine wp_skip <| c_seq <| c_region ?_
 iterate 2 (refine oy hS y_move ?_)
 refine oy hS y_nilCheck <| oy hS (y_field fa_api_State_5) <| oy hS (y_load oH underlying3 rfl rfl) ?_
 obtain ⟨x2, hx2, hF⟩ := ob hF
 obtain ⟨b3, o4, c5, cs6, e7, fz8, hv9, U3, V3, X3, Y3⟩ := SlT.at hx2 h0 enc_len_Ins
 refine oy hS (y_index hv9 U3 V3 underlying53 el_api_Ins.size) ?_
 refine oy hS (y_loadN (vs := (enc_Ins x2)) (fun w hS => hS.block X3) underlying81 rfl (by exact sz_api_Ins) (fun j u hj => Y3 j u hj)) ?_
 refine o_allocP (cl := (enc_Ins ⟨0, 0, 0, 0, 0, ByteArray.empty⟩)) zr_api_Ins rfl hS ?_
 clear hS; intro b14 w hS
 refine o_storeW (vs := (enc_Ins x2)) hS (by exact rfl) (Upd.here _) (by exact sz_api_Ins) (enc_one_Ins _) ?_
 clear hS; intro w hS
 refine n_thenN <| c_seq ?_
 refine c_quiet (by kernel_rfl) (by kernel_rfl) hS ?_
 refine qy y_move <| qy y_nilCheck <| qy (y_field fa_api_State_0) <| qy (y_load (fun w hS => hS.own (mC (mH))) underlying31 rfl rfl) <| qy (y_field fa_api_Ins_2) <| qy (y_load (fun w hS => hS.own (mH)) underlying3 rfl rfl) ?_
 obtain ⟨x15, Z3, hF⟩ := ob hF
 obtain ⟨b16, c17, I5, B4, D4, E4, G4, I4⟩ := OwT.at Z3 D0 enc_len_uint32
 refine qy (y_index B4 D4 E4 underlying31 el_uint32.size) <| qy (y_load (fun w hS => hS.own (mC (mC (mA (mX G4))))) underlying87 rfl (I4 0 _ rfl)) <| qy y_move <| qy y_nilCheck <| qy (y_field fa_api_State_0) <| qy (y_load (fun w hS => hS.own (mC (mH))) underlying31 rfl rfl) <| qy (y_field fa_api_Ins_3) <| qy (y_load (fun w hS => hS.own (mH)) underlying3 rfl rfl) ?_
 obtain ⟨x24, J4, hF⟩ := ob hF
 obtain ⟨b25, c26, J5, K4, M4, N4, R4, T4⟩ := OwT.at J4 D0 enc_len_uint32
 refine qy (y_index K4 M4 N4 underlying31 el_uint32.size) <| qy (y_load (fun w hS => hS.own (mC (mC (mA (mX R4))))) underlying87 rfl (T4 0 _ rfl)) ?_
 iterate 2 (refine qy y_assign ?_)
 refine q_nilN (h := ?_)
 clear hS; intro w hS
 refine c_seq <| c_region <| oy hS y_move ?_
 refine oy hS (y_loadW oH underlying81 rfl (by exact sz_api_Ins)) ?_
 iterate 2 (refine oy hS y_move ?_)
 have hS := hS.re (.b (.e .hb) (.t (.e .h) (.t (.e .h) (.t (.e .h) (.t (.e .h) (.t (.e .h) (.t (.e .h) (.b .hb .n))))))))
 have hS2 := hS.spl (.cons _ (.app _ (.app _ (.app _ (.app _ (.app _ (.app _ (.nil _))))))))
 obtain ⟨r33, U4, hF⟩ := ob hF
 refine o_call hS2 func59 rfl rfl (hc := (w_seq_Act (a0 := a1) (a1 := x2) (a2 := x15) (a3 := x24) (h0 := (⟨_, _, _, _, _, _, _, _, _, _, _, _, rfl, D0, U1, G1, I1, J1, K1⟩ : Bx_State b1_ a1 ((b1_, blk (cl_State N1 R1 T1 a1.Taken B1 a1.PC D1 a1.Stop E1 a1.Jump a1.Delay) 62) :: (G2 ++ (I2 ++ (Y1 ++ (Z1 ++ (B2 ++ (D2 ++ []))))))))) (hF := U4))) (h := ?_)
 clear hS; intro v34 K5 w hS V4
 clear hS2
 obtain ⟨M5, rfl, rfl, X4⟩ := V4
 obtain ⟨vB_0_39, vB_1_43, vB_2_47, vB_4_51, vB_6_55, vB_8_59, LXB_0_40, LXB_1_44, LXB_2_48, LXB_4_52, LXB_6_56, LXB_8_60, rfl, hB_0_41, hB_1_45, hB_2_49, hB_4_53, hB_6_57, hB_8_61⟩ := X4
 simp only [aa, ac, al] at hS
 refine oy hS y_move ?_
 iterate 2 (refine oy hS (y_extract rfl) ?_)
 iterate 2 (refine oy hS y_assign ?_)
 refine n_thenN <| c_seq <| c_region <| oy hS y_move <| oy hS y_nilCheck <| oy hS (y_field fa_api_State_5) <| oy hS (y_load oH underlying3 rfl rfl) <| oy hS y_bin ?_
 refine oy hS y_assign <| n_thenN ?_
 obtain ⟨N5, hF, V1⟩ := cut_step hF
 refine c_cutP (fun a w' => ∃ (x95 : Int) (x96 : Int) (x97 : (List Int)) (J2 : (List Int)) (K2 : (List Int)) (E0 : Int) (M2 : (List Int)) (M1 : Int) (N2 : (List Int)) (T0 : Int) (R2 : (List T_Write)) (G0 : Int) (I0 : Int) (v98 : Value) (J0 : Value) (K0 : Value) (M0 : Value) (N0 : Value) (R0 : Value) (X1 : Own) (U0 : Own) (V0 : Own) (X0 : Own) (Y0 : Own) (Z0 : Own), seq_step_k1 x2 r33 (x95, x96, x97, J2, K2, E0, M2, M1, N2, T0, R2, G0, I0) = some r ∧ OwT 87 enc_uint32 1 x97 v98 X1 ∧ OwT 87 enc_uint32 1 J2 J0 U0 ∧ OwT 87 enc_uint32 1 K2 K0 V0 ∧ OwT 87 enc_uint32 1 M2 M0 X0 ∧ OwT 3 enc_int 1 N2 N0 Y0 ∧ OwT 89 enc_Write 3 R2 R0 Z0 ∧ (∃ s : Nat → Value, a = Ac ((((((Fm.dead 93 s).upd 1 (.pointer (some ⟨b1_, 0, none⟩))).upd 4 (.pointer (some ⟨b14, 0, none⟩))).upd 7 (.int .u32 r33.2.1)).upd 8 (.int .i64 x95)).upd 9 (.int .i64 x96))) ∧ St W g LB1_ ((b1_, blk (cl_State v98 J0 K0 E0 M0 M1 N0 T0 R0 G0 I0) 62) :: ((b14, blk (enc_Ins x2) 81) :: (X1 ++ (U0 ++ (V0 ++ (X0 ++ (Y0 ++ (Z0 ++ [])))))))) w') ?_ ?_
 · skip
   refine c_seq <| c_region <| oy hS y_move <| oy hS y_bin <| n_thenN ?_
   refine c_if (ht := fun T2 => ?_) (hf := fun T2 => ?_)
   · replace hF := bt T2 hF
     refine c_seq <| c_region <| oy hS y_assign <| n_thenN <| c_seq <| c_region <| oy hS y_assign <| n_thenN ?_
     refine c_seq <| c_region <| oy hS y_move ?_
     refine oy hS (y_loadW (fun w hS => hS.own (mC (mB (mB (mB (mB (mB (mB (mH))))))))) underlying81 rfl (by exact sz_api_Ins)) ?_
     iterate 2 (refine oy hS y_move ?_)
     have hS2 := hS.spl (.cons _ (.app _ (.app _ (.app _ (.app _ (.app _ (.app _ (.nil _))))))))
     obtain ⟨B0, G3, hF⟩ := ob hF
     refine o_call hS2 func60 rfl rfl (hc := (w_seq_Turn (a0 := r33.1) (a1 := x2) (a2 := x15) (a3 := (IntKind.i64.wrap (r33.1.PC + 1))) (h0 := (⟨_, _, _, _, _, _, _, _, _, _, _, _, rfl, hB_0_41, hB_1_45, hB_2_49, hB_4_53, hB_6_57, hB_8_61⟩ : Bx_State b1_ r33.1 ((b1_, blk (cl_State vB_0_39 vB_1_43 vB_2_47 r33.1.Taken vB_4_51 r33.1.PC vB_6_55 r33.1.Stop vB_8_59 r33.1.Jump r33.1.Delay) 62) :: (LXB_0_40 ++ (LXB_1_44 ++ (LXB_2_48 ++ (LXB_4_52 ++ (LXB_6_56 ++ (LXB_8_60 ++ []))))))))) (hF := G3))) (h := ?_)
     clear hS; intro R5 Z4 w hS I3
     clear hS2
     obtain ⟨B5, rfl, rfl, J3⟩ := I3
     obtain ⟨vB_0_141, vB_1_145, vB_2_149, vB_4_153, vB_6_157, vB_8_161, LXB_0_142, LXB_1_146, LXB_2_150, LXB_4_154, LXB_6_158, LXB_8_162, rfl, hB_0_143, hB_1_147, hB_2_151, hB_4_155, hB_6_159, hB_8_163⟩ := J3
     simp only [aa, ac, al] at hS
     refine oy hS y_move ?_
     iterate 3 (refine oy hS (y_extract rfl) ?_)
     iterate 3 (refine oy hS y_assign ?_)
     refine n_thenN <| c_seq <| c_region <| oy hS y_move <| n_thenN ?_
     refine c_if (ht := fun U2 => ?_) (hf := fun U2 => ?_)
     · replace hF := bt U2 hF
       refine c_region <| oy hS y_move <| oy hS y_assign <| n_thenN ?_
       obtain rfl := osi hF
       change ∃ _, _
       exact ⟨B0.2.2.2, B0.2.1, B0.1.Regs, B0.1.Mem, B0.1.In_, B0.1.Taken, B0.1.Out, B0.1.PC, B0.1.Stack, B0.1.Stop, B0.1.Fly, B0.1.Jump, B0.1.Delay, vB_0_141, vB_1_145, vB_2_149, vB_4_153, vB_6_157, vB_8_161, LXB_0_142, LXB_1_146, LXB_2_150, LXB_4_154, LXB_6_158, LXB_8_162, V1, hB_0_143, hB_1_147, hB_2_151, hB_4_155, hB_6_159, hB_8_163, mk_exF, (hS.re (.b .hb (.b (.d (.d (.d (.d (.d (.d .hb)))))) (.t .h (.t .h (.t .h (.t .h (.t .h (.t .h .n)))))))))⟩
     replace hF := bf U2 hF
     refine wp_skip ?_
     obtain rfl := osi hF
     change ∃ _, _
     exact ⟨B0.2.2.2, IntKind.i64.wrap (r33.1.PC + 1), B0.1.Regs, B0.1.Mem, B0.1.In_, B0.1.Taken, B0.1.Out, B0.1.PC, B0.1.Stack, B0.1.Stop, B0.1.Fly, B0.1.Jump, B0.1.Delay, vB_0_141, vB_1_145, vB_2_149, vB_4_153, vB_6_157, vB_8_161, LXB_0_142, LXB_1_146, LXB_2_150, LXB_4_154, LXB_6_158, LXB_8_162, V1, hB_0_143, hB_1_147, hB_2_151, hB_4_155, hB_6_159, hB_8_163, mk_exF, (hS.re (.b .hb (.b (.d (.d (.d (.d (.d (.d .hb)))))) (.t .h (.t .h (.t .h (.t .h (.t .h (.t .h .n)))))))))⟩
   replace hF := bf T2 hF
   refine wp_skip ?_
   obtain rfl := osi hF
   change ∃ _, _
   exact ⟨r33.2.2, IntKind.i64.wrap (r33.1.PC + 1), r33.1.Regs, r33.1.Mem, r33.1.In_, r33.1.Taken, r33.1.Out, r33.1.PC, r33.1.Stack, r33.1.Stop, r33.1.Fly, r33.1.Jump, r33.1.Delay, vB_0_39, vB_1_43, vB_2_47, vB_4_51, vB_6_55, vB_8_59, LXB_0_40, LXB_1_44, LXB_2_48, LXB_4_52, LXB_6_56, LXB_8_60, V1, hB_0_41, hB_1_45, hB_2_49, hB_4_53, hB_6_57, hB_8_61, mk_exF, (hS.re (.b .hb (.b (.d (.d (.d (.d (.d (.d .hb)))))) (.t .h (.t .h (.t .h (.t .h (.t .h (.t .h .n)))))))))⟩
 rintro a w ⟨x95, x96, x97, J2, K2, E0, M2, M1, N2, T0, R2, G0, I0, v98, J0, K0, M0, N0, R0, X1, U0, V0, X0, Y0, Z0, hF, h99, V2, X2, Y2, Z2, B3, ⟨T5, rfl⟩, hS⟩
 dsimp only [seq_step_k1] at hF
 iterate 2 (refine c_seq ?_)
 refine c_region <| oy hS y_move <| oy hS y_bin <| n_thenN ?_
 refine c_if (ht := fun D3 => ?_) (hf := fun D3 => ?_)
 · replace hF := bt D3 hF
   refine c_seq <| c_region ?_
   iterate 2 (refine oy hS y_move ?_)
   refine oy hS y_nilCheck <| oy hS (y_field fa_api_State_7) ?_
   refine o_storeA1 (o := 7) (cl' := (cl_State v98 J0 K0 E0 M0 M1 N0 x95 R0 G0 I0)) hS (by kernel_rfl) (by exact Nat.le_of_ble_eq_true rfl) (Upd.here _) (by exact sz_int) rfl rfl ?_
   clear hS; intro w hS
   refine n_thenN ?_
   obtain rfl := osi hF
   refine wp_ret (r_ret (vs := []) (hS.re (.b .hb (.t (.e .h) (.t (.e .h) (.t (.e .h) (.t (.e .h) (.t (.e .h) (.t (.e .h) .n)))))))) rsN rfl ⟨_, rfl, (by first | rfl | simp only [aa, ac, al, an]), ⟨_, _, _, _, _, _, _, _, _, _, _, _, rfl, h99, V2, X2, Y2, Z2, B3⟩⟩)
 replace hF := bf D3 hF
 refine wp_skip ?_
 iterate 2 (refine c_seq ?_)
 refine c_region <| oy hS (y_field fa_api_Ins_0) <| oy hS (y_load (fun w hS => hS.own (mC (mH))) underlying3 rfl rfl) ?_
 refine o_callS hS func62 rfl rfl (hc := (w_isa_Shape (a0 := x2.Op))) (h := ?_)
 clear hS; intro w hS
 refine o_callS hS func61 rfl rfl (hc := (w_isa_HasD (a0 := (isa_Shape x2.Op)))) (h := ?_)
 clear hS; intro w hS
 refine n_thenN ?_
 refine c_if (ht := fun E3 => ?_) (hf := fun E3 => ?_)
 · replace hF := bt E3 hF
   refine c_heldL 8 9 (by kernel_rfl) rfl hS ?_
   clear hS; intro w hS
   refine hy0 0 rfl wn (by kernel_rfl) (nq (P := Tryz.prog) (fn := Tryz.f48)) (fun _ => hS.cb) y_move ?_
   refine hy0 1 rfl wn (by kernel_rfl) (nq (P := Tryz.prog) (fn := Tryz.f48)) (fun _ => hS.cb) y_nilCheck ?_
   refine hy0 2 rfl wn (by kernel_rfl) (nq (P := Tryz.prog) (fn := Tryz.f48)) (fun _ => hS.cb) (y_field fa_api_State_0) ?_
   refine hy 3 rfl wn (by kernel_rfl) (nq (P := Tryz.prog) (fn := Tryz.f48)) hS.cb (y_load (fun w hS => hS.own (mH)) underlying31 rfl rfl) ?_
   refine hy0 4 rfl wn (by kernel_rfl) (nq (P := Tryz.prog) (fn := Tryz.f48)) (fun _ => hS.cb) (y_field fa_api_Ins_1) ?_
   refine hy 5 rfl wn (by kernel_rfl) (nq (P := Tryz.prog) (fn := Tryz.f48)) hS.cb (y_load (fun w hS => hS.own (mC (mH))) underlying3 rfl rfl) ?_
   refine hy0 6 rfl wn (by kernel_rfl) (nq (P := Tryz.prog) (fn := Tryz.f48)) (fun _ => hS.cb) y_move ?_
   obtain ⟨D5, E2, hF⟩ := ob hF
   obtain ⟨U5, V5, E5, K3, M3, N3, R3⟩ := OwT.at_set E2 h99 enc_len_uint32
   refine hy0 7 rfl wn (by kernel_rfl) (nq (P := Tryz.prog) (fn := Tryz.f48)) (fun _ => hS.cb) (y_index K3 M3 N3 underlying31 el_uint32.size) ?_
   refine hb1 8 (by kernel_rfl) (hb_op rfl wn (nl (P := Tryz.prog) (fn := Tryz.f48)) ?_)
   refine o_storeO (L' := fun X => ((b1_, blk (cl_State v98 J0 K0 E0 M0 M1 N0 T0 R0 G0 I0) 62) :: ((b14, blk (enc_Ins x2) 81) :: (X ++ (U0 ++ (V0 ++ (X0 ++ (Y0 ++ (Z0 ++ []))))))))) E2 hS h99 R3 (fun X => .thereb _ (.thereb _ (.here _))) enc_len_uint32 rfl (by exact sz_uint32) rfl rfl ?_
   clear hS; intro G5 w Y4 hS
   refine hb_next (fun h => absurd h (by decide)) ?_
   refine hb_done (by kernel_rfl) ?_
   refine c_region ?_
   iterate 2 (refine oy hS y_move ?_)
   refine oy hS y_nilCheck <| oy hS (y_field fa_api_State_5) ?_
   refine o_storeA1 (o := 5) (cl' := (cl_State v98 J0 K0 E0 M0 x96 N0 T0 R0 G0 I0)) hS (by kernel_rfl) (by exact Nat.le_of_ble_eq_true rfl) (Upd.here _) (by exact sz_int) rfl rfl ?_
   clear hS; intro w hS
   refine n_anyN ?_
   obtain rfl := osi hF
   refine (r_end (vs := []) (hS.re (.b .hb (.t (.e .h) (.t (.e .h) (.t (.e .h) (.t (.e .h) (.t (.e .h) (.t (.e .h) .n)))))))) rsN rfl ⟨_, rfl, (by first | rfl | simp only [aa, ac, al, an]), ⟨_, _, _, _, _, _, _, _, _, _, _, _, rfl, Y4, V2, X2, Y2, Z2, B3⟩⟩)
 replace hF := bf E3 hF
 refine wp_skip <| c_region ?_
 iterate 2 (refine oy hS y_move ?_)
 refine oy hS y_nilCheck <| oy hS (y_field fa_api_State_5) ?_
 refine o_storeA1 (o := 5) (cl' := (cl_State v98 J0 K0 E0 M0 x96 N0 T0 R0 G0 I0)) hS (by kernel_rfl) (by exact Nat.le_of_ble_eq_true rfl) (Upd.here _) (by exact sz_int) rfl rfl ?_
 clear hS; intro w hS
 refine n_anyN ?_
 obtain rfl := osi hF
 refine (r_end (vs := []) (hS.re (.b .hb (.t (.e .h) (.t (.e .h) (.t (.e .h) (.t (.e .h) (.t (.e .h) (.t (.e .h) .n)))))))) rsN rfl ⟨_, rfl, (by first | rfl | simp only [aa, ac, al, an]), ⟨_, _, _, _, _, _, _, _, _, _, _, _, rfl, h99, V2, X2, Y2, Z2, B3⟩⟩)
theorem w_seq_step {g : Frag} {a0 : (List T_Ins)} {v0_ : Value} {a1 : T_State} {b1_ : Nat} {LB1_ : Own} {r : T_State} (h0 : SlT g enc_Ins 6 a0 v0_) (h1 : Bx_State b1_ a1 LB1_) (hF : seq_step a0 a1 = some r) : LC Tryz.prog 48 #[v0_, .pointer (some ⟨b1_, 0, none⟩)] g LB1_ (fun v L => ∃ (LB' : Own), v = .tuple #[] ∧ L = (LB' ++ []) ∧ Bx_State b1_ r LB') := w_seq_step_ h0 h1 hF
end Go.Proofs.YtfnmihhcopkkbaaGreat
