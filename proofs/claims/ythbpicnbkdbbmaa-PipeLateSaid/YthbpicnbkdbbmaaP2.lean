/- Functions, lifted. Printed by lift.py. -/
import Derived.Test.YthbpicnbkdbbmaaProg
import Derived.Test.YthbpicnbkdbbmaaP0
import Derived.KernelRfl
namespace Go.Proofs.Ythbpicnbkdbbmaa
open Go Go.RowKit Fr
set_option linter.unusedVariables false
set_option linter.unusedSimpArgs false
set_option maxRecDepth 20000
open Try
set_option maxHeartbeats 2000000
def isa_Ends (a0 : Int) : Bool :=
  bif decide (28 ≤ a0) then decide (a0 ≤ 33) else false
theorem w_isa_Ends_ {g : Frag} {a0 : Int} {r : Bool}  (hF : isa_Ends a0 = r) : LCs Try.prog 103 #[.int .i64 a0] g (.bool r) := by
 unfold isa_Ends at hF
 refine lc_body (k := 9) (av := [.int .i64 a0]) func103 rfl rfl (h := fun W hS => ?_)
 refine c_seq <| c_region <| oy hS y_assign <| n_thenN <| c_seq <| c_region <| oy hS y_move <| oy hS y_bin ?_
 refine o_split (ht := fun c1 => ?_) (hf := fun c1 => ?_)
 · replace hF := bt c1 hF
   refine o_gu rfl rfl rfl <| oy hS y_move <| o_gu rfl rfl rfl <| oy hS y_bin <| oy hS y_pickT <| oy hS y_assign <| n_thenN ?_
   subst hF
   exact wp_ret (wr1 hS)
 replace hF := bf c1 hF
 iterate 2 (refine o_sk rfl rfl ?_)
 refine oy hS y_pickF <| oy hS y_assign <| n_thenN ?_
 subst hF
 exact wp_ret (wr1 hS)
theorem w_isa_Ends {g : Frag} {a0 : Int}  : LCs Try.prog 103 #[.int .i64 a0] g (.bool (isa_Ends a0)) := w_isa_Ends_  rfl

def isa_May (a0 : Int) (a1 : Int) : Bool :=
  bif !(isa_Is a0) then false else bif decide (a1 < 0) then false else bif decide (3 < a1) then false else bif decide (a0 = 0) then true else bif decide (a0 = 14) then decide (a1 = 3) else bif decide (a0 = 15) then decide (a1 = 3) else bif decide (a0 = 16) then decide (a1 = 3) else bif decide (a0 = 17) then decide (a1 = 3) else bif decide (a0 = 20) then decide (a1 = 3) else bif decide (a0 = 18) then decide (a1 = 1) else bif decide (a0 = 19) then decide (a1 = 1) else bif decide (a0 = 21) then decide (a1 = 1) else bif decide (a0 = 24) then decide (a1 = 2) else bif decide (a0 = 25) then decide (a1 = 2) else bif decide (a0 = 26) then decide (a1 = 2) else bif decide (a0 = 27) then decide (a1 = 2) else bif decide (a1 = 0) then true else bif decide (a1 = 1) then !(isa_Ends a0) else false
theorem w_isa_May_ {g : Frag} {a0 : Int} {a1 : Int} {r : Bool}  (hF : isa_May a0 a1 = r) : LCs Try.prog 79 #[.int .i64 a0, .int .i64 a1] g (.bool r) := by
 unfold isa_May at hF
 refine lc_body (k := 51) (av := [.int .i64 a0, .int .i64 a1]) func79 rfl rfl (h := fun W hS => ?_)
 refine c_seq <| c_region <| oy hS y_assign <| n_thenN ?_
 iterate 2 (refine c_seq ?_)
 refine c_region <| oy hS y_move ?_
 refine o_callS hS func98 rfl rfl (hc := (w_isa_Is (a0 := a0))) (h := ?_)
 clear hS; intro w hS
 refine oy hS y_not ?_
 refine o_split (ht := fun c1 => ?_) (hf := fun c1 => ?_)
 · replace hF := bt c1 hF
   iterate 2 (refine o_sk rfl rfl ?_)
   refine oy hS y_pickT <| oy hS y_move ?_
   iterate 2 (refine o_sk rfl rfl ?_)
   refine oy hS y_pickT <| n_thenN ?_
   refine c_if_true (h := ?_)
   refine c_seq <| c_region <| oy hS y_assign <| n_thenN ?_
   subst hF
   exact wp_ret (wr1 hS)
 replace hF := bf c1 hF
 refine o_gu rfl rfl rfl <| oy hS y_move <| o_gu rfl rfl rfl <| oy hS y_bin <| oy hS y_pickF ?_
 refine o_split (ht := fun c2 => ?_) (hf := fun c2 => ?_)
 · replace hF := bt c2 hF
   iterate 2 (refine o_sk rfl rfl ?_)
   refine oy hS y_pickT <| n_thenN ?_
   refine c_if_true (h := ?_)
   refine c_seq <| c_region <| oy hS y_assign <| n_thenN ?_
   subst hF
   exact wp_ret (wr1 hS)
 replace hF := bf c2 hF
 refine o_gu rfl rfl rfl <| oy hS y_move <| o_gu rfl rfl rfl <| oy hS y_bin <| oy hS y_pickF <| n_thenN ?_
 refine c_if (ht := fun c3 => ?_) (hf := fun c3 => ?_)
 · replace hF := bt c3 hF
   refine c_seq <| c_region <| oy hS y_assign <| n_thenN ?_
   subst hF
   exact wp_ret (wr1 hS)
 replace hF := bf c3 hF
 refine wp_skip ?_
 iterate 2 (refine c_seq ?_)
 refine c_region <| oy hS y_move <| n_thenN <| c_block <| c_seq <| c_region <| oy hS y_bin <| oy hS y_assign ?_
 refine n_thenN ?_
 refine c_if (ht := fun c4 => ?_) (hf := fun c4 => ?_)
 · replace hF := bt c4 hF
   refine c_seq <| c_region <| oy hS y_assign <| n_thenN ?_
   subst hF
   exact wp_ret (wr1 hS)
 replace hF := bf c4 hF
 iterate 2 (refine c_seq ?_)
 refine c_region <| oy hS y_bin <| oy hS y_assign <| n_thenN ?_
 refine c_if (ht := fun c5 => ?_) (hf := fun c5 => ?_)
 · replace hF := bt c5 hF
   refine wp_skip ?_
   refine c_ifT c5 ?_
   refine c_seq <| c_region <| oy hS y_move <| oy hS y_bin <| oy hS y_assign <| n_thenN ?_
   subst hF
   exact wp_ret (wr1 hS)
 replace hF := bf c5 hF
 refine c_seq <| c_region <| oy hS y_bin <| oy hS y_assign <| n_thenN ?_
 refine c_if (ht := fun c6 => ?_) (hf := fun c6 => ?_)
 · replace hF := bt c6 hF
   refine wp_skip ?_
   refine c_ifT c6 ?_
   refine c_seq <| c_region <| oy hS y_move <| oy hS y_bin <| oy hS y_assign <| n_thenN ?_
   subst hF
   exact wp_ret (wr1 hS)
 replace hF := bf c6 hF
 refine c_seq <| c_region <| oy hS y_bin <| oy hS y_assign <| n_thenN ?_
 refine c_if (ht := fun c7 => ?_) (hf := fun c7 => ?_)
 · replace hF := bt c7 hF
   refine wp_skip ?_
   refine c_ifT c7 ?_
   refine c_seq <| c_region <| oy hS y_move <| oy hS y_bin <| oy hS y_assign <| n_thenN ?_
   subst hF
   exact wp_ret (wr1 hS)
 replace hF := bf c7 hF
 refine c_seq <| c_region <| oy hS y_bin <| oy hS y_assign <| n_thenN ?_
 refine c_if (ht := fun c8 => ?_) (hf := fun c8 => ?_)
 · replace hF := bt c8 hF
   refine wp_skip ?_
   refine c_ifT c8 ?_
   refine c_seq <| c_region <| oy hS y_move <| oy hS y_bin <| oy hS y_assign <| n_thenN ?_
   subst hF
   exact wp_ret (wr1 hS)
 replace hF := bf c8 hF
 refine c_region <| oy hS y_bin <| oy hS y_assign <| n_thenN ?_
 refine c_if (ht := fun c9 => ?_) (hf := fun c9 => ?_)
 · replace hF := bt c9 hF
   refine c_seq <| c_region <| oy hS y_move <| oy hS y_bin <| oy hS y_assign <| n_thenN ?_
   subst hF
   exact wp_ret (wr1 hS)
 replace hF := bf c9 hF
 iterate 2 (refine c_seq ?_)
 refine c_region <| oy hS y_bin <| oy hS y_assign <| n_thenN ?_
 refine c_if (ht := fun c10 => ?_) (hf := fun c10 => ?_)
 · replace hF := bt c10 hF
   refine wp_skip ?_
   refine c_ifT c10 ?_
   refine c_seq <| c_region <| oy hS y_move <| oy hS y_bin <| oy hS y_assign <| n_thenN ?_
   subst hF
   exact wp_ret (wr1 hS)
 replace hF := bf c10 hF
 refine c_seq <| c_region <| oy hS y_bin <| oy hS y_assign <| n_thenN ?_
 refine c_if (ht := fun c11 => ?_) (hf := fun c11 => ?_)
 · replace hF := bt c11 hF
   refine wp_skip ?_
   refine c_ifT c11 ?_
   refine c_seq <| c_region <| oy hS y_move <| oy hS y_bin <| oy hS y_assign <| n_thenN ?_
   subst hF
   exact wp_ret (wr1 hS)
 replace hF := bf c11 hF
 refine c_region <| oy hS y_bin <| oy hS y_assign <| n_thenN ?_
 refine c_if (ht := fun c12 => ?_) (hf := fun c12 => ?_)
 · replace hF := bt c12 hF
   refine c_seq <| c_region <| oy hS y_move <| oy hS y_bin <| oy hS y_assign <| n_thenN ?_
   subst hF
   exact wp_ret (wr1 hS)
 replace hF := bf c12 hF
 iterate 2 (refine c_seq ?_)
 refine c_region <| oy hS y_bin <| oy hS y_assign <| n_thenN ?_
 refine c_if (ht := fun c13 => ?_) (hf := fun c13 => ?_)
 · replace hF := bt c13 hF
   refine wp_skip ?_
   refine c_ifT c13 ?_
   refine c_seq <| c_region <| oy hS y_move <| oy hS y_bin <| oy hS y_assign <| n_thenN ?_
   subst hF
   exact wp_ret (wr1 hS)
 replace hF := bf c13 hF
 refine c_seq <| c_region <| oy hS y_bin <| oy hS y_assign <| n_thenN ?_
 refine c_if (ht := fun c14 => ?_) (hf := fun c14 => ?_)
 · replace hF := bt c14 hF
   refine wp_skip ?_
   refine c_ifT c14 ?_
   refine c_seq <| c_region <| oy hS y_move <| oy hS y_bin <| oy hS y_assign <| n_thenN ?_
   subst hF
   exact wp_ret (wr1 hS)
 replace hF := bf c14 hF
 refine c_seq <| c_region <| oy hS y_bin <| oy hS y_assign <| n_thenN ?_
 refine c_if (ht := fun c15 => ?_) (hf := fun c15 => ?_)
 · replace hF := bt c15 hF
   refine wp_skip ?_
   refine c_ifT c15 ?_
   refine c_seq <| c_region <| oy hS y_move <| oy hS y_bin <| oy hS y_assign <| n_thenN ?_
   subst hF
   exact wp_ret (wr1 hS)
 replace hF := bf c15 hF
 refine c_region <| oy hS y_bin <| oy hS y_assign <| n_thenN ?_
 refine c_if (ht := fun c16 => ?_) (hf := fun c16 => ?_)
 · replace hF := bt c16 hF
   refine c_seq <| c_region <| oy hS y_move <| oy hS y_bin <| oy hS y_assign <| n_thenN ?_
   subst hF
   exact wp_ret (wr1 hS)
 replace hF := bf c16 hF
 refine wp_skip <| c_seq <| c_region <| oy hS y_move <| oy hS y_bin ?_
 refine o_split (ht := fun c17 => ?_) (hf := fun c17 => ?_)
 · replace hF := bt c17 hF
   iterate 3 (refine o_sk rfl rfl ?_)
   iterate 3 (refine o_sku rfl rfl ?_)
   refine o_sk rfl rfl ?_
   refine oy hS y_pickT <| oy hS y_assign <| n_thenN ?_
   subst hF
   exact wp_ret (wr1 hS)
 replace hF := bf c17 hF
 refine o_gu rfl rfl rfl <| oy hS y_move <| o_gu rfl rfl rfl <| oy hS y_bin <| o_gu rfl rfl rfl ?_
 refine o_split (ht := fun c18 => ?_) (hf := fun c18 => ?_)
 · replace hF := bt c18 hF
   refine o_gu rfl rfl rfl <| oy hS y_move <| o_gu rfl rfl rfl ?_
   refine o_callS hS func103 rfl rfl (hc := (w_isa_Ends (a0 := a0))) (h := ?_)
   clear hS; intro w hS
   refine o_gu rfl rfl rfl <| oy hS y_not <| o_gu rfl rfl rfl <| oy hS y_pickT <| oy hS y_pickF <| oy hS y_assign <| n_thenN ?_
   subst hF
   exact wp_ret (wr1 hS)
 replace hF := bf c18 hF
 iterate 3 (refine o_sk rfl rfl ?_)
 refine o_gu rfl rfl rfl ?_
 iterate 2 (refine oy hS y_pickF ?_)
 refine oy hS y_assign <| n_thenN ?_
 subst hF
 exact wp_ret (wr1 hS)
theorem w_isa_May {g : Frag} {a0 : Int} {a1 : Int}  : LCs Try.prog 79 #[.int .i64 a0, .int .i64 a1] g (.bool (isa_May a0 a1)) := w_isa_May_  rfl

noncomputable def bits_IsBundle_b1 (a0 : (A4 T_Ins)) : Int → Option (Step Int Bool) := fun x7 => bif decide (x7 < 4) then (at' [a0.x0, a0.x1, a0.x2, a0.x3] x7).bind fun x19 => (isa_IsIns x19).bind fun r21 => bif !r21 then some (.done (false)) else bif !(isa_May x19.Op x7) then some (.done (false)) else some (.next (IntKind.i64.wrap (x7 + 1))) else some (.done (true))
noncomputable def bits_IsBundle (a0 : (A4 T_Ins)) : Option Bool :=
  loop (σ := Int) (bits_IsBundle_b1 a0) 0
theorem w_bits_IsBundle_ {g : Frag} {a0 : (A4 T_Ins)} {r : Bool}  (hF : bits_IsBundle a0 = some r) : LCs Try.prog 57 #[.agg (enc_Bundle a0).toArray] g (.bool r) := by
 unfold bits_IsBundle at hF
 refine lc_body (k := 21) (av := [.agg (enc_Bundle a0).toArray]) func57 rfl rfl (h := fun W hS => ?_)
 refine c_seq <| c_region ?_
 refine o_boxP (cl := (enc_Bundle a0)) rfl hS ?_
 clear hS; intro b1 w hS
 refine oy hS y_assign <| n_thenN ?_
 iterate 2 (refine c_seq ?_)
 refine c_region ?_
 refine oy hS (y_loadW (fun w hS => hS.own (mH)) underlying37 rfl (by exact sz_api_Bundle)) ?_
 refine oy hS y_move <| n_thenN <| c_block ?_
 refine c_loopP hF (fun (q : Int) a w' => (∃ s : Nat → Value, a = Ac (((Fm.dead 21 s).upd 5 (.agg (enc_Bundle a0).toArray)).upd 6 (.int .i64 q))) ∧ St W g [] [] w') ⟨mk_exF, (hS.re (.n))⟩ ?_
 clear hS hF
 intro n16 q a w hI hq
 revert hq hI; revert q; intro x7 hI hq
 obtain ⟨⟨s17, rfl⟩, hS⟩ := hq
 obtain ⟨z14, hF, hK15⟩ := iter_step hI
 clear hI
 dsimp only [bits_IsBundle_b1] at hF
 refine c_seq <| c_region <| oy hS y_bin <| n_thenN <| c_seq ?_
 refine c_if (ht := fun c18 => ?_) (hf := fun c18 => ?_)
 · replace hF := bt c18 hF
   refine wp_skip <| c_seq <| c_block <| c_seq <| c_region <| oy hS y_move ?_
   obtain ⟨x19, hx19, hF⟩ := ob hF
   refine oy hS (y_ixA (enc := enc_Ins) hx19 enc_len_Ins underlying37 rfl underlying31 rfl (by exact sz_api_Ins)) ?_
   refine o_allocP (cl := (enc_Ins ⟨0, 0, 0, 0, 0, ByteArray.empty⟩)) zr_api_Ins rfl hS ?_
   clear hS; intro b20 w hS
   refine oy hS y_assign ?_
   refine o_storeW (vs := (enc_Ins x19)) hS (by exact rfl) (Upd.here _) (by exact sz_api_Ins) (enc_one_Ins _) ?_
   clear hS; intro w hS
   refine n_thenN <| c_seq <| c_region ?_
   refine oy hS (y_loadW (fun w hS => hS.own (mH)) underlying31 rfl (by exact sz_api_Ins)) ?_
   obtain ⟨r21, hr21, hF⟩ := ob hF
   refine o_callS hS func78 rfl rfl (hc := (w_isa_IsIns (a0 := x19) (hF := hr21))) (h := ?_)
   clear hS; intro w hS
   refine oy hS y_not ?_
   refine o_split (ht := fun c22 => ?_) (hf := fun c22 => ?_)
   · replace hF := bt c22 hF
     iterate 5 (refine o_sk rfl rfl ?_)
     refine oy hS y_pickT <| n_thenN ?_
     refine c_if_true (h := ?_)
     refine c_seq <| c_region <| oy hS y_assign <| n_thenN ?_
     obtain rfl := osi hF
     obtain rfl : _ = r := hK15
     exact wp_ret (wr1 hS)
   replace hF := bf c22 hF
   refine o_gu rfl rfl rfl <| oy hS (y_field fa_api_Ins_0) <| o_gu rfl rfl rfl <| oy hS (y_load (fun w hS => hS.own (mH)) underlying3 rfl rfl) <| o_gu rfl rfl rfl <| oy hS y_move <| o_gu rfl rfl rfl ?_
   refine o_callS hS func79 rfl rfl (hc := (w_isa_May (a0 := x19.Op) (a1 := x7))) (h := ?_)
   clear hS; intro w hS
   refine o_gu rfl rfl rfl <| oy hS y_not <| oy hS y_pickF <| n_thenN ?_
   refine c_if (ht := fun c23 => ?_) (hf := fun c23 => ?_)
   · replace hF := bt c23 hF
     refine c_seq <| c_region <| oy hS y_assign <| n_thenN ?_
     obtain rfl := osi hF
     obtain rfl : _ = r := hK15
     exact wp_ret (wr1 hS)
   replace hF := bf c23 hF
   refine wp_skip <| c_region <| oy hS y_bin <| oy hS y_move <| n_thenN ?_
   obtain rfl := osi hF
   exact ⟨_, hK15, mk_exF, (hS.re (.n))⟩
 replace hF := bf c18 hF
 refine wp_exit ?_
 refine c_seq <| c_region <| oy hS y_assign <| n_thenN ?_
 obtain rfl := osi hF
 obtain rfl : _ = r := hK15
 exact wp_ret (wr1 hS)
theorem w_bits_IsBundle {g : Frag} {a0 : (A4 T_Ins)} {r : Bool}  (hF : bits_IsBundle a0 = some r) : LCs Try.prog 57 #[.agg (enc_Bundle a0).toArray] g (.bool r) := w_bits_IsBundle_  hF

noncomputable def bits_Bare_b1 (a0 : (A4 T_Ins)) : Int → Option (Step Int Bool) := fun x5 => bif decide (x5 < 4) then (at' [a0.x0, a0.x1, a0.x2, a0.x3] x5).bind fun x15 => bif !(decide (x15.Sym = (ByteArray.mk #[]))) then some (.done (false)) else some (.next (IntKind.i64.wrap (x5 + 1))) else some (.done (true))
noncomputable def bits_Bare (a0 : (A4 T_Ins)) : Option Bool :=
  loop (σ := Int) (bits_Bare_b1 a0) 0
theorem w_bits_Bare_ {g : Frag} {a0 : (A4 T_Ins)} {r : Bool}  (hF : bits_Bare a0 = some r) : LCs Try.prog 58 #[.agg (enc_Bundle a0).toArray] g (.bool r) := by
 unfold bits_Bare at hF
 refine lc_body (k := 13) (av := [.agg (enc_Bundle a0).toArray]) func58 rfl rfl (h := fun W hS => ?_)
 refine c_seq <| c_region ?_
 refine o_boxP (cl := (enc_Bundle a0)) rfl hS ?_
 clear hS; intro b1 w hS
 refine oy hS y_assign <| n_thenN ?_
 iterate 2 (refine c_seq ?_)
 refine c_region ?_
 refine oy hS (y_loadW (fun w hS => hS.own (mH)) underlying37 rfl (by exact sz_api_Bundle)) ?_
 refine oy hS y_move <| n_thenN <| c_block ?_
 refine c_loopP hF (fun (q : Int) a w' => (∃ s : Nat → Value, a = Ac (((Fm.dead 13 s).upd 5 (.agg (enc_Bundle a0).toArray)).upd 6 (.int .i64 q))) ∧ St W g [] [] w') ⟨mk_exF, (hS.re (.n))⟩ ?_
 clear hS hF
 intro n12 q a w hI hq
 revert hq hI; revert q; intro x5 hI hq
 obtain ⟨⟨s13, rfl⟩, hS⟩ := hq
 obtain ⟨z10, hF, hK11⟩ := iter_step hI
 clear hI
 dsimp only [bits_Bare_b1] at hF
 refine c_seq <| c_region <| oy hS y_bin <| n_thenN <| c_seq ?_
 refine c_if (ht := fun c14 => ?_) (hf := fun c14 => ?_)
 · replace hF := bt c14 hF
   refine wp_skip <| c_seq <| c_block <| c_seq <| c_region ?_
   obtain ⟨x15, hx15, hF⟩ := ob hF
   refine oy hS (y_ixA (enc := enc_Ins) hx15 enc_len_Ins underlying37 rfl underlying31 rfl (by exact sz_api_Ins)) ?_
   refine o_allocP (cl := (enc_Ins ⟨0, 0, 0, 0, 0, ByteArray.empty⟩)) zr_api_Ins rfl hS ?_
   clear hS; intro b16 w hS
   refine o_storeW (vs := (enc_Ins x15)) hS (by exact rfl) (Upd.here _) (by exact sz_api_Ins) (enc_one_Ins _) ?_
   clear hS; intro w hS
   refine n_thenN <| c_seq <| c_region <| oy hS (y_field fa_api_Ins_5) <| oy hS (y_load (fun w hS => hS.own (mH)) underlying9 rfl rfl) <| oy hS y_sneq <| n_thenN ?_
   refine c_if (ht := fun c17 => ?_) (hf := fun c17 => ?_)
   · replace hF := bt c17 hF
     refine c_seq <| c_region <| oy hS y_assign <| n_thenN ?_
     obtain rfl := osi hF
     obtain rfl : _ = r := hK11
     exact wp_ret (wr1 hS)
   replace hF := bf c17 hF
   refine wp_skip <| c_region <| oy hS y_bin <| oy hS y_move <| n_thenN ?_
   obtain rfl := osi hF
   exact ⟨_, hK11, mk_exF, (hS.re (.n))⟩
 replace hF := bf c14 hF
 refine wp_exit ?_
 refine c_seq <| c_region <| oy hS y_assign <| n_thenN ?_
 obtain rfl := osi hF
 obtain rfl : _ = r := hK11
 exact wp_ret (wr1 hS)
theorem w_bits_Bare {g : Frag} {a0 : (A4 T_Ins)} {r : Bool}  (hF : bits_Bare a0 = some r) : LCs Try.prog 58 #[.agg (enc_Bundle a0).toArray] g (.bool r) := w_bits_Bare_  hF

noncomputable def pipe_Code_1 (a0 : (A4 T_Ins)) : Option Bool :=
  (bits_IsBundle a0).bind fun r2 => bif !r2 then some (true) else (bits_Bare a0).bind fun r4 => some (!r4)
theorem w_pipe_Code_1_ {g : Frag} {a0 : (A4 T_Ins)} {r : Bool}  (hF : pipe_Code_1 a0 = some r) : LCs Try.prog 56 #[.agg (enc_Bundle a0).toArray] g (.bool r) := by
 unfold pipe_Code_1 at hF
 refine lc_body (k := 11) (av := [.agg (enc_Bundle a0).toArray]) func56 rfl rfl (h := fun W hS => ?_)
 refine c_seq <| c_region ?_
 refine o_boxP (cl := (enc_Bundle a0)) rfl hS ?_
 clear hS; intro b1 w hS
 refine oy hS y_assign <| n_thenN <| c_seq <| c_region ?_
 refine oy hS (y_loadW (fun w hS => hS.own (mH)) underlying37 rfl (by exact sz_api_Bundle)) ?_
 obtain ⟨r2, hr2, hF⟩ := ob hF
 refine o_callS hS func57 rfl rfl (hc := (w_bits_IsBundle (a0 := a0) (hF := hr2))) (h := ?_)
 clear hS; intro w hS
 refine oy hS y_not ?_
 refine o_split (ht := fun c3 => ?_) (hf := fun c3 => ?_)
 · replace hF := bt c3 hF
   iterate 3 (refine o_sk rfl rfl ?_)
   refine oy hS y_pickT <| oy hS y_assign <| n_thenN ?_
   obtain rfl := osi hF
   exact wp_ret (wr1 hS)
 replace hF := bf c3 hF
 refine o_gu rfl rfl rfl ?_
 refine oy hS (y_loadW (fun w hS => hS.own (mH)) underlying37 rfl (by exact sz_api_Bundle)) ?_
 refine o_gu rfl rfl rfl ?_
 obtain ⟨r4, hr4, hF⟩ := ob hF
 refine o_callS hS func58 rfl rfl (hc := (w_bits_Bare (a0 := a0) (hF := hr4))) (h := ?_)
 clear hS; intro w hS
 refine o_gu rfl rfl rfl <| oy hS y_not <| oy hS y_pickF <| oy hS y_assign <| n_thenN ?_
 obtain rfl := osi hF
 exact wp_ret (wr1 hS)
theorem w_pipe_Code_1 {g : Frag} {a0 : (A4 T_Ins)} {r : Bool}  (hF : pipe_Code_1 a0 = some r) : LCs Try.prog 56 #[.agg (enc_Bundle a0).toArray] g (.bool r) := w_pipe_Code_1_  hF

noncomputable def slices_IndexFunc_api_Bundle_api_Bundle_pipe_Code_1_b1 (a0 : (List (A4 T_Ins))) : Int → Option (Step Int Int) := fun x16 => bif decide (x16 < (a0.length : Int)) then (at' a0 x16).bind fun x37 => (pipe_Code_1 x37).bind fun r49 => bif r49 then some (.done (x16)) else some (.next (IntKind.i64.wrap (x16 + 1))) else some (.done ((-1)))
noncomputable def slices_IndexFunc_api_Bundle_api_Bundle_pipe_Code_1 (a0 : (List (A4 T_Ins))) : Option Int :=
  loop (σ := Int) (slices_IndexFunc_api_Bundle_api_Bundle_pipe_Code_1_b1 a0) 0
theorem w_slices_IndexFunc_api_Bundle_api_Bundle_pipe_Code_1_ {g : Frag} {a0 : (List (A4 T_Ins))} {v0_ : Value} {r : Int} (h0 : SlT g enc_Bundle 24 a0 v0_) (hF : slices_IndexFunc_api_Bundle_api_Bundle_pipe_Code_1 a0 = some r) : LCs Try.prog 80 #[v0_, .func (.func 56) #[] #[]] g (.int .i64 r) := by
 unfold slices_IndexFunc_api_Bundle_api_Bundle_pipe_Code_1 at hF
 refine lc_body (k := 19) (av := [v0_, .func (.func 56) #[] #[]]) func80 rfl rfl (h := fun W hS => ?_)
 refine c_seq <| c_region <| oy hS y_assign <| n_thenN ?_
 iterate 2 (refine c_seq ?_)
 refine c_region <| oy hS y_move <| oy hS (y_len h0 underlying22) <| oy hS y_move <| n_thenN <| c_block ?_
 refine c_loopP hF (fun (q : Int) a w' => (∃ s : Nat → Value, a = Ac (((((Fm.dead 19 s).upd 0 v0_).upd 1 (.func (.func 56) #[] #[])).upd 7 (.int .i64 (a0.length : Int))).upd 8 (.int .i64 q))) ∧ St W g [] [] w') ⟨mk_exF, (hS.re (.n))⟩ ?_
 clear hS hF
 intro n34 q a w hI hq
 revert hq hI; revert q; intro x16 hI hq
 obtain ⟨⟨s35, rfl⟩, hS⟩ := hq
 obtain ⟨z32, hF, hK33⟩ := iter_step hI
 clear hI
 dsimp only [slices_IndexFunc_api_Bundle_api_Bundle_pipe_Code_1_b1] at hF
 refine c_seq <| c_region <| oy hS y_bin <| n_thenN <| c_seq ?_
 refine c_if (ht := fun c36 => ?_) (hf := fun c36 => ?_)
 · replace hF := bt c36 hF
   refine wp_skip <| c_seq <| c_block <| c_seq <| c_region <| oy hS y_move <| oy hS y_assign <| n_thenN ?_
   refine c_seq <| c_region ?_
   iterate 3 (refine oy hS y_move ?_)
   obtain ⟨x37, hx37, hF⟩ := ob hF
   obtain ⟨b38, o39, c40, cs41, e42, fz43, hv44, ha45, hb46, hd47, hc48⟩ := SlT.at hx37 h0 enc_len_Bundle
   refine oy hS (y_index hv44 ha45 hb46 underlying22 el_api_Bundle.size) ?_
   refine oy hS (y_loadN (vs := (enc_Bundle x37)) (fun w hS => hS.block hd47) underlying37 rfl (by exact sz_api_Bundle) (fun j u hj => hc48 j u hj)) ?_
   obtain ⟨r49, hr49, hF⟩ := ob hF
   refine o_callVS2 hS func56 rfl rfl (hc := (w_pipe_Code_1 (a0 := x37) (hF := hr49))) (h := ?_)
   clear hS; intro w hS
   refine n_thenN ?_
   refine c_if (ht := fun c50 => ?_) (hf := fun c50 => ?_)
   · replace hF := bt c50 hF
     refine c_seq <| c_region <| oy hS y_move <| oy hS y_assign <| n_thenN ?_
     obtain rfl := osi hF
     obtain rfl : _ = r := hK33
     exact wp_ret (wr1 hS)
   replace hF := bf c50 hF
   refine wp_skip <| c_region <| oy hS y_bin <| oy hS y_move <| n_thenN ?_
   obtain rfl := osi hF
   exact ⟨_, hK33, mk_exF, (hS.re (.n))⟩
 replace hF := bf c36 hF
 refine wp_exit ?_
 refine c_seq <| c_region <| oy hS y_assign <| n_thenN ?_
 obtain rfl := osi hF
 obtain rfl : _ = r := hK33
 exact wp_ret (wr1 hS)
theorem w_slices_IndexFunc_api_Bundle_api_Bundle_pipe_Code_1 {g : Frag} {a0 : (List (A4 T_Ins))} {v0_ : Value} {r : Int} (h0 : SlT g enc_Bundle 24 a0 v0_) (hF : slices_IndexFunc_api_Bundle_api_Bundle_pipe_Code_1 a0 = some r) : LCs Try.prog 80 #[v0_, .func (.func 56) #[] #[]] g (.int .i64 r) := w_slices_IndexFunc_api_Bundle_api_Bundle_pipe_Code_1_ h0 hF

noncomputable def slices_ContainsFunc_api_Bundle_api_Bundle_pipe_Code_1 (a0 : (List (A4 T_Ins))) : Option Bool :=
  (slices_IndexFunc_api_Bundle_api_Bundle_pipe_Code_1 a0).bind fun r1 => some (decide (0 ≤ r1))
theorem w_slices_ContainsFunc_api_Bundle_api_Bundle_pipe_Code_1_ {g : Frag} {a0 : (List (A4 T_Ins))} {v0_ : Value} {r : Bool} (h0 : SlT g enc_Bundle 24 a0 v0_) (hF : slices_ContainsFunc_api_Bundle_api_Bundle_pipe_Code_1 a0 = some r) : LCs Try.prog 59 #[v0_, .func (.func 56) #[] #[]] g (.bool r) := by
 unfold slices_ContainsFunc_api_Bundle_api_Bundle_pipe_Code_1 at hF
 refine lc_body (k := 9) (av := [v0_, .func (.func 56) #[] #[]]) func59 rfl rfl (h := fun W hS => ?_)
 refine c_seq <| c_region <| oy hS y_assign <| n_thenN <| c_seq <| c_region ?_
 iterate 2 (refine oy hS y_move ?_)
 obtain ⟨r1, hr1, hF⟩ := ob hF
 refine o_callS hS func80 rfl rfl (hc := (w_slices_IndexFunc_api_Bundle_api_Bundle_pipe_Code_1 (a0 := a0) (h0 := h0.plus) (hF := hr1))) (h := ?_)
 clear hS; intro w hS
 refine oy hS y_bin <| oy hS y_assign <| n_thenN ?_
 obtain rfl := osi hF
 exact wp_ret (wr1 hS)
theorem w_slices_ContainsFunc_api_Bundle_api_Bundle_pipe_Code_1 {g : Frag} {a0 : (List (A4 T_Ins))} {v0_ : Value} {r : Bool} (h0 : SlT g enc_Bundle 24 a0 v0_) (hF : slices_ContainsFunc_api_Bundle_api_Bundle_pipe_Code_1 a0 = some r) : LCs Try.prog 59 #[v0_, .func (.func 56) #[] #[]] g (.bool r) := w_slices_ContainsFunc_api_Bundle_api_Bundle_pipe_Code_1_ h0 hF

noncomputable def pipe_Code (a0 : (List (A4 T_Ins))) : Option Bool :=
  bif decide ((a0.length : Int) ≤ 1024) then (slices_ContainsFunc_api_Bundle_api_Bundle_pipe_Code_1 a0).bind fun r2 => some (!r2) else some (false)
theorem w_pipe_Code_ {g : Frag} {a0 : (List (A4 T_Ins))} {v0_ : Value} {r : Bool} (h0 : SlT g enc_Bundle 24 a0 v0_) (hF : pipe_Code a0 = some r) : LCs Try.prog 43 #[v0_] g (.bool r) := by
 unfold pipe_Code at hF
 refine lc_body (k := 13) (av := [v0_]) func43 rfl rfl (h := fun W hS => ?_)
 refine c_seq <| c_region <| oy hS y_assign <| n_thenN <| c_seq <| c_region <| oy hS y_assign <| n_thenN ?_
 refine c_seq <| c_region <| oy hS y_move <| oy hS (y_len h0 underlying22) <| oy hS y_bin ?_
 refine o_split (ht := fun c1 => ?_) (hf := fun c1 => ?_)
 · replace hF := bt c1 hF
   refine o_gu rfl rfl rfl <| oy hS y_move <| o_gu rfl rfl rfl <| oy hS y_move <| o_gu rfl rfl rfl ?_
   obtain ⟨r2, hr2, hF⟩ := ob hF
   refine o_callS hS func59 rfl rfl (hc := (w_slices_ContainsFunc_api_Bundle_api_Bundle_pipe_Code_1 (a0 := a0) (h0 := h0.plus) (hF := hr2))) (h := ?_)
   clear hS; intro w hS
   refine o_gu rfl rfl rfl <| oy hS y_not <| oy hS y_pickT <| oy hS y_assign <| n_thenN ?_
   obtain rfl := osi hF
   exact wp_ret (wr1 hS)
 replace hF := bf c1 hF
 iterate 4 (refine o_sk rfl rfl ?_)
 refine oy hS y_pickF <| oy hS y_assign <| n_thenN ?_
 obtain rfl := osi hF
 exact wp_ret (wr1 hS)
theorem w_pipe_Code {g : Frag} {a0 : (List (A4 T_Ins))} {v0_ : Value} {r : Bool} (h0 : SlT g enc_Bundle 24 a0 v0_) (hF : pipe_Code a0 = some r) : LCs Try.prog 43 #[v0_] g (.bool r) := w_pipe_Code_ h0 hF

def seq_upto_1 (a0 : Int) (a1 : Int) : Bool :=
  bif decide (a0 < 0) then true else decide (a1 < a0)
theorem w_seq_upto_1_ {g : Frag} {a0 : Int} {a1 : Int} {c1_ : Nat} {r : Bool} (h1 : g c1_ = some (blk [.int .i64 a1] 3)) (hF : seq_upto_1 a0 a1 = r) : LCs Try.prog 97 #[.int .i64 a0, .pointer (some ⟨c1_, 0, none⟩)] g (.bool r) := by
 unfold seq_upto_1 at hF
 refine lc_body (k := 11) (av := [.int .i64 a0, .pointer (some ⟨c1_, 0, none⟩)]) func97 rfl rfl (h := fun W hS => ?_)
 refine c_seq <| c_region <| oy hS y_assign <| n_thenN <| c_seq <| c_region <| oy hS y_move <| oy hS y_bin ?_
 refine o_split (ht := fun c1 => ?_) (hf := fun c1 => ?_)
 · replace hF := bt c1 hF
   iterate 3 (refine o_sk rfl rfl ?_)
   refine oy hS y_pickT <| oy hS y_assign <| n_thenN ?_
   subst hF
   exact wp_ret (wr1 hS)
 replace hF := bf c1 hF
 refine o_gu rfl rfl rfl <| oy hS y_move <| o_gu rfl rfl rfl <| oy hS (y_load (fun w hS => hS.block h1) underlying3 rfl rfl) <| o_gu rfl rfl rfl <| oy hS y_bin <| oy hS y_pickF <| oy hS y_assign ?_
 refine n_thenN ?_
 subst hF
 exact wp_ret (wr1 hS)
theorem w_seq_upto_1 {g : Frag} {a0 : Int} {a1 : Int} {c1_ : Nat} (h1 : g c1_ = some (blk [.int .i64 a1] 3)) : LCs Try.prog 97 #[.int .i64 a0, .pointer (some ⟨c1_, 0, none⟩)] g (.bool (seq_upto_1 a0 a1)) := w_seq_upto_1_ h1 rfl

noncomputable def slices_IndexFunc_int_int_seq_upto_1_b1 (a0 : (List Int)) (a1_0 : Int) : Int → Option (Step Int Int) := fun x15 => bif decide (x15 < (a0.length : Int)) then (at' a0 x15).bind fun x35 => bif (seq_upto_1 x35 a1_0) then some (.done (x15)) else some (.next (IntKind.i64.wrap (x15 + 1))) else some (.done ((-1)))
noncomputable def slices_IndexFunc_int_int_seq_upto_1 (a0 : (List Int)) (a1_0 : Int) : Option Int :=
  loop (σ := Int) (slices_IndexFunc_int_int_seq_upto_1_b1 a0 a1_0) 0
theorem w_slices_IndexFunc_int_int_seq_upto_1_ {g : Frag} {a0 : (List Int)} {v0_ : Value} {a1_0 : Int} {c1_0 : Nat} {r : Int} (h0 : SlT g enc_int 1 a0 v0_) (h1_0 : g c1_0 = some (blk [.int .i64 a1_0] 3)) (hF : slices_IndexFunc_int_int_seq_upto_1 a0 a1_0 = some r) : LCs Try.prog 112 #[v0_, .func (.func 97) #[] #[.pointer (some ⟨c1_0, 0, none⟩)]] g (.int .i64 r) := by
 unfold slices_IndexFunc_int_int_seq_upto_1 at hF
 refine lc_body (k := 19) (av := [v0_, .func (.func 97) #[] #[.pointer (some ⟨c1_0, 0, none⟩)]]) func112 rfl rfl (h := fun W hS => ?_)
 refine c_seq <| c_region <| oy hS y_assign <| n_thenN ?_
 iterate 2 (refine c_seq ?_)
 refine c_region <| oy hS y_move <| oy hS (y_len h0 underlying24) <| oy hS y_move <| n_thenN <| c_block ?_
 refine c_loopP hF (fun (q : Int) a w' => (∃ s : Nat → Value, a = Ac (((((Fm.dead 19 s).upd 0 v0_).upd 1 (.func (.func 97) #[] #[.pointer (some ⟨c1_0, 0, none⟩)])).upd 7 (.int .i64 (a0.length : Int))).upd 8 (.int .i64 q))) ∧ St W g [] [] w') ⟨mk_exF, (hS.re (.n))⟩ ?_
 clear hS hF
 intro n32 q a w hI hq
 revert hq hI; revert q; intro x15 hI hq
 obtain ⟨⟨s33, rfl⟩, hS⟩ := hq
 obtain ⟨z30, hF, hK31⟩ := iter_step hI
 clear hI
 dsimp only [slices_IndexFunc_int_int_seq_upto_1_b1] at hF
 refine c_seq <| c_region <| oy hS y_bin <| n_thenN <| c_seq ?_
 refine c_if (ht := fun c34 => ?_) (hf := fun c34 => ?_)
 · replace hF := bt c34 hF
   refine wp_skip <| c_seq <| c_block <| c_seq <| c_region <| oy hS y_move <| oy hS y_assign <| n_thenN ?_
   refine c_seq <| c_region ?_
   iterate 3 (refine oy hS y_move ?_)
   obtain ⟨x35, hx35, hF⟩ := ob hF
   obtain ⟨b36, o37, c38, cs39, e40, fz41, hv42, ha43, hb44, hd45, hc46⟩ := SlT.at hx35 h0 enc_len_int
   refine oy hS (y_index hv42 ha43 hb44 underlying24 el_int.size) <| oy hS (y_load (fun w hS => hS.block hd45) underlying3 rfl (hc46 0 _ rfl)) ?_
   refine o_callVS2 hS func97 rfl rfl (hc := (w_seq_upto_1 (a0 := x35) (a1 := a1_0) (h1 := (Frag.le_plus _ _ _ _ h1_0)))) (h := ?_)
   clear hS; intro w hS
   refine n_thenN ?_
   refine c_if (ht := fun c47 => ?_) (hf := fun c47 => ?_)
   · replace hF := bt c47 hF
     refine c_seq <| c_region <| oy hS y_move <| oy hS y_assign <| n_thenN ?_
     obtain rfl := osi hF
     obtain rfl : _ = r := hK31
     exact wp_ret (wr1 hS)
   replace hF := bf c47 hF
   refine wp_skip <| c_region <| oy hS y_bin <| oy hS y_move <| n_thenN ?_
   obtain rfl := osi hF
   exact ⟨_, hK31, mk_exF, (hS.re (.n))⟩
 replace hF := bf c34 hF
 refine wp_exit ?_
 refine c_seq <| c_region <| oy hS y_assign <| n_thenN ?_
 obtain rfl := osi hF
 obtain rfl : _ = r := hK31
 exact wp_ret (wr1 hS)
theorem w_slices_IndexFunc_int_int_seq_upto_1 {g : Frag} {a0 : (List Int)} {v0_ : Value} {a1_0 : Int} {c1_0 : Nat} {r : Int} (h0 : SlT g enc_int 1 a0 v0_) (h1_0 : g c1_0 = some (blk [.int .i64 a1_0] 3)) (hF : slices_IndexFunc_int_int_seq_upto_1 a0 a1_0 = some r) : LCs Try.prog 112 #[v0_, .func (.func 97) #[] #[.pointer (some ⟨c1_0, 0, none⟩)]] g (.int .i64 r) := w_slices_IndexFunc_int_int_seq_upto_1_ h0 h1_0 hF

noncomputable def slices_ContainsFunc_int_int_seq_upto_1 (a0 : (List Int)) (a1_0 : Int) : Option Bool :=
  (slices_IndexFunc_int_int_seq_upto_1 a0 a1_0).bind fun r1 => some (decide (0 ≤ r1))
theorem w_slices_ContainsFunc_int_int_seq_upto_1_ {g : Frag} {a0 : (List Int)} {v0_ : Value} {a1_0 : Int} {c1_0 : Nat} {r : Bool} (h0 : SlT g enc_int 1 a0 v0_) (h1_0 : g c1_0 = some (blk [.int .i64 a1_0] 3)) (hF : slices_ContainsFunc_int_int_seq_upto_1 a0 a1_0 = some r) : LCs Try.prog 96 #[v0_, .func (.func 97) #[] #[.pointer (some ⟨c1_0, 0, none⟩)]] g (.bool r) := by
 unfold slices_ContainsFunc_int_int_seq_upto_1 at hF
 refine lc_body (k := 9) (av := [v0_, .func (.func 97) #[] #[.pointer (some ⟨c1_0, 0, none⟩)]]) func96 rfl rfl (h := fun W hS => ?_)
 refine c_seq <| c_region <| oy hS y_assign <| n_thenN <| c_seq <| c_region ?_
 iterate 2 (refine oy hS y_move ?_)
 obtain ⟨r1, hr1, hF⟩ := ob hF
 refine o_callS hS func112 rfl rfl (hc := (w_slices_IndexFunc_int_int_seq_upto_1 (a0 := a0) (a1_0 := a1_0) (h0 := h0.plus) (h1_0 := (Frag.le_plus _ _ _ _ h1_0)) (hF := hr1))) (h := ?_)
 clear hS; intro w hS
 refine oy hS y_bin <| oy hS y_assign <| n_thenN ?_
 obtain rfl := osi hF
 exact wp_ret (wr1 hS)
theorem w_slices_ContainsFunc_int_int_seq_upto_1 {g : Frag} {a0 : (List Int)} {v0_ : Value} {a1_0 : Int} {c1_0 : Nat} {r : Bool} (h0 : SlT g enc_int 1 a0 v0_) (h1_0 : g c1_0 = some (blk [.int .i64 a1_0] 3)) (hF : slices_ContainsFunc_int_int_seq_upto_1 a0 a1_0 = some r) : LCs Try.prog 96 #[v0_, .func (.func 97) #[] #[.pointer (some ⟨c1_0, 0, none⟩)]] g (.bool r) := w_slices_ContainsFunc_int_int_seq_upto_1_ h0 h1_0 hF

noncomputable def seq_upto (a0 : Int) (a1 : (List Int)) : Option Bool :=
  (slices_ContainsFunc_int_int_seq_upto_1 a1 a0).bind fun r2 => some (!r2)
theorem w_seq_upto_ {g : Frag} {a0 : Int} {a1 : (List Int)} {v1_ : Value} {r : Bool} (h1 : SlT g enc_int 1 a1 v1_) (hF : seq_upto a0 a1 = some r) : LCs Try.prog 77 #[.int .i64 a0, v1_] g (.bool r) := by
 unfold seq_upto at hF
 refine lc_body (k := 9) (av := [.int .i64 a0, v1_]) func77 rfl rfl (h := fun W hS => ?_)
 refine c_seq <| c_region ?_
 refine o_boxP (cl := [.int .i64 a0]) rfl hS ?_
 clear hS; intro b1 w hS
 refine oy hS y_assign <| n_thenN <| c_seq <| c_region <| oy hS y_move ?_
 refine oy hS (y_makeFunc av0 (av1 (by (conv => lhs; whnf) <;> exact rfl))) ?_
 obtain ⟨r2, hr2, hF⟩ := ob hF
 refine o_callS hS func96 rfl rfl (hc := (w_slices_ContainsFunc_int_int_seq_upto_1 (a0 := a1) (a1_0 := a0) (h0 := h1.plus) (h1_0 := (St.plus hS (mH))) (hF := hr2))) (h := ?_)
 clear hS; intro w hS
 refine oy hS y_not <| oy hS y_assign <| n_thenN ?_
 obtain rfl := osi hF
 exact wp_ret (wr1 hS)
theorem w_seq_upto {g : Frag} {a0 : Int} {a1 : (List Int)} {v1_ : Value} {r : Bool} (h1 : SlT g enc_int 1 a1 v1_) (hF : seq_upto a0 a1 = some r) : LCs Try.prog 77 #[.int .i64 a0, v1_] g (.bool r) := w_seq_upto_ h1 hF

noncomputable def seq_Core_k1 (a0 : T_State) : Unit → Option Bool := fun _ => (seq_upto (a0.In_.length : Int) ([a0.Taken] : List Int)).bind fun r16 => bif r16 then (seq_upto 1024 ([a0.PC] : List Int)).bind fun r21 => bif r21 then (seq_upto 1024 a0.Stack).bind fun r23 => some (r23) else some (false) else some (false)
noncomputable def seq_Core (a0 : T_State) : Option Bool :=
  cut (σ := Unit) (bif decide ((a0.Regs.length : Int) ≠ 16) then some (.done (false)) else bif decide ((a0.Mem.length : Int) ≠ 256) then some (.done (false)) else bif decide (100 < (a0.In_.length : Int)) then some (.done (false)) else bif decide (16 < (a0.Stack.length : Int)) then some (.done (false)) else some (.next ())) (seq_Core_k1 a0)
theorem w_seq_Core_ {g : Frag} {a0 : T_State} {v0_ : Value} {r : Bool} (h0 : Rd_State g a0 v0_) (hF : seq_Core a0 = some r) : LCs Try.prog 54 #[v0_] g (.bool r) := by
 obtain ⟨v0_0_, v0_1_, v0_2_, v0_4_, v0_6_, v0_8_, rfl, h0_0_, h0_1_, h0_2_, h0_4_, h0_6_, h0_8_⟩ := h0
 unfold seq_Core at hF
 refine lc_body (k := 43) (av := [.agg (cl_State v0_0_ v0_1_ v0_2_ a0.Taken v0_4_ a0.PC v0_6_ a0.Stop v0_8_ a0.Jump a0.Delay).toArray]) func54 rfl rfl (h := fun W hS => ?_)
 refine c_seq <| c_region ?_
 refine o_boxP (cl := (cl_State v0_0_ v0_1_ v0_2_ a0.Taken v0_4_ a0.PC v0_6_ a0.Stop v0_8_ a0.Jump a0.Delay)) rfl hS ?_
 clear hS; intro b1 w hS
 refine oy hS y_assign <| n_thenN ?_
 obtain ⟨z6, hF, hK7⟩ := cut_step hF
 refine c_cutP (fun a w' => seq_Core_k1 a0 () = some r ∧ (∃ s : Nat → Value, a = Ac ((Fm.dead 43 s).upd 1 (.pointer (some ⟨b1, 0, none⟩)))) ∧ St W g [] ((b1, blk (cl_State v0_0_ v0_1_ v0_2_ a0.Taken v0_4_ a0.PC v0_6_ a0.Stop v0_8_ a0.Jump a0.Delay) 27) :: []) w') ?_ ?_
 · skip
   refine c_seq <| c_region <| oy hS (y_field fa_api_State_0) <| oy hS (y_load (fun w hS => hS.own (mH)) underlying23 rfl rfl) <| oy hS (y_len h0_0_ underlying23) <| oy hS y_bin ?_
   refine o_split (ht := fun c8 => ?_) (hf := fun c8 => ?_)
   · replace hF := bt c8 hF
     iterate 4 (refine o_sk rfl rfl ?_)
     refine oy hS y_pickT <| oy hS y_move ?_
     iterate 4 (refine o_sk rfl rfl ?_)
     refine oy hS y_pickT <| oy hS y_move ?_
     iterate 4 (refine o_sk rfl rfl ?_)
     refine oy hS y_pickT <| n_thenN ?_
     refine c_if_true (h := ?_)
     refine c_seq <| c_region <| oy hS y_assign <| n_thenN ?_
     obtain rfl := osi hF
     obtain rfl : _ = r := hK7
     exact wp_ret (wr1 hS)
   replace hF := bf c8 hF
   refine o_gu rfl rfl rfl <| oy hS (y_field fa_api_State_1) <| o_gu rfl rfl rfl <| oy hS (y_load (fun w hS => hS.own (mH)) underlying23 rfl rfl) <| o_gu rfl rfl rfl <| oy hS (y_len h0_1_ underlying23) <| o_gu rfl rfl rfl <| oy hS y_bin ?_
   refine oy hS y_pickF ?_
   refine o_split (ht := fun c9 => ?_) (hf := fun c9 => ?_)
   · replace hF := bt c9 hF
     iterate 4 (refine o_sk rfl rfl ?_)
     refine oy hS y_pickT <| oy hS y_move ?_
     iterate 4 (refine o_sk rfl rfl ?_)
     refine oy hS y_pickT <| n_thenN ?_
     refine c_if_true (h := ?_)
     refine c_seq <| c_region <| oy hS y_assign <| n_thenN ?_
     obtain rfl := osi hF
     obtain rfl : _ = r := hK7
     exact wp_ret (wr1 hS)
   replace hF := bf c9 hF
   refine o_gu rfl rfl rfl <| oy hS (y_field fa_api_State_2) <| o_gu rfl rfl rfl <| oy hS (y_load (fun w hS => hS.own (mH)) underlying23 rfl rfl) <| o_gu rfl rfl rfl <| oy hS (y_len h0_2_ underlying23) <| o_gu rfl rfl rfl <| oy hS y_bin ?_
   refine oy hS y_pickF ?_
   refine o_split (ht := fun c10 => ?_) (hf := fun c10 => ?_)
   · replace hF := bt c10 hF
     iterate 4 (refine o_sk rfl rfl ?_)
     refine oy hS y_pickT <| n_thenN ?_
     refine c_if_true (h := ?_)
     refine c_seq <| c_region <| oy hS y_assign <| n_thenN ?_
     obtain rfl := osi hF
     obtain rfl : _ = r := hK7
     exact wp_ret (wr1 hS)
   replace hF := bf c10 hF
   refine o_gu rfl rfl rfl <| oy hS (y_field fa_api_State_6) <| o_gu rfl rfl rfl <| oy hS (y_load (fun w hS => hS.own (mH)) underlying24 rfl rfl) <| o_gu rfl rfl rfl <| oy hS (y_len h0_6_ underlying24) <| o_gu rfl rfl rfl <| oy hS y_bin ?_
   refine oy hS y_pickF <| n_thenN ?_
   refine c_if (ht := fun c11 => ?_) (hf := fun c11 => ?_)
   · replace hF := bt c11 hF
     refine c_seq <| c_region <| oy hS y_assign <| n_thenN ?_
     obtain rfl := osi hF
     obtain rfl : _ = r := hK7
     exact wp_ret (wr1 hS)
   replace hF := bf c11 hF
   refine wp_skip ?_
   obtain rfl := osi hF
   change _ ∧ _
   exact ⟨hK7, mk_exF, (hS.re (.b .hb .n))⟩
 rintro a w ⟨hF, ⟨s12, rfl⟩, hS⟩
 dsimp only [seq_Core_k1] at hF
 refine c_seq <| c_region <| oy hS (y_field fa_api_State_2) <| oy hS (y_load (fun w hS => hS.own (mH)) underlying23 rfl rfl) <| oy hS (y_len h0_2_ underlying23) <| oy hS (y_field fa_api_State_3) <| oy hS (y_load (fun w hS => hS.own (mH)) underlying3 rfl rfl) ?_
 refine o_buildT val_int ([a0.Taken] : List Int) hS el_int (fun _ => rfl) enc_len_int (by decide) rfl (by decide) (hp := rfl) (h := ?_)
 clear hS; intro b13 w hS h14
 have hS : St W g [] ([(b13, blk (([a0.Taken] : List Int).flatMap enc_int) 3)] ++ ((b1, blk (cl_State v0_0_ v0_1_ v0_2_ a0.Taken v0_4_ a0.PC v0_6_ a0.Stop v0_8_ a0.Jump a0.Delay) 27) :: [])) w := hS
 obtain ⟨r16, hr16, hF⟩ := ob hF
 refine o_callS hS func77 rfl rfl (hc := (w_seq_upto (a0 := (a0.In_.length : Int)) (a1 := ([a0.Taken] : List Int)) (h1 := (OwT.plus h14 hS (fun p hp => mA (hp)))) (hF := hr16))) (h := ?_)
 clear hS; intro w hS
 refine o_split (ht := fun c17 => ?_) (hf := fun c17 => ?_)
 · replace hF := bt c17 hF
   refine o_gu rfl rfl rfl <| oy hS (y_field fa_api_State_5) <| o_gu rfl rfl rfl <| oy hS (y_load (fun w hS => hS.own (mB (mH))) underlying3 rfl rfl) <| o_gu rfl rfl rfl ?_
   refine o_buildT val_int ([a0.PC] : List Int) hS el_int (fun _ => rfl) enc_len_int (by decide) rfl (by decide) (hp := rfl) (h := ?_)
   clear hS; intro b18 w hS h19
   have hS : St W g [] ([(b18, blk (([a0.PC] : List Int).flatMap enc_int) 3)] ++ ([(b13, blk (([a0.Taken] : List Int).flatMap enc_int) 3)] ++ ((b1, blk (cl_State v0_0_ v0_1_ v0_2_ a0.Taken v0_4_ a0.PC v0_6_ a0.Stop v0_8_ a0.Jump a0.Delay) 27) :: []))) w := hS
   refine o_gu rfl rfl rfl ?_
   obtain ⟨r21, hr21, hF⟩ := ob hF
   refine o_callS hS func77 rfl rfl (hc := (w_seq_upto (a0 := 1024) (a1 := ([a0.PC] : List Int)) (h1 := (OwT.plus h19 hS (fun p hp => mA (hp)))) (hF := hr21))) (h := ?_)
   clear hS; intro w hS
   refine oy hS y_pickT ?_
   refine o_split (ht := fun c22 => ?_) (hf := fun c22 => ?_)
   · replace hF := bt c22 hF
     refine o_gu rfl rfl rfl <| oy hS (y_field fa_api_State_6) <| o_gu rfl rfl rfl <| oy hS (y_load (fun w hS => hS.own (mB (mB (mH)))) underlying24 rfl rfl) <| o_gu rfl rfl rfl ?_
     obtain ⟨r23, hr23, hF⟩ := ob hF
     refine o_callS hS func77 rfl rfl (hc := (w_seq_upto (a0 := 1024) (a1 := a0.Stack) (h1 := h0_6_.plus) (hF := hr23))) (h := ?_)
     clear hS; intro w hS
     refine oy hS y_pickT <| oy hS y_assign <| n_thenN ?_
     obtain rfl := osi hF
     exact wp_ret (wr1 hS)
   replace hF := bf c22 hF
   iterate 3 (refine o_sk rfl rfl ?_)
   refine oy hS y_pickF <| oy hS y_assign <| n_thenN ?_
   obtain rfl := osi hF
   exact wp_ret (wr1 hS)
 replace hF := bf c17 hF
 iterate 4 (refine o_sk rfl rfl ?_)
 refine oy hS y_pickF <| oy hS y_move ?_
 iterate 3 (refine o_sk rfl rfl ?_)
 refine oy hS y_pickF <| oy hS y_assign <| n_thenN ?_
 obtain rfl := osi hF
 exact wp_ret (wr1 hS)
theorem w_seq_Core {g : Frag} {a0 : T_State} {v0_ : Value} {r : Bool} (h0 : Rd_State g a0 v0_) (hF : seq_Core a0 = some r) : LCs Try.prog 54 #[v0_] g (.bool r) := w_seq_Core_ h0 hF

noncomputable def pipe_flies_b4 (x280 : T_Write) (x219 : Int) : (Int × Int × Int × Int × Int × Int) → Option (Step (Int × Int × Int × Int × Int × Int) (Step (Int × Int × Int × Int × Int × Int) (Step (Int × Int × Int × Int × Int) Bool))) := fun (x311, x312, x313, x314, x315, x316) => bif decide (x311 < (IntKind.i64.wrap (x280.Left + 1))) then (at' [x312, x313, x314, x315, x316] x311).bind fun x326 => (at' [x312, x313, x314, x315, x316] x311).bind fun x327 => (A5.put (⟨x312, x313, x314, x315, x316⟩ : (A5 Int)) x311 (IntKind.i64.wrap (x326 + 1))).bind fun z328 => some (.next (IntKind.i64.wrap (x311 + 1), z328.x0, z328.x1, z328.x2, z328.x3, z328.x4)) else some (.done (.next (IntKind.i64.wrap (x219 + 1), x312, x313, x314, x315, x316)))
noncomputable def pipe_flies_k3 (x280 : T_Write) (x219 : Int) (x220 : Int) (x221 : Int) (x222 : Int) (x223 : Int) (x224 : Int) : Unit → Option (Step (Int × Int × Int × Int × Int × Int) (Step (Int × Int × Int × Int × Int) Bool)) := fun _ => loop (σ := (Int × Int × Int × Int × Int × Int)) (pipe_flies_b4 x280 x219) (0, x220, x221, x222, x223, x224)
noncomputable def pipe_flies_b2 (a0 : (List T_Write)) : (Int × Int × Int × Int × Int × Int) → Option (Step (Int × Int × Int × Int × Int × Int) (Step (Int × Int × Int × Int × Int) Bool)) := fun (x219, x220, x221, x222, x223, x224) => bif decide (x219 < (a0.length : Int)) then (at' a0 x219).bind fun x280 => cut (σ := Unit) (bif decide (x280.Reg < 0) then some (.done (.done (.done (false)))) else bif decide (16 ≤ x280.Reg) then some (.done (.done (.done (false)))) else bif decide (x280.Left < 0) then some (.done (.done (.done (false)))) else bif decide (4 < x280.Left) then some (.done (.done (.done (false)))) else some (.next ())) (pipe_flies_k3 x280 x219 x220 x221 x222 x223 x224) else some (.done (.next (x220, x221, x222, x223, x224)))
noncomputable def pipe_flies_b5 (x162 : Int) (x163 : Int) (x164 : Int) (x165 : Int) (x166 : Int) : Int → Option (Step Int Bool) := fun x332 => bif decide (x332 < 5) then (at' [x162, x163, x164, x165, x166] x332).bind fun x341 => bif decide ((IntKind.i64.wrap (4 * (IntKind.i64.wrap (5 - x332)))) < x341) then some (.done (false)) else some (.next (IntKind.i64.wrap (x332 + 1))) else some (.done (true))
noncomputable def pipe_flies_k1  : (Int × Int × Int × Int × Int) → Option Bool := fun (x162, x163, x164, x165, x166) => loop (σ := Int) (pipe_flies_b5 x162 x163 x164 x165 x166) 0
noncomputable def pipe_flies (a0 : (List T_Write)) : Option Bool :=
  cut (σ := (Int × Int × Int × Int × Int)) (loop (σ := (Int × Int × Int × Int × Int × Int)) (pipe_flies_b2 a0) (0, 0, 0, 0, 0, 0)) (pipe_flies_k1)
theorem w_pipe_flies_ {g : Frag} {a0 : (List T_Write)} {v0_ : Value} {r : Bool} (h0 : SlT g enc_Write 3 a0 v0_) (hF : pipe_flies a0 = some r) : LCs Try.prog 55 #[v0_] g (.bool r) := by
 unfold pipe_flies at hF
 refine lc_body (k := 57) (av := [v0_]) func55 rfl rfl (h := fun W hS => ?_)
 refine c_seq <| c_region <| oy hS y_assign <| n_thenN <| c_seq <| c_region ?_
 refine o_allocP (cl := (enc_A5_int ⟨0, 0, 0, 0, 0⟩)) zr_A5_int rfl hS ?_
 clear hS; intro b1 w hS
 refine n_thenN ?_
 obtain ⟨z167, hF, hK168⟩ := cut_step hF
 refine c_cutP (fun a w' => ∃ (x162 : Int) (x163 : Int) (x164 : Int) (x165 : Int) (x166 : Int), pipe_flies_k1 (x162, x163, x164, x165, x166) = some r ∧ (∃ s : Nat → Value, a = Ac ((Fm.dead 57 s).upd 3 (.pointer (some ⟨b1, 0, none⟩)))) ∧ St W g [] ((b1, blk (enc_A5_int ⟨x162, x163, x164, x165, x166⟩) 96) :: []) w') ?_ ?_
 · skip
   refine c_seq <| c_region <| oy hS y_move <| oy hS (y_len h0 underlying25) <| oy hS y_move <| n_thenN <| c_block ?_
   refine c_loopP hF (fun (q : (Int × Int × Int × Int × Int × Int)) a w' => (∃ s : Nat → Value, a = Ac (((((Fm.dead 57 s).upd 3 (.pointer (some ⟨b1, 0, none⟩))).upd 9 v0_).upd 10 (.int .i64 (a0.length : Int))).upd 11 (.int .i64 q.1))) ∧ St W g [] ((b1, blk (enc_A5_int ⟨q.2.1, q.2.2.1, q.2.2.2.1, q.2.2.2.2.1, q.2.2.2.2.2⟩) 96) :: []) w') ⟨mk_exF, (hS.re (.b .hb .n))⟩ ?_
   clear hS hF
   intro n277 q a w hI hq
   obtain ⟨x219, x220, x221, x222, x223, x224⟩ := q
   obtain ⟨⟨s278, rfl⟩, hS⟩ := hq
   obtain ⟨z275, hF, hK276⟩ := iter_step hI
   clear hI
   dsimp only [pipe_flies_b2] at hF
   refine c_seq <| c_region <| oy hS y_bin <| n_thenN <| c_seq ?_
   refine c_if (ht := fun c279 => ?_) (hf := fun c279 => ?_)
   · replace hF := bt c279 hF
     refine wp_skip <| c_seq <| c_block <| c_seq <| c_region ?_
     obtain ⟨x280, hx280, hF⟩ := ob hF
     obtain ⟨b281, o282, c283, cs284, e285, fz286, hv287, ha288, hb289, hd290, hc291⟩ := SlT.at hx280 h0 enc_len_Write
     refine oy hS (y_index hv287 ha288 hb289 underlying25 el_api_Write.size) ?_
     refine oy hS (y_loadN (vs := (enc_Write x280)) (fun w hS => hS.block hd290) underlying71 rfl (by exact sz_api_Write) (fun j u hj => hc291 j u hj)) ?_
     refine o_allocP (cl := (enc_Write ⟨0, 0, 0⟩)) zr_api_Write rfl hS ?_
     clear hS; intro b292 w hS
     refine o_storeW (vs := (enc_Write x280)) hS (by exact rfl) (Upd.here _) (by exact sz_api_Write) (enc_one_Write _) ?_
     clear hS; intro w hS
     refine n_thenN ?_
     obtain ⟨z297, hF, hK298⟩ := cut_step hF
     refine c_cutP (fun a w' => pipe_flies_k3 x280 x219 x220 x221 x222 x223 x224 () = some z275 ∧ (∃ s : Nat → Value, a = Ac ((((((Fm.dead 57 s).upd 3 (.pointer (some ⟨b1, 0, none⟩))).upd 5 (.pointer (some ⟨b292, 0, none⟩))).upd 9 v0_).upd 10 (.int .i64 (a0.length : Int))).upd 11 (.int .i64 x219))) ∧ St W g [] ((b1, blk (enc_A5_int ⟨x220, x221, x222, x223, x224⟩) 96) :: ((b292, blk (enc_Write x280) 71) :: [])) w') ?_ ?_
     · skip
       refine c_seq <| c_region <| oy hS (y_field fa_api_Write_0) <| oy hS (y_load (fun w hS => hS.own (mH)) underlying3 rfl rfl) <| oy hS y_bin ?_
       refine o_split (ht := fun c299 => ?_) (hf := fun c299 => ?_)
       · replace hF := bt c299 hF
         iterate 3 (refine o_sk rfl rfl ?_)
         refine oy hS y_pickT <| oy hS y_move ?_
         iterate 3 (refine o_sk rfl rfl ?_)
         refine oy hS y_pickT <| oy hS y_move ?_
         iterate 3 (refine o_sk rfl rfl ?_)
         refine oy hS y_pickT <| n_thenN ?_
         refine c_if_true (h := ?_)
         refine c_seq <| c_region <| oy hS y_assign <| n_thenN ?_
         obtain rfl := osi hF
         obtain rfl : _ = z275 := hK298
         obtain rfl : _ = z167 := hK276
         obtain rfl : _ = r := hK168
         exact wp_ret (wr1 hS)
       replace hF := bf c299 hF
       refine o_gu rfl rfl rfl <| oy hS (y_field fa_api_Write_0) <| o_gu rfl rfl rfl <| oy hS (y_load (fun w hS => hS.own (mH)) underlying3 rfl rfl) <| o_gu rfl rfl rfl <| oy hS y_bin <| oy hS y_pickF ?_
       refine o_split (ht := fun c300 => ?_) (hf := fun c300 => ?_)
       · replace hF := bt c300 hF
         iterate 3 (refine o_sk rfl rfl ?_)
         refine oy hS y_pickT <| oy hS y_move ?_
         iterate 3 (refine o_sk rfl rfl ?_)
         refine oy hS y_pickT <| n_thenN ?_
         refine c_if_true (h := ?_)
         refine c_seq <| c_region <| oy hS y_assign <| n_thenN ?_
         obtain rfl := osi hF
         obtain rfl : _ = z275 := hK298
         obtain rfl : _ = z167 := hK276
         obtain rfl : _ = r := hK168
         exact wp_ret (wr1 hS)
       replace hF := bf c300 hF
       refine o_gu rfl rfl rfl <| oy hS (y_field fa_api_Write_2) <| o_gu rfl rfl rfl <| oy hS (y_load (fun w hS => hS.own (mH)) underlying3 rfl rfl) <| o_gu rfl rfl rfl <| oy hS y_bin <| oy hS y_pickF ?_
       refine o_split (ht := fun c301 => ?_) (hf := fun c301 => ?_)
       · replace hF := bt c301 hF
         iterate 3 (refine o_sk rfl rfl ?_)
         refine oy hS y_pickT <| n_thenN ?_
         refine c_if_true (h := ?_)
         refine c_seq <| c_region <| oy hS y_assign <| n_thenN ?_
         obtain rfl := osi hF
         obtain rfl : _ = z275 := hK298
         obtain rfl : _ = z167 := hK276
         obtain rfl : _ = r := hK168
         exact wp_ret (wr1 hS)
       replace hF := bf c301 hF
       refine o_gu rfl rfl rfl <| oy hS (y_field fa_api_Write_2) <| o_gu rfl rfl rfl <| oy hS (y_load (fun w hS => hS.own (mH)) underlying3 rfl rfl) <| o_gu rfl rfl rfl <| oy hS y_bin <| oy hS y_pickF <| n_thenN ?_
       refine c_if (ht := fun c302 => ?_) (hf := fun c302 => ?_)
       · replace hF := bt c302 hF
         refine c_seq <| c_region <| oy hS y_assign <| n_thenN ?_
         obtain rfl := osi hF
         obtain rfl : _ = z275 := hK298
         obtain rfl : _ = z167 := hK276
         obtain rfl : _ = r := hK168
         exact wp_ret (wr1 hS)
       replace hF := bf c302 hF
       refine wp_skip ?_
       obtain rfl := osi hF
       change _ ∧ _
       exact ⟨hK298, mk_exF, (hS.re (.b (.thereb _ .hb) (.b .hb .n)))⟩
     rintro a w ⟨hF, ⟨s303, rfl⟩, hS⟩
     dsimp only [pipe_flies_k3] at hF
     refine c_seq <| c_region <| oy hS (y_field fa_api_Write_2) <| oy hS (y_load (fun w hS => hS.own (mC (mH))) underlying3 rfl rfl) <| oy hS y_bin <| oy hS y_move <| n_thenN <| c_block ?_
     refine c_loopP hF (fun (q : (Int × Int × Int × Int × Int × Int)) a w' => (∃ s : Nat → Value, a = Ac (((((((Fm.dead 57 s).upd 3 (.pointer (some ⟨b1, 0, none⟩))).upd 9 v0_).upd 10 (.int .i64 (a0.length : Int))).upd 11 (.int .i64 x219)).upd 35 (.int .i64 (IntKind.i64.wrap (x280.Left + 1)))).upd 36 (.int .i64 q.1))) ∧ St W g [] ((b1, blk (enc_A5_int ⟨q.2.1, q.2.2.1, q.2.2.2.1, q.2.2.2.2.1, q.2.2.2.2.2⟩) 96) :: []) w') ⟨mk_exF, (hS.re (.b .hb .n))⟩ ?_
     clear hS hF
     intro n323 q a w hI hq
     obtain ⟨x311, x312, x313, x314, x315, x316⟩ := q
     obtain ⟨⟨s324, rfl⟩, hS⟩ := hq
     obtain ⟨z321, hF, hK322⟩ := iter_step hI
     clear hI
     dsimp only [pipe_flies_b4] at hF
     refine c_seq <| c_region <| oy hS y_bin <| n_thenN <| c_seq ?_
     refine c_if (ht := fun c325 => ?_) (hf := fun c325 => ?_)
     · replace hF := bt c325 hF
       refine wp_skip <| c_seq <| c_block <| c_seq <| c_region <| oy hS y_move <| oy hS y_assign <| n_thenN ?_
       refine c_region <| oy hS y_move ?_
       obtain ⟨x326, hx326, hF⟩ := ob hF
       refine oy hS (y_indexA (at'_bnd hx326 rfl).1 (at'_bnd hx326 (n := 5) rfl).2 underlying96 (by exact sz_int)) ?_
       refine oy hS (y_load (fun w hS => hS.own (mH)) underlying3 rfl ((arr_box (o := 0) (xs := [x312, x313, x314, x315, x316]) (pre := []) (post := []) hx326 enc_len_int (by exact rfl) rfl) 0 _ rfl)) ?_
       refine oy hS y_bin ?_
       obtain ⟨x327, hx327, hF⟩ := ob hF
       refine oy hS (y_indexA (at'_bnd hx327 rfl).1 (at'_bnd hx327 (n := 5) rfl).2 underlying96 (by exact sz_int)) ?_
       obtain ⟨z328, hz328, hF⟩ := ob hF
       refine o_storeA1 (o := 0 + (x311).toNat * 1) (cl := (enc_A5_int ⟨x312, x313, x314, x315, x316⟩)) (cl' := (enc_A5_int z328)) hS (by rcases A5.put_cases hz328 with ⟨hi, rfl⟩ | ⟨hi, rfl⟩ | ⟨hi, rfl⟩ | ⟨hi, rfl⟩ | ⟨hi, rfl⟩ <;> rw [hi] <;> rfl) (by have q1 := (A5.put_lt hz328).1; have q2 := (A5.put_lt hz328).2; simp only [List.length_cons, List.length_nil]; omega) (Upd.here _) (by exact sz_int) rfl rfl ?_
       clear hS; intro w hS
       refine n_anyN ?_
       refine c_region <| oy hS y_bin <| oy hS y_move <| n_thenN ?_
       obtain rfl := osi hF
       exact ⟨_, hK322, mk_exF, (hS.re (.b .hb .n))⟩
     replace hF := bf c325 hF
     refine wp_exit ?_
     refine c_region <| oy hS y_bin <| oy hS y_move <| n_thenN ?_
     obtain rfl := osi hF
     obtain rfl : _ = z275 := hK322
     exact ⟨_, hK276, mk_exF, (hS.re (.b .hb .n))⟩
   replace hF := bf c279 hF
   refine wp_exit ?_
   obtain rfl := osi hF
   obtain rfl : _ = z167 := hK276
   change ∃ _, _
   exact ⟨x220, x221, x222, x223, x224, hK168, mk_exF, (hS.re (.b .hb .n))⟩
 rintro a w ⟨x162, x163, x164, x165, x166, hF, ⟨s329, rfl⟩, hS⟩
 dsimp only [pipe_flies_k1] at hF
 iterate 2 (refine c_seq ?_)
 refine c_region ?_
 refine oy hS (y_loadW (fun w hS => hS.own (mH)) underlying96 rfl (by exact sz_A5_int)) ?_
 refine oy hS y_move <| n_thenN <| c_block ?_
 refine c_loopP hF (fun (q : Int) a w' => (∃ s : Nat → Value, a = Ac (((Fm.dead 57 s).upd 46 (.agg (enc_A5_int ⟨x162, x163, x164, x165, x166⟩).toArray)).upd 47 (.int .i64 q))) ∧ St W g [] [] w') ⟨mk_exF, (hS.re (.n))⟩ ?_
 clear hS hF
 intro n338 q a w hI hq
 revert hq hI; revert q; intro x332 hI hq
 obtain ⟨⟨s339, rfl⟩, hS⟩ := hq
 obtain ⟨z336, hF, hK337⟩ := iter_step hI
 clear hI
 dsimp only [pipe_flies_b5] at hF
 refine c_seq <| c_region <| oy hS y_bin <| n_thenN <| c_seq ?_
 refine c_if (ht := fun c340 => ?_) (hf := fun c340 => ?_)
 · replace hF := bt c340 hF
   refine wp_skip <| c_seq <| c_block <| c_seq <| c_region <| oy hS y_move ?_
   obtain ⟨x341, hx341, hF⟩ := ob hF
   refine oy hS (y_ixS (enc := enc_int) hx341 enc_len_int underlying96 rfl underlying3 rfl (by exact sz_int) rfl) ?_
   iterate 2 (refine oy hS y_assign ?_)
   refine n_thenN <| c_seq <| c_region ?_
   iterate 2 (refine oy hS y_move ?_)
   iterate 3 (refine oy hS y_bin ?_)
   refine n_thenN ?_
   refine c_if (ht := fun c342 => ?_) (hf := fun c342 => ?_)
   · replace hF := bt c342 hF
     refine c_seq <| c_region <| oy hS y_assign <| n_thenN ?_
     obtain rfl := osi hF
     obtain rfl : _ = r := hK337
     exact wp_ret (wr1 hS)
   replace hF := bf c342 hF
   refine wp_skip <| c_region <| oy hS y_bin <| oy hS y_move <| n_thenN ?_
   obtain rfl := osi hF
   exact ⟨_, hK337, mk_exF, (hS.re (.n))⟩
 replace hF := bf c340 hF
 refine wp_exit ?_
 refine c_seq <| c_region <| oy hS y_assign <| n_thenN ?_
 obtain rfl := osi hF
 obtain rfl : _ = r := hK337
 exact wp_ret (wr1 hS)
theorem w_pipe_flies {g : Frag} {a0 : (List T_Write)} {v0_ : Value} {r : Bool} (h0 : SlT g enc_Write 3 a0 v0_) (hF : pipe_flies a0 = some r) : LCs Try.prog 55 #[v0_] g (.bool r) := w_pipe_flies_ h0 hF

noncomputable def pipe_May_k1 (a0 : T_State) : Unit → Option Bool := fun _ => bif decide (0 ≤ a0.Jump) then bif decide (a0.Jump ≤ 1024) then bif decide (0 ≤ a0.Delay) then some (decide (a0.Delay ≤ 2)) else some (false) else some (false) else some (false)
noncomputable def pipe_May (a0 : T_State) : Option Bool :=
  cut (σ := Unit) ((seq_Core a0).bind fun r10 => bif !r10 then some (.done (false)) else bif decide (a0.Stop < 0) then some (.done (false)) else bif decide (6 < a0.Stop) then some (.done (false)) else (pipe_flies a0.Fly).bind fun r14 => bif !r14 then some (.done (false)) else some (.next ())) (pipe_May_k1 a0)
theorem w_pipe_May_ {g : Frag} {a0 : T_State} {v0_ : Value} {r : Bool} (h0 : Rd_State g a0 v0_) (hF : pipe_May a0 = some r) : LCs Try.prog 41 #[v0_] g (.bool r) := by
 obtain ⟨v0_0_, v0_1_, v0_2_, v0_4_, v0_6_, v0_8_, rfl, h0_0_, h0_1_, h0_2_, h0_4_, h0_6_, h0_8_⟩ := h0
 unfold pipe_May at hF
 refine lc_body (k := 40) (av := [.agg (cl_State v0_0_ v0_1_ v0_2_ a0.Taken v0_4_ a0.PC v0_6_ a0.Stop v0_8_ a0.Jump a0.Delay).toArray]) func41 rfl rfl (h := fun W hS => ?_)
 refine c_seq <| c_region ?_
 refine o_boxP (cl := (cl_State v0_0_ v0_1_ v0_2_ a0.Taken v0_4_ a0.PC v0_6_ a0.Stop v0_8_ a0.Jump a0.Delay)) rfl hS ?_
 clear hS; intro b1 w hS
 refine oy hS y_assign <| n_thenN ?_
 obtain ⟨z8, hF, hK9⟩ := cut_step hF
 refine c_cutP (fun a w' => pipe_May_k1 a0 () = some r ∧ (∃ s : Nat → Value, a = Ac ((Fm.dead 40 s).upd 1 (.pointer (some ⟨b1, 0, none⟩)))) ∧ St W g [] ((b1, blk (cl_State v0_0_ v0_1_ v0_2_ a0.Taken v0_4_ a0.PC v0_6_ a0.Stop v0_8_ a0.Jump a0.Delay) 27) :: []) w') ?_ ?_
 · skip
   refine c_seq <| c_region ?_
   refine oy hS (y_loadW (fun w hS => hS.own (mH)) underlying27 rfl (by exact sz_api_State)) ?_
   obtain ⟨r10, hr10, hF⟩ := ob hF
   refine o_callS hS func54 rfl rfl (hc := (w_seq_Core (a0 := a0) (h0 := ⟨_, _, _, _, _, _, rfl, h0_0_.plus, h0_1_.plus, h0_2_.plus, h0_4_.plus, h0_6_.plus, h0_8_.plus⟩) (hF := hr10))) (h := ?_)
   clear hS; intro w hS
   refine oy hS y_not ?_
   refine o_split (ht := fun c11 => ?_) (hf := fun c11 => ?_)
   · replace hF := bt c11 hF
     iterate 3 (refine o_sk rfl rfl ?_)
     refine oy hS y_pickT <| oy hS y_move ?_
     iterate 3 (refine o_sk rfl rfl ?_)
     refine oy hS y_pickT <| oy hS y_move ?_
     iterate 4 (refine o_sk rfl rfl ?_)
     refine oy hS y_pickT <| n_thenN ?_
     refine c_if_true (h := ?_)
     refine c_seq <| c_region <| oy hS y_assign <| n_thenN ?_
     obtain rfl := osi hF
     obtain rfl : _ = r := hK9
     exact wp_ret (wr1 hS)
   replace hF := bf c11 hF
   refine o_gu rfl rfl rfl <| oy hS (y_field fa_api_State_7) <| o_gu rfl rfl rfl <| oy hS (y_load (fun w hS => hS.own (mH)) underlying3 rfl rfl) <| o_gu rfl rfl rfl <| oy hS y_bin <| oy hS y_pickF ?_
   refine o_split (ht := fun c12 => ?_) (hf := fun c12 => ?_)
   · replace hF := bt c12 hF
     iterate 3 (refine o_sk rfl rfl ?_)
     refine oy hS y_pickT <| oy hS y_move ?_
     iterate 4 (refine o_sk rfl rfl ?_)
     refine oy hS y_pickT <| n_thenN ?_
     refine c_if_true (h := ?_)
     refine c_seq <| c_region <| oy hS y_assign <| n_thenN ?_
     obtain rfl := osi hF
     obtain rfl : _ = r := hK9
     exact wp_ret (wr1 hS)
   replace hF := bf c12 hF
   refine o_gu rfl rfl rfl <| oy hS (y_field fa_api_State_7) <| o_gu rfl rfl rfl <| oy hS (y_load (fun w hS => hS.own (mH)) underlying3 rfl rfl) <| o_gu rfl rfl rfl <| oy hS y_bin <| oy hS y_pickF ?_
   refine o_split (ht := fun c13 => ?_) (hf := fun c13 => ?_)
   · replace hF := bt c13 hF
     iterate 4 (refine o_sk rfl rfl ?_)
     refine oy hS y_pickT <| n_thenN ?_
     refine c_if_true (h := ?_)
     refine c_seq <| c_region <| oy hS y_assign <| n_thenN ?_
     obtain rfl := osi hF
     obtain rfl : _ = r := hK9
     exact wp_ret (wr1 hS)
   replace hF := bf c13 hF
   refine o_gu rfl rfl rfl <| oy hS (y_field fa_api_State_8) <| o_gu rfl rfl rfl <| oy hS (y_load (fun w hS => hS.own (mH)) underlying25 rfl rfl) <| o_gu rfl rfl rfl ?_
   obtain ⟨r14, hr14, hF⟩ := ob hF
   refine o_callS hS func55 rfl rfl (hc := (w_pipe_flies (a0 := a0.Fly) (h0 := h0_8_.plus) (hF := hr14))) (h := ?_)
   clear hS; intro w hS
   refine o_gu rfl rfl rfl <| oy hS y_not <| oy hS y_pickF <| n_thenN ?_
   refine c_if (ht := fun c15 => ?_) (hf := fun c15 => ?_)
   · replace hF := bt c15 hF
     refine c_seq <| c_region <| oy hS y_assign <| n_thenN ?_
     obtain rfl := osi hF
     obtain rfl : _ = r := hK9
     exact wp_ret (wr1 hS)
   replace hF := bf c15 hF
   refine wp_skip ?_
   obtain rfl := osi hF
   change _ ∧ _
   exact ⟨hK9, mk_exF, (hS.re (.b .hb .n))⟩
 rintro a w ⟨hF, ⟨s16, rfl⟩, hS⟩
 dsimp only [pipe_May_k1] at hF
 refine c_seq <| c_region <| oy hS (y_field fa_api_State_9) <| oy hS (y_load (fun w hS => hS.own (mH)) underlying3 rfl rfl) <| oy hS y_bin ?_
 refine o_split (ht := fun c17 => ?_) (hf := fun c17 => ?_)
 · replace hF := bt c17 hF
   refine o_gu rfl rfl rfl <| oy hS (y_field fa_api_State_9) <| o_gu rfl rfl rfl <| oy hS (y_load (fun w hS => hS.own (mH)) underlying3 rfl rfl) <| o_gu rfl rfl rfl <| oy hS y_bin <| oy hS y_pickT ?_
   refine o_split (ht := fun c18 => ?_) (hf := fun c18 => ?_)
   · replace hF := bt c18 hF
     refine o_gu rfl rfl rfl <| oy hS (y_field fa_api_State_10) <| o_gu rfl rfl rfl <| oy hS (y_load (fun w hS => hS.own (mH)) underlying3 rfl rfl) <| o_gu rfl rfl rfl <| oy hS y_bin <| oy hS y_pickT ?_
     refine o_split (ht := fun c19 => ?_) (hf := fun c19 => ?_)
     · replace hF := bt c19 hF
       refine o_gu rfl rfl rfl <| oy hS (y_field fa_api_State_10) <| o_gu rfl rfl rfl <| oy hS (y_load (fun w hS => hS.own (mH)) underlying3 rfl rfl) <| o_gu rfl rfl rfl <| oy hS y_bin <| oy hS y_pickT <| oy hS y_assign ?_
       refine n_thenN ?_
       obtain rfl := osi hF
       exact wp_ret (wr1 hS)
     replace hF := bf c19 hF
     iterate 3 (refine o_sk rfl rfl ?_)
     refine oy hS y_pickF <| oy hS y_assign <| n_thenN ?_
     obtain rfl := osi hF
     exact wp_ret (wr1 hS)
   replace hF := bf c18 hF
   iterate 3 (refine o_sk rfl rfl ?_)
   refine oy hS y_pickF <| oy hS y_move ?_
   iterate 3 (refine o_sk rfl rfl ?_)
   refine oy hS y_pickF <| oy hS y_assign <| n_thenN ?_
   obtain rfl := osi hF
   exact wp_ret (wr1 hS)
 replace hF := bf c17 hF
 iterate 3 (refine o_sk rfl rfl ?_)
 refine oy hS y_pickF <| oy hS y_move ?_
 iterate 3 (refine o_sk rfl rfl ?_)
 refine oy hS y_pickF <| oy hS y_move ?_
 iterate 3 (refine o_sk rfl rfl ?_)
 refine oy hS y_pickF <| oy hS y_assign <| n_thenN ?_
 obtain rfl := osi hF
 exact wp_ret (wr1 hS)
theorem w_pipe_May {g : Frag} {a0 : T_State} {v0_ : Value} {r : Bool} (h0 : Rd_State g a0 v0_) (hF : pipe_May a0 = some r) : LCs Try.prog 41 #[v0_] g (.bool r) := w_pipe_May_ h0 hF

def slices_Clone_uint32 (a0 : List Int) : Option (List Int) := app' [] a0
theorem w_slices_Clone_uint32 {g : Frag} {a0 : List Int} {v0_ : Value} (h0 : SlT g enc_uint32 1 a0 v0_) {r : List Int} (hF : slices_Clone_uint32 a0 = some r) : LC Try.prog 60 #[v0_] g [] (fun v L => ∃ (u0 : Value) (M0 : Own), u0 = v ∧ L = (M0 ++ []) ∧ OwT 35 enc_uint32 1 r u0 M0) := by
  unfold slices_Clone_uint32 at hF
  refine lc_body (k := 8) (av := [v0_]) func60 rfl rfl (h := fun W hS => ?_)
  refine c_seq <| c_region <| oy hS y_assign ?_
  refine n_thenN (h := ?_)
  refine c_seq <| c_seq <| c_region <| oy hS y_move <| oy hS (y_nilsl h0 underlying23) ?_
  refine n_thenN (h := ?_)
  refine c_if (ht := fun c1 => ?_) (hf := fun c1 => ?_)
  · obtain rfl := isNil_nil h0 c1
    obtain ⟨_, rfl⟩ := app'_some hF
    refine c_seq <| c_region <| oy hS y_assign ?_
    refine n_thenN (h := ?_)
    refine wp_ret (r_ret (vs := [.slice none 0 0]) (L' := []) hS (show resAll _ _ _ [.tmp 2] _ from ⟨res_tmp, trivial⟩) rfl ⟨_, _, rfl, rfl, OwT.nil _ _ _⟩)
  · refine wp_skip ?_
    try change Code.wp _ _ _ _ _
    refine c_seq <| c_region ?_
    refine o_buildT val_uint32 ([] : List Int) hS el_uint32 (fun _ => rfl) enc_len_uint32 (by decide) rfl (by decide) (hp := rfl) (h := ?_)
    clear hS; intro b5 w hS h6
    refine oy hS y_move ?_
    refine o_appPs (LX := [(b5, blk (([] : List Int).flatMap enc_uint32) 35)]) hF hS el_uint32 h6 h0.plus (enc_ones_uint32 _) (by decide) ?_
    clear hS; intro v7 LX7 w h7 hS
    refine oy hS y_assign ?_
    refine n_thenN (h := ?_)
    refine wp_ret (r_ret (vs := [v7]) (L' := (LX7 ++ [])) hS (show resAll _ _ _ [.tmp 2] _ from ⟨res_tmp, trivial⟩) rfl ⟨_, _, rfl, rfl, h7⟩)

def slices_Clone_int (a0 : List Int) : Option (List Int) := app' [] a0
theorem w_slices_Clone_int {g : Frag} {a0 : List Int} {v0_ : Value} (h0 : SlT g enc_int 1 a0 v0_) {r : List Int} (hF : slices_Clone_int a0 = some r) : LC Try.prog 61 #[v0_] g [] (fun v L => ∃ (u0 : Value) (M0 : Own), u0 = v ∧ L = (M0 ++ []) ∧ OwT 3 enc_int 1 r u0 M0) := by
  unfold slices_Clone_int at hF
  refine lc_body (k := 8) (av := [v0_]) func61 rfl rfl (h := fun W hS => ?_)
  refine c_seq <| c_region <| oy hS y_assign ?_
  refine n_thenN (h := ?_)
  refine c_seq <| c_seq <| c_region <| oy hS y_move <| oy hS (y_nilsl h0 underlying24) ?_
  refine n_thenN (h := ?_)
  refine c_if (ht := fun c1 => ?_) (hf := fun c1 => ?_)
  · obtain rfl := isNil_nil h0 c1
    obtain ⟨_, rfl⟩ := app'_some hF
    refine c_seq <| c_region <| oy hS y_assign ?_
    refine n_thenN (h := ?_)
    refine wp_ret (r_ret (vs := [.slice none 0 0]) (L' := []) hS (show resAll _ _ _ [.tmp 2] _ from ⟨res_tmp, trivial⟩) rfl ⟨_, _, rfl, rfl, OwT.nil _ _ _⟩)
  · refine wp_skip ?_
    try change Code.wp _ _ _ _ _
    refine c_seq <| c_region ?_
    refine o_buildT val_int ([] : List Int) hS el_int (fun _ => rfl) enc_len_int (by decide) rfl (by decide) (hp := rfl) (h := ?_)
    clear hS; intro b5 w hS h6
    refine oy hS y_move ?_
    refine o_appPs (LX := [(b5, blk (([] : List Int).flatMap enc_int) 3)]) hF hS el_int h6 h0.plus (enc_ones_int _) (by decide) ?_
    clear hS; intro v7 LX7 w h7 hS
    refine oy hS y_assign ?_
    refine n_thenN (h := ?_)
    refine wp_ret (r_ret (vs := [v7]) (L' := (LX7 ++ [])) hS (show resAll _ _ _ [.tmp 2] _ from ⟨res_tmp, trivial⟩) rfl ⟨_, _, rfl, rfl, h7⟩)

def slices_Clone_Write (a0 : List T_Write) : Option (List T_Write) := app' [] a0
theorem w_slices_Clone_Write {g : Frag} {a0 : List T_Write} {v0_ : Value} (h0 : SlT g enc_Write 3 a0 v0_) {r : List T_Write} (hF : slices_Clone_Write a0 = some r) : LC Try.prog 62 #[v0_] g [] (fun v L => ∃ (u0 : Value) (M0 : Own), u0 = v ∧ L = (M0 ++ []) ∧ OwT 71 enc_Write 3 r u0 M0) := by
  unfold slices_Clone_Write at hF
  refine lc_body (k := 8) (av := [v0_]) func62 rfl rfl (h := fun W hS => ?_)
  refine c_seq <| c_region <| oy hS y_assign ?_
  refine n_thenN (h := ?_)
  refine c_seq <| c_seq <| c_region <| oy hS y_move <| oy hS (y_nilsl h0 underlying25) ?_
  refine n_thenN (h := ?_)
  refine c_if (ht := fun c1 => ?_) (hf := fun c1 => ?_)
  · obtain rfl := isNil_nil h0 c1
    obtain ⟨_, rfl⟩ := app'_some hF
    refine c_seq <| c_region <| oy hS y_assign ?_
    refine n_thenN (h := ?_)
    refine wp_ret (r_ret (vs := [.slice none 0 0]) (L' := []) hS (show resAll _ _ _ [.tmp 2] _ from ⟨res_tmp, trivial⟩) rfl ⟨_, _, rfl, rfl, OwT.nil _ _ _⟩)
  · refine wp_skip ?_
    try change Code.wp _ _ _ _ _
    refine c_seq <| c_region ?_
    refine o_buildT val_Write ([] : List T_Write) hS el_api_Write (fun _ => rfl) enc_len_Write (by decide) rfl (by decide) (hp := rfl) (h := ?_)
    clear hS; intro b5 w hS h6
    refine oy hS y_move ?_
    refine o_appPs (LX := [(b5, blk (([] : List T_Write).flatMap enc_Write) 71)]) hF hS el_api_Write h6 h0.plus (enc_ones_Write _) (by decide) ?_
    clear hS; intro v7 LX7 w h7 hS
    refine oy hS y_assign ?_
    refine n_thenN (h := ?_)
    refine wp_ret (r_ret (vs := [v7]) (L' := (LX7 ++ [])) hS (show resAll _ _ _ [.tmp 2] _ from ⟨res_tmp, trivial⟩) rfl ⟨_, _, rfl, rfl, h7⟩)

noncomputable def seq_Own (a0 : T_State) : Option T_State :=
  (slices_Clone_uint32 a0.Regs).bind fun r3 => (slices_Clone_uint32 a0.Mem).bind fun r11 => (slices_Clone_uint32 a0.In_).bind fun r19 => (slices_Clone_uint32 a0.Out).bind fun r27 => (slices_Clone_int a0.Stack).bind fun r35 => (slices_Clone_Write a0.Fly).bind fun r43 => some (⟨r3, r11, r19, a0.Taken, r27, a0.PC, r35, a0.Stop, r43, a0.Jump, a0.Delay⟩ : T_State)
theorem w_seq_Own_ {g : Frag} {a0 : T_State} {v0_ : Value} {r : T_State} (h0 : Rd_State g a0 v0_) (hF : seq_Own a0 = some r) : LC Try.prog 44 #[v0_] g [] (fun v L => ∃ (u0 : Value) (M0 : Own), u0 = v ∧ L = (M0 ++ []) ∧ Ow_State r u0 M0) := by
 obtain ⟨v0_0_, v0_1_, v0_2_, v0_4_, v0_6_, v0_8_, rfl, h0_0_, h0_1_, h0_2_, h0_4_, h0_6_, h0_8_⟩ := h0
 unfold seq_Own at hF
 refine lc_body (k := 28) (av := [.agg (cl_State v0_0_ v0_1_ v0_2_ a0.Taken v0_4_ a0.PC v0_6_ a0.Stop v0_8_ a0.Jump a0.Delay).toArray]) func44 rfl rfl (h := fun W hS => ?_)
 refine c_seq <| c_region ?_
 refine o_boxP (cl := (cl_State v0_0_ v0_1_ v0_2_ a0.Taken v0_4_ a0.PC v0_6_ a0.Stop v0_8_ a0.Jump a0.Delay)) rfl hS ?_
 clear hS; intro b1 w hS
 refine o_allocP (cl := (cl_State (.slice none 0 0) (.slice none 0 0) (.slice none 0 0) 0 (.slice none 0 0) 0 (.slice none 0 0) 0 (.slice none 0 0) 0 0)) zr_api_State rfl hS ?_
 clear hS; intro b2 w hS
 refine n_thenN <| c_seq ?_
 refine c_heldL 13 20 (by kernel_rfl) rfl hS ?_
 clear hS; intro w hS
 refine hy0 0 rfl wn (by kernel_rfl) (nq (P := Try.prog) (fn := Try.f44)) (fun _ => hS.cb) (y_field fa_api_State_0) ?_
 refine hy 1 rfl wn (by kernel_rfl) (nq (P := Try.prog) (fn := Try.f44)) hS.cb (y_load (fun w hS => hS.own (mC (mH))) underlying23 rfl rfl) ?_
 refine hy0 3 rfl wn (by kernel_rfl) (nq (P := Try.prog) (fn := Try.f44)) (fun _ => hS.cb) (y_field fa_api_State_1) ?_
 refine hy 4 rfl wn (by kernel_rfl) (nq (P := Try.prog) (fn := Try.f44)) hS.cb (y_load (fun w hS => hS.own (mC (mH))) underlying23 rfl rfl) ?_
 refine hy0 6 rfl wn (by kernel_rfl) (nq (P := Try.prog) (fn := Try.f44)) (fun _ => hS.cb) (y_field fa_api_State_2) ?_
 refine hy 7 rfl wn (by kernel_rfl) (nq (P := Try.prog) (fn := Try.f44)) hS.cb (y_load (fun w hS => hS.own (mC (mH))) underlying23 rfl rfl) ?_
 refine hy0 9 rfl wn (by kernel_rfl) (nq (P := Try.prog) (fn := Try.f44)) (fun _ => hS.cb) (y_field fa_api_State_4) ?_
 refine hy 10 rfl wn (by kernel_rfl) (nq (P := Try.prog) (fn := Try.f44)) hS.cb (y_load (fun w hS => hS.own (mC (mH))) underlying23 rfl rfl) ?_
 refine hb1 2 (by kernel_rfl) (hb_op rfl wn (nl (P := Try.prog) (fn := Try.f44)) ?_)
 obtain ⟨r3, hr3, hF⟩ := ob hF
 refine o_call0 hS func60 rfl rfl (hc := (w_slices_Clone_uint32 (a0 := a0.Regs) (h0 := h0_0_.plus) (hF := hr3))) (h := ?_)
 clear hS; intro v4 LY5 w hS hr6
 obtain ⟨v_0_7, LX_0_8, rfl, rfl, h_0_9⟩ := hr6
 simp only [aa, ac, al] at hS
 refine hb_next (fun _ => (hS.re (.b (.there _ .hb) (.b (.there _ .hb) .n))).cb) ?_
 refine hy0 12 rfl wn (by kernel_rfl) (nq (P := Try.prog) (fn := Try.f44)) (fun _ => (hS.re (.b (.there _ .hb) (.b (.there _ .hb) .n))).cb) (y_field fa_api_State_0) ?_
 refine hb1 5 (by kernel_rfl) (hb_op rfl wn (nl (P := Try.prog) (fn := Try.f44)) ?_)
 obtain ⟨r11, hr11, hF⟩ := ob hF
 refine o_call0 hS func60 rfl rfl (hc := (w_slices_Clone_uint32 (a0 := a0.Mem) (h0 := h0_1_.plus) (hF := hr11))) (h := ?_)
 clear hS; intro v12 LY13 w hS hr14
 obtain ⟨v_0_15, LX_0_16, rfl, rfl, h_0_17⟩ := hr14
 simp only [aa, ac, al] at hS
 refine hb_next (fun _ => (hS.re (.b (.there _ (.there _ .hb)) (.b (.there _ (.there _ .hb)) .n))).cb) ?_
 refine hb1 8 (by kernel_rfl) (hb_op rfl wn (nl (P := Try.prog) (fn := Try.f44)) ?_)
 obtain ⟨r19, hr19, hF⟩ := ob hF
 refine o_call0 hS func60 rfl rfl (hc := (w_slices_Clone_uint32 (a0 := a0.In_) (h0 := h0_2_.plus) (hF := hr19))) (h := ?_)
 clear hS; intro v20 LY21 w hS hr22
 obtain ⟨v_0_23, LX_0_24, rfl, rfl, h_0_25⟩ := hr22
 simp only [aa, ac, al] at hS
 refine hb_next (fun _ => (hS.re (.b (.there _ (.there _ (.there _ .hb))) (.b (.there _ (.there _ (.there _ .hb))) .n))).cb) ?_
 refine hb1 11 (by kernel_rfl) (hb_op rfl wn (nl (P := Try.prog) (fn := Try.f44)) ?_)
 obtain ⟨r27, hr27, hF⟩ := ob hF
 refine o_call0 hS func60 rfl rfl (hc := (w_slices_Clone_uint32 (a0 := a0.Out) (h0 := h0_4_.plus) (hF := hr27))) (h := ?_)
 clear hS; intro v28 LY29 w hS hr30
 obtain ⟨v_0_31, LX_0_32, rfl, rfl, h_0_33⟩ := hr30
 simp only [aa, ac, al] at hS
 refine hb_next (fun _ => (hS.re (.b (.there _ (.there _ (.there _ (.there _ .hb)))) (.b (.there _ (.there _ (.there _ (.there _ .hb)))) .n))).cb) ?_
 refine hb1 13 (by kernel_rfl) (hb_op rfl wn (nl (P := Try.prog) (fn := Try.f44)) ?_)
 have hS := hS.re (.b (.there _ (.there _ (.there _ (.there _ (.thereb _ .hb))))) (.t .h (.t .h (.t .h (.t .h (.b .hb .n))))))
 refine o_storeA1 (o := 0) (cl' := (cl_State v_0_7 v0_1_ v0_2_ a0.Taken v0_4_ a0.PC v0_6_ a0.Stop v0_8_ a0.Jump a0.Delay)) hS (by kernel_rfl) (by exact Nat.le_of_ble_eq_true rfl) (Upd.here _) (by exact sz_S_uint32) (h_0_9).one (h_0_9).cell ?_
 clear hS; intro w hS
 refine hb_next (fun h => absurd h (by decide)) ?_
 refine hy0 14 rfl wn (by kernel_rfl) (nq (P := Try.prog) (fn := Try.f44)) (fun h => absurd h (by decide)) (y_field fa_api_State_1) ?_
 refine hb1 15 (by kernel_rfl) (hb_op rfl wn (nl (P := Try.prog) (fn := Try.f44)) ?_)
 refine o_storeA1 (o := 1) (cl' := (cl_State v_0_7 v_0_15 v0_2_ a0.Taken v0_4_ a0.PC v0_6_ a0.Stop v0_8_ a0.Jump a0.Delay)) hS (by kernel_rfl) (by exact Nat.le_of_ble_eq_true rfl) (Upd.here _) (by exact sz_S_uint32) (h_0_17).one (h_0_17).cell ?_
 clear hS; intro w hS
 refine hb_next (fun h => absurd h (by decide)) ?_
 refine hy0 16 rfl wn (by kernel_rfl) (nq (P := Try.prog) (fn := Try.f44)) (fun h => absurd h (by decide)) (y_field fa_api_State_2) ?_
 refine hb1 17 (by kernel_rfl) (hb_op rfl wn (nl (P := Try.prog) (fn := Try.f44)) ?_)
 refine o_storeA1 (o := 2) (cl' := (cl_State v_0_7 v_0_15 v_0_23 a0.Taken v0_4_ a0.PC v0_6_ a0.Stop v0_8_ a0.Jump a0.Delay)) hS (by kernel_rfl) (by exact Nat.le_of_ble_eq_true rfl) (Upd.here _) (by exact sz_S_uint32) (h_0_25).one (h_0_25).cell ?_
 clear hS; intro w hS
 refine hb_next (fun h => absurd h (by decide)) ?_
 refine hy0 18 rfl wn (by kernel_rfl) (nq (P := Try.prog) (fn := Try.f44)) (fun h => absurd h (by decide)) (y_field fa_api_State_4) ?_
 refine hb1 19 (by kernel_rfl) (hb_op rfl wn (nl (P := Try.prog) (fn := Try.f44)) ?_)
 refine o_storeA1 (o := 4) (cl' := (cl_State v_0_7 v_0_15 v_0_23 a0.Taken v_0_31 a0.PC v0_6_ a0.Stop v0_8_ a0.Jump a0.Delay)) hS (by kernel_rfl) (by exact Nat.le_of_ble_eq_true rfl) (Upd.here _) (by exact sz_S_uint32) (h_0_33).one (h_0_33).cell ?_
 clear hS; intro w hS
 refine hb_next (fun h => absurd h (by decide)) ?_
 refine hb_done (by kernel_rfl) ?_
 refine c_seq ?_
 refine c_heldL 7 10 (by kernel_rfl) rfl hS ?_
 clear hS; intro w hS
 refine hy0 0 rfl wn (by kernel_rfl) (nq (P := Try.prog) (fn := Try.f44)) (fun _ => hS.cb) (y_field fa_api_State_6) ?_
 refine hy 1 rfl wn (by kernel_rfl) (nq (P := Try.prog) (fn := Try.f44)) hS.cb (y_load (fun w hS => hS.own (mH)) underlying24 rfl rfl) ?_
 refine hy0 3 rfl wn (by kernel_rfl) (nq (P := Try.prog) (fn := Try.f44)) (fun _ => hS.cb) (y_field fa_api_State_8) ?_
 refine hy 4 rfl wn (by kernel_rfl) (nq (P := Try.prog) (fn := Try.f44)) hS.cb (y_load (fun w hS => hS.own (mH)) underlying25 rfl rfl) ?_
 refine hb1 2 (by kernel_rfl) (hb_op rfl wn (nl (P := Try.prog) (fn := Try.f44)) ?_)
 obtain ⟨r35, hr35, hF⟩ := ob hF
 refine o_call0 hS func61 rfl rfl (hc := (w_slices_Clone_int (a0 := a0.Stack) (h0 := h0_6_.plus) (hF := hr35))) (h := ?_)
 clear hS; intro v36 LY37 w hS hr38
 obtain ⟨v_0_39, LX_0_40, rfl, rfl, h_0_41⟩ := hr38
 simp only [aa, ac, al] at hS
 refine hb_next (fun _ => (hS.re (.b (.there _ .hb) (.t (.there _ .h) (.t (.there _ .h) (.t (.there _ .h) (.t (.there _ .h) (.b (.there _ .hb) .n))))))).cb) ?_
 refine hy0 6 rfl wn (by kernel_rfl) (nq (P := Try.prog) (fn := Try.f44)) (fun _ => (hS.re (.b (.there _ .hb) (.t (.there _ .h) (.t (.there _ .h) (.t (.there _ .h) (.t (.there _ .h) (.b (.there _ .hb) .n))))))).cb) (y_field fa_api_State_6) ?_
 refine hb1 5 (by kernel_rfl) (hb_op rfl wn (nl (P := Try.prog) (fn := Try.f44)) ?_)
 obtain ⟨r43, hr43, hF⟩ := ob hF
 refine o_call0 hS func62 rfl rfl (hc := (w_slices_Clone_Write (a0 := a0.Fly) (h0 := h0_8_.plus) (hF := hr43))) (h := ?_)
 clear hS; intro v44 LY45 w hS hr46
 obtain ⟨v_0_47, LX_0_48, rfl, rfl, h_0_49⟩ := hr46
 simp only [aa, ac, al] at hS
 refine hb_next (fun _ => (hS.re (.b (.there _ (.there _ .hb)) (.t (.there _ (.there _ .h)) (.t (.there _ (.there _ .h)) (.t (.there _ (.there _ .h)) (.t (.there _ (.there _ .h)) (.b (.there _ (.there _ .hb)) .n))))))).cb) ?_
 refine hb1 7 (by kernel_rfl) (hb_op rfl wn (nl (P := Try.prog) (fn := Try.f44)) ?_)
 have hS := hS.re (.b (.there _ (.there _ .hb)) (.t .h (.t .h (.t .h (.t .h (.t .h (.t .h (.b .hb .n))))))))
 refine o_storeA1 (o := 6) (cl' := (cl_State v_0_7 v_0_15 v_0_23 a0.Taken v_0_31 a0.PC v_0_39 a0.Stop v0_8_ a0.Jump a0.Delay)) hS (by kernel_rfl) (by exact Nat.le_of_ble_eq_true rfl) (Upd.here _) (by exact sz_S_int) (h_0_41).one (h_0_41).cell ?_
 clear hS; intro w hS
 refine hb_next (fun h => absurd h (by decide)) ?_
 refine hy0 8 rfl wn (by kernel_rfl) (nq (P := Try.prog) (fn := Try.f44)) (fun h => absurd h (by decide)) (y_field fa_api_State_8) ?_
 refine hb1 9 (by kernel_rfl) (hb_op rfl wn (nl (P := Try.prog) (fn := Try.f44)) ?_)
 refine o_storeA1 (o := 8) (cl' := (cl_State v_0_7 v_0_15 v_0_23 a0.Taken v_0_31 a0.PC v_0_39 a0.Stop v_0_47 a0.Jump a0.Delay)) hS (by kernel_rfl) (by exact Nat.le_of_ble_eq_true rfl) (Upd.here _) (by exact sz_S_api_Write) (h_0_49).one (h_0_49).cell ?_
 clear hS; intro w hS
 refine hb_next (fun h => absurd h (by decide)) ?_
 refine hb_done (by kernel_rfl) ?_
 refine c_seq <| c_region ?_
 refine oy hS (y_loadW (fun w hS => hS.own (mH)) underlying27 rfl (by exact sz_api_State)) ?_
 have hS := hS.re (.b (.thereb _ (.there _ (.there _ (.there _ (.there _ (.there _ (.there _ .hb))))))) (.b .hb (.t .h (.t .h (.t .h (.t .h (.t .h (.t .h .n))))))))
 refine o_storeW (vs := (cl_State v_0_7 v_0_15 v_0_23 a0.Taken v_0_31 a0.PC v_0_39 a0.Stop v_0_47 a0.Jump a0.Delay)) hS (by exact rfl) (Upd.here _) (by exact sz_api_State) (one_State (h_0_9).one (h_0_17).one (h_0_25).one (h_0_33).one (h_0_41).one (h_0_49).one) ?_
 clear hS; intro w hS
 refine n_thenN ?_
 obtain rfl := osi hF
 refine wp_ret (r_ret (vs := [.agg (cl_State v_0_7 v_0_15 v_0_23 a0.Taken v_0_31 a0.PC v_0_39 a0.Stop v_0_47 a0.Jump a0.Delay).toArray]) (hS.re (.t (.thereb _ (.thereb _ (.there _ (.there _ (.there _ (.there _ (.there _ .h))))))) (.t (.thereb _ (.thereb _ (.there _ (.there _ (.there _ (.there _ .h)))))) (.t (.thereb _ (.thereb _ (.there _ (.there _ (.there _ .h))))) (.t (.thereb _ (.thereb _ (.there _ (.there _ .h)))) (.t (.thereb _ (.thereb _ (.there _ .h))) (.t (.thereb _ (.thereb _ .h)) .n))))))) (rsC (res_cell (hS.own (mH)) underlying27 rfl (by exact sz_api_State)) rsN) rfl ⟨_, _, rfl, (by first | rfl | simp only [aa, ac, al, an]), ⟨_, _, _, _, _, _, _, _, _, _, _, _, rfl, rfl, h_0_9, h_0_17, h_0_25, h_0_33, h_0_41, h_0_49⟩⟩)
theorem w_seq_Own {g : Frag} {a0 : T_State} {v0_ : Value} {r : T_State} (h0 : Rd_State g a0 v0_) (hF : seq_Own a0 = some r) : LC Try.prog 44 #[v0_] g [] (fun v L => ∃ (u0 : Value) (M0 : Own), u0 = v ∧ L = (M0 ++ []) ∧ Ow_State r u0 M0) := w_seq_Own_ h0 hF
end Go.Proofs.Ythbpicnbkdbbmaa
