/- Functions, lifted. Printed by lift.py. -/
import Derived.Test.YtaplgcdpppcajaaDoorProg
import Derived.Test.YtaplgcdpppcajaaDoorP0
import Derived.KernelRfl
namespace Go.Proofs.YtaplgcdpppcajaaDoor
open Go Go.RowKit Fr
set_option linter.unusedVariables false
set_option linter.unusedSimpArgs false
set_option maxRecDepth 20000
open Tryd
set_option maxHeartbeats 2000000
noncomputable def r3_Ins_k1 (a0 : T_Ins) (r3 : Int) : Unit → Option Bool := fun _ => bif !(decide (a0.Sym = (ByteArray.mk #[]))) then (r3_Name a0.Sym).bind fun r14 => bif r14 then bif decide (a0.Op = 23) then (r1_Fits a0.Imm 18).bind fun r17 => bif r17 then some (true) else bif (r3_Target r3) then some (decide (a0.Imm = 0)) else some (false) else bif (r3_Target r3) then some (decide (a0.Imm = 0)) else some (false) else some (false) else bif (r3_Target r3) then some (r0_Num a0.Imm 1023) else bif decide (0 < (r3_Bits r3)) then (r1_Fits a0.Imm (r3_Bits r3)).bind fun r23 => some (r23) else some (decide (a0.Imm = 0))
noncomputable def r3_Ins (a0 : T_Ins) : Option Bool :=
  bif !(r3_Valid a0.Op) then some (false) else (r3_Form a0.Op).bind fun r3 => cut (σ := Unit) (bif !(r3_reg a0.D (r3_HasD r3)) then some (.done (false)) else bif !(r3_reg a0.A (r3_HasA r3)) then some (.done (false)) else bif !(r3_reg a0.B (r3_HasB r3)) then some (.done (false)) else some (.next ())) (r3_Ins_k1 a0 r3)
theorem w_r3_Ins_ {g : Frag} {a0 : T_Ins} {r : Bool}  (hF : r3_Ins a0 = some r) : LCs Tryd.prog 12 #[.agg (enc_Ins a0).toArray] g (.bool r) := by
 unfold r3_Ins at hF
 refine lc_body (k := 76) (av := [.agg (enc_Ins a0).toArray]) func12 rfl rfl (h := fun W hS => ?_)
 refine c_seq <| c_region ?_
 refine o_boxP (cl := (enc_Ins a0)) rfl hS ?_
 clear hS; intro b1 w hS
 refine oy hS y_assign <| n_thenN ?_
 iterate 2 (refine c_seq ?_)
 refine c_region <| oy hS (y_field fa_api_Ins_0) <| oy hS (y_load oH underlying3 rfl rfl) ?_
 refine o_callS hS func26 rfl rfl (hc := (w_r3_Valid (a0 := a0.Op))) (h := ?_)
 clear hS; intro w hS
 refine oy hS y_not <| n_thenN ?_
 refine c_if (ht := fun c2 => ?_) (hf := fun c2 => ?_)
 · replace hF := bt c2 hF
   refine c_seq <| c_region <| oy hS y_assign <| n_thenN ?_
   obtain rfl := osi hF
   exact wp_ret (wr1 hS)
 replace hF := bf c2 hF
 refine wp_skip <| c_seq <| c_region <| oy hS (y_field fa_api_Ins_0) <| oy hS (y_load oH underlying3 rfl rfl) ?_
 obtain ⟨r3, hr3, hF⟩ := ob hF
 refine o_callS hS func6 rfl rfl (hc := (w_r3_Form (a0 := a0.Op) (hF := hr3))) (h := ?_)
 clear hS; intro w hS
 refine oy hS y_assign <| n_thenN ?_
 obtain ⟨z7, hF, hK8⟩ := cut_step hF
 refine c_cutP (fun a w' => r3_Ins_k1 a0 r3 () = some r ∧ (∃ s : Nat → Value, a = Ac (((Fm.dead 76 s).upd 1 (.pointer (some ⟨b1, 0, none⟩))).upd 3 (.int .i64 r3))) ∧ St W g [] ((b1, blk (enc_Ins a0) 27) :: []) w') ?_ ?_
 · skip
   refine c_seq ?_
   refine c_quiet (by kernel_rfl) (by kernel_rfl) hS ?_
   refine qy (y_field fa_api_Ins_1) <| qy (y_load (fun w hS => hS.own (mH)) underlying3 rfl rfl) <| qy y_move ?_
   refine q_callS func7 rfl rfl (hc := (w_r3_HasD (a0 := r3))) (h := ?_)
   refine q_callS func42 rfl rfl (hc := (w_r3_reg (a0 := a0.D) (a1 := (r3_HasD r3)))) (h := ?_)
   refine qy y_not ?_
   refine q_split (ht := fun c9 => ?_) (hf := fun c9 => ?_)
   · replace hF := bt c9 hF
     iterate 6 (refine q_sk rfl rfl ?_)
     refine qy y_pickT <| qy y_move ?_
     iterate 6 (refine q_sk rfl rfl ?_)
     refine qy y_pickT ?_
     refine q_nilN (h := ?_)
     clear hS; intro w hS
     refine c_if_true (h := ?_)
     refine c_seq <| c_region <| oy hS y_assign <| n_thenN ?_
     obtain rfl := osi hF
     obtain rfl : _ = r := hK8
     exact wp_ret (wr1 hS)
   replace hF := bf c9 hF
   refine q_gu rfl rfl rfl ?_
   refine qy (y_field fa_api_Ins_2) ?_
   refine q_gu rfl rfl rfl ?_
   refine qy (y_load (fun w hS => hS.own (mH)) underlying3 rfl rfl) ?_
   refine q_gu rfl rfl rfl ?_
   refine qy y_move ?_
   refine q_gu rfl rfl rfl ?_
   refine q_callS func8 rfl rfl (hc := (w_r3_HasA (a0 := r3))) (h := ?_)
   refine q_gu rfl rfl rfl ?_
   refine q_callS func42 rfl rfl (hc := (w_r3_reg (a0 := a0.A) (a1 := (r3_HasA r3)))) (h := ?_)
   refine q_gu rfl rfl rfl ?_
   refine qy y_not <| qy y_pickF ?_
   refine q_split (ht := fun c10 => ?_) (hf := fun c10 => ?_)
   · replace hF := bt c10 hF
     iterate 6 (refine q_sk rfl rfl ?_)
     refine qy y_pickT ?_
     refine q_nilN (h := ?_)
     clear hS; intro w hS
     refine c_if_true (h := ?_)
     refine c_seq <| c_region <| oy hS y_assign <| n_thenN ?_
     obtain rfl := osi hF
     obtain rfl : _ = r := hK8
     exact wp_ret (wr1 hS)
   replace hF := bf c10 hF
   refine q_gu rfl rfl rfl ?_
   refine qy (y_field fa_api_Ins_3) ?_
   refine q_gu rfl rfl rfl ?_
   refine qy (y_load (fun w hS => hS.own (mH)) underlying3 rfl rfl) ?_
   refine q_gu rfl rfl rfl ?_
   refine qy y_move ?_
   refine q_gu rfl rfl rfl ?_
   refine q_callS func9 rfl rfl (hc := (w_r3_HasB (a0 := r3))) (h := ?_)
   refine q_gu rfl rfl rfl ?_
   refine q_callS func42 rfl rfl (hc := (w_r3_reg (a0 := a0.B) (a1 := (r3_HasB r3)))) (h := ?_)
   refine q_gu rfl rfl rfl ?_
   refine qy y_not <| qy y_pickF ?_
   refine q_nilN (h := ?_)
   clear hS; intro w hS
   refine c_if (ht := fun c11 => ?_) (hf := fun c11 => ?_)
   · replace hF := bt c11 hF
     refine c_seq <| c_region <| oy hS y_assign <| n_thenN ?_
     obtain rfl := osi hF
     obtain rfl : _ = r := hK8
     exact wp_ret (wr1 hS)
   replace hF := bf c11 hF
   refine wp_skip ?_
   obtain rfl := osi hF
   change _ ∧ _
   exact ⟨hK8, mk_exF, (hS.re (.b .hb .n))⟩
 rintro a w ⟨hF, ⟨s12, rfl⟩, hS⟩
 dsimp only [r3_Ins_k1] at hF
 iterate 2 (refine c_seq ?_)
 refine c_region <| oy hS (y_field fa_api_Ins_5) <| oy hS (y_load oH underlying9 rfl rfl) <| oy hS y_sneq <| n_thenN ?_
 refine c_if (ht := fun c13 => ?_) (hf := fun c13 => ?_)
 · replace hF := bt c13 hF
   refine c_seq <| c_region <| oy hS (y_field fa_api_Ins_5) <| oy hS (y_load oH underlying9 rfl rfl) ?_
   obtain ⟨r14, B0, hF⟩ := ob hF
   refine o_callS hS func39 rfl rfl (hc := (w_r3_Name (a0 := a0.Sym) (hF := B0))) (h := ?_)
   clear hS; intro w hS
   refine o_split (ht := fun c15 => ?_) (hf := fun c15 => ?_)
   · replace hF := bt c15 hF
     refine o_gu rfl rfl rfl <| oy hS (y_field fa_api_Ins_0) <| o_gu rfl rfl rfl <| oy hS (y_load oH underlying3 rfl rfl) <| o_gu rfl rfl rfl <| oy hS y_bin <| o_gu rfl rfl rfl ?_
     refine o_split (ht := fun c16 => ?_) (hf := fun c16 => ?_)
     · replace hF := bt c16 hF
       refine o_gu rfl rfl rfl <| oy hS (y_field fa_api_Ins_4) <| o_gu rfl rfl rfl <| oy hS (y_load oH underlying3 rfl rfl) <| o_gu rfl rfl rfl ?_
       obtain ⟨r17, D0, hF⟩ := ob hF
       refine o_callS hS func43 rfl rfl (hc := (w_r1_Fits (a0 := a0.Imm) (a1 := 18) (hF := D0))) (h := ?_)
       clear hS; intro w hS
       refine o_gu rfl rfl rfl <| oy hS y_pickT <| o_gu rfl rfl rfl ?_
       refine o_split (ht := fun c18 => ?_) (hf := fun c18 => ?_)
       · replace hF := bt c18 hF
         iterate 3 (refine o_sk rfl rfl ?_)
         iterate 3 (refine o_sku rfl rfl ?_)
         refine o_sk rfl rfl ?_
         refine o_gu rfl rfl rfl ?_
         iterate 2 (refine oy hS y_pickT ?_)
         refine oy hS y_assign <| n_thenN ?_
         obtain rfl := osi hF
         exact wp_ret (wr1 hS)
       replace hF := bf c18 hF
       refine o_gu rfl rfl rfl <| oy hS y_move <| o_gu rfl rfl rfl ?_
       refine o_callS hS func44 rfl rfl (hc := (w_r3_Target (a0 := r3))) (h := ?_)
       clear hS; intro w hS
       refine o_gu rfl rfl rfl ?_
       refine o_split (ht := fun c19 => ?_) (hf := fun c19 => ?_)
       · replace hF := bt c19 hF
         refine o_gu rfl rfl rfl <| oy hS (y_field fa_api_Ins_4) <| o_gu rfl rfl rfl <| oy hS (y_load oH underlying3 rfl rfl) <| o_gu rfl rfl rfl <| oy hS y_bin <| o_gu rfl rfl rfl <| oy hS y_pickT ?_
         refine o_gu rfl rfl rfl <| oy hS y_pickF <| oy hS y_pickT <| oy hS y_assign <| n_thenN ?_
         obtain rfl := osi hF
         exact wp_ret (wr1 hS)
       replace hF := bf c19 hF
       iterate 3 (refine o_sk rfl rfl ?_)
       refine o_gu rfl rfl rfl <| oy hS y_pickF <| o_gu rfl rfl rfl <| oy hS y_pickF <| oy hS y_pickT <| oy hS y_assign <| n_thenN ?_
       obtain rfl := osi hF
       exact wp_ret (wr1 hS)
     replace hF := bf c16 hF
     iterate 3 (refine o_sk rfl rfl ?_)
     refine o_gu rfl rfl rfl <| oy hS y_pickF <| o_gu rfl rfl rfl <| oy hS y_move <| o_gu rfl rfl rfl <| oy hS y_move <| o_gu rfl rfl rfl ?_
     refine o_callS hS func44 rfl rfl (hc := (w_r3_Target (a0 := r3))) (h := ?_)
     clear hS; intro w hS
     refine o_gu rfl rfl rfl ?_
     refine o_split (ht := fun c20 => ?_) (hf := fun c20 => ?_)
     · replace hF := bt c20 hF
       refine o_gu rfl rfl rfl <| oy hS (y_field fa_api_Ins_4) <| o_gu rfl rfl rfl <| oy hS (y_load oH underlying3 rfl rfl) <| o_gu rfl rfl rfl <| oy hS y_bin <| o_gu rfl rfl rfl <| oy hS y_pickT ?_
       refine o_gu rfl rfl rfl <| oy hS y_pickF <| oy hS y_pickT <| oy hS y_assign <| n_thenN ?_
       obtain rfl := osi hF
       exact wp_ret (wr1 hS)
     replace hF := bf c20 hF
     iterate 3 (refine o_sk rfl rfl ?_)
     refine o_gu rfl rfl rfl <| oy hS y_pickF <| o_gu rfl rfl rfl <| oy hS y_pickF <| oy hS y_pickT <| oy hS y_assign <| n_thenN ?_
     obtain rfl := osi hF
     exact wp_ret (wr1 hS)
   replace hF := bf c15 hF
   iterate 4 (refine o_sk rfl rfl ?_)
   iterate 3 (refine o_sku rfl rfl ?_)
   iterate 2 (refine o_sk rfl rfl ?_)
   iterate 7 (refine o_sku rfl rfl ?_)
   refine o_sk rfl rfl ?_
   refine oy hS y_pickF <| oy hS y_assign <| n_thenN ?_
   obtain rfl := osi hF
   exact wp_ret (wr1 hS)
 replace hF := bf c13 hF
 refine wp_skip <| c_seq <| c_block <| c_seq <| c_region <| oy hS y_move ?_
 refine o_callS hS func44 rfl rfl (hc := (w_r3_Target (a0 := r3))) (h := ?_)
 clear hS; intro w hS
 refine oy hS y_assign <| n_thenN ?_
 refine c_if (ht := fun c21 => ?_) (hf := fun c21 => ?_)
 · replace hF := bt c21 hF
   refine c_seq <| c_region <| oy hS (y_field fa_api_Ins_4) <| oy hS (y_load oH underlying3 rfl rfl) ?_
   refine o_callS hS func45 rfl rfl (hc := (w_r0_Num (a0 := a0.Imm) (a1 := 1023))) (h := ?_)
   clear hS; intro w hS
   refine oy hS y_assign <| n_thenN ?_
   obtain rfl := osi hF
   exact wp_ret (wr1 hS)
 replace hF := bf c21 hF
 refine c_seq <| c_region <| oy hS y_move ?_
 refine o_callS hS func46 rfl rfl (hc := (w_r3_Bits (a0 := r3))) (h := ?_)
 clear hS; intro w hS
 refine oy hS y_bin <| oy hS y_assign <| n_thenN ?_
 refine c_if (ht := fun c22 => ?_) (hf := fun c22 => ?_)
 · replace hF := bt c22 hF
   refine c_seq ?_
   refine c_quiet (by kernel_rfl) (by kernel_rfl) hS ?_
   refine qy (y_field fa_api_Ins_4) <| qy (y_load (fun w hS => hS.own (mH)) underlying3 rfl rfl) <| qy y_move ?_
   refine q_callS func46 rfl rfl (hc := (w_r3_Bits (a0 := r3))) (h := ?_)
   obtain ⟨r23, E0, hF⟩ := ob hF
   refine q_callS func43 rfl rfl (hc := (w_r1_Fits (a0 := a0.Imm) (a1 := (r3_Bits r3)) (hF := E0))) (h := ?_)
   refine qy y_assign ?_
   refine q_nilN (h := ?_)
   clear hS; intro w hS
   obtain rfl := osi hF
   exact wp_ret (wr1 hS)
 replace hF := bf c22 hF
 refine wp_skip <| c_seq <| c_region <| oy hS (y_field fa_api_Ins_4) <| oy hS (y_load oH underlying3 rfl rfl) <| oy hS y_bin <| oy hS y_assign <| n_thenN ?_
 obtain rfl := osi hF
 exact wp_ret (wr1 hS)
theorem w_r3_Ins {g : Frag} {a0 : T_Ins} {r : Bool}  (hF : r3_Ins a0 = some r) : LCs Tryd.prog 12 #[.agg (enc_Ins a0).toArray] g (.bool r) := w_r3_Ins_  hF

def r1_Has (a0 : Int) : Bool :=
  (r0_Between a0 1 17)
theorem w_r1_Has_ {g : Frag} {a0 : Int} {r : Bool}  (hF : r1_Has a0 = r) : LCs Tryd.prog 13 #[.int .i64 a0] g (.bool r) := by
 unfold r1_Has at hF
 refine lc_body (k := 5) (av := [.int .i64 a0]) func13 rfl rfl (h := fun W hS => ?_)
 refine c_seq <| c_region <| oy hS y_assign <| n_thenN <| c_seq <| c_region <| oy hS y_move ?_
 refine o_callS hS func40 rfl rfl (hc := (w_r0_Between (a0 := a0) (a1 := 1) (a2 := 17))) (h := ?_)
 clear hS; intro w hS
 refine oy hS y_assign <| n_thenN ?_
 subst hF
 exact wp_ret (wr1 hS)
theorem w_r1_Has {g : Frag} {a0 : Int}  : LCs Tryd.prog 13 #[.int .i64 a0] g (.bool (r1_Has a0)) := w_r1_Has_  rfl

noncomputable def isa_Text_1 (a0 : Bool) (a1 : Int) (a2 : (List ByteArray)) : Option (List ByteArray) :=
  bif a0 then (strconv_Itoa a1).bind fun r2 => (cat' (ByteArray.mk #[114]) r2).bind fun x3 => (app' a2 ([x3] : List ByteArray)).bind fun B0 => some (B0) else some (a2)
theorem w_isa_Text_1_ {g : Frag} {a0 : Bool} {a1 : Int} {a2 : (List ByteArray)} {b2_ : Nat} {LB2_ : Own} {r : (List ByteArray)} (h2 : Bx_S_string b2_ a2 LB2_) (hG : GT g) (hF : isa_Text_1 a0 a1 a2 = some r) : LC Tryd.prog 48 #[.bool a0, .int .i64 a1, .pointer (some ⟨b2_, 0, none⟩)] g LB2_ (fun v L => ∃ (LB' : Own), v = .tuple #[] ∧ L = (LB' ++ []) ∧ Bx_S_string b2_ r LB') := by
 obtain ⟨E0, B0, I0, D0⟩ := h2
 unfold isa_Text_1 at hF
 refine lc_body (k := 12) (av := [.bool a0, .int .i64 a1, .pointer (some ⟨b2_, 0, none⟩)]) func48 rfl rfl (h := fun W hS => ?_)
 have hS := hS.own_eq I0
 refine c_seq <| c_region <| oy hS y_move <| n_thenN ?_
 refine c_if (ht := fun c1 => ?_) (hf := fun c1 => ?_)
 · replace hF := bt c1 hF
   refine c_heldL 5 7 (by kernel_rfl) rfl hS ?_
   clear hS; intro w hS
   refine hy 0 rfl wn (by kernel_rfl) (nq (P := Tryd.prog) (fn := Tryd.f48)) hS.cb (y_load (fun w hS => hS.own (mH)) underlying23 rfl rfl) ?_
   refine hy0 1 rfl wn (by kernel_rfl) (nq (P := Tryd.prog) (fn := Tryd.f48)) (fun _ => hS.cb) y_move ?_
   refine hb1 2 (by kernel_rfl) (hb_op rfl wn (nl (P := Tryd.prog) (fn := Tryd.f48)) ?_)
   obtain ⟨r2, hr2, hF⟩ := ob hF
   refine o_callS hS func49 rfl rfl (hc := (w_strconv_Itoa (a0 := a1) (hG := hG.plus) (hF := hr2))) (h := ?_)
   clear hS; intro w hS
   refine hb_next (fun _ => hS.cb) ?_
   obtain ⟨x3, hx3, hF⟩ := ob hF
   refine hy0 3 rfl wn (by kernel_rfl) (nq (P := Tryd.prog) (fn := Tryd.f48)) (fun _ => hS.cb) (y_cat hx3) ?_
   refine hb1 4 (by kernel_rfl) (hb_op rfl wn (nl (P := Tryd.prog) (fn := Tryd.f48)) ?_)
   refine o_buildT val_string ([x3] : List ByteArray) hS el_string (fun _ => rfl) enc_len_string (by decide) rfl (by decide) (hp := rfl) (h := ?_)
   clear hS; intro b4 w hS h5
   have hS : St W g LB2_ ([(b4, blk (([x3] : List ByteArray).flatMap enc_string) 9)] ++ ((b2_, blk [E0] 23) :: (B0 ++ []))) w := hS
   refine hb_next (fun _ => (hS.re (.b (.d .hb) (.t (.d .h) .n))).cb) ?_
   refine hb1 5 (by kernel_rfl) (hb_op rfl wn (nl (P := Tryd.prog) (fn := Tryd.f48)) ?_)
   obtain ⟨J0, G0, hF⟩ := ob hF
   have hS := hS.re (.t .h (.t (.e .h) (.b .hb .n)))
   refine o_appPn (ys := ([x3] : List ByteArray)) (LX := B0) G0 hS el_string D0 rfl enc_len_string (enc_ones_string _) (by decide) ?_
   clear hS; intro v7 LX8 w h9 hS
   refine hb_next (fun h => absurd h (by decide)) ?_
   refine hb1 6 (by kernel_rfl) (hb_op rfl wn (nl (P := Tryd.prog) (fn := Tryd.f48)) ?_)
   have hS := hS.re (.b (.d .hb) (.t .h .n))
   refine o_storeA1 (o := 0) (cl' := [v7]) hS (by kernel_rfl) (by exact Nat.le_of_ble_eq_true rfl) (Upd.here _) (by exact sz_S_string) (h9).one (h9).cell ?_
   clear hS; intro w hS
   refine hb_next (fun h => absurd h (by decide)) ?_
   refine hb_done (by kernel_rfl) ?_
   obtain rfl := osi hF
   refine (r_end (vs := []) (hS.re (.b .hb (.t .h .n))) rsN rfl ⟨_, rfl, (by first | rfl | simp only [aa, ac, al, an]), ⟨_, _, rfl, h9⟩⟩)
 replace hF := bf c1 hF
 refine wp_skip ?_
 obtain rfl := osi hF
 refine (r_end (vs := []) (hS.re (.b .hb (.t .h .n))) rsN rfl ⟨_, rfl, (by first | rfl | simp only [aa, ac, al, an]), ⟨_, _, rfl, D0⟩⟩)
theorem w_isa_Text_1 {g : Frag} {a0 : Bool} {a1 : Int} {a2 : (List ByteArray)} {b2_ : Nat} {LB2_ : Own} {r : (List ByteArray)} (h2 : Bx_S_string b2_ a2 LB2_) (hG : GT g) (hF : isa_Text_1 a0 a1 a2 = some r) : LC Tryd.prog 48 #[.bool a0, .int .i64 a1, .pointer (some ⟨b2_, 0, none⟩)] g LB2_ (fun v L => ∃ (LB' : Own), v = .tuple #[] ∧ L = (LB' ++ []) ∧ Bx_S_string b2_ r LB') := w_isa_Text_1_ h2 hG hF

noncomputable def isa_constant (a0 : T_Ins) : Option ByteArray :=
  bif decide (a0.Sym = (ByteArray.mk #[])) then (strconv_Itoa a0.Imm).bind fun r3 => some (r3) else bif decide (0 < a0.Imm) then (cat' a0.Sym (ByteArray.mk #[43])).bind fun x5 => (strconv_Itoa a0.Imm).bind fun r6 => (cat' x5 r6).bind fun x7 => some (x7) else bif decide (a0.Imm < 0) then (strconv_Itoa a0.Imm).bind fun r9 => (cat' a0.Sym r9).bind fun x10 => some (x10) else some (a0.Sym)
theorem w_isa_constant_ {g : Frag} {a0 : T_Ins} {r : ByteArray} (hG : GT g) (hF : isa_constant a0 = some r) : LCs Tryd.prog 53 #[.agg (enc_Ins a0).toArray] g (.string r) := by
 unfold isa_constant at hF
 refine lc_body (k := 33) (av := [.agg (enc_Ins a0).toArray]) func53 rfl rfl (h := fun W hS => ?_)
 refine c_seq <| c_region ?_
 refine o_boxP (cl := (enc_Ins a0)) rfl hS ?_
 clear hS; intro b1 w hS
 refine oy hS y_assign <| n_thenN <| c_seq <| c_block <| c_seq <| c_region <| oy hS (y_field fa_api_Ins_5) <| oy hS (y_load oH underlying9 rfl rfl) ?_
 refine oy hS y_seql <| oy hS y_assign <| n_thenN ?_
 refine c_if (ht := fun c2 => ?_) (hf := fun c2 => ?_)
 · replace hF := bt c2 hF
   refine c_seq <| c_region <| oy hS (y_field fa_api_Ins_4) <| oy hS (y_load oH underlying3 rfl rfl) ?_
   obtain ⟨r3, hr3, hF⟩ := ob hF
   refine o_callS hS func49 rfl rfl (hc := (w_strconv_Itoa (a0 := a0.Imm) (hG := hG.plus) (hF := hr3))) (h := ?_)
   clear hS; intro w hS
   refine oy hS y_assign <| n_thenN ?_
   obtain rfl := osi hF
   exact wp_ret (wr1 hS)
 replace hF := bf c2 hF
 refine c_seq <| c_region <| oy hS (y_field fa_api_Ins_4) <| oy hS (y_load oH underlying3 rfl rfl) <| oy hS y_bin <| oy hS y_assign <| n_thenN ?_
 refine c_if (ht := fun c4 => ?_) (hf := fun c4 => ?_)
 · replace hF := bt c4 hF
   refine c_seq ?_
   refine c_quiet (by kernel_rfl) (by kernel_rfl) hS ?_
   refine qy (y_field fa_api_Ins_5) <| qy (y_load (fun w hS => hS.own (mH)) underlying9 rfl rfl) ?_
   obtain ⟨x5, hx5, hF⟩ := ob hF
   refine qy (y_cat hx5) <| qy (y_field fa_api_Ins_4) <| qy (y_load (fun w hS => hS.own (mH)) underlying3 rfl rfl) ?_
   obtain ⟨r6, hr6, hF⟩ := ob hF
   refine q_callS func49 rfl rfl (hc := (w_strconv_Itoa (a0 := a0.Imm) (hG := hG.plus) (hF := hr6))) (h := ?_)
   obtain ⟨x7, hx7, hF⟩ := ob hF
   refine qy (y_cat hx7) <| qy y_assign ?_
   refine q_nilN (h := ?_)
   clear hS; intro w hS
   obtain rfl := osi hF
   exact wp_ret (wr1 hS)
 replace hF := bf c4 hF
 refine c_seq <| c_region <| oy hS (y_field fa_api_Ins_4) <| oy hS (y_load oH underlying3 rfl rfl) <| oy hS y_bin <| oy hS y_assign <| n_thenN ?_
 refine c_if (ht := fun c8 => ?_) (hf := fun c8 => ?_)
 · replace hF := bt c8 hF
   refine c_seq ?_
   refine c_quiet (by kernel_rfl) (by kernel_rfl) hS ?_
   refine qy (y_field fa_api_Ins_5) <| qy (y_load (fun w hS => hS.own (mH)) underlying9 rfl rfl) <| qy (y_field fa_api_Ins_4) <| qy (y_load (fun w hS => hS.own (mH)) underlying3 rfl rfl) ?_
   obtain ⟨r9, hr9, hF⟩ := ob hF
   refine q_callS func49 rfl rfl (hc := (w_strconv_Itoa (a0 := a0.Imm) (hG := hG.plus) (hF := hr9))) (h := ?_)
   obtain ⟨x10, B0, hF⟩ := ob hF
   refine qy (y_cat B0) <| qy y_assign ?_
   refine q_nilN (h := ?_)
   clear hS; intro w hS
   obtain rfl := osi hF
   exact wp_ret (wr1 hS)
 replace hF := bf c8 hF
 refine wp_skip <| c_seq <| c_region <| oy hS (y_field fa_api_Ins_5) <| oy hS (y_load oH underlying9 rfl rfl) <| oy hS y_assign <| n_thenN ?_
 obtain rfl := osi hF
 exact wp_ret (wr1 hS)
theorem w_isa_constant {g : Frag} {a0 : T_Ins} {r : ByteArray} (hG : GT g) (hF : isa_constant a0 = some r) : LCs Tryd.prog 53 #[.agg (enc_Ins a0).toArray] g (.string r) := w_isa_constant_ hG hF

noncomputable def isa_names  : Option (List ByteArray) :=
  (strings_Fields (ByteArray.mk #[110, 111, 112, 32, 97, 100, 100, 32, 115, 117, 98, 32, 97, 110, 100, 32, 111, 114, 32, 120, 111, 114, 32, 115, 104, 108, 32, 115, 104, 114, 32, 115, 97, 114, 32, 115, 108, 116, 32, 115, 108, 116, 117, 32, 101, 113, 32, 109, 105, 110, 32, 109, 97, 120, 32, 109, 117, 108, 32, 109, 117, 108, 104, 32, 100, 105, 118, 32, 114, 101, 109, 32, 99, 97, 100, 100, 32, 99, 115, 117, 98, 32, 99, 109, 117, 108, 32, 99, 111, 110, 106, 32, 97, 100, 100, 105, 32, 108, 105, 32, 108, 100, 32, 115, 116, 32, 105, 110, 32, 111, 117, 116, 32, 106, 109, 112, 32, 98, 122, 32, 98, 110, 122, 32, 99, 97, 108, 108, 32, 114, 101, 116, 32, 104, 97, 108, 116])).bind fun r1 => some (r1)
theorem w_isa_names_ {g : Frag}  {r : (List ByteArray)} (hG : GT g) (hF : isa_names = some r) : LC Tryd.prog 54 #[] g [] (fun v L => ∃ (u0 : Value) (M0 : Own), u0 = v ∧ L = (M0 ++ []) ∧ OwT 9 enc_string 1 r u0 M0) := by
 unfold isa_names at hF
 refine lc_body (k := 2) (av := []) func54 rfl rfl (h := fun W hS => ?_)
 refine c_seq <| c_region <| oy hS y_assign <| n_thenN <| c_seq <| c_region ?_
 obtain ⟨r1, hr1, hF⟩ := ob hF
 refine o_call0 hS func69 rfl rfl (hc := (w_strings_Fields (a0 := (ByteArray.mk #[110, 111, 112, 32, 97, 100, 100, 32, 115, 117, 98, 32, 97, 110, 100, 32, 111, 114, 32, 120, 111, 114, 32, 115, 104, 108, 32, 115, 104, 114, 32, 115, 97, 114, 32, 115, 108, 116, 32, 115, 108, 116, 117, 32, 101, 113, 32, 109, 105, 110, 32, 109, 97, 120, 32, 109, 117, 108, 32, 109, 117, 108, 104, 32, 100, 105, 118, 32, 114, 101, 109, 32, 99, 97, 100, 100, 32, 99, 115, 117, 98, 32, 99, 109, 117, 108, 32, 99, 111, 110, 106, 32, 97, 100, 100, 105, 32, 108, 105, 32, 108, 100, 32, 115, 116, 32, 105, 110, 32, 111, 117, 116, 32, 106, 109, 112, 32, 98, 122, 32, 98, 110, 122, 32, 99, 97, 108, 108, 32, 114, 101, 116, 32, 104, 97, 108, 116])) (hG := hG.plus) (hF := hr1))) (h := ?_)
 clear hS; intro v2 LY3 w hS hr4
 obtain ⟨v_0_5, LX_0_6, rfl, rfl, h_0_7⟩ := hr4
 simp only [aa, ac, al] at hS
 refine oy hS y_assign <| n_thenN ?_
 obtain rfl := osi hF
 refine wp_ret (r_ret (vs := [v_0_5]) (hS.re (.t .h .n)) (rsC res_tmp rsN) rfl ⟨_, _, rfl, (by first | rfl | simp only [aa, ac, al, an]), h_0_7⟩)
theorem w_isa_names {g : Frag}  {r : (List ByteArray)} (hG : GT g) (hF : isa_names = some r) : LC Tryd.prog 54 #[] g [] (fun v L => ∃ (u0 : Value) (M0 : Own), u0 = v ∧ L = (M0 ++ []) ∧ OwT 9 enc_string 1 r u0 M0) := w_isa_names_ hG hF

noncomputable def isa_Text (a0 : T_Ins) : Option (ByteArray × Int) :=
  (isa_IsIns a0).bind fun r2 => bif !r2 then some ((ByteArray.mk #[]), 1) else (isa_Text_1 (decide ((isa_Shape a0.Op) = 5)) a0.B ([])).bind fun r5 => (isa_Text_1 (isa_HasD (isa_Shape a0.Op)) a0.D r5).bind fun r15 => (isa_Text_1 (isa_HasA (isa_Shape a0.Op)) a0.A r15).bind fun r25 => (isa_Text_1 (decide ((isa_Shape a0.Op) = 1)) a0.B r25).bind fun r35 => bif decide (0 < (isa_Bits (isa_Shape a0.Op))) then (isa_constant a0).bind fun r46 => (app' r35 ([r46] : List ByteArray)).bind fun B0 => (isa_names).bind fun r55 => (at' r55 a0.Op).bind fun x63 => bif decide (0 < (B0.length : Int)) then (strings_Join B0 (ByteArray.mk #[44, 32])).bind fun r73 => (cat' (ByteArray.mk #[32]) r73).bind fun x74 => (cat' x63 x74).bind fun x75 => some (x75, 0) else some (x63, 0) else (isa_names).bind fun r76 => (at' r76 a0.Op).bind fun x84 => bif decide (0 < (r35.length : Int)) then (strings_Join r35 (ByteArray.mk #[44, 32])).bind fun r94 => (cat' (ByteArray.mk #[32]) r94).bind fun x95 => (cat' x84 x95).bind fun x96 => some (x96, 0) else some (x84, 0)
theorem w_isa_Text_ {g : Frag} {a0 : T_Ins} {r : (ByteArray × Int)} (hG : GT g) (hF : isa_Text a0 = some r) : LCs Tryd.prog 15 #[.agg (enc_Ins a0).toArray] g (.tuple #[.string r.1, .int .i64 r.2]) := by
 unfold isa_Text at hF
 refine lc_body (k := 61) (av := [.agg (enc_Ins a0).toArray]) func15 rfl rfl (h := fun W hS => ?_)
 refine c_seq <| c_region ?_
 refine o_boxP (cl := (enc_Ins a0)) rfl hS ?_
 clear hS; intro b1 w hS
 iterate 2 (refine oy hS y_assign ?_)
 refine n_thenN ?_
 iterate 2 (refine c_seq ?_)
 refine c_region ?_
 refine oy hS (y_loadW oH underlying27 rfl (by exact sz_api_Ins)) ?_
 obtain ⟨r2, hr2, hF⟩ := ob hF
 refine o_callS hS func41 rfl rfl (hc := (w_isa_IsIns (a0 := a0) (hF := hr2))) (h := ?_)
 clear hS; intro w hS
 refine oy hS y_not <| n_thenN ?_
 refine c_if (ht := fun c3 => ?_) (hf := fun c3 => ?_)
 · replace hF := bt c3 hF
   refine c_seq <| c_region ?_
   iterate 2 (refine oy hS y_assign ?_)
   refine n_thenN ?_
   obtain rfl := osi hF
   exact wp_ret (wr2 hS)
 replace hF := bf c3 hF
 refine wp_skip <| c_seq <| c_region <| oy hS (y_field fa_api_Ins_0) <| oy hS (y_load oH underlying3 rfl rfl) ?_
 refine o_callS hS func47 rfl rfl (hc := (w_isa_Shape (a0 := a0.Op))) (h := ?_)
 clear hS; intro w hS
 refine oy hS y_assign <| n_thenN <| c_seq <| c_region ?_
 refine o_allocP (cl := [(.slice none 0 0)]) zr_S_string rfl hS ?_
 clear hS; intro b4 w hS
 refine n_thenN <| c_seq <| c_region ?_
 refine oy hS (y_makeFunc av0 (av1 (by (conv => lhs; whnf) <;> exact rfl))) ?_
 refine oy hS y_assign <| n_thenN <| c_seq <| c_region ?_
 iterate 2 (refine oy hS y_move ?_)
 refine oy hS y_bin <| oy hS (y_field fa_api_Ins_3) <| oy hS (y_load (fun w hS => hS.own (mC (mH))) underlying3 rfl rfl) ?_
 have hS2 := hS.spl (.cons _ (.nil _))
 obtain ⟨r5, hr5, hF⟩ := ob hF
 refine o_callVG hS2 func48 rfl rfl (hc := (w_isa_Text_1 (a0 := (decide ((isa_Shape a0.Op) = 5))) (a1 := a0.B) (a2 := ([])) (h2 := (⟨_, _, rfl, OwT.nil _ _ _⟩ : Bx_S_string b4 ([]) ((b4, blk [(.slice none 0 0)] 23) :: []))) (hG := hG.plus) (hF := hr5))) (h := ?_)
 clear hS; intro v6 LY7 w hS hr8
 clear hS2
 obtain ⟨LB9, rfl, rfl, D0⟩ := hr8
 obtain ⟨vB_0_11, LXB_0_12, rfl, hB_0_13⟩ := D0
 simp only [aa, ac, al] at hS
 refine n_thenN <| c_seq ?_
 refine c_heldL 5 6 (by kernel_rfl) rfl hS ?_
 clear hS; intro w hS
 refine hy0 0 rfl wn (by kernel_rfl) (nq (P := Tryd.prog) (fn := Tryd.f15)) (fun _ => hS.cb) y_move ?_
 refine hy0 1 rfl wn (by kernel_rfl) (nq (P := Tryd.prog) (fn := Tryd.f15)) (fun _ => hS.cb) y_move ?_
 refine hy0 3 rfl wn (by kernel_rfl) (nq (P := Tryd.prog) (fn := Tryd.f15)) (fun _ => hS.cb) (y_field fa_api_Ins_1) ?_
 refine hy 4 rfl wn (by kernel_rfl) (nq (P := Tryd.prog) (fn := Tryd.f15)) hS.cb (y_load (fun w hS => hS.own (mC (mB (mH)))) underlying3 rfl rfl) ?_
 refine hb1 2 (by kernel_rfl) (hb_op rfl wn (nl (P := Tryd.prog) (fn := Tryd.f15)) ?_)
 refine o_callS hS func50 rfl rfl (hc := (w_isa_HasD (a0 := (isa_Shape a0.Op)))) (h := ?_)
 clear hS; intro w hS
 refine hb_next (fun _ => hS.cb) ?_
 refine hb1 5 (by kernel_rfl) (hb_op rfl wn (nl (P := Tryd.prog) (fn := Tryd.f15)) ?_)
 have hS2 := hS.spl (.cons _ (.app _ (.nil _)))
 obtain ⟨r15, E0, hF⟩ := ob hF
 refine o_callVG hS2 func48 rfl rfl (hc := (w_isa_Text_1 (a0 := (isa_HasD (isa_Shape a0.Op))) (a1 := a0.D) (a2 := r5) (h2 := (⟨_, _, rfl, hB_0_13⟩ : Bx_S_string b4 r5 ((b4, blk [vB_0_11] 23) :: (LXB_0_12 ++ [])))) (hG := hG.plus) (hF := E0))) (h := ?_)
 clear hS; intro v16 I2 w hS G0
 clear hS2
 obtain ⟨J2, rfl, rfl, I0⟩ := G0
 obtain ⟨vB_0_21, LXB_0_22, rfl, hB_0_23⟩ := I0
 simp only [aa, ac, al] at hS
 refine hb_next (fun h => absurd h (by decide)) ?_
 refine hb_done (by kernel_rfl) ?_
 refine c_seq ?_
 refine c_heldL 5 6 (by kernel_rfl) rfl hS ?_
 clear hS; intro w hS
 refine hy0 0 rfl wn (by kernel_rfl) (nq (P := Tryd.prog) (fn := Tryd.f15)) (fun _ => hS.cb) y_move ?_
 refine hy0 1 rfl wn (by kernel_rfl) (nq (P := Tryd.prog) (fn := Tryd.f15)) (fun _ => hS.cb) y_move ?_
 refine hy0 3 rfl wn (by kernel_rfl) (nq (P := Tryd.prog) (fn := Tryd.f15)) (fun _ => hS.cb) (y_field fa_api_Ins_2) ?_
 refine hy 4 rfl wn (by kernel_rfl) (nq (P := Tryd.prog) (fn := Tryd.f15)) hS.cb (y_load (fun w hS => hS.own (mC (mB (mH)))) underlying3 rfl rfl) ?_
 refine hb1 2 (by kernel_rfl) (hb_op rfl wn (nl (P := Tryd.prog) (fn := Tryd.f15)) ?_)
 refine o_callS hS func51 rfl rfl (hc := (w_isa_HasA (a0 := (isa_Shape a0.Op)))) (h := ?_)
 clear hS; intro w hS
 refine hb_next (fun _ => hS.cb) ?_
 refine hb1 5 (by kernel_rfl) (hb_op rfl wn (nl (P := Tryd.prog) (fn := Tryd.f15)) ?_)
 have hS2 := hS.spl (.cons _ (.app _ (.nil _)))
 obtain ⟨r25, J0, hF⟩ := ob hF
 refine o_callVG hS2 func48 rfl rfl (hc := (w_isa_Text_1 (a0 := (isa_HasA (isa_Shape a0.Op))) (a1 := a0.A) (a2 := r15) (h2 := (⟨_, _, rfl, hB_0_23⟩ : Bx_S_string b4 r15 ((b4, blk [vB_0_21] 23) :: (LXB_0_22 ++ [])))) (hG := hG.plus) (hF := J0))) (h := ?_)
 clear hS; intro v26 K2 w hS K0
 clear hS2
 obtain ⟨M2, rfl, rfl, M0⟩ := K0
 obtain ⟨vB_0_31, LXB_0_32, rfl, hB_0_33⟩ := M0
 simp only [aa, ac, al] at hS
 refine hb_next (fun h => absurd h (by decide)) ?_
 refine hb_done (by kernel_rfl) ?_
 refine c_seq <| c_region ?_
 iterate 2 (refine oy hS y_move ?_)
 refine oy hS y_bin <| oy hS (y_field fa_api_Ins_3) <| oy hS (y_load (fun w hS => hS.own (mC (mB (mH)))) underlying3 rfl rfl) ?_
 have hS2 := hS.spl (.cons _ (.app _ (.nil _)))
 obtain ⟨r35, N0, hF⟩ := ob hF
 refine o_callVG hS2 func48 rfl rfl (hc := (w_isa_Text_1 (a0 := (decide ((isa_Shape a0.Op) = 1))) (a1 := a0.B) (a2 := r25) (h2 := (⟨_, _, rfl, hB_0_33⟩ : Bx_S_string b4 r25 ((b4, blk [vB_0_31] 23) :: (LXB_0_32 ++ [])))) (hG := hG.plus) (hF := N0))) (h := ?_)
 clear hS; intro v36 N2 w hS R0
 clear hS2
 obtain ⟨R2, rfl, rfl, T0⟩ := R0
 obtain ⟨vB_0_41, LXB_0_42, rfl, hB_0_43⟩ := T0
 simp only [aa, ac, al] at hS
 refine n_thenN ?_
 iterate 2 (refine c_seq ?_)
 refine c_region <| oy hS y_move ?_
 refine o_callS hS func52 rfl rfl (hc := (w_isa_Bits (a0 := (isa_Shape a0.Op)))) (h := ?_)
 clear hS; intro w hS
 refine oy hS y_bin <| n_thenN ?_
 refine c_if (ht := fun c45 => ?_) (hf := fun c45 => ?_)
 · replace hF := bt c45 hF
   refine c_heldL 4 6 (by kernel_rfl) rfl hS ?_
   clear hS; intro w hS
   refine hy 0 rfl wn (by kernel_rfl) (nq (P := Tryd.prog) (fn := Tryd.f15)) hS.cb (y_load (fun w hS => hS.own (mH)) underlying23 rfl rfl) ?_
   refine hy 1 rfl wn (by kernel_rfl) (nq (P := Tryd.prog) (fn := Tryd.f15)) hS.cb (y_loadW (fun w hS => hS.own (mC (mB (mH)))) underlying27 rfl (by exact sz_api_Ins)) ?_
   refine hb1 2 (by kernel_rfl) (hb_op rfl wn (nl (P := Tryd.prog) (fn := Tryd.f15)) ?_)
   obtain ⟨r46, U0, hF⟩ := ob hF
   refine o_callS hS func53 rfl rfl (hc := (w_isa_constant (a0 := a0) (hG := hG.plus) (hF := U0))) (h := ?_)
   clear hS; intro w hS
   refine hb_next (fun _ => hS.cb) ?_
   refine hb1 3 (by kernel_rfl) (hb_op rfl wn (nl (P := Tryd.prog) (fn := Tryd.f15)) ?_)
   refine o_buildT val_string ([r46] : List ByteArray) hS el_string (fun _ => rfl) enc_len_string (by decide) rfl (by decide) (hp := rfl) (h := ?_)
   clear hS; intro b47 w hS h48
   have hS : St W g [] ([(b47, blk (([r46] : List ByteArray).flatMap enc_string) 9)] ++ ((b4, blk [vB_0_41] 23) :: (LXB_0_42 ++ ((b1, blk (enc_Ins a0) 27) :: [])))) w := hS
   refine hb_next (fun _ => (hS.re (.b (.d .hb) (.t (.d .h) (.b (.d .hb) .n)))).cb) ?_
   refine hb1 4 (by kernel_rfl) (hb_op rfl wn (nl (P := Tryd.prog) (fn := Tryd.f15)) ?_)
   obtain ⟨V0, B0, hF⟩ := ob hF
   have hS := hS.re (.t .h (.t (.e .h) (.b .hb (.b .hb .n))))
   refine o_appPn (ys := ([r46] : List ByteArray)) (LX := LXB_0_42) B0 hS el_string hB_0_43 rfl enc_len_string (enc_ones_string _) (by decide) ?_
   clear hS; intro v50 X0 w h52 hS
   refine hb_next (fun h => absurd h (by decide)) ?_
   refine hb1 5 (by kernel_rfl) (hb_op rfl wn (nl (P := Tryd.prog) (fn := Tryd.f15)) ?_)
   have hS := hS.re (.b (.d .hb) (.t .h (.b .hb .n)))
   refine o_storeA1 (o := 0) (cl' := [v50]) hS (by kernel_rfl) (by exact Nat.le_of_ble_eq_true rfl) (Upd.here _) (by exact sz_S_string) (h52).one (h52).cell ?_
   clear hS; intro w hS
   refine hb_next (fun h => absurd h (by decide)) ?_
   refine hb_done (by kernel_rfl) ?_
   refine c_seq ?_
   refine c_heldL 6 6 (by kernel_rfl) rfl hS ?_
   clear hS; intro w hS
   refine hy0 1 rfl wn (by kernel_rfl) (nq (P := Tryd.prog) (fn := Tryd.f15)) (fun _ => hS.cb) (y_field fa_api_Ins_0) ?_
   refine hy 2 rfl wn (by kernel_rfl) (nq (P := Tryd.prog) (fn := Tryd.f15)) hS.cb (y_load (fun w hS => hS.own (mC (mB (mH)))) underlying3 rfl rfl) ?_
   refine hb1 0 (by kernel_rfl) (hb_op rfl wn (nl (P := Tryd.prog) (fn := Tryd.f15)) ?_)
   obtain ⟨r55, Y0, hF⟩ := ob hF
   refine o_call0 hS func54 rfl rfl (hc := (w_isa_names (hG := hG.plus) (hF := Y0))) (h := ?_)
   clear hS; intro v56 T2 w hS Z0
   obtain ⟨v_0_59, LX_0_60, rfl, rfl, h_0_61⟩ := Z0
   simp only [aa, ac, al] at hS
   have hC := (hS.re (.b (.d .hb) (.t (.d .h) (.b (.d .hb) .n)))).cb
   refine hb_next (fun _ => hC) ?_
   obtain ⟨x63, B1, hF⟩ := ob hF
   obtain ⟨b64, c65, U2, D1, E1, G1, I1, J1⟩ := OwT.at B1 h_0_61 enc_len_string
   refine hy0 3 rfl wn (by kernel_rfl) (nq (P := Tryd.prog) (fn := Tryd.f15)) (fun _ => hC) (y_index D1 E1 G1 underlying23 el_string.size) ?_
   refine hb_up (CB g (LX_0_60 ++ ((b4, blk [v50] 23) :: (X0 ++ ((b1, blk (enc_Ins a0) 27) :: []))))) (fun w h => h.sub (.b (.d .hb) (.t (.d .h) (.b (.d .hb) .n)))) ?_
   refine hy 4 rfl wn (by kernel_rfl) (nq (P := Tryd.prog) (fn := Tryd.f15)) hS.cb (y_load (fun w hS => hS.own (mA (mX I1))) underlying9 rfl (J1 0 _ rfl)) ?_
   refine hy0 5 rfl wn (by kernel_rfl) (nq (P := Tryd.prog) (fn := Tryd.f15)) (fun _ => hS.cb) y_assign ?_
   refine hb_done (by kernel_rfl) ?_
   iterate 2 (refine c_seq ?_)
   refine c_region <| oy hS (y_load (fun w hS => hS.own (mB (mH))) underlying23 rfl rfl) <| oy hS (y_lenO h52 underlying23) <| oy hS y_bin <| n_thenN ?_
   refine c_if (ht := fun c72 => ?_) (hf := fun c72 => ?_)
   · replace hF := bt c72 hF
     refine c_region <| oy hS y_move <| oy hS (y_load (fun w hS => hS.own (mB (mH))) underlying23 rfl rfl) ?_
     obtain ⟨r73, K1, hF⟩ := ob hF
     refine o_callS hS func55 rfl rfl (hc := (w_strings_Join (a0 := V0) (a1 := (ByteArray.mk #[44, 32])) (h0 := (OwT.plus h52 hS (fun p hp => mB (mC (mA (hp)))))) (hF := K1))) (h := ?_)
     clear hS; intro w hS
     obtain ⟨x74, M1, hF⟩ := ob hF
     refine oy hS (y_cat M1) ?_
     obtain ⟨x75, N1, hF⟩ := ob hF
     refine oy hS (y_cat N1) <| oy hS y_assign <| n_thenN <| c_seq <| c_region <| oy hS y_move ?_
     iterate 2 (refine oy hS y_assign ?_)
     refine n_thenN ?_
     obtain rfl := osi hF
     exact wp_ret (wr2 hS)
   replace hF := bf c72 hF
   refine wp_skip <| c_seq <| c_region <| oy hS y_move ?_
   iterate 2 (refine oy hS y_assign ?_)
   refine n_thenN ?_
   obtain rfl := osi hF
   exact wp_ret (wr2 hS)
 replace hF := bf c45 hF
 refine wp_skip <| c_seq ?_
 refine c_heldL 6 6 (by kernel_rfl) rfl hS ?_
 clear hS; intro w hS
 refine hy0 1 rfl wn (by kernel_rfl) (nq (P := Tryd.prog) (fn := Tryd.f15)) (fun _ => hS.cb) (y_field fa_api_Ins_0) ?_
 refine hy 2 rfl wn (by kernel_rfl) (nq (P := Tryd.prog) (fn := Tryd.f15)) hS.cb (y_load (fun w hS => hS.own (mC (mB (mH)))) underlying3 rfl rfl) ?_
 refine hb1 0 (by kernel_rfl) (hb_op rfl wn (nl (P := Tryd.prog) (fn := Tryd.f15)) ?_)
 obtain ⟨r76, R1, hF⟩ := ob hF
 refine o_call0 hS func54 rfl rfl (hc := (w_isa_names (hG := hG.plus) (hF := R1))) (h := ?_)
 clear hS; intro v77 V2 w hS T1
 obtain ⟨v_0_80, LX_0_81, rfl, rfl, h_0_82⟩ := T1
 simp only [aa, ac, al] at hS
 have hC := (hS.re (.b (.d .hb) (.t (.d .h) (.b (.d .hb) .n)))).cb
 refine hb_next (fun _ => hC) ?_
 obtain ⟨x84, U1, hF⟩ := ob hF
 obtain ⟨b85, c86, X2, V1, X1, Y1, Z1, B2⟩ := OwT.at U1 h_0_82 enc_len_string
 refine hy0 3 rfl wn (by kernel_rfl) (nq (P := Tryd.prog) (fn := Tryd.f15)) (fun _ => hC) (y_index V1 X1 Y1 underlying23 el_string.size) ?_
 refine hb_up (CB g (LX_0_81 ++ ((b4, blk [vB_0_41] 23) :: (LXB_0_42 ++ ((b1, blk (enc_Ins a0) 27) :: []))))) (fun w h => h.sub (.b (.d .hb) (.t (.d .h) (.b (.d .hb) .n)))) ?_
 refine hy 4 rfl wn (by kernel_rfl) (nq (P := Tryd.prog) (fn := Tryd.f15)) hS.cb (y_load (fun w hS => hS.own (mA (mX Z1))) underlying9 rfl (B2 0 _ rfl)) ?_
 refine hy0 5 rfl wn (by kernel_rfl) (nq (P := Tryd.prog) (fn := Tryd.f15)) (fun _ => hS.cb) y_assign ?_
 refine hb_done (by kernel_rfl) ?_
 iterate 2 (refine c_seq ?_)
 refine c_region <| oy hS (y_load (fun w hS => hS.own (mB (mH))) underlying23 rfl rfl) <| oy hS (y_lenO hB_0_43 underlying23) <| oy hS y_bin <| n_thenN ?_
 refine c_if (ht := fun c93 => ?_) (hf := fun c93 => ?_)
 · replace hF := bt c93 hF
   refine c_region <| oy hS y_move <| oy hS (y_load (fun w hS => hS.own (mB (mH))) underlying23 rfl rfl) ?_
   obtain ⟨r94, D2, hF⟩ := ob hF
   refine o_callS hS func55 rfl rfl (hc := (w_strings_Join (a0 := r35) (a1 := (ByteArray.mk #[44, 32])) (h0 := (OwT.plus hB_0_43 hS (fun p hp => mB (mC (mA (hp)))))) (hF := D2))) (h := ?_)
   clear hS; intro w hS
   obtain ⟨x95, E2, hF⟩ := ob hF
   refine oy hS (y_cat E2) ?_
   obtain ⟨x96, G2, hF⟩ := ob hF
   refine oy hS (y_cat G2) <| oy hS y_assign <| n_thenN <| c_seq <| c_region <| oy hS y_move ?_
   iterate 2 (refine oy hS y_assign ?_)
   refine n_thenN ?_
   obtain rfl := osi hF
   exact wp_ret (wr2 hS)
 replace hF := bf c93 hF
 refine wp_skip <| c_seq <| c_region <| oy hS y_move ?_
 iterate 2 (refine oy hS y_assign ?_)
 refine n_thenN ?_
 obtain rfl := osi hF
 exact wp_ret (wr2 hS)
theorem w_isa_Text {g : Frag} {a0 : T_Ins} {r : (ByteArray × Int)} (hG : GT g) (hF : isa_Text a0 = some r) : LCs Tryd.prog 15 #[.agg (enc_Ins a0).toArray] g (.tuple #[.string r.1, .int .i64 r.2]) := w_isa_Text_ hG hF

noncomputable def slices_Index_string_string_b1 (a0 : (List ByteArray)) (a1 : ByteArray) : Int → Option (Step Int Int) := fun x15 => bif decide (x15 < (a0.length : Int)) then (at' a0 x15).bind fun x35 => bif decide (a1 = x35) then some (.done (x15)) else some (.next (IntKind.i64.wrap (x15 + 1))) else some (.done ((-1)))
noncomputable def slices_Index_string_string (a0 : (List ByteArray)) (a1 : ByteArray) : Option Int :=
  loop (σ := Int) (slices_Index_string_string_b1 a0 a1) 0
theorem w_slices_Index_string_string_ {g : Frag} {a0 : (List ByteArray)} {v0_ : Value} {a1 : ByteArray} {r : Int} (h0 : SlT g enc_string 1 a0 v0_) (hF : slices_Index_string_string a0 a1 = some r) : LCs Tryd.prog 62 #[v0_, .string a1] g (.int .i64 r) := by
 unfold slices_Index_string_string at hF
 refine lc_body (k := 19) (av := [v0_, .string a1]) func62 rfl rfl (h := fun W hS => ?_)
 refine c_seq <| c_region <| oy hS y_assign <| n_thenN ?_
 iterate 2 (refine c_seq ?_)
 refine c_region <| oy hS y_move <| oy hS (y_len h0 underlying23) <| oy hS y_move <| n_thenN <| c_block ?_
 refine c_loopP hF (fun (q : Int) a w' => (∃ s : Nat → Value, a = Ac (((((Fm.dead 19 s).upd 0 v0_).upd 1 (.string a1)).upd 7 (.int .i64 (a0.length : Int))).upd 8 (.int .i64 q))) ∧ St W g [] [] w') ⟨mk_exF, (hS.re (.n))⟩ ?_
 clear hS hF
 intro n32 q a w hI hq
 revert hq hI; revert q; intro x15 hI hq
 obtain ⟨⟨s33, rfl⟩, hS⟩ := hq
 obtain ⟨z30, hF, B0⟩ := iter_step hI
 clear hI
 dsimp only [slices_Index_string_string_b1] at hF
 refine c_seq <| c_region <| oy hS y_bin <| n_thenN <| c_seq ?_
 refine c_if (ht := fun c34 => ?_) (hf := fun c34 => ?_)
 · replace hF := bt c34 hF
   refine wp_skip <| c_seq <| c_block <| c_seq <| c_region <| oy hS y_move <| oy hS y_assign <| n_thenN ?_
   refine c_seq <| c_region ?_
   iterate 3 (refine oy hS y_move ?_)
   obtain ⟨x35, D0, hF⟩ := ob hF
   obtain ⟨b36, o37, c38, M0, e40, N0, E0, G0, I0, J0, K0⟩ := SlT.at D0 h0 enc_len_string
   refine oy hS (y_index E0 G0 I0 underlying23 el_string.size) <| oy hS (y_load (fun w hS => hS.block J0) underlying9 rfl (K0 0 _ rfl)) <| oy hS y_seql <| n_thenN ?_
   refine c_if (ht := fun c47 => ?_) (hf := fun c47 => ?_)
   · replace hF := bt c47 hF
     refine c_seq <| c_region <| oy hS y_move <| oy hS y_assign <| n_thenN ?_
     obtain rfl := osi hF
     obtain rfl : _ = r := B0
     exact wp_ret (wr1 hS)
   replace hF := bf c47 hF
   refine wp_skip <| c_region <| oy hS y_bin <| oy hS y_move <| n_thenN ?_
   obtain rfl := osi hF
   exact ⟨_, B0, mk_exF, (hS.re (.n))⟩
 replace hF := bf c34 hF
 refine wp_exit ?_
 refine c_seq <| c_region <| oy hS y_assign <| n_thenN ?_
 obtain rfl := osi hF
 obtain rfl : _ = r := B0
 exact wp_ret (wr1 hS)
theorem w_slices_Index_string_string {g : Frag} {a0 : (List ByteArray)} {v0_ : Value} {a1 : ByteArray} {r : Int} (h0 : SlT g enc_string 1 a0 v0_) (hF : slices_Index_string_string a0 a1 = some r) : LCs Tryd.prog 62 #[v0_, .string a1] g (.int .i64 r) := w_slices_Index_string_string_ h0 hF

noncomputable def isa_Op (a0 : ByteArray) : Option (Int × Int) :=
  (isa_names).bind fun r1 => (slices_Index_string_string r1 a0).bind fun r9 => bif decide (r9 < 0) then some (0, 9) else some (r9, 0)
theorem w_isa_Op_ {g : Frag} {a0 : ByteArray} {r : (Int × Int)} (hG : GT g) (hF : isa_Op a0 = some r) : LCs Tryd.prog 30 #[.string a0] g (.tuple #[.int .i64 r.1, .int .i64 r.2]) := by
 unfold isa_Op at hF
 refine lc_body (k := 11) (av := [.string a0]) func30 rfl rfl (h := fun W hS => ?_)
 refine c_seq <| c_region ?_
 iterate 2 (refine oy hS y_assign ?_)
 refine n_thenN <| c_seq <| c_region ?_
 obtain ⟨r1, hr1, hF⟩ := ob hF
 refine o_call0 hS func54 rfl rfl (hc := (w_isa_names (hG := hG.plus) (hF := hr1))) (h := ?_)
 clear hS; intro v2 LY3 w hS hr4
 obtain ⟨v_0_5, LX_0_6, rfl, rfl, h_0_7⟩ := hr4
 simp only [aa, ac, al] at hS
 refine oy hS y_move ?_
 obtain ⟨r9, hr9, hF⟩ := ob hF
 refine o_callS hS func62 rfl rfl (hc := (w_slices_Index_string_string (a0 := r1) (a1 := a0) (h0 := (OwT.plus h_0_7 hS (fun p hp => mA (hp)))) (hF := hr9))) (h := ?_)
 clear hS; intro w hS
 refine oy hS y_assign <| n_thenN ?_
 iterate 2 (refine c_seq ?_)
 refine c_region <| oy hS y_move <| oy hS y_bin <| n_thenN ?_
 refine c_if (ht := fun c10 => ?_) (hf := fun c10 => ?_)
 · replace hF := bt c10 hF
   refine c_seq <| c_region ?_
   iterate 2 (refine oy hS y_assign ?_)
   refine n_thenN ?_
   obtain rfl := osi hF
   exact wp_ret (wr2 hS)
 replace hF := bf c10 hF
 refine wp_skip <| c_seq <| c_region <| oy hS y_move ?_
 iterate 2 (refine oy hS y_assign ?_)
 refine n_thenN ?_
 obtain rfl := osi hF
 exact wp_ret (wr2 hS)
theorem w_isa_Op {g : Frag} {a0 : ByteArray} {r : (Int × Int)} (hG : GT g) (hF : isa_Op a0 = some r) : LCs Tryd.prog 30 #[.string a0] g (.tuple #[.int .i64 r.1, .int .i64 r.2]) := w_isa_Op_ hG hF

noncomputable def l3_wakes  : Option Bool :=
  (isa_Text (⟨25, 0, 2, 1, 4, ByteArray.empty⟩ : T_Ins)).bind fun r1 => (isa_Op (ByteArray.mk #[104, 97, 108, 116])).bind fun r2 => bif decide ((l3_num r1.2) = 0) then bif decide ((l3_num r2.2) = 0) then bif decide (r1.1 = (ByteArray.mk #[115, 116, 32, 114, 49, 44, 32, 114, 50, 44, 32, 52])) then some (decide (r2.1 = 33)) else some (false) else some (false) else some (false)
theorem w_l3_wakes_ {g : Frag}  {r : Bool} (hG : GT g) (hF : l3_wakes = some r) : LCs Tryd.prog 14 #[] g (.bool r) := by
 unfold l3_wakes at hF
 refine lc_body (k := 30) (av := []) func14 rfl rfl (h := fun W hS => ?_)
 refine c_seq <| c_region <| oy hS y_assign <| n_thenN <| c_seq <| c_region ?_
 refine oy hS (y_build (cl := (enc_Ins ⟨25, 0, 2, 1, 4, ByteArray.empty⟩)) bt_api_Ins rfl (by kernel_rfl)) ?_
 obtain ⟨r1, hr1, hF⟩ := ob hF
 refine o_callS hS func15 rfl rfl (hc := (w_isa_Text (a0 := (⟨25, 0, 2, 1, 4, ByteArray.empty⟩ : T_Ins)) (hG := hG.plus) (hF := hr1))) (h := ?_)
 clear hS; intro w hS
 refine oy hS y_move ?_
 iterate 2 (refine oy hS (y_extract rfl) ?_)
 iterate 2 (refine oy hS y_assign ?_)
 refine n_thenN <| c_seq <| c_region ?_
 obtain ⟨r2, hr2, hF⟩ := ob hF
 refine o_callS hS func30 rfl rfl (hc := (w_isa_Op (a0 := (ByteArray.mk #[104, 97, 108, 116])) (hG := hG.plus) (hF := hr2))) (h := ?_)
 clear hS; intro w hS
 refine oy hS y_move ?_
 iterate 2 (refine oy hS (y_extract rfl) ?_)
 iterate 2 (refine oy hS y_assign ?_)
 refine n_thenN <| c_seq <| c_region <| oy hS y_move ?_
 refine o_callS hS func10 rfl rfl (hc := (w_l3_num (a0 := r1.2))) (h := ?_)
 clear hS; intro w hS
 refine oy hS y_bin ?_
 refine o_split (ht := fun c3 => ?_) (hf := fun c3 => ?_)
 · replace hF := bt c3 hF
   refine o_gu rfl rfl rfl <| oy hS y_move <| o_gu rfl rfl rfl ?_
   refine o_callS hS func10 rfl rfl (hc := (w_l3_num (a0 := r2.2))) (h := ?_)
   clear hS; intro w hS
   refine o_gu rfl rfl rfl <| oy hS y_bin <| oy hS y_pickT ?_
   refine o_split (ht := fun c4 => ?_) (hf := fun c4 => ?_)
   · replace hF := bt c4 hF
     refine o_gu rfl rfl rfl <| oy hS y_move <| o_gu rfl rfl rfl <| oy hS y_seql <| oy hS y_pickT ?_
     refine o_split (ht := fun c5 => ?_) (hf := fun c5 => ?_)
     · replace hF := bt c5 hF
       refine o_gu rfl rfl rfl <| oy hS y_move <| o_gu rfl rfl rfl <| oy hS y_bin <| oy hS y_pickT <| oy hS y_assign <| n_thenN ?_
       obtain rfl := osi hF
       exact wp_ret (wr1 hS)
     replace hF := bf c5 hF
     iterate 2 (refine o_sk rfl rfl ?_)
     refine oy hS y_pickF <| oy hS y_assign <| n_thenN ?_
     obtain rfl := osi hF
     exact wp_ret (wr1 hS)
   replace hF := bf c4 hF
   iterate 2 (refine o_sk rfl rfl ?_)
   refine oy hS y_pickF <| oy hS y_move ?_
   iterate 2 (refine o_sk rfl rfl ?_)
   refine oy hS y_pickF <| oy hS y_assign <| n_thenN ?_
   obtain rfl := osi hF
   exact wp_ret (wr1 hS)
 replace hF := bf c3 hF
 iterate 3 (refine o_sk rfl rfl ?_)
 refine oy hS y_pickF <| oy hS y_move ?_
 iterate 2 (refine o_sk rfl rfl ?_)
 refine oy hS y_pickF <| oy hS y_move ?_
 iterate 2 (refine o_sk rfl rfl ?_)
 refine oy hS y_pickF <| oy hS y_assign <| n_thenN ?_
 obtain rfl := osi hF
 exact wp_ret (wr1 hS)
theorem w_l3_wakes {g : Frag}  {r : Bool} (hG : GT g) (hF : l3_wakes = some r) : LCs Tryd.prog 14 #[] g (.bool r) := w_l3_wakes_ hG hF

noncomputable def isa_Read (a0 : T_Ins) : Option (List Int) :=
  bif (isa_HasA (isa_Shape a0.Op)) then (app' ([]) ([a0.A] : List Int)).bind fun B0 => bif (isa_HasB (isa_Shape a0.Op)) then (app' B0 ([a0.B] : List Int)).bind fun D0 => some (D0) else some (B0) else bif (isa_HasB (isa_Shape a0.Op)) then (app' ([]) ([a0.B] : List Int)).bind fun E0 => some (E0) else some ([])
theorem w_isa_Read_ {g : Frag} {a0 : T_Ins} {r : (List Int)}  (hF : isa_Read a0 = some r) : LC Tryd.prog 56 #[.agg (enc_Ins a0).toArray] g [] (fun v L => ∃ (u0 : Value) (M0 : Own), u0 = v ∧ L = (M0 ++ []) ∧ OwT 3 enc_int 1 r u0 M0) := by
 unfold isa_Read at hF
 refine lc_body (k := 22) (av := [.agg (enc_Ins a0).toArray]) func56 rfl rfl (h := fun W hS => ?_)
 refine c_seq <| c_region ?_
 refine o_boxP (cl := (enc_Ins a0)) rfl hS ?_
 clear hS; intro b1 w hS
 refine oy hS y_assign <| n_thenN <| c_seq <| c_region <| oy hS (y_field fa_api_Ins_0) <| oy hS (y_load oH underlying3 rfl rfl) ?_
 refine o_callS hS func47 rfl rfl (hc := (w_isa_Shape (a0 := a0.Op))) (h := ?_)
 clear hS; intro w hS
 refine oy hS y_assign <| n_thenN ?_
 iterate 2 (refine c_seq ?_)
 refine c_region <| oy hS y_move ?_
 refine o_callS hS func51 rfl rfl (hc := (w_isa_HasA (a0 := (isa_Shape a0.Op)))) (h := ?_)
 clear hS; intro w hS
 refine n_thenN ?_
 refine c_if (ht := fun c2 => ?_) (hf := fun c2 => ?_)
 · replace hF := bt c2 hF
   refine c_region <| oy hS y_move <| oy hS (y_field fa_api_Ins_2) <| oy hS (y_load oH underlying3 rfl rfl) ?_
   refine o_buildT val_int ([a0.A] : List Int) hS el_int (fun _ => rfl) enc_len_int (by decide) rfl (by decide) (hp := rfl) (h := ?_)
   clear hS; intro b3 w hS h4
   have hS : St W g [] ([(b3, blk (([a0.A] : List Int).flatMap enc_int) 3)] ++ ((b1, blk (enc_Ins a0) 27) :: [])) w := hS
   obtain ⟨G0, B0, hF⟩ := ob hF
   refine o_appPn (ys := ([a0.A] : List Int)) (LX := []) B0 hS el_int (OwT.nil _ _ _) rfl enc_len_int (enc_ones_int _) (by decide) ?_
   clear hS; intro v7 LX8 w h9 hS
   refine oy hS y_assign <| n_thenN ?_
   iterate 2 (refine c_seq ?_)
   refine c_region <| oy hS y_move ?_
   refine o_callS hS func66 rfl rfl (hc := (w_isa_HasB (a0 := (isa_Shape a0.Op)))) (h := ?_)
   clear hS; intro w hS
   refine n_thenN ?_
   refine c_if (ht := fun c12 => ?_) (hf := fun c12 => ?_)
   · replace hF := bt c12 hF
     refine c_region <| oy hS y_move <| oy hS (y_field fa_api_Ins_3) <| oy hS (y_load (fun w hS => hS.own (mB (mH))) underlying3 rfl rfl) ?_
     refine o_buildT val_int ([a0.B] : List Int) hS el_int (fun _ => rfl) enc_len_int (by decide) rfl (by decide) (hp := rfl) (h := ?_)
     clear hS; intro b13 w hS h14
     have hS : St W g [] ([(b13, blk (([a0.B] : List Int).flatMap enc_int) 3)] ++ (LX8 ++ ((b1, blk (enc_Ins a0) 27) :: []))) w := hS
     obtain ⟨I0, D0, hF⟩ := ob hF
     refine o_appPn (ys := ([a0.B] : List Int)) (LX := LX8) D0 hS el_int h9 rfl enc_len_int (enc_ones_int _) (by decide) ?_
     clear hS; intro v16 J0 w h18 hS
     refine oy hS y_assign <| n_thenN <| c_seq <| c_region <| oy hS y_move <| oy hS y_assign <| n_thenN ?_
     obtain rfl := osi hF
     refine wp_ret (r_ret (vs := [v16]) (hS.re (.t .h .n)) (rsC res_tmp rsN) rfl ⟨_, _, rfl, (by first | rfl | simp only [aa, ac, al, an]), h18⟩)
   replace hF := bf c12 hF
   refine wp_skip <| c_seq <| c_region <| oy hS y_move <| oy hS y_assign <| n_thenN ?_
   obtain rfl := osi hF
   refine wp_ret (r_ret (vs := [v7]) (hS.re (.t .h .n)) (rsC res_tmp rsN) rfl ⟨_, _, rfl, (by first | rfl | simp only [aa, ac, al, an]), h9⟩)
 replace hF := bf c2 hF
 refine wp_skip ?_
 iterate 2 (refine c_seq ?_)
 refine c_region <| oy hS y_move ?_
 refine o_callS hS func66 rfl rfl (hc := (w_isa_HasB (a0 := (isa_Shape a0.Op)))) (h := ?_)
 clear hS; intro w hS
 refine n_thenN ?_
 refine c_if (ht := fun c21 => ?_) (hf := fun c21 => ?_)
 · replace hF := bt c21 hF
   refine c_region <| oy hS y_move <| oy hS (y_field fa_api_Ins_3) <| oy hS (y_load oH underlying3 rfl rfl) ?_
   refine o_buildT val_int ([a0.B] : List Int) hS el_int (fun _ => rfl) enc_len_int (by decide) rfl (by decide) (hp := rfl) (h := ?_)
   clear hS; intro b22 w hS h23
   have hS : St W g [] ([(b22, blk (([a0.B] : List Int).flatMap enc_int) 3)] ++ ((b1, blk (enc_Ins a0) 27) :: [])) w := hS
   obtain ⟨K0, E0, hF⟩ := ob hF
   refine o_appPn (ys := ([a0.B] : List Int)) (LX := []) E0 hS el_int (OwT.nil _ _ _) rfl enc_len_int (enc_ones_int _) (by decide) ?_
   clear hS; intro v26 N0 w h28 hS
   refine oy hS y_assign <| n_thenN <| c_seq <| c_region <| oy hS y_move <| oy hS y_assign <| n_thenN ?_
   obtain rfl := osi hF
   refine wp_ret (r_ret (vs := [v26]) (hS.re (.t .h .n)) (rsC res_tmp rsN) rfl ⟨_, _, rfl, (by first | rfl | simp only [aa, ac, al, an]), h28⟩)
 replace hF := bf c21 hF
 refine wp_skip <| c_seq <| c_region <| oy hS y_move <| oy hS y_assign <| n_thenN ?_
 obtain rfl := osi hF
 refine wp_ret (r_ret (vs := [(.slice none 0 0)]) (hS.re (.n)) (rsC res_tmp rsN) rfl ⟨_, _, rfl, (by first | rfl | simp only [aa, ac, al, an]), (OwT.nil _ _ _)⟩)
theorem w_isa_Read {g : Frag} {a0 : T_Ins} {r : (List Int)}  (hF : isa_Read a0 = some r) : LC Tryd.prog 56 #[.agg (enc_Ins a0).toArray] g [] (fun v L => ∃ (u0 : Value) (M0 : Own), u0 = v ∧ L = (M0 ++ []) ∧ OwT 3 enc_int 1 r u0 M0) := w_isa_Read_  hF

noncomputable def isa_Reads (a0 : T_Ins) : Option ((List Int) × Int) :=
  (isa_IsIns a0).bind fun r2 => bif !r2 then some ([], 1) else (isa_Read a0).bind fun r5 => some (r5, 0)
theorem w_isa_Reads_ {g : Frag} {a0 : T_Ins} {r : ((List Int) × Int)}  (hF : isa_Reads a0 = some r) : LC Tryd.prog 16 #[.agg (enc_Ins a0).toArray] g [] (fun v L => ∃ (u0 : Value) (M0 : Own), v = .tuple #[u0, .int .i64 r.2] ∧ L = (M0 ++ []) ∧ OwT 3 enc_int 1 r.1 u0 M0) := by
 unfold isa_Reads at hF
 refine lc_body (k := 9) (av := [.agg (enc_Ins a0).toArray]) func16 rfl rfl (h := fun W hS => ?_)
 refine c_seq <| c_region ?_
 refine o_boxP (cl := (enc_Ins a0)) rfl hS ?_
 clear hS; intro b1 w hS
 iterate 2 (refine oy hS y_assign ?_)
 refine n_thenN ?_
 iterate 2 (refine c_seq ?_)
 refine c_region ?_
 refine oy hS (y_loadW oH underlying27 rfl (by exact sz_api_Ins)) ?_
 obtain ⟨r2, hr2, hF⟩ := ob hF
 refine o_callS hS func41 rfl rfl (hc := (w_isa_IsIns (a0 := a0) (hF := hr2))) (h := ?_)
 clear hS; intro w hS
 refine oy hS y_not <| n_thenN ?_
 refine c_if (ht := fun c3 => ?_) (hf := fun c3 => ?_)
 · replace hF := bt c3 hF
   refine c_seq <| c_region ?_
   iterate 2 (refine oy hS y_assign ?_)
   refine n_thenN ?_
   obtain rfl := osi hF
   refine wp_ret (r_ret (vs := [(.slice none 0 0), .int .i64 1]) (hS.re (.n)) (rsC res_tmp (rsC res_tmp rsN)) rfl ⟨_, _, rfl, (by first | rfl | simp only [aa, ac, al, an]), (OwT.nil _ _ _)⟩)
 replace hF := bf c3 hF
 refine wp_skip <| c_seq <| c_region ?_
 refine oy hS (y_loadW oH underlying27 rfl (by exact sz_api_Ins)) ?_
 obtain ⟨r5, hr5, hF⟩ := ob hF
 refine o_call0 hS func56 rfl rfl (hc := (w_isa_Read (a0 := a0) (hF := hr5))) (h := ?_)
 clear hS; intro v6 LY7 w hS hr8
 obtain ⟨v_0_9, LX_0_10, rfl, rfl, h_0_11⟩ := hr8
 simp only [aa, ac, al] at hS
 iterate 2 (refine oy hS y_assign ?_)
 refine n_thenN ?_
 obtain rfl := osi hF
 refine wp_ret (r_ret (vs := [v_0_9, .int .i64 0]) (hS.re (.t .h .n)) (rsC res_tmp (rsC res_tmp rsN)) rfl ⟨_, _, rfl, (by first | rfl | simp only [aa, ac, al, an]), h_0_11⟩)
theorem w_isa_Reads {g : Frag} {a0 : T_Ins} {r : ((List Int) × Int)}  (hF : isa_Reads a0 = some r) : LC Tryd.prog 16 #[.agg (enc_Ins a0).toArray] g [] (fun v L => ∃ (u0 : Value) (M0 : Own), v = .tuple #[u0, .int .i64 r.2] ∧ L = (M0 ++ []) ∧ OwT 3 enc_int 1 r.1 u0 M0) := w_isa_Reads_  hF

noncomputable def isa_Writes (a0 : T_Ins) : Option (Int × Int) :=
  (isa_IsIns a0).bind fun r2 => bif !r2 then some (0, 1) else bif !(isa_HasD (isa_Shape a0.Op)) then some (0, 9) else some (a0.D, 0)
theorem w_isa_Writes_ {g : Frag} {a0 : T_Ins} {r : (Int × Int)}  (hF : isa_Writes a0 = some r) : LCs Tryd.prog 17 #[.agg (enc_Ins a0).toArray] g (.tuple #[.int .i64 r.1, .int .i64 r.2]) := by
 unfold isa_Writes at hF
 refine lc_body (k := 16) (av := [.agg (enc_Ins a0).toArray]) func17 rfl rfl (h := fun W hS => ?_)
 refine c_seq <| c_region ?_
 refine o_boxP (cl := (enc_Ins a0)) rfl hS ?_
 clear hS; intro b1 w hS
 iterate 2 (refine oy hS y_assign ?_)
 refine n_thenN <| c_seq <| c_block <| c_seq <| c_region ?_
 refine oy hS (y_loadW oH underlying27 rfl (by exact sz_api_Ins)) ?_
 obtain ⟨r2, hr2, hF⟩ := ob hF
 refine o_callS hS func41 rfl rfl (hc := (w_isa_IsIns (a0 := a0) (hF := hr2))) (h := ?_)
 clear hS; intro w hS
 refine oy hS y_not <| oy hS y_assign <| n_thenN ?_
 refine c_if (ht := fun c3 => ?_) (hf := fun c3 => ?_)
 · replace hF := bt c3 hF
   refine c_seq <| c_region ?_
   iterate 2 (refine oy hS y_assign ?_)
   refine n_thenN ?_
   obtain rfl := osi hF
   exact wp_ret (wr2 hS)
 replace hF := bf c3 hF
 refine c_seq <| c_region <| oy hS (y_field fa_api_Ins_0) <| oy hS (y_load oH underlying3 rfl rfl) ?_
 refine o_callS hS func47 rfl rfl (hc := (w_isa_Shape (a0 := a0.Op))) (h := ?_)
 clear hS; intro w hS
 refine o_callS hS func50 rfl rfl (hc := (w_isa_HasD (a0 := (isa_Shape a0.Op)))) (h := ?_)
 clear hS; intro w hS
 refine oy hS y_not <| oy hS y_assign <| n_thenN ?_
 refine c_if (ht := fun c4 => ?_) (hf := fun c4 => ?_)
 · replace hF := bt c4 hF
   refine c_seq <| c_region ?_
   iterate 2 (refine oy hS y_assign ?_)
   refine n_thenN ?_
   obtain rfl := osi hF
   exact wp_ret (wr2 hS)
 replace hF := bf c4 hF
 refine wp_skip <| c_seq <| c_region <| oy hS (y_field fa_api_Ins_1) <| oy hS (y_load oH underlying3 rfl rfl) ?_
 iterate 2 (refine oy hS y_assign ?_)
 refine n_thenN ?_
 obtain rfl := osi hF
 exact wp_ret (wr2 hS)
theorem w_isa_Writes {g : Frag} {a0 : T_Ins} {r : (Int × Int)}  (hF : isa_Writes a0 = some r) : LCs Tryd.prog 17 #[.agg (enc_Ins a0).toArray] g (.tuple #[.int .i64 r.1, .int .i64 r.2]) := w_isa_Writes_  hF

noncomputable def r3_register (a0 : Int) : Option ByteArray :=
  (strconv_Itoa a0).bind fun r1 => (cat' (ByteArray.mk #[114]) r1).bind fun x2 => some (x2)
theorem w_r3_register_ {g : Frag} {a0 : Int} {r : ByteArray} (hG : GT g) (hF : r3_register a0 = some r) : LCs Tryd.prog 57 #[.int .i64 a0] g (.string r) := by
 unfold r3_register at hF
 refine lc_body (k := 6) (av := [.int .i64 a0]) func57 rfl rfl (h := fun W hS => ?_)
 refine c_seq <| c_region <| oy hS y_assign <| n_thenN <| c_seq <| c_region <| oy hS y_move ?_
 obtain ⟨r1, hr1, hF⟩ := ob hF
 refine o_callS hS func49 rfl rfl (hc := (w_strconv_Itoa (a0 := a0) (hG := hG.plus) (hF := hr1))) (h := ?_)
 clear hS; intro w hS
 obtain ⟨x2, hx2, hF⟩ := ob hF
 refine oy hS (y_cat hx2) <| oy hS y_assign <| n_thenN ?_
 obtain rfl := osi hF
 exact wp_ret (wr1 hS)
theorem w_r3_register {g : Frag} {a0 : Int} {r : ByteArray} (hG : GT g) (hF : r3_register a0 = some r) : LCs Tryd.prog 57 #[.int .i64 a0] g (.string r) := w_r3_register_ hG hF

def r3_Names  : (List ByteArray) :=
  ([(ByteArray.mk #[110, 111, 112]), (ByteArray.mk #[97, 100, 100]), (ByteArray.mk #[115, 117, 98]), (ByteArray.mk #[97, 110, 100]), (ByteArray.mk #[111, 114]), (ByteArray.mk #[120, 111, 114]), (ByteArray.mk #[115, 104, 108]), (ByteArray.mk #[115, 104, 114]), (ByteArray.mk #[115, 97, 114]), (ByteArray.mk #[115, 108, 116]), (ByteArray.mk #[115, 108, 116, 117]), (ByteArray.mk #[101, 113]), (ByteArray.mk #[109, 105, 110]), (ByteArray.mk #[109, 97, 120]), (ByteArray.mk #[109, 117, 108]), (ByteArray.mk #[109, 117, 108, 104]), (ByteArray.mk #[100, 105, 118]), (ByteArray.mk #[114, 101, 109]), (ByteArray.mk #[99, 97, 100, 100]), (ByteArray.mk #[99, 115, 117, 98]), (ByteArray.mk #[99, 109, 117, 108]), (ByteArray.mk #[99, 111, 110, 106]), (ByteArray.mk #[97, 100, 100, 105]), (ByteArray.mk #[108, 105]), (ByteArray.mk #[108, 100]), (ByteArray.mk #[115, 116]), (ByteArray.mk #[105, 110]), (ByteArray.mk #[111, 117, 116]), (ByteArray.mk #[106, 109, 112]), (ByteArray.mk #[98, 122]), (ByteArray.mk #[98, 110, 122]), (ByteArray.mk #[99, 97, 108, 108]), (ByteArray.mk #[114, 101, 116]), (ByteArray.mk #[104, 97, 108, 116])] : List ByteArray)
theorem w_r3_Names_ {g : Frag}  {r : (List ByteArray)}  (hF : r3_Names = r) : LC Tryd.prog 27 #[] g [] (fun v L => ∃ (u0 : Value) (M0 : Own), u0 = v ∧ L = (M0 ++ []) ∧ OwT 9 enc_string 1 r u0 M0) := by
 unfold r3_Names at hF
 refine lc_body (k := 2) (av := []) func27 rfl rfl (h := fun W hS => ?_)
 refine c_seq <| c_region <| oy hS y_assign <| n_thenN <| c_seq <| c_region ?_
 refine o_buildT val_string ([(ByteArray.mk #[110, 111, 112]), (ByteArray.mk #[97, 100, 100]), (ByteArray.mk #[115, 117, 98]), (ByteArray.mk #[97, 110, 100]), (ByteArray.mk #[111, 114]), (ByteArray.mk #[120, 111, 114]), (ByteArray.mk #[115, 104, 108]), (ByteArray.mk #[115, 104, 114]), (ByteArray.mk #[115, 97, 114]), (ByteArray.mk #[115, 108, 116]), (ByteArray.mk #[115, 108, 116, 117]), (ByteArray.mk #[101, 113]), (ByteArray.mk #[109, 105, 110]), (ByteArray.mk #[109, 97, 120]), (ByteArray.mk #[109, 117, 108]), (ByteArray.mk #[109, 117, 108, 104]), (ByteArray.mk #[100, 105, 118]), (ByteArray.mk #[114, 101, 109]), (ByteArray.mk #[99, 97, 100, 100]), (ByteArray.mk #[99, 115, 117, 98]), (ByteArray.mk #[99, 109, 117, 108]), (ByteArray.mk #[99, 111, 110, 106]), (ByteArray.mk #[97, 100, 100, 105]), (ByteArray.mk #[108, 105]), (ByteArray.mk #[108, 100]), (ByteArray.mk #[115, 116]), (ByteArray.mk #[105, 110]), (ByteArray.mk #[111, 117, 116]), (ByteArray.mk #[106, 109, 112]), (ByteArray.mk #[98, 122]), (ByteArray.mk #[98, 110, 122]), (ByteArray.mk #[99, 97, 108, 108]), (ByteArray.mk #[114, 101, 116]), (ByteArray.mk #[104, 97, 108, 116])] : List ByteArray) hS el_string (fun _ => rfl) enc_len_string (by decide) rfl (by decide) (hp := rfl) (h := ?_)
 clear hS; intro b1 w hS h2
 have hS : St W g [] ([(b1, blk (([(ByteArray.mk #[110, 111, 112]), (ByteArray.mk #[97, 100, 100]), (ByteArray.mk #[115, 117, 98]), (ByteArray.mk #[97, 110, 100]), (ByteArray.mk #[111, 114]), (ByteArray.mk #[120, 111, 114]), (ByteArray.mk #[115, 104, 108]), (ByteArray.mk #[115, 104, 114]), (ByteArray.mk #[115, 97, 114]), (ByteArray.mk #[115, 108, 116]), (ByteArray.mk #[115, 108, 116, 117]), (ByteArray.mk #[101, 113]), (ByteArray.mk #[109, 105, 110]), (ByteArray.mk #[109, 97, 120]), (ByteArray.mk #[109, 117, 108]), (ByteArray.mk #[109, 117, 108, 104]), (ByteArray.mk #[100, 105, 118]), (ByteArray.mk #[114, 101, 109]), (ByteArray.mk #[99, 97, 100, 100]), (ByteArray.mk #[99, 115, 117, 98]), (ByteArray.mk #[99, 109, 117, 108]), (ByteArray.mk #[99, 111, 110, 106]), (ByteArray.mk #[97, 100, 100, 105]), (ByteArray.mk #[108, 105]), (ByteArray.mk #[108, 100]), (ByteArray.mk #[115, 116]), (ByteArray.mk #[105, 110]), (ByteArray.mk #[111, 117, 116]), (ByteArray.mk #[106, 109, 112]), (ByteArray.mk #[98, 122]), (ByteArray.mk #[98, 110, 122]), (ByteArray.mk #[99, 97, 108, 108]), (ByteArray.mk #[114, 101, 116]), (ByteArray.mk #[104, 97, 108, 116])] : List ByteArray).flatMap enc_string) 9)] ++ []) w := hS
 refine oy hS y_assign <| n_thenN ?_
 subst hF
 refine wp_ret (r_ret (vs := [(.slice (some ⟨b1, 0, none⟩) 34 34)]) (hS.re (.t .h .n)) (rsC res_tmp rsN) rfl ⟨_, _, rfl, (by first | rfl | simp only [aa, ac, al, an]), h2⟩)
theorem w_r3_Names {g : Frag}   : LC Tryd.prog 27 #[] g [] (fun v L => ∃ (u0 : Value) (M0 : Own), u0 = v ∧ L = (M0 ++ []) ∧ OwT 9 enc_string 1 (r3_Names) u0 M0) := w_r3_Names_  rfl

def isa_Effect (a0 : Int) : Bool :=
  bif decide (a0 = 16) then true else bif decide (a0 = 17) then true else bif decide (a0 = 24) then true else bif decide (a0 = 25) then true else bif decide (a0 = 26) then true else bif decide (a0 = 27) then true else bif decide (a0 = 31) then true else bif decide (a0 = 32) then true else bif decide (a0 = 33) then true else false
theorem w_isa_Effect_ {g : Frag} {a0 : Int} {r : Bool}  (hF : isa_Effect a0 = r) : LCs Tryd.prog 33 #[.int .i64 a0] g (.bool r) := by
 unfold isa_Effect at hF
 refine lc_body (k := 14) (av := [.int .i64 a0]) func33 rfl rfl (h := fun W hS => ?_)
 refine c_seq <| c_region <| oy hS y_assign <| n_thenN ?_
 iterate 2 (refine c_seq ?_)
 refine c_region <| oy hS y_move <| n_thenN <| c_block ?_
 iterate 2 (refine c_seq ?_)
 refine c_region <| oy hS y_bin <| oy hS y_assign <| n_thenN ?_
 refine c_if (ht := fun c1 => ?_) (hf := fun c1 => ?_)
 · replace hF := bt c1 hF
   refine wp_skip ?_
   refine c_ifT c1 ?_
   refine c_seq <| c_region <| oy hS y_assign <| n_thenN ?_
   subst hF
   exact wp_ret (wr1 hS)
 replace hF := bf c1 hF
 refine c_seq <| c_region <| oy hS y_bin <| oy hS y_assign <| n_thenN ?_
 refine c_if (ht := fun c2 => ?_) (hf := fun c2 => ?_)
 · replace hF := bt c2 hF
   refine wp_skip ?_
   refine c_ifT c2 ?_
   refine c_seq <| c_region <| oy hS y_assign <| n_thenN ?_
   subst hF
   exact wp_ret (wr1 hS)
 replace hF := bf c2 hF
 refine c_seq <| c_region <| oy hS y_bin <| oy hS y_assign <| n_thenN ?_
 refine c_if (ht := fun c3 => ?_) (hf := fun c3 => ?_)
 · replace hF := bt c3 hF
   refine wp_skip ?_
   refine c_ifT c3 ?_
   refine c_seq <| c_region <| oy hS y_assign <| n_thenN ?_
   subst hF
   exact wp_ret (wr1 hS)
 replace hF := bf c3 hF
 refine c_seq <| c_region <| oy hS y_bin <| oy hS y_assign <| n_thenN ?_
 refine c_if (ht := fun c4 => ?_) (hf := fun c4 => ?_)
 · replace hF := bt c4 hF
   refine wp_skip ?_
   refine c_ifT c4 ?_
   refine c_seq <| c_region <| oy hS y_assign <| n_thenN ?_
   subst hF
   exact wp_ret (wr1 hS)
 replace hF := bf c4 hF
 refine c_seq <| c_region <| oy hS y_bin <| oy hS y_assign <| n_thenN ?_
 refine c_if (ht := fun c5 => ?_) (hf := fun c5 => ?_)
 · replace hF := bt c5 hF
   refine wp_skip ?_
   refine c_ifT c5 ?_
   refine c_seq <| c_region <| oy hS y_assign <| n_thenN ?_
   subst hF
   exact wp_ret (wr1 hS)
 replace hF := bf c5 hF
 refine c_seq <| c_region <| oy hS y_bin <| oy hS y_assign <| n_thenN ?_
 refine c_if (ht := fun c6 => ?_) (hf := fun c6 => ?_)
 · replace hF := bt c6 hF
   refine wp_skip ?_
   refine c_ifT c6 ?_
   refine c_seq <| c_region <| oy hS y_assign <| n_thenN ?_
   subst hF
   exact wp_ret (wr1 hS)
 replace hF := bf c6 hF
 refine c_seq <| c_region <| oy hS y_bin <| oy hS y_assign <| n_thenN ?_
 refine c_if (ht := fun c7 => ?_) (hf := fun c7 => ?_)
 · replace hF := bt c7 hF
   refine wp_skip ?_
   refine c_ifT c7 ?_
   refine c_seq <| c_region <| oy hS y_assign <| n_thenN ?_
   subst hF
   exact wp_ret (wr1 hS)
 replace hF := bf c7 hF
 refine c_seq <| c_region <| oy hS y_bin <| oy hS y_assign <| n_thenN ?_
 refine c_if (ht := fun c8 => ?_) (hf := fun c8 => ?_)
 · replace hF := bt c8 hF
   refine wp_skip ?_
   refine c_ifT c8 ?_
   refine c_seq <| c_region <| oy hS y_assign <| n_thenN ?_
   subst hF
   exact wp_ret (wr1 hS)
 replace hF := bf c8 hF
 refine c_region <| oy hS y_bin <| oy hS y_assign <| n_thenN ?_
 refine c_if (ht := fun c9 => ?_) (hf := fun c9 => ?_)
 · replace hF := bt c9 hF
   refine c_seq <| c_region <| oy hS y_assign <| n_thenN ?_
   subst hF
   exact wp_ret (wr1 hS)
 replace hF := bf c9 hF
 refine wp_skip <| c_seq <| c_region <| oy hS y_assign <| n_thenN ?_
 subst hF
 exact wp_ret (wr1 hS)
theorem w_isa_Effect {g : Frag} {a0 : Int}  : LCs Tryd.prog 33 #[.int .i64 a0] g (.bool (isa_Effect a0)) := w_isa_Effect_  rfl

def r3_Effect (a0 : Int) : Bool :=
  bif decide (a0 = 16) then true else bif decide (a0 = 17) then true else bif (r0_Between a0 24 27) then true else (r0_Between a0 31 33)
theorem w_r3_Effect_ {g : Frag} {a0 : Int} {r : Bool}  (hF : r3_Effect a0 = r) : LCs Tryd.prog 34 #[.int .i64 a0] g (.bool r) := by
 unfold r3_Effect at hF
 refine lc_body (k := 17) (av := [.int .i64 a0]) func34 rfl rfl (h := fun W hS => ?_)
 refine c_seq <| c_region <| oy hS y_assign <| n_thenN <| c_seq <| c_region <| oy hS y_move <| oy hS y_bin ?_
 refine o_split (ht := fun c1 => ?_) (hf := fun c1 => ?_)
 · replace hF := bt c1 hF
   iterate 2 (refine o_sk rfl rfl ?_)
   refine oy hS y_pickT <| oy hS y_move ?_
   iterate 2 (refine o_sk rfl rfl ?_)
   refine oy hS y_pickT <| oy hS y_move ?_
   iterate 2 (refine o_sk rfl rfl ?_)
   refine oy hS y_pickT <| oy hS y_assign <| n_thenN ?_
   subst hF
   exact wp_ret (wr1 hS)
 replace hF := bf c1 hF
 refine o_gu rfl rfl rfl <| oy hS y_move <| o_gu rfl rfl rfl <| oy hS y_bin <| oy hS y_pickF ?_
 refine o_split (ht := fun c2 => ?_) (hf := fun c2 => ?_)
 · replace hF := bt c2 hF
   iterate 2 (refine o_sk rfl rfl ?_)
   refine oy hS y_pickT <| oy hS y_move ?_
   iterate 2 (refine o_sk rfl rfl ?_)
   refine oy hS y_pickT <| oy hS y_assign <| n_thenN ?_
   subst hF
   exact wp_ret (wr1 hS)
 replace hF := bf c2 hF
 refine o_gu rfl rfl rfl <| oy hS y_move <| o_gu rfl rfl rfl ?_
 refine o_callS hS func40 rfl rfl (hc := (w_r0_Between (a0 := a0) (a1 := 24) (a2 := 27))) (h := ?_)
 clear hS; intro w hS
 refine oy hS y_pickF ?_
 refine o_split (ht := fun c3 => ?_) (hf := fun c3 => ?_)
 · replace hF := bt c3 hF
   iterate 2 (refine o_sk rfl rfl ?_)
   refine oy hS y_pickT <| oy hS y_assign <| n_thenN ?_
   subst hF
   exact wp_ret (wr1 hS)
 replace hF := bf c3 hF
 refine o_gu rfl rfl rfl <| oy hS y_move <| o_gu rfl rfl rfl ?_
 refine o_callS hS func40 rfl rfl (hc := (w_r0_Between (a0 := a0) (a1 := 31) (a2 := 33))) (h := ?_)
 clear hS; intro w hS
 refine oy hS y_pickF <| oy hS y_assign <| n_thenN ?_
 subst hF
 exact wp_ret (wr1 hS)
theorem w_r3_Effect {g : Frag} {a0 : Int}  : LCs Tryd.prog 34 #[.int .i64 a0] g (.bool (r3_Effect a0)) := w_r3_Effect_  rfl

noncomputable def r0_In_b1 (a0 : (List Int)) (a1 : Int) : Int → Option (Step Int Int) := fun x15 => bif decide (x15 < (a0.length : Int)) then (at' a0 x15).bind fun x35 => bif decide (x35 = a1) then some (.done (x15)) else some (.next (IntKind.i64.wrap (x15 + 1))) else some (.done ((-1)))
noncomputable def r0_In (a0 : (List Int)) (a1 : Int) : Option Int :=
  loop (σ := Int) (r0_In_b1 a0 a1) 0
theorem w_r0_In_ {g : Frag} {a0 : (List Int)} {v0_ : Value} {a1 : Int} {r : Int} (h0 : SlT g enc_int 1 a0 v0_) (hF : r0_In a0 a1 = some r) : LCs Tryd.prog 63 #[v0_, .int .i64 a1] g (.int .i64 r) := by
 unfold r0_In at hF
 refine lc_body (k := 19) (av := [v0_, .int .i64 a1]) func63 rfl rfl (h := fun W hS => ?_)
 refine c_seq <| c_region <| oy hS y_assign <| n_thenN ?_
 iterate 2 (refine c_seq ?_)
 refine c_region <| oy hS y_assign <| n_thenN <| c_block ?_
 refine c_loopP hF (fun (q : Int) a w' => (∃ s : Nat → Value, a = Ac ((((Fm.dead 19 s).upd 0 v0_).upd 1 (.int .i64 a1)).upd 5 (.int .i64 q))) ∧ St W g [] [] w') ⟨mk_exF, (hS.re (.n))⟩ ?_
 clear hS hF
 intro n32 q a w hI hq
 revert hq hI; revert q; intro x15 hI hq
 obtain ⟨⟨s33, rfl⟩, hS⟩ := hq
 obtain ⟨z30, hF, B0⟩ := iter_step hI
 clear hI
 dsimp only [r0_In_b1] at hF
 iterate 2 (refine c_seq ?_)
 refine c_region ?_
 iterate 2 (refine oy hS y_move ?_)
 refine oy hS (y_len h0 underlying30) <| oy hS y_bin <| n_thenN ?_
 refine c_if (ht := fun c34 => ?_) (hf := fun c34 => ?_)
 · replace hF := bt c34 hF
   refine wp_skip <| c_seq <| c_block <| c_seq <| c_region ?_
   iterate 2 (refine oy hS y_move ?_)
   obtain ⟨x35, D0, hF⟩ := ob hF
   obtain ⟨b36, o37, c38, M0, e40, N0, E0, G0, I0, J0, K0⟩ := SlT.at D0 h0 enc_len_int
   refine oy hS (y_index E0 G0 I0 underlying30 el_int.size) <| oy hS (y_load (fun w hS => hS.block J0) underlying3 rfl (K0 0 _ rfl)) <| oy hS y_move <| oy hS y_bin <| n_thenN ?_
   refine c_if (ht := fun c47 => ?_) (hf := fun c47 => ?_)
   · replace hF := bt c47 hF
     refine c_seq <| c_region <| oy hS y_move <| oy hS y_assign <| n_thenN ?_
     obtain rfl := osi hF
     obtain rfl : _ = r := B0
     exact wp_ret (wr1 hS)
   replace hF := bf c47 hF
   refine wp_skip <| c_region <| oy hS y_move <| oy hS y_bin <| oy hS y_assign <| n_thenN ?_
   obtain rfl := osi hF
   exact ⟨_, B0, mk_exF, (hS.re (.n))⟩
 replace hF := bf c34 hF
 refine wp_exit ?_
 refine c_seq <| c_region <| oy hS y_assign <| n_thenN ?_
 obtain rfl := osi hF
 obtain rfl : _ = r := B0
 exact wp_ret (wr1 hS)
theorem w_r0_In {g : Frag} {a0 : (List Int)} {v0_ : Value} {a1 : Int} {r : Int} (h0 : SlT g enc_int 1 a0 v0_) (hF : r0_In a0 a1 = some r) : LCs Tryd.prog 63 #[v0_, .int .i64 a1] g (.int .i64 r) := w_r0_In_ h0 hF
end Go.Proofs.YtaplgcdpppcajaaDoor
