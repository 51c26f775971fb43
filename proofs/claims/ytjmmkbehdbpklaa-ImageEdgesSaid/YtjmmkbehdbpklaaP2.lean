/- Functions, lifted. Printed by lift.py. -/
import Derived.Test.YtjmmkbehdbpklaaProg
import Derived.Test.YtjmmkbehdbpklaaP1
import Derived.KernelRfl
namespace Go.Proofs.Ytjmmkbehdbpklaa
open Go Go.RowKit Fr
set_option linter.unusedVariables false
set_option linter.unusedSimpArgs false
set_option maxRecDepth 20000
open Try
set_option maxHeartbeats 2000000
noncomputable def r3_Name_b2 (a0 : ByteArray) : Int → Option (Step Int Bool) := fun x38 => bif decide (x38 < (a0.size : Int)) then (byte' a0 x38).bind fun x66 => bif decide (97 ≤ x66) then (byte' a0 x38).bind fun x68 => bif decide (x68 ≤ 122) then bif !true then some (.done (false)) else some (.next (IntKind.i64.wrap (x38 + 1))) else (byte' a0 x38).bind fun x71 => bif decide (x71 = 95) then bif !true then some (.done (false)) else some (.next (IntKind.i64.wrap (x38 + 1))) else (byte' a0 x38).bind fun x74 => bif decide (48 ≤ x74) then (byte' a0 x38).bind fun x76 => bif !(decide (x76 ≤ 57)) then some (.done (false)) else some (.next (IntKind.i64.wrap (x38 + 1))) else bif !false then some (.done (false)) else some (.next (IntKind.i64.wrap (x38 + 1))) else (byte' a0 x38).bind fun x79 => bif decide (x79 = 95) then bif !true then some (.done (false)) else some (.next (IntKind.i64.wrap (x38 + 1))) else (byte' a0 x38).bind fun x82 => bif decide (48 ≤ x82) then (byte' a0 x38).bind fun x84 => bif !(decide (x84 ≤ 57)) then some (.done (false)) else some (.next (IntKind.i64.wrap (x38 + 1))) else bif !false then some (.done (false)) else some (.next (IntKind.i64.wrap (x38 + 1))) else some (.done (true))
noncomputable def r3_Name_k1 (a0 : ByteArray) : Unit → Option Bool := fun _ => loop (σ := Int) (r3_Name_b2 a0) 0
noncomputable def r3_Name (a0 : ByteArray) : Option Bool :=
  cut (σ := Unit) (bif decide ((a0.size : Int) = 0) then some (.done (false)) else bif decide (12 < (a0.size : Int)) then some (.done (false)) else (byte' a0 0).bind fun x11 => bif decide (48 ≤ x11) then (byte' a0 0).bind fun x13 => bif decide (x13 ≤ 57) then some (.done (false)) else some (.next ()) else some (.next ())) (r3_Name_k1 a0)
theorem w_r3_Name_ {g : Frag} {a0 : ByteArray} {r : Bool}  (hF : r3_Name a0 = some r) : LCs Try.prog 74 #[.string a0] g (.bool r) := by
 unfold r3_Name at hF
 refine lc_body (k := 57) (av := [.string a0]) func74 rfl rfl (h := fun W hS => ?_)
 refine c_seq <| c_region <| oy hS y_assign <| n_thenN ?_
 obtain ⟨z7, hF, hK8⟩ := cut_step hF
 refine c_cutP (fun a w' => r3_Name_k1 a0 () = some r ∧ (∃ s : Nat → Value, a = Ac ((Fm.dead 57 s).upd 0 (.string a0))) ∧ St W g [] [] w') ?_ ?_
 · skip
   refine c_seq <| c_region <| oy hS y_move <| oy hS (y_lens underlying9) <| oy hS y_bin ?_
   refine o_split (ht := fun c9 => ?_) (hf := fun c9 => ?_)
   · replace hF := bt c9 hF
     iterate 3 (refine o_sk rfl rfl ?_)
     refine oy hS y_pickT <| oy hS y_move ?_
     iterate 4 (refine o_sk rfl rfl ?_)
     iterate 3 (refine o_sku rfl rfl ?_)
     refine o_sk rfl rfl ?_
     refine oy hS y_pickT <| n_thenN ?_
     refine c_if_true (h := ?_)
     refine c_seq <| c_region <| oy hS y_assign <| n_thenN ?_
     obtain rfl := osi hF
     obtain rfl : _ = r := hK8
     exact wp_ret (wr1 hS)
   replace hF := bf c9 hF
   refine o_gu rfl rfl rfl <| oy hS y_move <| o_gu rfl rfl rfl <| oy hS (y_lens underlying9) <| o_gu rfl rfl rfl <| oy hS y_bin <| oy hS y_pickF ?_
   refine o_split (ht := fun c10 => ?_) (hf := fun c10 => ?_)
   · replace hF := bt c10 hF
     iterate 4 (refine o_sk rfl rfl ?_)
     iterate 3 (refine o_sku rfl rfl ?_)
     refine o_sk rfl rfl ?_
     refine oy hS y_pickT <| n_thenN ?_
     refine c_if_true (h := ?_)
     refine c_seq <| c_region <| oy hS y_assign <| n_thenN ?_
     obtain rfl := osi hF
     obtain rfl : _ = r := hK8
     exact wp_ret (wr1 hS)
   replace hF := bf c10 hF
   refine o_gu rfl rfl rfl <| oy hS y_move <| o_gu rfl rfl rfl ?_
   obtain ⟨x11, D0, hF⟩ := ob hF
   refine oy hS (y_byte D0 underlying9) <| o_gu rfl rfl rfl <| oy hS y_bin <| o_gu rfl rfl rfl ?_
   refine o_split (ht := fun c12 => ?_) (hf := fun c12 => ?_)
   · replace hF := bt c12 hF
     refine o_gu rfl rfl rfl <| oy hS y_move <| o_gu rfl rfl rfl ?_
     obtain ⟨x13, E0, hF⟩ := ob hF
     refine oy hS (y_byte E0 underlying9) <| o_gu rfl rfl rfl <| oy hS y_bin <| o_gu rfl rfl rfl <| oy hS y_pickT <| oy hS y_pickF <| n_thenN ?_
     refine c_if (ht := fun c14 => ?_) (hf := fun c14 => ?_)
     · replace hF := bt c14 hF
       refine c_seq <| c_region <| oy hS y_assign <| n_thenN ?_
       obtain rfl := osi hF
       obtain rfl : _ = r := hK8
       exact wp_ret (wr1 hS)
     replace hF := bf c14 hF
     refine wp_skip ?_
     obtain rfl := osi hF
     change _ ∧ _
     exact ⟨hK8, mk_exF, (hS.re (.n))⟩
   replace hF := bf c12 hF
   iterate 3 (refine o_sk rfl rfl ?_)
   refine o_gu rfl rfl rfl ?_
   iterate 2 (refine oy hS y_pickF ?_)
   refine n_thenN ?_
   refine c_if_false (h := ?_)
   refine wp_skip ?_
   obtain rfl := osi hF
   change _ ∧ _
   exact ⟨hK8, mk_exF, (hS.re (.n))⟩
 rintro a w ⟨hF, ⟨s15, rfl⟩, hS⟩
 dsimp only [r3_Name_k1] at hF
 iterate 2 (refine c_seq ?_)
 refine c_region <| oy hS y_assign <| n_thenN <| c_block ?_
 refine c_loopP hF (fun (q : Int) a w' => (∃ s : Nat → Value, a = Ac (((Fm.dead 57 s).upd 0 (.string a0)).upd 3 (.int .i64 q))) ∧ St W g [] [] w') ⟨mk_exF, (hS.re (.n))⟩ ?_
 clear hS hF
 intro n63 q a w hI hq
 revert hq hI; revert q; intro x38 hI hq
 obtain ⟨⟨s64, rfl⟩, hS⟩ := hq
 obtain ⟨z61, hF, B0⟩ := iter_step hI
 clear hI
 dsimp only [r3_Name_b2] at hF
 iterate 2 (refine c_seq ?_)
 refine c_region ?_
 iterate 2 (refine oy hS y_move ?_)
 refine oy hS (y_lens underlying9) <| oy hS y_bin <| n_thenN ?_
 refine c_if (ht := fun c65 => ?_) (hf := fun c65 => ?_)
 · replace hF := bt c65 hF
   refine wp_skip <| c_seq <| c_block <| c_seq <| c_region ?_
   iterate 2 (refine oy hS y_move ?_)
   obtain ⟨x66, G0, hF⟩ := ob hF
   refine oy hS (y_byte G0 underlying9) <| oy hS y_bin ?_
   refine o_split (ht := fun c67 => ?_) (hf := fun c67 => ?_)
   · replace hF := bt c67 hF
     refine o_gu rfl rfl rfl <| oy hS y_move <| o_gu rfl rfl rfl <| oy hS y_move <| o_gu rfl rfl rfl ?_
     obtain ⟨x68, I0, hF⟩ := ob hF
     refine oy hS (y_byte I0 underlying9) <| o_gu rfl rfl rfl <| oy hS y_bin <| oy hS y_pickT ?_
     refine o_split (ht := fun c69 => ?_) (hf := fun c69 => ?_)
     · replace hF := bt c69 hF
       iterate 4 (refine o_sk rfl rfl ?_)
       refine oy hS y_pickT <| oy hS y_move ?_
       iterate 5 (refine o_sk rfl rfl ?_)
       iterate 4 (refine o_sku rfl rfl ?_)
       refine o_sk rfl rfl ?_
       refine oy hS y_pickT <| oy hS y_not <| n_thenN ?_
       refine c_if (ht := fun c70 => ?_) (hf := fun c70 => ?_)
       · replace hF := bt c70 hF
         refine c_seq <| c_region <| oy hS y_assign <| n_thenN ?_
         obtain rfl := osi hF
         obtain rfl : _ = r := B0
         exact wp_ret (wr1 hS)
       replace hF := bf c70 hF
       refine wp_skip <| c_region <| oy hS y_move <| oy hS y_bin <| oy hS y_assign <| n_thenN ?_
       obtain rfl := osi hF
       exact ⟨_, B0, mk_exF, (hS.re (.n))⟩
     replace hF := bf c69 hF
     refine o_gu rfl rfl rfl <| oy hS y_move <| o_gu rfl rfl rfl <| oy hS y_move <| o_gu rfl rfl rfl ?_
     obtain ⟨x71, J0, hF⟩ := ob hF
     refine oy hS (y_byte J0 underlying9) <| o_gu rfl rfl rfl <| oy hS y_bin <| oy hS y_pickF ?_
     refine o_split (ht := fun c72 => ?_) (hf := fun c72 => ?_)
     · replace hF := bt c72 hF
       iterate 5 (refine o_sk rfl rfl ?_)
       iterate 4 (refine o_sku rfl rfl ?_)
       refine o_sk rfl rfl ?_
       refine oy hS y_pickT <| oy hS y_not <| n_thenN ?_
       refine c_if (ht := fun c73 => ?_) (hf := fun c73 => ?_)
       · replace hF := bt c73 hF
         refine c_seq <| c_region <| oy hS y_assign <| n_thenN ?_
         obtain rfl := osi hF
         obtain rfl : _ = r := B0
         exact wp_ret (wr1 hS)
       replace hF := bf c73 hF
       refine wp_skip <| c_region <| oy hS y_move <| oy hS y_bin <| oy hS y_assign <| n_thenN ?_
       obtain rfl := osi hF
       exact ⟨_, B0, mk_exF, (hS.re (.n))⟩
     replace hF := bf c72 hF
     refine o_gu rfl rfl rfl <| oy hS y_move <| o_gu rfl rfl rfl <| oy hS y_move <| o_gu rfl rfl rfl ?_
     obtain ⟨x74, K0, hF⟩ := ob hF
     refine oy hS (y_byte K0 underlying9) <| o_gu rfl rfl rfl <| oy hS y_bin <| o_gu rfl rfl rfl ?_
     refine o_split (ht := fun c75 => ?_) (hf := fun c75 => ?_)
     · replace hF := bt c75 hF
       refine o_gu rfl rfl rfl <| oy hS y_move <| o_gu rfl rfl rfl <| oy hS y_move <| o_gu rfl rfl rfl ?_
       obtain ⟨x76, M0, hF⟩ := ob hF
       refine oy hS (y_byte M0 underlying9) <| o_gu rfl rfl rfl <| oy hS y_bin <| o_gu rfl rfl rfl <| oy hS y_pickT <| oy hS y_pickF <| oy hS y_not <| n_thenN ?_
       refine c_if (ht := fun c77 => ?_) (hf := fun c77 => ?_)
       · replace hF := bt c77 hF
         refine c_seq <| c_region <| oy hS y_assign <| n_thenN ?_
         obtain rfl := osi hF
         obtain rfl : _ = r := B0
         exact wp_ret (wr1 hS)
       replace hF := bf c77 hF
       refine wp_skip <| c_region <| oy hS y_move <| oy hS y_bin <| oy hS y_assign <| n_thenN ?_
       obtain rfl := osi hF
       exact ⟨_, B0, mk_exF, (hS.re (.n))⟩
     replace hF := bf c75 hF
     iterate 4 (refine o_sk rfl rfl ?_)
     refine o_gu rfl rfl rfl ?_
     iterate 2 (refine oy hS y_pickF ?_)
     refine oy hS y_not <| n_thenN ?_
     refine c_if (ht := fun c78 => ?_) (hf := fun c78 => ?_)
     · replace hF := bt c78 hF
       refine c_seq <| c_region <| oy hS y_assign <| n_thenN ?_
       obtain rfl := osi hF
       obtain rfl : _ = r := B0
       exact wp_ret (wr1 hS)
     replace hF := bf c78 hF
     refine wp_skip <| c_region <| oy hS y_move <| oy hS y_bin <| oy hS y_assign <| n_thenN ?_
     obtain rfl := osi hF
     exact ⟨_, B0, mk_exF, (hS.re (.n))⟩
   replace hF := bf c67 hF
   iterate 4 (refine o_sk rfl rfl ?_)
   refine oy hS y_pickF <| oy hS y_move <| o_gu rfl rfl rfl <| oy hS y_move <| o_gu rfl rfl rfl <| oy hS y_move <| o_gu rfl rfl rfl ?_
   obtain ⟨x79, N0, hF⟩ := ob hF
   refine oy hS (y_byte N0 underlying9) <| o_gu rfl rfl rfl <| oy hS y_bin <| oy hS y_pickF ?_
   refine o_split (ht := fun c80 => ?_) (hf := fun c80 => ?_)
   · replace hF := bt c80 hF
     iterate 5 (refine o_sk rfl rfl ?_)
     iterate 4 (refine o_sku rfl rfl ?_)
     refine o_sk rfl rfl ?_
     refine oy hS y_pickT <| oy hS y_not <| n_thenN ?_
     refine c_if (ht := fun c81 => ?_) (hf := fun c81 => ?_)
     · replace hF := bt c81 hF
       refine c_seq <| c_region <| oy hS y_assign <| n_thenN ?_
       obtain rfl := osi hF
       obtain rfl : _ = r := B0
       exact wp_ret (wr1 hS)
     replace hF := bf c81 hF
     refine wp_skip <| c_region <| oy hS y_move <| oy hS y_bin <| oy hS y_assign <| n_thenN ?_
     obtain rfl := osi hF
     exact ⟨_, B0, mk_exF, (hS.re (.n))⟩
   replace hF := bf c80 hF
   refine o_gu rfl rfl rfl <| oy hS y_move <| o_gu rfl rfl rfl <| oy hS y_move <| o_gu rfl rfl rfl ?_
   obtain ⟨x82, R0, hF⟩ := ob hF
   refine oy hS (y_byte R0 underlying9) <| o_gu rfl rfl rfl <| oy hS y_bin <| o_gu rfl rfl rfl ?_
   refine o_split (ht := fun c83 => ?_) (hf := fun c83 => ?_)
   · replace hF := bt c83 hF
     refine o_gu rfl rfl rfl <| oy hS y_move <| o_gu rfl rfl rfl <| oy hS y_move <| o_gu rfl rfl rfl ?_
     obtain ⟨x84, T0, hF⟩ := ob hF
     refine oy hS (y_byte T0 underlying9) <| o_gu rfl rfl rfl <| oy hS y_bin <| o_gu rfl rfl rfl <| oy hS y_pickT <| oy hS y_pickF <| oy hS y_not <| n_thenN ?_
     refine c_if (ht := fun c85 => ?_) (hf := fun c85 => ?_)
     · replace hF := bt c85 hF
       refine c_seq <| c_region <| oy hS y_assign <| n_thenN ?_
       obtain rfl := osi hF
       obtain rfl : _ = r := B0
       exact wp_ret (wr1 hS)
     replace hF := bf c85 hF
     refine wp_skip <| c_region <| oy hS y_move <| oy hS y_bin <| oy hS y_assign <| n_thenN ?_
     obtain rfl := osi hF
     exact ⟨_, B0, mk_exF, (hS.re (.n))⟩
   replace hF := bf c83 hF
   iterate 4 (refine o_sk rfl rfl ?_)
   refine o_gu rfl rfl rfl ?_
   iterate 2 (refine oy hS y_pickF ?_)
   refine oy hS y_not <| n_thenN ?_
   refine c_if (ht := fun c86 => ?_) (hf := fun c86 => ?_)
   · replace hF := bt c86 hF
     refine c_seq <| c_region <| oy hS y_assign <| n_thenN ?_
     obtain rfl := osi hF
     obtain rfl : _ = r := B0
     exact wp_ret (wr1 hS)
   replace hF := bf c86 hF
   refine wp_skip <| c_region <| oy hS y_move <| oy hS y_bin <| oy hS y_assign <| n_thenN ?_
   obtain rfl := osi hF
   exact ⟨_, B0, mk_exF, (hS.re (.n))⟩
 replace hF := bf c65 hF
 refine wp_exit ?_
 refine c_seq <| c_region <| oy hS y_assign <| n_thenN ?_
 obtain rfl := osi hF
 obtain rfl : _ = r := B0
 exact wp_ret (wr1 hS)
theorem w_r3_Name {g : Frag} {a0 : ByteArray} {r : Bool}  (hF : r3_Name a0 = some r) : LCs Try.prog 74 #[.string a0] g (.bool r) := w_r3_Name_  hF

noncomputable def r1_Fits (a0 : Int) (a1 : Int) : Option Bool :=
  (shl' .i64 1 (IntKind.i64.wrap (a1 - 1))).bind fun x1 => bif decide ((IntKind.i64.wrap (0 - x1)) ≤ a0) then some (decide (a0 < x1)) else some (false)
theorem w_r1_Fits_ {g : Frag} {a0 : Int} {a1 : Int} {r : Bool}  (hF : r1_Fits a0 a1 = some r) : LCs Try.prog 75 #[.int .i64 a0, .int .i64 a1] g (.bool r) := by
 unfold r1_Fits at hF
 refine lc_body (k := 18) (av := [.int .i64 a0, .int .i64 a1]) func75 rfl rfl (h := fun W hS => ?_)
 refine c_seq <| c_region <| oy hS y_assign <| n_thenN <| c_seq <| c_region <| oy hS y_move <| oy hS y_bin ?_
 obtain ⟨x1, hx1, hF⟩ := ob hF
 refine oy hS (y_shl hx1) <| oy hS y_assign <| n_thenN <| c_seq <| c_region ?_
 iterate 2 (refine oy hS y_move ?_)
 refine oy hS y_neg <| oy hS y_bin ?_
 refine o_split (ht := fun c2 => ?_) (hf := fun c2 => ?_)
 · replace hF := bt c2 hF
   refine o_gu rfl rfl rfl <| oy hS y_move <| o_gu rfl rfl rfl <| oy hS y_move <| o_gu rfl rfl rfl <| oy hS y_bin <| oy hS y_pickT <| oy hS y_assign ?_
   refine n_thenN ?_
   obtain rfl := osi hF
   exact wp_ret (wr1 hS)
 replace hF := bf c2 hF
 iterate 3 (refine o_sk rfl rfl ?_)
 refine oy hS y_pickF <| oy hS y_assign <| n_thenN ?_
 obtain rfl := osi hF
 exact wp_ret (wr1 hS)
theorem w_r1_Fits {g : Frag} {a0 : Int} {a1 : Int} {r : Bool}  (hF : r1_Fits a0 a1 = some r) : LCs Try.prog 75 #[.int .i64 a0, .int .i64 a1] g (.bool r) := w_r1_Fits_  hF

def r3_Target (a0 : Int) : Bool :=
  bif decide (a0 = 8) then true else decide (a0 = 9)
theorem w_r3_Target_ {g : Frag} {a0 : Int} {r : Bool}  (hF : r3_Target a0 = r) : LCs Try.prog 76 #[.int .i64 a0] g (.bool r) := by
 unfold r3_Target at hF
 refine lc_body (k := 9) (av := [.int .i64 a0]) func76 rfl rfl (h := fun W hS => ?_)
 refine c_seq <| c_region <| oy hS y_assign <| n_thenN <| c_seq <| c_region <| oy hS y_move <| oy hS y_bin ?_
 refine o_split (ht := fun c1 => ?_) (hf := fun c1 => ?_)
 · replace hF := bt c1 hF
   iterate 2 (refine o_sk rfl rfl ?_)
   refine oy hS y_pickT <| oy hS y_assign <| n_thenN ?_
   subst hF
   exact wp_ret (wr1 hS)
 replace hF := bf c1 hF
 refine o_gu rfl rfl rfl <| oy hS y_move <| o_gu rfl rfl rfl <| oy hS y_bin <| oy hS y_pickF <| oy hS y_assign <| n_thenN ?_
 subst hF
 exact wp_ret (wr1 hS)
theorem w_r3_Target {g : Frag} {a0 : Int}  : LCs Try.prog 76 #[.int .i64 a0] g (.bool (r3_Target a0)) := w_r3_Target_  rfl

def r3_Bits (a0 : Int) : Int :=
  bif decide (a0 = 3) then 14 else bif decide (a0 = 5) then 14 else bif decide (a0 = 9) then 14 else bif decide (a0 = 4) then 18 else bif decide (a0 = 8) then 18 else 0
theorem w_r3_Bits_ {g : Frag} {a0 : Int} {r : Int}  (hF : r3_Bits a0 = r) : LCs Try.prog 64 #[.int .i64 a0] g (.int .i64 r) := by
 unfold r3_Bits at hF
 refine lc_body (k := 11) (av := [.int .i64 a0]) func64 rfl rfl (h := fun W hS => ?_)
 refine c_seq <| c_region <| oy hS y_assign <| n_thenN ?_
 iterate 2 (refine c_seq ?_)
 refine c_region <| oy hS y_move <| n_thenN <| c_block ?_
 iterate 2 (refine c_seq ?_)
 refine c_region <| oy hS y_bin <| oy hS y_assign <| n_thenN ?_
 refine c_if (ht := fun c1 => ?_) (hf := fun c1 => ?_)
 · replace hF := bt c1 hF
   refine wp_skip ?_
   refine c_ifT c1 ?_
   refine c_seq <| c_region <| oy hS y_assign <| n_thenN ?_
   subst hF
   exact wp_ret (wr1 hS)
 replace hF := bf c1 hF
 refine c_seq <| c_region <| oy hS y_bin <| oy hS y_assign <| n_thenN ?_
 refine c_if (ht := fun c2 => ?_) (hf := fun c2 => ?_)
 · replace hF := bt c2 hF
   refine wp_skip ?_
   refine c_ifT c2 ?_
   refine c_seq <| c_region <| oy hS y_assign <| n_thenN ?_
   subst hF
   exact wp_ret (wr1 hS)
 replace hF := bf c2 hF
 refine c_region <| oy hS y_bin <| oy hS y_assign <| n_thenN ?_
 refine c_if (ht := fun c3 => ?_) (hf := fun c3 => ?_)
 · replace hF := bt c3 hF
   refine c_seq <| c_region <| oy hS y_assign <| n_thenN ?_
   subst hF
   exact wp_ret (wr1 hS)
 replace hF := bf c3 hF
 iterate 2 (refine c_seq ?_)
 refine c_region <| oy hS y_bin <| oy hS y_assign <| n_thenN ?_
 refine c_if (ht := fun c4 => ?_) (hf := fun c4 => ?_)
 · replace hF := bt c4 hF
   refine wp_skip ?_
   refine c_ifT c4 ?_
   refine c_seq <| c_region <| oy hS y_assign <| n_thenN ?_
   subst hF
   exact wp_ret (wr1 hS)
 replace hF := bf c4 hF
 refine c_region <| oy hS y_bin <| oy hS y_assign <| n_thenN ?_
 refine c_if (ht := fun c5 => ?_) (hf := fun c5 => ?_)
 · replace hF := bt c5 hF
   refine c_seq <| c_region <| oy hS y_assign <| n_thenN ?_
   subst hF
   exact wp_ret (wr1 hS)
 replace hF := bf c5 hF
 refine wp_skip <| c_seq <| c_region <| oy hS y_assign <| n_thenN ?_
 subst hF
 exact wp_ret (wr1 hS)
theorem w_r3_Bits {g : Frag} {a0 : Int}  : LCs Try.prog 64 #[.int .i64 a0] g (.int .i64 (r3_Bits a0)) := w_r3_Bits_  rfl

noncomputable def r3_Ins_k1 (a0 : T_Ins) (r3 : Int) : Unit → Option Bool := fun _ => bif !(decide (a0.Sym = (ByteArray.mk #[]))) then (r3_Name a0.Sym).bind fun r14 => bif r14 then bif decide (a0.Op = 23) then (r1_Fits a0.Imm 18).bind fun r17 => bif r17 then some (true) else bif (r3_Target r3) then some (decide (a0.Imm = 0)) else some (false) else bif (r3_Target r3) then some (decide (a0.Imm = 0)) else some (false) else some (false) else bif (r3_Target r3) then some (r0_Num a0.Imm 1023) else bif decide (0 < (r3_Bits r3)) then (r1_Fits a0.Imm (r3_Bits r3)).bind fun r23 => some (r23) else some (decide (a0.Imm = 0))
noncomputable def r3_Ins (a0 : T_Ins) : Option Bool :=
  bif !(r3_Valid a0.Op) then some (false) else (r3_Form a0.Op).bind fun r3 => cut (σ := Unit) (bif !(r3_reg a0.D (r3_HasD r3)) then some (.done (false)) else bif !(r3_reg a0.A (r3_HasA r3)) then some (.done (false)) else bif !(r3_reg a0.B (r3_HasB r3)) then some (.done (false)) else some (.next ())) (r3_Ins_k1 a0 r3)
theorem w_r3_Ins_ {g : Frag} {a0 : T_Ins} {r : Bool}  (hF : r3_Ins a0 = some r) : LCs Try.prog 59 #[.agg (enc_Ins a0).toArray] g (.bool r) := by
 unfold r3_Ins at hF
 refine lc_body (k := 76) (av := [.agg (enc_Ins a0).toArray]) func59 rfl rfl (h := fun W hS => ?_)
 refine c_seq <| c_region ?_
 refine o_boxP (cl := (enc_Ins a0)) rfl hS ?_
 clear hS; intro b1 w hS
 refine oy hS y_assign <| n_thenN ?_
 iterate 2 (refine c_seq ?_)
 refine c_region <| oy hS (y_field fa_api_Ins_0) <| oy hS (y_load oH underlying3 rfl rfl) ?_
 refine o_callS hS func69 rfl rfl (hc := (w_r3_Valid (a0 := a0.Op))) (h := ?_)
 clear hS; intro w hS
 refine oy hS y_not <| n_thenN ?_
 refine c_if (ht := fun c2 => ?_) (hf := fun c2 => ?_)
 · replace hF := bt c2 hF
   refine c_seq <| c_region <| oy hS y_assign <| n_thenN ?_
   obtain rfl := osi hF
   exact wp_ret (wr1 hS)
 replace hF := bf c2 hF
 refine wp_skip <| c_seq <| c_region <| oy hS (y_field fa_api_Ins_0) <| oy hS (y_load oH underlying3 rfl rfl) ?_
 obtain ⟨r3, hr3, hF⟩ := ob hF
 refine o_callS hS func63 rfl rfl (hc := (w_r3_Form (a0 := a0.Op) (hF := hr3))) (h := ?_)
 clear hS; intro w hS
 refine oy hS y_assign <| n_thenN ?_
 obtain ⟨z7, hF, hK8⟩ := cut_step hF
 refine c_cutP (fun a w' => r3_Ins_k1 a0 r3 () = some r ∧ (∃ s : Nat → Value, a = Ac (((Fm.dead 76 s).upd 1 (.pointer (some ⟨b1, 0, none⟩))).upd 3 (.int .i64 r3))) ∧ St W g [] ((b1, blk (enc_Ins a0) 78) :: []) w') ?_ ?_
 · skip
   refine c_seq ?_
   refine c_quiet (by kernel_rfl) (by kernel_rfl) hS ?_
   refine qy (y_field fa_api_Ins_1) <| qy (y_load (fun w hS => hS.own (mH)) underlying3 rfl rfl) <| qy y_move ?_
   refine q_callS func71 rfl rfl (hc := (w_r3_HasD (a0 := r3))) (h := ?_)
   refine q_callS func70 rfl rfl (hc := (w_r3_reg (a0 := a0.D) (a1 := (r3_HasD r3)))) (h := ?_)
   refine qy y_not ?_
   refine q_split (ht := fun c9 => ?_) (hf := fun c9 => ?_)
   · replace hF := bt c9 hF
     iterate 6 (refine q_sk rfl rfl ?_)
     refine qy y_pickT <| qy y_move ?_
     iterate 6 (refine q_sk rfl rfl ?_)
     refine qy y_pickT ?_
     refine q_nilN (h := ?_)
     clear hS; intro w hS
     refine c_if_true (h := ?_)
     refine c_seq <| c_region <| oy hS y_assign <| n_thenN ?_
     obtain rfl := osi hF
     obtain rfl : _ = r := hK8
     exact wp_ret (wr1 hS)
   replace hF := bf c9 hF
   refine q_gu rfl rfl rfl ?_
   refine qy (y_field fa_api_Ins_2) ?_
   refine q_gu rfl rfl rfl ?_
   refine qy (y_load (fun w hS => hS.own (mH)) underlying3 rfl rfl) ?_
   refine q_gu rfl rfl rfl ?_
   refine qy y_move ?_
   refine q_gu rfl rfl rfl ?_
   refine q_callS func72 rfl rfl (hc := (w_r3_HasA (a0 := r3))) (h := ?_)
   refine q_gu rfl rfl rfl ?_
   refine q_callS func70 rfl rfl (hc := (w_r3_reg (a0 := a0.A) (a1 := (r3_HasA r3)))) (h := ?_)
   refine q_gu rfl rfl rfl ?_
   refine qy y_not <| qy y_pickF ?_
   refine q_split (ht := fun c10 => ?_) (hf := fun c10 => ?_)
   · replace hF := bt c10 hF
     iterate 6 (refine q_sk rfl rfl ?_)
     refine qy y_pickT ?_
     refine q_nilN (h := ?_)
     clear hS; intro w hS
     refine c_if_true (h := ?_)
     refine c_seq <| c_region <| oy hS y_assign <| n_thenN ?_
     obtain rfl := osi hF
     obtain rfl : _ = r := hK8
     exact wp_ret (wr1 hS)
   replace hF := bf c10 hF
   refine q_gu rfl rfl rfl ?_
   refine qy (y_field fa_api_Ins_3) ?_
   refine q_gu rfl rfl rfl ?_
   refine qy (y_load (fun w hS => hS.own (mH)) underlying3 rfl rfl) ?_
   refine q_gu rfl rfl rfl ?_
   refine qy y_move ?_
   refine q_gu rfl rfl rfl ?_
   refine q_callS func73 rfl rfl (hc := (w_r3_HasB (a0 := r3))) (h := ?_)
   refine q_gu rfl rfl rfl ?_
   refine q_callS func70 rfl rfl (hc := (w_r3_reg (a0 := a0.B) (a1 := (r3_HasB r3)))) (h := ?_)
   refine q_gu rfl rfl rfl ?_
   refine qy y_not <| qy y_pickF ?_
   refine q_nilN (h := ?_)
   clear hS; intro w hS
   refine c_if (ht := fun c11 => ?_) (hf := fun c11 => ?_)
   · replace hF := bt c11 hF
     refine c_seq <| c_region <| oy hS y_assign <| n_thenN ?_
     obtain rfl := osi hF
     obtain rfl : _ = r := hK8
     exact wp_ret (wr1 hS)
   replace hF := bf c11 hF
   refine wp_skip ?_
   obtain rfl := osi hF
   change _ ∧ _
   exact ⟨hK8, mk_exF, (hS.re (.b .hb .n))⟩
 rintro a w ⟨hF, ⟨s12, rfl⟩, hS⟩
 dsimp only [r3_Ins_k1] at hF
 iterate 2 (refine c_seq ?_)
 refine c_region <| oy hS (y_field fa_api_Ins_5) <| oy hS (y_load oH underlying9 rfl rfl) <| oy hS y_sneq <| n_thenN ?_
 refine c_if (ht := fun c13 => ?_) (hf := fun c13 => ?_)
 · replace hF := bt c13 hF
   refine c_seq <| c_region <| oy hS (y_field fa_api_Ins_5) <| oy hS (y_load oH underlying9 rfl rfl) ?_
   obtain ⟨r14, B0, hF⟩ := ob hF
   refine o_callS hS func74 rfl rfl (hc := (w_r3_Name (a0 := a0.Sym) (hF := B0))) (h := ?_)
   clear hS; intro w hS
   refine o_split (ht := fun c15 => ?_) (hf := fun c15 => ?_)
   · replace hF := bt c15 hF
     refine o_gu rfl rfl rfl <| oy hS (y_field fa_api_Ins_0) <| o_gu rfl rfl rfl <| oy hS (y_load oH underlying3 rfl rfl) <| o_gu rfl rfl rfl <| oy hS y_bin <| o_gu rfl rfl rfl ?_
     refine o_split (ht := fun c16 => ?_) (hf := fun c16 => ?_)
     · replace hF := bt c16 hF
       refine o_gu rfl rfl rfl <| oy hS (y_field fa_api_Ins_4) <| o_gu rfl rfl rfl <| oy hS (y_load oH underlying3 rfl rfl) <| o_gu rfl rfl rfl ?_
       obtain ⟨r17, D0, hF⟩ := ob hF
       refine o_callS hS func75 rfl rfl (hc := (w_r1_Fits (a0 := a0.Imm) (a1 := 18) (hF := D0))) (h := ?_)
       clear hS; intro w hS
       refine o_gu rfl rfl rfl <| oy hS y_pickT <| o_gu rfl rfl rfl ?_
       refine o_split (ht := fun c18 => ?_) (hf := fun c18 => ?_)
       · replace hF := bt c18 hF
         iterate 3 (refine o_sk rfl rfl ?_)
         iterate 3 (refine o_sku rfl rfl ?_)
         refine o_sk rfl rfl ?_
         refine o_gu rfl rfl rfl ?_
         iterate 2 (refine oy hS y_pickT ?_)
         refine oy hS y_assign <| n_thenN ?_
         obtain rfl := osi hF
         exact wp_ret (wr1 hS)
       replace hF := bf c18 hF
       refine o_gu rfl rfl rfl <| oy hS y_move <| o_gu rfl rfl rfl ?_
       refine o_callS hS func76 rfl rfl (hc := (w_r3_Target (a0 := r3))) (h := ?_)
       clear hS; intro w hS
       refine o_gu rfl rfl rfl ?_
       refine o_split (ht := fun c19 => ?_) (hf := fun c19 => ?_)
       · replace hF := bt c19 hF
         refine o_gu rfl rfl rfl <| oy hS (y_field fa_api_Ins_4) <| o_gu rfl rfl rfl <| oy hS (y_load oH underlying3 rfl rfl) <| o_gu rfl rfl rfl <| oy hS y_bin <| o_gu rfl rfl rfl <| oy hS y_pickT ?_
         refine o_gu rfl rfl rfl <| oy hS y_pickF <| oy hS y_pickT <| oy hS y_assign <| n_thenN ?_
         obtain rfl := osi hF
         exact wp_ret (wr1 hS)
       replace hF := bf c19 hF
       iterate 3 (refine o_sk rfl rfl ?_)
       refine o_gu rfl rfl rfl <| oy hS y_pickF <| o_gu rfl rfl rfl <| oy hS y_pickF <| oy hS y_pickT <| oy hS y_assign <| n_thenN ?_
       obtain rfl := osi hF
       exact wp_ret (wr1 hS)
     replace hF := bf c16 hF
     iterate 3 (refine o_sk rfl rfl ?_)
     refine o_gu rfl rfl rfl <| oy hS y_pickF <| o_gu rfl rfl rfl <| oy hS y_move <| o_gu rfl rfl rfl <| oy hS y_move <| o_gu rfl rfl rfl ?_
     refine o_callS hS func76 rfl rfl (hc := (w_r3_Target (a0 := r3))) (h := ?_)
     clear hS; intro w hS
     refine o_gu rfl rfl rfl ?_
     refine o_split (ht := fun c20 => ?_) (hf := fun c20 => ?_)
     · replace hF := bt c20 hF
       refine o_gu rfl rfl rfl <| oy hS (y_field fa_api_Ins_4) <| o_gu rfl rfl rfl <| oy hS (y_load oH underlying3 rfl rfl) <| o_gu rfl rfl rfl <| oy hS y_bin <| o_gu rfl rfl rfl <| oy hS y_pickT ?_
       refine o_gu rfl rfl rfl <| oy hS y_pickF <| oy hS y_pickT <| oy hS y_assign <| n_thenN ?_
       obtain rfl := osi hF
       exact wp_ret (wr1 hS)
     replace hF := bf c20 hF
     iterate 3 (refine o_sk rfl rfl ?_)
     refine o_gu rfl rfl rfl <| oy hS y_pickF <| o_gu rfl rfl rfl <| oy hS y_pickF <| oy hS y_pickT <| oy hS y_assign <| n_thenN ?_
     obtain rfl := osi hF
     exact wp_ret (wr1 hS)
   replace hF := bf c15 hF
   iterate 4 (refine o_sk rfl rfl ?_)
   iterate 3 (refine o_sku rfl rfl ?_)
   iterate 2 (refine o_sk rfl rfl ?_)
   iterate 7 (refine o_sku rfl rfl ?_)
   refine o_sk rfl rfl ?_
   refine oy hS y_pickF <| oy hS y_assign <| n_thenN ?_
   obtain rfl := osi hF
   exact wp_ret (wr1 hS)
 replace hF := bf c13 hF
 refine wp_skip <| c_seq <| c_block <| c_seq <| c_region <| oy hS y_move ?_
 refine o_callS hS func76 rfl rfl (hc := (w_r3_Target (a0 := r3))) (h := ?_)
 clear hS; intro w hS
 refine oy hS y_assign <| n_thenN ?_
 refine c_if (ht := fun c21 => ?_) (hf := fun c21 => ?_)
 · replace hF := bt c21 hF
   refine c_seq <| c_region <| oy hS (y_field fa_api_Ins_4) <| oy hS (y_load oH underlying3 rfl rfl) ?_
   refine o_callS hS func19 rfl rfl (hc := (w_r0_Num (a0 := a0.Imm) (a1 := 1023))) (h := ?_)
   clear hS; intro w hS
   refine oy hS y_assign <| n_thenN ?_
   obtain rfl := osi hF
   exact wp_ret (wr1 hS)
 replace hF := bf c21 hF
 refine c_seq <| c_region <| oy hS y_move ?_
 refine o_callS hS func64 rfl rfl (hc := (w_r3_Bits (a0 := r3))) (h := ?_)
 clear hS; intro w hS
 refine oy hS y_bin <| oy hS y_assign <| n_thenN ?_
 refine c_if (ht := fun c22 => ?_) (hf := fun c22 => ?_)
 · replace hF := bt c22 hF
   refine c_seq ?_
   refine c_quiet (by kernel_rfl) (by kernel_rfl) hS ?_
   refine qy (y_field fa_api_Ins_4) <| qy (y_load (fun w hS => hS.own (mH)) underlying3 rfl rfl) <| qy y_move ?_
   refine q_callS func64 rfl rfl (hc := (w_r3_Bits (a0 := r3))) (h := ?_)
   obtain ⟨r23, E0, hF⟩ := ob hF
   refine q_callS func75 rfl rfl (hc := (w_r1_Fits (a0 := a0.Imm) (a1 := (r3_Bits r3)) (hF := E0))) (h := ?_)
   refine qy y_assign ?_
   refine q_nilN (h := ?_)
   clear hS; intro w hS
   obtain rfl := osi hF
   exact wp_ret (wr1 hS)
 replace hF := bf c22 hF
 refine wp_skip <| c_seq <| c_region <| oy hS (y_field fa_api_Ins_4) <| oy hS (y_load oH underlying3 rfl rfl) <| oy hS y_bin <| oy hS y_assign <| n_thenN ?_
 obtain rfl := osi hF
 exact wp_ret (wr1 hS)
theorem w_r3_Ins {g : Frag} {a0 : T_Ins} {r : Bool}  (hF : r3_Ins a0 = some r) : LCs Try.prog 59 #[.agg (enc_Ins a0).toArray] g (.bool r) := w_r3_Ins_  hF

def r3_Ends (a0 : Int) : Bool :=
  (r0_Between a0 28 33)
theorem w_r3_Ends_ {g : Frag} {a0 : Int} {r : Bool}  (hF : r3_Ends a0 = r) : LCs Try.prog 93 #[.int .i64 a0] g (.bool r) := by
 unfold r3_Ends at hF
 refine lc_body (k := 5) (av := [.int .i64 a0]) func93 rfl rfl (h := fun W hS => ?_)
 refine c_seq <| c_region <| oy hS y_assign <| n_thenN <| c_seq <| c_region <| oy hS y_move ?_
 refine o_callS hS func92 rfl rfl (hc := (w_r0_Between (a0 := a0) (a1 := 28) (a2 := 33))) (h := ?_)
 clear hS; intro w hS
 refine oy hS y_assign <| n_thenN ?_
 subst hF
 exact wp_ret (wr1 hS)
theorem w_r3_Ends {g : Frag} {a0 : Int}  : LCs Try.prog 93 #[.int .i64 a0] g (.bool (r3_Ends a0)) := w_r3_Ends_  rfl

def r3_Slots (a0 : Int) : (List Int) :=
  bif decide (a0 = 0) then ([0, 1, 2, 3] : List Int) else bif decide (a0 = 18) then ([1] : List Int) else bif decide (a0 = 19) then ([1] : List Int) else bif decide (a0 = 21) then ([1] : List Int) else bif (r0_Between a0 14 17) then ([3] : List Int) else bif decide (a0 = 20) then ([3] : List Int) else bif (r0_Between a0 24 27) then ([2] : List Int) else bif (r3_Ends a0) then ([0] : List Int) else ([0, 1] : List Int)
theorem w_r3_Slots_ {g : Frag} {a0 : Int} {r : (List Int)}  (hF : r3_Slots a0 = r) : LC Try.prog 78 #[.int .i64 a0] g [] (fun v L => ∃ (u0 : Value) (M0 : Own), u0 = v ∧ L = (M0 ++ []) ∧ OwT 3 enc_int 1 r u0 M0) := by
 unfold r3_Slots at hF
 refine lc_body (k := 36) (av := [.int .i64 a0]) func78 rfl rfl (h := fun W hS => ?_)
 refine c_seq <| c_region <| oy hS y_assign <| n_thenN <| c_seq <| c_block <| c_seq <| c_region ?_
 refine oy hS y_move <| oy hS y_bin <| oy hS y_assign <| n_thenN ?_
 refine c_if (ht := fun c1 => ?_) (hf := fun c1 => ?_)
 · replace hF := bt c1 hF
   refine c_seq <| c_region ?_
   refine o_buildT val_int ([0, 1, 2, 3] : List Int) hS el_int (fun _ => rfl) enc_len_int (by decide) rfl (by decide) (hp := rfl) (h := ?_)
   clear hS; intro b2 w hS h3
   have hS : St W g [] ([(b2, blk (([0, 1, 2, 3] : List Int).flatMap enc_int) 3)] ++ []) w := hS
   refine oy hS y_assign <| n_thenN ?_
   subst hF
   refine wp_ret (r_ret (vs := [(.slice (some ⟨b2, 0, none⟩) 4 4)]) (hS.re (.t .h .n)) (rsC res_tmp rsN) rfl ⟨_, _, rfl, (by first | rfl | simp only [aa, ac, al, an]), h3⟩)
 replace hF := bf c1 hF
 refine c_seq <| c_region <| oy hS y_move <| oy hS y_bin ?_
 refine o_split (ht := fun c5 => ?_) (hf := fun c5 => ?_)
 · replace hF := bt c5 hF
   iterate 2 (refine o_sk rfl rfl ?_)
   refine oy hS y_pickT <| oy hS y_move ?_
   iterate 2 (refine o_sk rfl rfl ?_)
   refine oy hS y_pickT <| oy hS y_assign <| n_thenN ?_
   refine c_if_true (h := ?_)
   refine c_seq <| c_region ?_
   refine o_buildT val_int ([1] : List Int) hS el_int (fun _ => rfl) enc_len_int (by decide) rfl (by decide) (hp := rfl) (h := ?_)
   clear hS; intro b6 w hS h7
   have hS : St W g [] ([(b6, blk (([1] : List Int).flatMap enc_int) 3)] ++ []) w := hS
   refine oy hS y_assign <| n_thenN ?_
   subst hF
   refine wp_ret (r_ret (vs := [(.slice (some ⟨b6, 0, none⟩) 1 1)]) (hS.re (.t .h .n)) (rsC res_tmp rsN) rfl ⟨_, _, rfl, (by first | rfl | simp only [aa, ac, al, an]), h7⟩)
 replace hF := bf c5 hF
 refine o_gu rfl rfl rfl <| oy hS y_move <| o_gu rfl rfl rfl <| oy hS y_bin <| oy hS y_pickF ?_
 refine o_split (ht := fun c9 => ?_) (hf := fun c9 => ?_)
 · replace hF := bt c9 hF
   iterate 2 (refine o_sk rfl rfl ?_)
   refine oy hS y_pickT <| oy hS y_assign <| n_thenN ?_
   refine c_if_true (h := ?_)
   refine c_seq <| c_region ?_
   refine o_buildT val_int ([1] : List Int) hS el_int (fun _ => rfl) enc_len_int (by decide) rfl (by decide) (hp := rfl) (h := ?_)
   clear hS; intro b10 w hS h11
   have hS : St W g [] ([(b10, blk (([1] : List Int).flatMap enc_int) 3)] ++ []) w := hS
   refine oy hS y_assign <| n_thenN ?_
   subst hF
   refine wp_ret (r_ret (vs := [(.slice (some ⟨b10, 0, none⟩) 1 1)]) (hS.re (.t .h .n)) (rsC res_tmp rsN) rfl ⟨_, _, rfl, (by first | rfl | simp only [aa, ac, al, an]), h11⟩)
 replace hF := bf c9 hF
 refine o_gu rfl rfl rfl <| oy hS y_move <| o_gu rfl rfl rfl <| oy hS y_bin <| oy hS y_pickF <| oy hS y_assign <| n_thenN ?_
 refine c_if (ht := fun c13 => ?_) (hf := fun c13 => ?_)
 · replace hF := bt c13 hF
   refine c_seq <| c_region ?_
   refine o_buildT val_int ([1] : List Int) hS el_int (fun _ => rfl) enc_len_int (by decide) rfl (by decide) (hp := rfl) (h := ?_)
   clear hS; intro b14 w hS h15
   have hS : St W g [] ([(b14, blk (([1] : List Int).flatMap enc_int) 3)] ++ []) w := hS
   refine oy hS y_assign <| n_thenN ?_
   subst hF
   refine wp_ret (r_ret (vs := [(.slice (some ⟨b14, 0, none⟩) 1 1)]) (hS.re (.t .h .n)) (rsC res_tmp rsN) rfl ⟨_, _, rfl, (by first | rfl | simp only [aa, ac, al, an]), h15⟩)
 replace hF := bf c13 hF
 refine c_seq <| c_region <| oy hS y_move ?_
 refine o_callS hS func92 rfl rfl (hc := (w_r0_Between (a0 := a0) (a1 := 14) (a2 := 17))) (h := ?_)
 clear hS; intro w hS
 refine o_split (ht := fun c17 => ?_) (hf := fun c17 => ?_)
 · replace hF := bt c17 hF
   iterate 2 (refine o_sk rfl rfl ?_)
   refine oy hS y_pickT <| oy hS y_assign <| n_thenN ?_
   refine c_if_true (h := ?_)
   refine c_seq <| c_region ?_
   refine o_buildT val_int ([3] : List Int) hS el_int (fun _ => rfl) enc_len_int (by decide) rfl (by decide) (hp := rfl) (h := ?_)
   clear hS; intro b18 w hS h19
   have hS : St W g [] ([(b18, blk (([3] : List Int).flatMap enc_int) 3)] ++ []) w := hS
   refine oy hS y_assign <| n_thenN ?_
   subst hF
   refine wp_ret (r_ret (vs := [(.slice (some ⟨b18, 0, none⟩) 1 1)]) (hS.re (.t .h .n)) (rsC res_tmp rsN) rfl ⟨_, _, rfl, (by first | rfl | simp only [aa, ac, al, an]), h19⟩)
 replace hF := bf c17 hF
 refine o_gu rfl rfl rfl <| oy hS y_move <| o_gu rfl rfl rfl <| oy hS y_bin <| oy hS y_pickF <| oy hS y_assign <| n_thenN ?_
 refine c_if (ht := fun c21 => ?_) (hf := fun c21 => ?_)
 · replace hF := bt c21 hF
   refine c_seq <| c_region ?_
   refine o_buildT val_int ([3] : List Int) hS el_int (fun _ => rfl) enc_len_int (by decide) rfl (by decide) (hp := rfl) (h := ?_)
   clear hS; intro b22 w hS h23
   have hS : St W g [] ([(b22, blk (([3] : List Int).flatMap enc_int) 3)] ++ []) w := hS
   refine oy hS y_assign <| n_thenN ?_
   subst hF
   refine wp_ret (r_ret (vs := [(.slice (some ⟨b22, 0, none⟩) 1 1)]) (hS.re (.t .h .n)) (rsC res_tmp rsN) rfl ⟨_, _, rfl, (by first | rfl | simp only [aa, ac, al, an]), h23⟩)
 replace hF := bf c21 hF
 refine c_seq <| c_region <| oy hS y_move ?_
 refine o_callS hS func92 rfl rfl (hc := (w_r0_Between (a0 := a0) (a1 := 24) (a2 := 27))) (h := ?_)
 clear hS; intro w hS
 refine oy hS y_assign <| n_thenN ?_
 refine c_if (ht := fun c25 => ?_) (hf := fun c25 => ?_)
 · replace hF := bt c25 hF
   refine c_seq <| c_region ?_
   refine o_buildT val_int ([2] : List Int) hS el_int (fun _ => rfl) enc_len_int (by decide) rfl (by decide) (hp := rfl) (h := ?_)
   clear hS; intro b26 w hS h27
   have hS : St W g [] ([(b26, blk (([2] : List Int).flatMap enc_int) 3)] ++ []) w := hS
   refine oy hS y_assign <| n_thenN ?_
   subst hF
   refine wp_ret (r_ret (vs := [(.slice (some ⟨b26, 0, none⟩) 1 1)]) (hS.re (.t .h .n)) (rsC res_tmp rsN) rfl ⟨_, _, rfl, (by first | rfl | simp only [aa, ac, al, an]), h27⟩)
 replace hF := bf c25 hF
 refine c_seq <| c_region <| oy hS y_move ?_
 refine o_callS hS func93 rfl rfl (hc := (w_r3_Ends (a0 := a0))) (h := ?_)
 clear hS; intro w hS
 refine oy hS y_assign <| n_thenN ?_
 refine c_if (ht := fun c29 => ?_) (hf := fun c29 => ?_)
 · replace hF := bt c29 hF
   refine c_seq <| c_region ?_
   refine o_buildT val_int ([0] : List Int) hS el_int (fun _ => rfl) enc_len_int (by decide) rfl (by decide) (hp := rfl) (h := ?_)
   clear hS; intro b30 w hS h31
   have hS : St W g [] ([(b30, blk (([0] : List Int).flatMap enc_int) 3)] ++ []) w := hS
   refine oy hS y_assign <| n_thenN ?_
   subst hF
   refine wp_ret (r_ret (vs := [(.slice (some ⟨b30, 0, none⟩) 1 1)]) (hS.re (.t .h .n)) (rsC res_tmp rsN) rfl ⟨_, _, rfl, (by first | rfl | simp only [aa, ac, al, an]), h31⟩)
 replace hF := bf c29 hF
 refine wp_skip <| c_seq <| c_region ?_
 refine o_buildT val_int ([0, 1] : List Int) hS el_int (fun _ => rfl) enc_len_int (by decide) rfl (by decide) (hp := rfl) (h := ?_)
 clear hS; intro b33 w hS h34
 have hS : St W g [] ([(b33, blk (([0, 1] : List Int).flatMap enc_int) 3)] ++ []) w := hS
 refine oy hS y_assign <| n_thenN ?_
 subst hF
 refine wp_ret (r_ret (vs := [(.slice (some ⟨b33, 0, none⟩) 2 2)]) (hS.re (.t .h .n)) (rsC res_tmp rsN) rfl ⟨_, _, rfl, (by first | rfl | simp only [aa, ac, al, an]), h34⟩)
theorem w_r3_Slots {g : Frag} {a0 : Int}  : LC Try.prog 78 #[.int .i64 a0] g [] (fun v L => ∃ (u0 : Value) (M0 : Own), u0 = v ∧ L = (M0 ++ []) ∧ OwT 3 enc_int 1 (r3_Slots a0) u0 M0) := w_r3_Slots_  rfl

noncomputable def r0_In_b1 (a0 : (List Int)) (a1 : Int) : Int → Option (Step Int Int) := fun x15 => bif decide (x15 < (a0.length : Int)) then (at' a0 x15).bind fun x35 => bif decide (x35 = a1) then some (.done (x15)) else some (.next (IntKind.i64.wrap (x15 + 1))) else some (.done ((-1)))
noncomputable def r0_In (a0 : (List Int)) (a1 : Int) : Option Int :=
  loop (σ := Int) (r0_In_b1 a0 a1) 0
theorem w_r0_In_ {g : Frag} {a0 : (List Int)} {v0_ : Value} {a1 : Int} {r : Int} (h0 : SlT g enc_int 1 a0 v0_) (hF : r0_In a0 a1 = some r) : LCs Try.prog 77 #[v0_, .int .i64 a1] g (.int .i64 r) := by
 unfold r0_In at hF
 refine lc_body (k := 19) (av := [v0_, .int .i64 a1]) func77 rfl rfl (h := fun W hS => ?_)
 refine c_seq <| c_region <| oy hS y_assign <| n_thenN ?_
 iterate 2 (refine c_seq ?_)
 refine c_region <| oy hS y_assign <| n_thenN <| c_block ?_
 refine c_loopP hF (fun (q : Int) a w' => (∃ s : Nat → Value, a = Ac ((((Fm.dead 19 s).upd 0 v0_).upd 1 (.int .i64 a1)).upd 5 (.int .i64 q))) ∧ St W g [] [] w') ⟨mk_exF, (hS.re (.n))⟩ ?_
 clear hS hF
 intro n32 q a w hI hq
 revert hq hI; revert q; intro x15 hI hq
 obtain ⟨⟨s33, rfl⟩, hS⟩ := hq
 obtain ⟨z30, hF, B0⟩ := iter_step hI
 clear hI
 dsimp only [r0_In_b1] at hF
 iterate 2 (refine c_seq ?_)
 refine c_region ?_
 iterate 2 (refine oy hS y_move ?_)
 refine oy hS (y_len h0 underlying35) <| oy hS y_bin <| n_thenN ?_
 refine c_if (ht := fun c34 => ?_) (hf := fun c34 => ?_)
 · replace hF := bt c34 hF
   refine wp_skip <| c_seq <| c_block <| c_seq <| c_region ?_
   iterate 2 (refine oy hS y_move ?_)
   obtain ⟨x35, D0, hF⟩ := ob hF
   obtain ⟨b36, o37, c38, M0, e40, N0, E0, G0, I0, J0, K0⟩ := SlT.at D0 h0 enc_len_int
   refine oy hS (y_index E0 G0 I0 underlying35 el_int.size) <| oy hS (y_load (fun w hS => hS.block J0) underlying3 rfl (K0 0 _ rfl)) <| oy hS y_move <| oy hS y_bin <| n_thenN ?_
   refine c_if (ht := fun c47 => ?_) (hf := fun c47 => ?_)
   · replace hF := bt c47 hF
     refine c_seq <| c_region <| oy hS y_move <| oy hS y_assign <| n_thenN ?_
     obtain rfl := osi hF
     obtain rfl : _ = r := B0
     exact wp_ret (wr1 hS)
   replace hF := bf c47 hF
   refine wp_skip <| c_region <| oy hS y_move <| oy hS y_bin <| oy hS y_assign <| n_thenN ?_
   obtain rfl := osi hF
   exact ⟨_, B0, mk_exF, (hS.re (.n))⟩
 replace hF := bf c34 hF
 refine wp_exit ?_
 refine c_seq <| c_region <| oy hS y_assign <| n_thenN ?_
 obtain rfl := osi hF
 obtain rfl : _ = r := B0
 exact wp_ret (wr1 hS)
theorem w_r0_In {g : Frag} {a0 : (List Int)} {v0_ : Value} {a1 : Int} {r : Int} (h0 : SlT g enc_int 1 a0 v0_) (hF : r0_In a0 a1 = some r) : LCs Try.prog 77 #[v0_, .int .i64 a1] g (.int .i64 r) := w_r0_In_ h0 hF

noncomputable def r3_May (a0 : Int) (a1 : Int) : Option Bool :=
  bif (r3_Valid a0) then (r0_In (r3_Slots a0) a1).bind fun r9 => some (decide (0 ≤ r9)) else some (false)
theorem w_r3_May_ {g : Frag} {a0 : Int} {a1 : Int} {r : Bool}  (hF : r3_May a0 a1 = some r) : LCs Try.prog 60 #[.int .i64 a0, .int .i64 a1] g (.bool r) := by
 unfold r3_May at hF
 refine lc_body (k := 14) (av := [.int .i64 a0, .int .i64 a1]) func60 rfl rfl (h := fun W hS => ?_)
 refine c_seq <| c_region <| oy hS y_assign <| n_thenN <| c_seq <| c_region <| oy hS y_move ?_
 refine o_callS hS func69 rfl rfl (hc := (w_r3_Valid (a0 := a0))) (h := ?_)
 clear hS; intro w hS
 refine o_split (ht := fun c1 => ?_) (hf := fun c1 => ?_)
 · replace hF := bt c1 hF
   refine o_gu rfl rfl rfl <| oy hS y_move <| o_gu rfl rfl rfl ?_
   refine o_call0 hS func78 rfl rfl (hc := (w_r3_Slots (a0 := a0))) (h := ?_)
   clear hS; intro v2 LY3 w hS hr4
   obtain ⟨v_0_5, LX_0_6, rfl, rfl, h_0_7⟩ := hr4
   simp only [aa, ac, al] at hS
   refine o_gu rfl rfl rfl <| oy hS y_move <| o_gu rfl rfl rfl ?_
   obtain ⟨r9, hr9, hF⟩ := ob hF
   refine o_callS hS func77 rfl rfl (hc := (w_r0_In (a0 := (r3_Slots a0)) (a1 := a1) (h0 := (OwT.plus h_0_7 hS (fun p hp => mA (hp)))) (hF := hr9))) (h := ?_)
   clear hS; intro w hS
   refine o_gu rfl rfl rfl <| oy hS y_bin <| oy hS y_pickT <| oy hS y_assign <| n_thenN ?_
   obtain rfl := osi hF
   exact wp_ret (wr1 hS)
 replace hF := bf c1 hF
 iterate 5 (refine o_sk rfl rfl ?_)
 refine oy hS y_pickF <| oy hS y_assign <| n_thenN ?_
 obtain rfl := osi hF
 exact wp_ret (wr1 hS)
theorem w_r3_May {g : Frag} {a0 : Int} {a1 : Int} {r : Bool}  (hF : r3_May a0 a1 = some r) : LCs Try.prog 60 #[.int .i64 a0, .int .i64 a1] g (.bool r) := w_r3_May_  hF

noncomputable def r3_Bundle_b1 (a0 : (A4 T_Ins)) (a1 : Bool) : Int → Option (Step Int Bool) := fun x9 => bif decide (x9 < 4) then (at' [a0.x0, a0.x1, a0.x2, a0.x3] x9).bind fun x25 => (r3_Ins x25).bind fun r26 => bif !r26 then some (.done (false)) else (at' [a0.x0, a0.x1, a0.x2, a0.x3] x9).bind fun x28 => (r3_May x28.Op x9).bind fun r29 => bif !r29 then some (.done (false)) else bif a1 then (at' [a0.x0, a0.x1, a0.x2, a0.x3] x9).bind fun x32 => bif !(decide (x32.Sym = (ByteArray.mk #[]))) then some (.done (false)) else some (.next (IntKind.i64.wrap (x9 + 1))) else some (.next (IntKind.i64.wrap (x9 + 1))) else some (.done (true))
noncomputable def r3_Bundle (a0 : (A4 T_Ins)) (a1 : Bool) : Option Bool :=
  loop (σ := Int) (r3_Bundle_b1 a0 a1) 0
theorem w_r3_Bundle_ {g : Frag} {a0 : (A4 T_Ins)} {a1 : Bool} {r : Bool}  (hF : r3_Bundle a0 a1 = some r) : LCs Try.prog 42 #[.agg (enc_Bundle a0).toArray, .bool a1] g (.bool r) := by
 unfold r3_Bundle at hF
 refine lc_body (k := 34) (av := [.agg (enc_Bundle a0).toArray, .bool a1]) func42 rfl rfl (h := fun W hS => ?_)
 refine c_seq <| c_region ?_
 refine o_boxP (cl := (enc_Bundle a0)) rfl hS ?_
 clear hS; intro b1 w hS
 refine oy hS y_assign <| n_thenN ?_
 iterate 2 (refine c_seq ?_)
 refine c_region <| oy hS y_assign <| n_thenN <| c_block ?_
 refine c_loopP hF (fun (q : Int) a w' => (∃ s : Nat → Value, a = Ac ((((Fm.dead 34 s).upd 1 (.bool a1)).upd 2 (.pointer (some ⟨b1, 0, none⟩))).upd 5 (.int .i64 q))) ∧ St W g [] ((b1, blk (enc_Bundle a0) 80) :: []) w') ⟨mk_exF, (hS.re (.b .hb .n))⟩ ?_
 clear hS hF
 intro n22 q a w hI hq
 revert hq hI; revert q; intro x9 hI hq
 obtain ⟨⟨s23, rfl⟩, hS⟩ := hq
 obtain ⟨z20, hF, B0⟩ := iter_step hI
 clear hI
 dsimp only [r3_Bundle_b1] at hF
 iterate 2 (refine c_seq ?_)
 refine c_region <| oy hS y_move <| oy hS y_bin <| n_thenN ?_
 refine c_if (ht := fun c24 => ?_) (hf := fun c24 => ?_)
 · replace hF := bt c24 hF
   refine wp_skip <| c_seq <| c_block <| c_seq <| c_region <| oy hS y_move ?_
   obtain ⟨x25, D0, hF⟩ := ob hF
   refine oy hS (y_indexA (at'_bnd D0 rfl).1 (at'_bnd D0 (n := 4) rfl).2 underlying80 (by exact sz_api_Ins)) ?_
   refine oy hS (y_loadN (vs := (enc_Ins x25)) (fun w hS => hS.own (mH)) underlying78 rfl (by exact sz_api_Ins) (arr_box (o := 0) (xs := [a0.x0, a0.x1, a0.x2, a0.x3]) (pre := []) (post := []) D0 enc_len_Ins (by exact rfl) rfl)) ?_
   obtain ⟨r26, I0, hF⟩ := ob hF
   refine o_callS hS func59 rfl rfl (hc := (w_r3_Ins (a0 := x25) (hF := I0))) (h := ?_)
   clear hS; intro w hS
   refine oy hS y_not ?_
   refine o_split (ht := fun c27 => ?_) (hf := fun c27 => ?_)
   · replace hF := bt c27 hF
     iterate 7 (refine o_sk rfl rfl ?_)
     refine oy hS y_pickT <| oy hS y_move ?_
     iterate 2 (refine o_sk rfl rfl ?_)
     iterate 5 (refine o_sku rfl rfl ?_)
     refine o_sk rfl rfl ?_
     refine oy hS y_pickT <| n_thenN ?_
     refine c_if_true (h := ?_)
     refine c_seq <| c_region <| oy hS y_assign <| n_thenN ?_
     obtain rfl := osi hF
     obtain rfl : _ = r := B0
     exact wp_ret (wr1 hS)
   replace hF := bf c27 hF
   refine o_gu rfl rfl rfl <| oy hS y_move <| o_gu rfl rfl rfl ?_
   obtain ⟨x28, E0, hF⟩ := ob hF
   refine oy hS (y_indexA (at'_bnd E0 rfl).1 (at'_bnd E0 (n := 4) rfl).2 underlying80 (by exact sz_api_Ins)) ?_
   refine o_gu rfl rfl rfl <| oy hS (y_field fa_api_Ins_0) <| o_gu rfl rfl rfl ?_
   refine oy hS (y_load oH underlying3 rfl ((arr_box (o := 0) (xs := [a0.x0, a0.x1, a0.x2, a0.x3]) (pre := []) (post := []) E0 enc_len_Ins (by exact rfl) rfl) 0 _ rfl)) ?_
   refine o_gu rfl rfl rfl <| oy hS y_move <| o_gu rfl rfl rfl ?_
   obtain ⟨r29, J0, hF⟩ := ob hF
   refine o_callS hS func60 rfl rfl (hc := (w_r3_May (a0 := x28.Op) (a1 := x9) (hF := J0))) (h := ?_)
   clear hS; intro w hS
   refine o_gu rfl rfl rfl <| oy hS y_not <| oy hS y_pickF ?_
   refine o_split (ht := fun c30 => ?_) (hf := fun c30 => ?_)
   · replace hF := bt c30 hF
     iterate 2 (refine o_sk rfl rfl ?_)
     iterate 5 (refine o_sku rfl rfl ?_)
     refine o_sk rfl rfl ?_
     refine oy hS y_pickT <| n_thenN ?_
     refine c_if_true (h := ?_)
     refine c_seq <| c_region <| oy hS y_assign <| n_thenN ?_
     obtain rfl := osi hF
     obtain rfl : _ = r := B0
     exact wp_ret (wr1 hS)
   replace hF := bf c30 hF
   refine o_gu rfl rfl rfl <| oy hS y_move <| o_gu rfl rfl rfl ?_
   refine o_split (ht := fun c31 => ?_) (hf := fun c31 => ?_)
   · replace hF := bt c31 hF
     refine o_gu rfl rfl rfl <| oy hS y_move <| o_gu rfl rfl rfl ?_
     obtain ⟨x32, G0, hF⟩ := ob hF
     refine oy hS (y_indexA (at'_bnd G0 rfl).1 (at'_bnd G0 (n := 4) rfl).2 underlying80 (by exact sz_api_Ins)) ?_
     refine o_gu rfl rfl rfl <| oy hS (y_field fa_api_Ins_5) <| o_gu rfl rfl rfl ?_
     refine oy hS (y_load oH underlying9 rfl ((arr_box (o := 0) (xs := [a0.x0, a0.x1, a0.x2, a0.x3]) (pre := []) (post := []) G0 enc_len_Ins (by exact rfl) rfl) 5 _ rfl)) ?_
     refine o_gu rfl rfl rfl <| oy hS y_sneq <| o_gu rfl rfl rfl <| oy hS y_pickT <| oy hS y_pickF <| n_thenN ?_
     refine c_if (ht := fun c33 => ?_) (hf := fun c33 => ?_)
     · replace hF := bt c33 hF
       refine c_seq <| c_region <| oy hS y_assign <| n_thenN ?_
       obtain rfl := osi hF
       obtain rfl : _ = r := B0
       exact wp_ret (wr1 hS)
     replace hF := bf c33 hF
     refine wp_skip <| c_region <| oy hS y_move <| oy hS y_bin <| oy hS y_assign <| n_thenN ?_
     obtain rfl := osi hF
     exact ⟨_, B0, mk_exF, (hS.re (.b .hb .n))⟩
   replace hF := bf c31 hF
   iterate 5 (refine o_sk rfl rfl ?_)
   refine o_gu rfl rfl rfl ?_
   iterate 2 (refine oy hS y_pickF ?_)
   refine n_thenN ?_
   refine c_if_false (h := ?_)
   refine wp_skip <| c_region <| oy hS y_move <| oy hS y_bin <| oy hS y_assign <| n_thenN ?_
   obtain rfl := osi hF
   exact ⟨_, B0, mk_exF, (hS.re (.b .hb .n))⟩
 replace hF := bf c24 hF
 refine wp_exit ?_
 refine c_seq <| c_region <| oy hS y_assign <| n_thenN ?_
 obtain rfl := osi hF
 obtain rfl : _ = r := B0
 exact wp_ret (wr1 hS)
theorem w_r3_Bundle {g : Frag} {a0 : (A4 T_Ins)} {a1 : Bool} {r : Bool}  (hF : r3_Bundle a0 a1 = some r) : LCs Try.prog 42 #[.agg (enc_Bundle a0).toArray, .bool a1] g (.bool r) := w_r3_Bundle_  hF

noncomputable def r3_Code_b1 (a0 : (List (A4 T_Ins))) : Int → Option (Step Int Bool) := fun x17 => bif decide (x17 < (a0.length : Int)) then bif decide (x17 ≤ 1024) then (at' a0 x17).bind fun x40 => (r3_Bundle x40 true).bind fun r52 => bif !r52 then some (.done (false)) else some (.next (IntKind.i64.wrap (x17 + 1))) else some (.done (decide ((a0.length : Int) ≤ 1024))) else some (.done (decide ((a0.length : Int) ≤ 1024)))
noncomputable def r3_Code (a0 : (List (A4 T_Ins))) : Option Bool :=
  loop (σ := Int) (r3_Code_b1 a0) 0
theorem w_r3_Code_ {g : Frag} {a0 : (List (A4 T_Ins))} {v0_ : Value} {r : Bool} (h0 : SlT g enc_Bundle 24 a0 v0_) (hF : r3_Code a0 = some r) : LCs Try.prog 18 #[v0_] g (.bool r) := by
 unfold r3_Code at hF
 refine lc_body (k := 23) (av := [v0_]) func18 rfl rfl (h := fun W hS => ?_)
 refine c_seq <| c_region <| oy hS y_assign <| n_thenN ?_
 iterate 2 (refine c_seq ?_)
 refine c_region <| oy hS y_assign <| n_thenN <| c_block ?_
 refine c_loopP hF (fun (q : Int) a w' => (∃ s : Nat → Value, a = Ac (((Fm.dead 23 s).upd 0 v0_).upd 3 (.int .i64 q))) ∧ St W g [] [] w') ⟨mk_exF, (hS.re (.n))⟩ ?_
 clear hS hF
 intro n36 q a w hI hq
 revert hq hI; revert q; intro x17 hI hq
 obtain ⟨⟨s37, rfl⟩, hS⟩ := hq
 obtain ⟨z34, hF, B0⟩ := iter_step hI
 clear hI
 dsimp only [r3_Code_b1] at hF
 iterate 2 (refine c_seq ?_)
 refine c_region ?_
 iterate 2 (refine oy hS y_move ?_)
 refine oy hS (y_len h0 underlying34) <| oy hS y_bin ?_
 refine o_split (ht := fun c38 => ?_) (hf := fun c38 => ?_)
 · replace hF := bt c38 hF
   refine o_gu rfl rfl rfl <| oy hS y_move <| o_gu rfl rfl rfl <| oy hS y_bin <| oy hS y_pickT <| n_thenN ?_
   refine c_if (ht := fun c39 => ?_) (hf := fun c39 => ?_)
   · replace hF := bt c39 hF
     refine wp_skip <| c_seq <| c_block <| c_seq <| c_region ?_
     iterate 2 (refine oy hS y_move ?_)
     obtain ⟨x40, D0, hF⟩ := ob hF
     obtain ⟨b41, o42, c43, N0, e45, R0, E0, G0, I0, J0, K0⟩ := SlT.at D0 h0 enc_len_Bundle
     refine oy hS (y_index E0 G0 I0 underlying34 el_api_Bundle.size) ?_
     refine oy hS (y_loadN (vs := (enc_Bundle x40)) (fun w hS => hS.block J0) underlying80 rfl (by exact sz_api_Bundle) (fun j u hj => K0 j u hj)) ?_
     obtain ⟨r52, M0, hF⟩ := ob hF
     refine o_callS hS func42 rfl rfl (hc := (w_r3_Bundle (a0 := x40) (a1 := true) (hF := M0))) (h := ?_)
     clear hS; intro w hS
     refine oy hS y_not <| n_thenN ?_
     refine c_if (ht := fun c53 => ?_) (hf := fun c53 => ?_)
     · replace hF := bt c53 hF
       refine c_seq <| c_region <| oy hS y_assign <| n_thenN ?_
       obtain rfl := osi hF
       obtain rfl : _ = r := B0
       exact wp_ret (wr1 hS)
     replace hF := bf c53 hF
     refine wp_skip <| c_region <| oy hS y_move <| oy hS y_bin <| oy hS y_assign <| n_thenN ?_
     obtain rfl := osi hF
     exact ⟨_, B0, mk_exF, (hS.re (.n))⟩
   replace hF := bf c39 hF
   refine wp_exit ?_
   refine c_seq <| c_region <| oy hS y_move <| oy hS (y_len h0 underlying34) <| oy hS y_bin <| oy hS y_assign <| n_thenN ?_
   obtain rfl := osi hF
   obtain rfl : _ = r := B0
   exact wp_ret (wr1 hS)
 replace hF := bf c38 hF
 iterate 2 (refine o_sk rfl rfl ?_)
 refine oy hS y_pickF <| n_thenN ?_
 refine c_if_false (h := ?_)
 refine wp_exit ?_
 refine c_seq <| c_region <| oy hS y_move <| oy hS (y_len h0 underlying34) <| oy hS y_bin <| oy hS y_assign <| n_thenN ?_
 obtain rfl := osi hF
 obtain rfl : _ = r := B0
 exact wp_ret (wr1 hS)
theorem w_r3_Code {g : Frag} {a0 : (List (A4 T_Ins))} {v0_ : Value} {r : Bool} (h0 : SlT g enc_Bundle 24 a0 v0_) (hF : r3_Code a0 = some r) : LCs Try.prog 18 #[v0_] g (.bool r) := w_r3_Code_ h0 hF

noncomputable def r19_Image (a0 : T_Image) : Option Bool :=
  (r3_Code a0.Code).bind fun r2 => bif r2 then bif decide ((a0.Data.length : Int) ≤ 256) then some (r0_Num a0.Entry (a0.Code.length : Int)) else some (false) else some (false)
theorem w_r19_Image_ {g : Frag} {a0 : T_Image} {v0_ : Value} {r : Bool} (h0 : Rd_Image g a0 v0_) (hF : r19_Image a0 = some r) : LCs Try.prog 6 #[v0_] g (.bool r) := by
 obtain ⟨B0, D0, rfl, E0, G0⟩ := h0
 unfold r19_Image at hF
 refine lc_body (k := 20) (av := [.agg (cl_Image B0 D0 a0.Entry).toArray]) func6 rfl rfl (h := fun W hS => ?_)
 refine c_seq <| c_region ?_
 refine o_boxP (cl := (cl_Image B0 D0 a0.Entry)) rfl hS ?_
 clear hS; intro b1 w hS
 refine oy hS y_assign <| n_thenN <| c_seq <| c_region <| oy hS (y_field fa_api_Image_0) <| oy hS (y_load oH underlying34 rfl rfl) ?_
 obtain ⟨r2, hr2, hF⟩ := ob hF
 refine o_callS hS func18 rfl rfl (hc := (w_r3_Code (a0 := a0.Code) (h0 := E0.plus) (hF := hr2))) (h := ?_)
 clear hS; intro w hS
 refine o_split (ht := fun c3 => ?_) (hf := fun c3 => ?_)
 · replace hF := bt c3 hF
   refine o_gu rfl rfl rfl <| oy hS (y_field fa_api_Image_1) <| o_gu rfl rfl rfl <| oy hS (y_load oH underlying31 rfl rfl) <| o_gu rfl rfl rfl <| oy hS (y_len G0 underlying31) <| o_gu rfl rfl rfl <| oy hS y_bin ?_
   refine oy hS y_pickT ?_
   refine o_split (ht := fun c4 => ?_) (hf := fun c4 => ?_)
   · replace hF := bt c4 hF
     refine o_gu rfl rfl rfl <| oy hS (y_field fa_api_Image_2) <| o_gu rfl rfl rfl <| oy hS (y_load oH underlying3 rfl rfl) <| o_gu rfl rfl rfl <| oy hS (y_field fa_api_Image_0) <| o_gu rfl rfl rfl <| oy hS (y_load oH underlying34 rfl rfl) ?_
     refine o_gu rfl rfl rfl <| oy hS (y_len E0 underlying34) <| o_gu rfl rfl rfl ?_
     refine o_callS hS func19 rfl rfl (hc := (w_r0_Num (a0 := a0.Entry) (a1 := (a0.Code.length : Int)))) (h := ?_)
     clear hS; intro w hS
     refine oy hS y_pickT <| oy hS y_assign <| n_thenN ?_
     obtain rfl := osi hF
     exact wp_ret (wr1 hS)
   replace hF := bf c4 hF
   iterate 6 (refine o_sk rfl rfl ?_)
   refine oy hS y_pickF <| oy hS y_assign <| n_thenN ?_
   obtain rfl := osi hF
   exact wp_ret (wr1 hS)
 replace hF := bf c3 hF
 iterate 4 (refine o_sk rfl rfl ?_)
 refine oy hS y_pickF <| oy hS y_move ?_
 iterate 6 (refine o_sk rfl rfl ?_)
 refine oy hS y_pickF <| oy hS y_assign <| n_thenN ?_
 obtain rfl := osi hF
 exact wp_ret (wr1 hS)
theorem w_r19_Image {g : Frag} {a0 : T_Image} {v0_ : Value} {r : Bool} (h0 : Rd_Image g a0 v0_) (hF : r19_Image a0 = some r) : LCs Try.prog 6 #[v0_] g (.bool r) := w_r19_Image_ h0 hF

def l20_num (a0 : Int) : Int :=
  a0
theorem w_l20_num_ {g : Frag} {a0 : Int} {r : Int}  (hF : l20_num a0 = r) : LCs Try.prog 7 #[.int .i64 a0] g (.int .i64 r) := by
 unfold l20_num at hF
 refine lc_body (k := 4) (av := [.int .i64 a0]) func7 rfl rfl (h := fun W hS => ?_)
 refine c_seq <| c_region <| oy hS y_assign <| n_thenN <| c_seq <| c_region <| oy hS y_move <| oy hS y_assign ?_
 refine n_thenN ?_
 subst hF
 exact wp_ret (wr1 hS)
theorem w_l20_num {g : Frag} {a0 : Int}  : LCs Try.prog 7 #[.int .i64 a0] g (.int .i64 (l20_num a0)) := w_l20_num_  rfl

noncomputable def object_Reader_bytes (a0 : T_Reader) (a1 : Int) : Option (T_Reader × ByteArray) :=
  bif decide (a1 < 0) then some ((⟨(ByteArray.mk #[]), true⟩ : T_Reader), (ByteArray.mk #[])) else bif decide ((a0.s.size : Int) < a1) then some ((⟨(ByteArray.mk #[]), true⟩ : T_Reader), (ByteArray.mk #[])) else (ssub a0.s 0 a1).bind fun x3 => (ssub a0.s a1 (a0.s.size : Int)).bind fun x4 => some ((⟨x4, a0.Bad⟩ : T_Reader), x3)
theorem w_object_Reader_bytes_ {g : Frag} {a0 : T_Reader} {b0_ : Nat} {LB0_ : Own} {a1 : Int} {r : (T_Reader × ByteArray)} (h0 : Bx_Reader b0_ a0 LB0_) (hF : object_Reader_bytes a0 a1 = some r) : LC Try.prog 44 #[.pointer (some ⟨b0_, 0, none⟩), .int .i64 a1] g LB0_ (fun v L => ∃ (LB' : Own), v = .string r.2 ∧ L = (LB' ++ []) ∧ Bx_Reader b0_ r.1 LB') := by
 have B0 := h0
 unfold object_Reader_bytes at hF
 refine lc_body (k := 39) (av := [.pointer (some ⟨b0_, 0, none⟩), .int .i64 a1]) func44 rfl rfl (h := fun W hS => ?_)
 have hS := hS.own_eq B0
 refine c_seq <| c_region <| oy hS y_assign <| n_thenN ?_
 iterate 2 (refine c_seq ?_)
 refine c_region <| oy hS y_move <| oy hS y_bin ?_
 refine o_split (ht := fun c1 => ?_) (hf := fun c1 => ?_)
 · replace hF := bt c1 hF
   iterate 7 (refine o_sk rfl rfl ?_)
   refine oy hS y_pickT <| n_thenN ?_
   refine c_if_true (h := ?_)
   refine c_seq <| c_region ?_
   iterate 2 (refine oy hS y_move ?_)
   refine oy hS y_nilCheck <| oy hS (y_field fa_object_Reader_0) ?_
   refine o_storeA1 (o := 0) (cl' := (enc_Reader ⟨(ByteArray.mk #[]), a0.Bad⟩)) hS (by kernel_rfl) (by exact Nat.le_of_ble_eq_true rfl) (Upd.here _) (by exact sz_string) rfl rfl ?_
   clear hS; intro w hS
   refine oy hS y_nilCheck <| oy hS (y_field fa_object_Reader_1) ?_
   refine o_storeA1 (o := 1) (cl' := (enc_Reader ⟨(ByteArray.mk #[]), true⟩)) hS (by kernel_rfl) (by exact Nat.le_of_ble_eq_true rfl) (Upd.here _) (by exact sz_bool) rfl rfl ?_
   clear hS; intro w hS
   refine n_thenN <| c_seq <| c_region <| oy hS y_assign <| n_thenN ?_
   obtain rfl := osi hF
   refine wp_ret (r_ret (vs := [.string (ByteArray.mk #[])]) (hS.re (.b .hb .n)) (rsC res_tmp rsN) rfl ⟨_, rfl, (by first | rfl | simp only [aa, ac, al, an]), rfl⟩)
 replace hF := bf c1 hF
 refine o_gu rfl rfl rfl <| oy hS y_move <| o_gu rfl rfl rfl <| oy hS y_move <| o_gu rfl rfl rfl <| oy hS y_nilCheck <| o_gu rfl rfl rfl <| oy hS (y_field fa_object_Reader_0) ?_
 refine o_gu rfl rfl rfl <| oy hS (y_load oH underlying9 rfl rfl) <| o_gu rfl rfl rfl <| oy hS (y_lens underlying9) <| o_gu rfl rfl rfl <| oy hS y_bin <| oy hS y_pickF <| n_thenN ?_
 refine c_if (ht := fun c2 => ?_) (hf := fun c2 => ?_)
 · replace hF := bt c2 hF
   refine c_seq <| c_region ?_
   iterate 2 (refine oy hS y_move ?_)
   refine oy hS y_nilCheck <| oy hS (y_field fa_object_Reader_0) ?_
   refine o_storeA1 (o := 0) (cl' := (enc_Reader ⟨(ByteArray.mk #[]), a0.Bad⟩)) hS (by kernel_rfl) (by exact Nat.le_of_ble_eq_true rfl) (Upd.here _) (by exact sz_string) rfl rfl ?_
   clear hS; intro w hS
   refine oy hS y_nilCheck <| oy hS (y_field fa_object_Reader_1) ?_
   refine o_storeA1 (o := 1) (cl' := (enc_Reader ⟨(ByteArray.mk #[]), true⟩)) hS (by kernel_rfl) (by exact Nat.le_of_ble_eq_true rfl) (Upd.here _) (by exact sz_bool) rfl rfl ?_
   clear hS; intro w hS
   refine n_thenN <| c_seq <| c_region <| oy hS y_assign <| n_thenN ?_
   obtain rfl := osi hF
   refine wp_ret (r_ret (vs := [.string (ByteArray.mk #[])]) (hS.re (.b .hb .n)) (rsC res_tmp rsN) rfl ⟨_, rfl, (by first | rfl | simp only [aa, ac, al, an]), rfl⟩)
 replace hF := bf c2 hF
 refine wp_skip <| c_seq <| c_region <| oy hS y_move <| oy hS y_nilCheck <| oy hS (y_field fa_object_Reader_0) <| oy hS (y_load oH underlying9 rfl rfl) <| oy hS y_move ?_
 obtain ⟨x3, hx3, hF⟩ := ob hF
 refine oy hS (y_ssU hx3 underlying9) <| oy hS y_assign <| n_thenN <| c_seq <| c_region ?_
 iterate 2 (refine oy hS y_move ?_)
 refine oy hS y_nilCheck <| oy hS (y_field fa_object_Reader_0) <| oy hS (y_load oH underlying9 rfl rfl) <| oy hS y_move ?_
 obtain ⟨x4, hx4, hF⟩ := ob hF
 refine oy hS (y_ssD hx4 underlying9) <| oy hS y_nilCheck <| oy hS (y_field fa_object_Reader_0) ?_
 refine o_storeA1 (o := 0) (cl' := (enc_Reader ⟨x4, a0.Bad⟩)) hS (by kernel_rfl) (by exact Nat.le_of_ble_eq_true rfl) (Upd.here _) (by exact sz_string) rfl rfl ?_
 clear hS; intro w hS
 refine n_thenN <| c_seq <| c_region <| oy hS y_move <| oy hS y_assign <| n_thenN ?_
 obtain rfl := osi hF
 refine wp_ret (r_ret (vs := [.string x3]) (hS.re (.b .hb .n)) (rsC res_tmp rsN) rfl ⟨_, rfl, (by first | rfl | simp only [aa, ac, al, an]), rfl⟩)
theorem w_object_Reader_bytes {g : Frag} {a0 : T_Reader} {b0_ : Nat} {LB0_ : Own} {a1 : Int} {r : (T_Reader × ByteArray)} (h0 : Bx_Reader b0_ a0 LB0_) (hF : object_Reader_bytes a0 a1 = some r) : LC Try.prog 44 #[.pointer (some ⟨b0_, 0, none⟩), .int .i64 a1] g LB0_ (fun v L => ∃ (LB' : Own), v = .string r.2 ∧ L = (LB' ++ []) ∧ Bx_Reader b0_ r.1 LB') := w_object_Reader_bytes_ h0 hF

noncomputable def object_Reader_Number_b1 (r1 : (T_Reader × ByteArray)) : (Int × Int) → Option (Step (Int × Int) (T_Reader × Int)) := fun (x24, x25) => bif decide (x25 < ((bytesOf r1.2).length : Int)) then (at' (bytesOf r1.2) x25).bind fun x45 => (shl' .u32 x24 8).bind fun x57 => some (.next (bits .or .u32 x57 (IntKind.u32.wrap x45), IntKind.i64.wrap (x25 + 1))) else some (.done ((r1.1, x24)))
noncomputable def object_Reader_Number (a0 : T_Reader) : Option (T_Reader × Int) :=
  (object_Reader_bytes a0 4).bind fun r1 => loop (σ := (Int × Int)) (object_Reader_Number_b1 r1) (0, 0)
theorem w_object_Reader_Number_ {g : Frag} {a0 : T_Reader} {b0_ : Nat} {LB0_ : Own} {r : (T_Reader × Int)} (h0 : Bx_Reader b0_ a0 LB0_) (hF : object_Reader_Number a0 = some r) : LC Try.prog 24 #[.pointer (some ⟨b0_, 0, none⟩)] g LB0_ (fun v L => ∃ (LB' : Own), v = .int .u32 r.2 ∧ L = (LB' ++ []) ∧ Bx_Reader b0_ r.1 LB') := by
 have D0 := h0
 unfold object_Reader_Number at hF
 refine lc_body (k := 20) (av := [.pointer (some ⟨b0_, 0, none⟩)]) func24 rfl rfl (h := fun W hS => ?_)
 have hS := hS.own_eq D0
 refine c_seq <| c_region <| oy hS y_assign <| n_thenN ?_
 iterate 2 (refine c_seq ?_)
 refine c_region <| oy hS y_move ?_
 have hS2 := hS.spl (.cons _ (.nil _))
 obtain ⟨r1, hr1, hF⟩ := ob hF
 refine o_call hS2 func44 rfl rfl (hc := (w_object_Reader_bytes (a0 := a0) (a1 := 4) (h0 := (rfl : Bx_Reader b0_ a0 ((b0_, blk (enc_Reader a0) 68) :: []))) (hF := hr1))) (h := ?_)
 clear hS; intro v2 LY3 w hS hr4
 clear hS2
 obtain ⟨LB5, rfl, rfl, hb6⟩ := hr4
 obtain rfl := hb6
 simp only [aa, ac, al] at hS
 refine o_s2b (enc := enc_uint8) hS (fun _ => rfl) underlying9 underlying83 underlying5 ?_
 clear hS; intro v7 LX8 w h9 hS
 refine oy hS (y_len h9 underlying83) <| oy hS y_move <| n_thenN <| c_block ?_
 refine c_loopP hF (fun (q : (Int × Int)) a w' => (∃ s : Nat → Value, a = Ac (((((Fm.dead 20 s).upd 2 (.int .u32 q.1)).upd 7 v7).upd 8 (.int .i64 ((bytesOf r1.2).length : Int))).upd 9 (.int .i64 q.2))) ∧ St W (g.plus LX8) LB0_ ((b0_, blk (enc_Reader r1.1) 68) :: []) w') ⟨mk_exF, (hS.re (.b .hb .n))⟩ ?_
 clear hS hF
 intro n42 q a w hI hq
 obtain ⟨x24, x25⟩ := q
 obtain ⟨⟨s43, rfl⟩, hS⟩ := hq
 obtain ⟨z40, hF, B0⟩ := iter_step hI
 clear hI
 dsimp only [object_Reader_Number_b1] at hF
 refine c_seq <| c_region <| oy hS y_bin <| n_thenN <| c_seq ?_
 refine c_if (ht := fun c44 => ?_) (hf := fun c44 => ?_)
 · replace hF := bt c44 hF
   refine wp_skip <| c_seq <| c_block <| c_seq <| c_region ?_
   obtain ⟨x45, E0, hF⟩ := ob hF
   obtain ⟨b46, o47, c48, R0, e50, T0, G0, I0, J0, K0, M0⟩ := SlT.at E0 h9 enc_len_uint8
   refine oy hS (y_index G0 I0 J0 underlying83 el_uint8.size) <| oy hS (y_load (fun w hS => hS.block K0) underlying5 rfl (M0 0 _ rfl)) <| oy hS y_assign <| n_thenN <| c_region <| oy hS y_move ?_
   obtain ⟨x57, N0, hF⟩ := ob hF
   refine oy hS (y_shl N0) <| oy hS y_move <| oy hS (y_conv underlying5 underlying38) <| oy hS y_bin <| oy hS y_assign ?_
   refine n_anyN ?_
   refine c_region <| oy hS y_bin <| oy hS y_move <| n_thenN ?_
   obtain rfl := osi hF
   exact ⟨_, B0, mk_exF, (hS.re (.b .hb .n))⟩
 replace hF := bf c44 hF
 refine wp_exit ?_
 refine c_seq <| c_region <| oy hS y_move <| oy hS y_assign <| n_thenN ?_
 obtain rfl := osi hF
 obtain rfl : _ = r := B0
 refine wp_ret (r_ret (vs := [.int .u32 x24]) ((hS.re (.b .hb .n)).less (Frag.le_plus _ _)) (rsC res_tmp rsN) rfl ⟨_, rfl, (by first | rfl | simp only [aa, ac, al, an]), rfl⟩)
theorem w_object_Reader_Number {g : Frag} {a0 : T_Reader} {b0_ : Nat} {LB0_ : Own} {r : (T_Reader × Int)} (h0 : Bx_Reader b0_ a0 LB0_) (hF : object_Reader_Number a0 = some r) : LC Try.prog 24 #[.pointer (some ⟨b0_, 0, none⟩)] g LB0_ (fun v L => ∃ (LB' : Own), v = .int .u32 r.2 ∧ L = (LB' ++ []) ∧ Bx_Reader b0_ r.1 LB') := w_object_Reader_Number_ h0 hF

noncomputable def object_Begun (a0 : ByteArray) : Option T_Reader :=
  bif decide ((IntKind.i64.wrap ((a0.size : Int) - 4)) < 0) then some (⟨ByteArray.empty, true⟩ : T_Reader) else (ssub a0 (IntKind.i64.wrap ((a0.size : Int) - 4)) (a0.size : Int)).bind fun x3 => (ssub a0 0 (IntKind.i64.wrap ((a0.size : Int) - 4))).bind fun x5 => (ssub a0 0 (IntKind.i64.wrap ((a0.size : Int) - 4))).bind fun x6 => (object_Reader_Number (⟨x3, false⟩ : T_Reader)).bind fun r7 => (object_sum x6).bind fun r13 => some (⟨x5, decide (r7.2 ≠ r13)⟩ : T_Reader)
theorem w_object_Begun_ {g : Frag} {a0 : ByteArray} {r : T_Reader}  (hF : object_Begun a0 = some r) : LC Try.prog 20 #[.string a0] g [] (fun v L => ∃ (u0 : Value) (M0 : Own), u0 = v ∧ L = (M0 ++ []) ∧ Pb_Reader r u0 M0) := by
 unfold object_Begun at hF
 refine lc_body (k := 29) (av := [.string a0]) func20 rfl rfl (h := fun W hS => ?_)
 refine c_seq <| c_region <| oy hS y_assign <| n_thenN <| c_seq <| c_region <| oy hS y_move <| oy hS (y_lens underlying9) ?_
 refine oy hS y_bin <| oy hS y_assign <| n_thenN ?_
 iterate 2 (refine c_seq ?_)
 refine c_region <| oy hS y_move <| oy hS y_bin <| n_thenN ?_
 refine c_if (ht := fun c1 => ?_) (hf := fun c1 => ?_)
 · replace hF := bt c1 hF
   refine c_seq <| c_region ?_
   refine oy hS (y_build (cl := (enc_Reader ⟨ByteArray.empty, true⟩)) bt_object_Reader rfl (by kernel_rfl)) ?_
   refine o_boxP (cl := (enc_Reader ⟨ByteArray.empty, true⟩)) rfl hS ?_
   clear hS; intro b2 w hS
   refine oy hS y_assign <| n_thenN ?_
   obtain rfl := osi hF
   refine wp_ret (r_ret (vs := [.pointer (some ⟨b2, 0, none⟩)]) (hS.re (.b .hb .n)) (rsC res_tmp rsN) rfl ⟨_, _, rfl, (by first | rfl | simp only [aa, ac, al, an]), ⟨_, rfl, rfl⟩⟩)
 replace hF := bf c1 hF
 refine wp_skip <| c_seq <| c_region ?_
 iterate 2 (refine oy hS y_move ?_)
 obtain ⟨x3, hx3, hF⟩ := ob hF
 refine oy hS (y_ssD hx3 underlying9) ?_
 refine oy hS (y_build (cl := (enc_Reader ⟨x3, false⟩)) bt_object_Reader rfl (by kernel_rfl)) ?_
 refine o_boxP (cl := (enc_Reader ⟨x3, false⟩)) rfl hS ?_
 clear hS; intro b4 w hS
 refine oy hS y_assign <| n_thenN <| c_seq ?_
 refine c_heldL 4 13 (by kernel_rfl) rfl hS ?_
 clear hS; intro w hS
 refine hy0 0 rfl wn (by kernel_rfl) (nq (P := Try.prog) (fn := Try.f20)) (fun _ => hS.cb) y_move ?_
 refine hy0 1 rfl wn (by kernel_rfl) (nq (P := Try.prog) (fn := Try.f20)) (fun _ => hS.cb) y_move ?_
 obtain ⟨x5, hx5, hF⟩ := ob hF
 refine hy0 2 rfl wn (by kernel_rfl) (nq (P := Try.prog) (fn := Try.f20)) (fun _ => hS.cb) (y_ssU hx5 underlying9) ?_
 refine hy0 3 rfl wn (by kernel_rfl) (nq (P := Try.prog) (fn := Try.f20)) (fun _ => hS.cb) y_move ?_
 refine hy0 5 rfl wn (by kernel_rfl) (nq (P := Try.prog) (fn := Try.f20)) (fun _ => hS.cb) y_move ?_
 refine hy0 6 rfl wn (by kernel_rfl) (nq (P := Try.prog) (fn := Try.f20)) (fun _ => hS.cb) y_move ?_
 obtain ⟨x6, hx6, hF⟩ := ob hF
 refine hy0 7 rfl wn (by kernel_rfl) (nq (P := Try.prog) (fn := Try.f20)) (fun _ => hS.cb) (y_ssU hx6 underlying9) ?_
 refine hb1 4 (by kernel_rfl) (hb_op rfl wn (nl (P := Try.prog) (fn := Try.f20)) ?_)
 have hS2 := hS.spl (.cons _ (.nil _))
 obtain ⟨r7, hr7, hF⟩ := ob hF
 refine o_call hS2 func24 rfl rfl (hc := (w_object_Reader_Number (a0 := (⟨x3, false⟩ : T_Reader)) (h0 := (rfl : Bx_Reader b4 (⟨x3, false⟩ : T_Reader) ((b4, blk (enc_Reader ⟨x3, false⟩) 68) :: []))) (hF := hr7))) (h := ?_)
 clear hS; intro v8 LY9 w hS B0
 clear hS2
 obtain ⟨G0, rfl, rfl, D0⟩ := B0
 obtain rfl := D0
 simp only [aa, ac, al] at hS
 refine hb_next (fun h => absurd h (by decide)) ?_
 refine hb1 8 (by kernel_rfl) (hb_op rfl wn (nl (P := Try.prog) (fn := Try.f20)) ?_)
 obtain ⟨r13, E0, hF⟩ := ob hF
 refine o_callS hS func43 rfl rfl (hc := (w_object_sum (a0 := x6) (hF := E0))) (h := ?_)
 clear hS; intro w hS
 refine hb_next (fun h => absurd h (by decide)) ?_
 refine hy0 9 rfl wn (by kernel_rfl) (nq (P := Try.prog) (fn := Try.f20)) (fun h => absurd h (by decide)) y_bin ?_
 refine hy0 10 rfl wn (by kernel_rfl) (nq (P := Try.prog) (fn := Try.f20)) (fun h => absurd h (by decide)) (y_build (cl := (enc_Reader ⟨x5, decide (r7.2 ≠ r13)⟩)) bt_object_Reader rfl (by kernel_rfl)) ?_
 refine hb1 11 (by kernel_rfl) (hb_op rfl wn (nl (P := Try.prog) (fn := Try.f20)) ?_)
 refine o_boxP (cl := (enc_Reader ⟨x5, decide (r7.2 ≠ r13)⟩)) rfl hS ?_
 clear hS; intro b14 w hS
 refine hb_next (fun h => absurd h (by decide)) ?_
 refine hy0 12 rfl wn (by kernel_rfl) (nq (P := Try.prog) (fn := Try.f20)) (fun h => absurd h (by decide)) y_assign ?_
 refine hb_done (by kernel_rfl) ?_
 obtain rfl := osi hF
 refine wp_ret (r_ret (vs := [.pointer (some ⟨b14, 0, none⟩)]) (hS.re (.b .hb .n)) (rsC res_tmp rsN) rfl ⟨_, _, rfl, (by first | rfl | simp only [aa, ac, al, an]), ⟨_, rfl, rfl⟩⟩)
theorem w_object_Begun {g : Frag} {a0 : ByteArray} {r : T_Reader}  (hF : object_Begun a0 = some r) : LC Try.prog 20 #[.string a0] g [] (fun v L => ∃ (u0 : Value) (M0 : Own), u0 = v ∧ L = (M0 ++ []) ∧ Pb_Reader r u0 M0) := w_object_Begun_  hF

noncomputable def object_Reader_one (a0 : T_Reader) : Option (T_Reader × Int) :=
  (object_Reader_bytes a0 1).bind fun r1 => bif decide (r1.2 = (ByteArray.mk #[])) then some (r1.1, 0) else (byte' r1.2 0).bind fun x8 => some (r1.1, IntKind.i64.wrap x8)
theorem w_object_Reader_one_ {g : Frag} {a0 : T_Reader} {b0_ : Nat} {LB0_ : Own} {r : (T_Reader × Int)} (h0 : Bx_Reader b0_ a0 LB0_) (hF : object_Reader_one a0 = some r) : LC Try.prog 45 #[.pointer (some ⟨b0_, 0, none⟩)] g LB0_ (fun v L => ∃ (LB' : Own), v = .int .i64 r.2 ∧ L = (LB' ++ []) ∧ Bx_Reader b0_ r.1 LB') := by
 have B0 := h0
 unfold object_Reader_one at hF
 refine lc_body (k := 11) (av := [.pointer (some ⟨b0_, 0, none⟩)]) func45 rfl rfl (h := fun W hS => ?_)
 have hS := hS.own_eq B0
 refine c_seq <| c_region <| oy hS y_assign <| n_thenN <| c_seq <| c_region <| oy hS y_move ?_
 have hS2 := hS.spl (.cons _ (.nil _))
 obtain ⟨r1, hr1, hF⟩ := ob hF
 refine o_call hS2 func44 rfl rfl (hc := (w_object_Reader_bytes (a0 := a0) (a1 := 1) (h0 := (rfl : Bx_Reader b0_ a0 ((b0_, blk (enc_Reader a0) 68) :: []))) (hF := hr1))) (h := ?_)
 clear hS; intro v2 LY3 w hS hr4
 clear hS2
 obtain ⟨LB5, rfl, rfl, hb6⟩ := hr4
 obtain rfl := hb6
 simp only [aa, ac, al] at hS
 refine oy hS y_assign <| n_thenN ?_
 iterate 2 (refine c_seq ?_)
 refine c_region <| oy hS y_move <| oy hS y_seql <| n_thenN ?_
 refine c_if (ht := fun c7 => ?_) (hf := fun c7 => ?_)
 · replace hF := bt c7 hF
   refine c_seq <| c_region <| oy hS y_assign <| n_thenN ?_
   obtain rfl := osi hF
   refine wp_ret (r_ret (vs := [.int .i64 0]) (hS.re (.b .hb .n)) (rsC res_tmp rsN) rfl ⟨_, rfl, (by first | rfl | simp only [aa, ac, al, an]), rfl⟩)
 replace hF := bf c7 hF
 refine wp_skip <| c_seq <| c_region <| oy hS y_move ?_
 obtain ⟨x8, hx8, hF⟩ := ob hF
 refine oy hS (y_byte hx8 underlying9) <| oy hS (y_conv underlying5 underlying3) <| oy hS y_assign <| n_thenN ?_
 obtain rfl := osi hF
 refine wp_ret (r_ret (vs := [.int .i64 (IntKind.i64.wrap x8)]) (hS.re (.b .hb .n)) (rsC res_tmp rsN) rfl ⟨_, rfl, (by first | rfl | simp only [aa, ac, al, an]), rfl⟩)
theorem w_object_Reader_one {g : Frag} {a0 : T_Reader} {b0_ : Nat} {LB0_ : Own} {r : (T_Reader × Int)} (h0 : Bx_Reader b0_ a0 LB0_) (hF : object_Reader_one a0 = some r) : LC Try.prog 45 #[.pointer (some ⟨b0_, 0, none⟩)] g LB0_ (fun v L => ∃ (LB' : Own), v = .int .i64 r.2 ∧ L = (LB' ++ []) ∧ Bx_Reader b0_ r.1 LB') := w_object_Reader_one_ h0 hF

noncomputable def object_Reader_Text (a0 : T_Reader) : Option (T_Reader × ByteArray) :=
  (object_Reader_one a0).bind fun r1 => (object_Reader_bytes r1.1 r1.2).bind fun r7 => some (r7.1, r7.2)
theorem w_object_Reader_Text_ {g : Frag} {a0 : T_Reader} {b0_ : Nat} {LB0_ : Own} {r : (T_Reader × ByteArray)} (h0 : Bx_Reader b0_ a0 LB0_) (hF : object_Reader_Text a0 = some r) : LC Try.prog 21 #[.pointer (some ⟨b0_, 0, none⟩)] g LB0_ (fun v L => ∃ (LB' : Own), v = .string r.2 ∧ L = (LB' ++ []) ∧ Bx_Reader b0_ r.1 LB') := by
 have B0 := h0
 unfold object_Reader_Text at hF
 refine lc_body (k := 7) (av := [.pointer (some ⟨b0_, 0, none⟩)]) func21 rfl rfl (h := fun W hS => ?_)
 have hS := hS.own_eq B0
 refine c_seq <| c_region <| oy hS y_assign <| n_thenN <| c_seq <| c_region ?_
 iterate 2 (refine oy hS y_move ?_)
 have hS2 := hS.spl (.cons _ (.nil _))
 obtain ⟨r1, hr1, hF⟩ := ob hF
 refine o_call hS2 func45 rfl rfl (hc := (w_object_Reader_one (a0 := a0) (h0 := (rfl : Bx_Reader b0_ a0 ((b0_, blk (enc_Reader a0) 68) :: []))) (hF := hr1))) (h := ?_)
 clear hS; intro v2 LY3 w hS hr4
 clear hS2
 obtain ⟨LB5, rfl, rfl, hb6⟩ := hr4
 obtain rfl := hb6
 simp only [aa, ac, al] at hS
 have hS2 := hS.spl (.cons _ (.nil _))
 obtain ⟨r7, hr7, hF⟩ := ob hF
 refine o_call hS2 func44 rfl rfl (hc := (w_object_Reader_bytes (a0 := r1.1) (a1 := r1.2) (h0 := (rfl : Bx_Reader b0_ r1.1 ((b0_, blk (enc_Reader r1.1) 68) :: []))) (hF := hr7))) (h := ?_)
 clear hS; intro v8 LY9 w hS D0
 clear hS2
 obtain ⟨G0, rfl, rfl, E0⟩ := D0
 obtain rfl := E0
 simp only [aa, ac, al] at hS
 refine oy hS y_assign <| n_thenN ?_
 obtain rfl := osi hF
 refine wp_ret (r_ret (vs := [.string r7.2]) (hS.re (.b .hb .n)) (rsC res_tmp rsN) rfl ⟨_, rfl, (by first | rfl | simp only [aa, ac, al, an]), rfl⟩)
theorem w_object_Reader_Text {g : Frag} {a0 : T_Reader} {b0_ : Nat} {LB0_ : Own} {r : (T_Reader × ByteArray)} (h0 : Bx_Reader b0_ a0 LB0_) (hF : object_Reader_Text a0 = some r) : LC Try.prog 21 #[.pointer (some ⟨b0_, 0, none⟩)] g LB0_ (fun v L => ∃ (LB' : Own), v = .string r.2 ∧ L = (LB' ++ []) ∧ Bx_Reader b0_ r.1 LB') := w_object_Reader_Text_ h0 hF

noncomputable def object_Reader_many (a0 : T_Reader) (a1 : Int) : Option (T_Reader × Int) :=
  (object_Reader_Number a0).bind fun r1 => bif decide ((IntKind.u64.wrap (r1.1.s.size : Int)) < (IntKind.u64.wrap ((IntKind.u64.wrap r1.2) * (IntKind.u64.wrap a1)))) then some ((⟨r1.1.s, true⟩ : T_Reader), 0) else some (r1.1, IntKind.i64.wrap r1.2)
theorem w_object_Reader_many_ {g : Frag} {a0 : T_Reader} {b0_ : Nat} {LB0_ : Own} {a1 : Int} {r : (T_Reader × Int)} (h0 : Bx_Reader b0_ a0 LB0_) (hF : object_Reader_many a0 a1 = some r) : LC Try.prog 46 #[.pointer (some ⟨b0_, 0, none⟩), .int .i64 a1] g LB0_ (fun v L => ∃ (LB' : Own), v = .int .i64 r.2 ∧ L = (LB' ++ []) ∧ Bx_Reader b0_ r.1 LB') := by
 have B0 := h0
 unfold object_Reader_many at hF
 refine lc_body (k := 25) (av := [.pointer (some ⟨b0_, 0, none⟩), .int .i64 a1]) func46 rfl rfl (h := fun W hS => ?_)
 have hS := hS.own_eq B0
 refine c_seq <| c_region <| oy hS y_assign <| n_thenN <| c_seq <| c_region <| oy hS y_move ?_
 have hS2 := hS.spl (.cons _ (.nil _))
 obtain ⟨r1, hr1, hF⟩ := ob hF
 refine o_call hS2 func24 rfl rfl (hc := (w_object_Reader_Number (a0 := a0) (h0 := (rfl : Bx_Reader b0_ a0 ((b0_, blk (enc_Reader a0) 68) :: []))) (hF := hr1))) (h := ?_)
 clear hS; intro v2 LY3 w hS hr4
 clear hS2
 obtain ⟨LB5, rfl, rfl, hb6⟩ := hr4
 obtain rfl := hb6
 simp only [aa, ac, al] at hS
 refine oy hS y_assign <| n_thenN ?_
 iterate 2 (refine c_seq ?_)
 refine c_region <| oy hS y_move <| oy hS (y_conv underlying38 underlying113) <| oy hS y_move <| oy hS (y_conv underlying3 underlying113) <| oy hS y_bin <| oy hS y_move <| oy hS y_nilCheck ?_
 refine oy hS (y_field fa_object_Reader_0) <| oy hS (y_load oH underlying9 rfl rfl) <| oy hS (y_lens underlying9) <| oy hS (y_conv underlying3 underlying113) <| oy hS y_bin <| n_thenN ?_
 refine c_if (ht := fun c7 => ?_) (hf := fun c7 => ?_)
 · replace hF := bt c7 hF
   refine c_seq <| c_region <| oy hS y_move <| oy hS y_nilCheck <| oy hS (y_field fa_object_Reader_1) ?_
   refine o_storeA1 (o := 1) (cl' := (enc_Reader ⟨r1.1.s, true⟩)) hS (by kernel_rfl) (by exact Nat.le_of_ble_eq_true rfl) (Upd.here _) (by exact sz_bool) rfl rfl ?_
   clear hS; intro w hS
   refine n_thenN <| c_seq <| c_region <| oy hS y_assign <| n_thenN ?_
   obtain rfl := osi hF
   refine wp_ret (r_ret (vs := [.int .i64 0]) (hS.re (.b .hb .n)) (rsC res_tmp rsN) rfl ⟨_, rfl, (by first | rfl | simp only [aa, ac, al, an]), rfl⟩)
 replace hF := bf c7 hF
 refine wp_skip <| c_seq <| c_region <| oy hS y_move <| oy hS (y_conv underlying38 underlying3) <| oy hS y_assign <| n_thenN ?_
 obtain rfl := osi hF
 refine wp_ret (r_ret (vs := [.int .i64 (IntKind.i64.wrap r1.2)]) (hS.re (.b .hb .n)) (rsC res_tmp rsN) rfl ⟨_, rfl, (by first | rfl | simp only [aa, ac, al, an]), rfl⟩)
theorem w_object_Reader_many {g : Frag} {a0 : T_Reader} {b0_ : Nat} {LB0_ : Own} {a1 : Int} {r : (T_Reader × Int)} (h0 : Bx_Reader b0_ a0 LB0_) (hF : object_Reader_many a0 a1 = some r) : LC Try.prog 46 #[.pointer (some ⟨b0_, 0, none⟩), .int .i64 a1] g LB0_ (fun v L => ∃ (LB' : Own), v = .int .i64 r.2 ∧ L = (LB' ++ []) ∧ Bx_Reader b0_ r.1 LB') := w_object_Reader_many_ h0 hF
end Go.Proofs.Ytjmmkbehdbpklaa
