/- Functions, lifted. Printed by lift.py. -/
import Derived.Test.YtaplgcdpppcajaaDoorProg
import Derived.Test.YtaplgcdpppcajaaDoorP2
import Derived.KernelRfl
namespace Go.Proofs.YtaplgcdpppcajaaDoor
open Go Go.RowKit Fr
set_option linter.unusedVariables false
set_option linter.unusedSimpArgs false
set_option maxRecDepth 20000
open Tryd
set_option maxHeartbeats 2000000
noncomputable def r3_May (a0 : Int) (a1 : Int) : Option Bool :=
  bif (r3_Valid a0) then (r0_In (r3_Slots a0) a1).bind fun r9 => some (decide (0 ≤ r9)) else some (false)
theorem w_r3_May_ {g : Frag} {a0 : Int} {a1 : Int} {r : Bool}  (hF : r3_May a0 a1 = some r) : LCs Tryd.prog 36 #[.int .i64 a0, .int .i64 a1] g (.bool r) := by
 unfold r3_May at hF
 refine lc_body (k := 14) (av := [.int .i64 a0, .int .i64 a1]) func36 rfl rfl (h := fun W hS => ?_)
 refine c_seq <| c_region <| oy hS y_assign <| n_thenN <| c_seq <| c_region <| oy hS y_move ?_
 refine o_callS hS func26 rfl rfl (hc := (w_r3_Valid (a0 := a0))) (h := ?_)
 clear hS; intro w hS
 refine o_split (ht := fun c1 => ?_) (hf := fun c1 => ?_)
 · replace hF := bt c1 hF
   refine o_gu rfl rfl rfl <| oy hS y_move <| o_gu rfl rfl rfl ?_
   refine o_call0 hS func29 rfl rfl (hc := (w_r3_Slots (a0 := a0))) (h := ?_)
   clear hS; intro v2 LY3 w hS hr4
   obtain ⟨v_0_5, LX_0_6, rfl, rfl, h_0_7⟩ := hr4
   simp only [aa, ac, al] at hS
   refine o_gu rfl rfl rfl <| oy hS y_move <| o_gu rfl rfl rfl ?_
   obtain ⟨r9, hr9, hF⟩ := ob hF
   refine o_callS hS func63 rfl rfl (hc := (w_r0_In (a0 := (r3_Slots a0)) (a1 := a1) (h0 := (OwT.plus h_0_7 hS (fun p hp => mA (hp)))) (hF := hr9))) (h := ?_)
   clear hS; intro w hS
   refine o_gu rfl rfl rfl <| oy hS y_bin <| oy hS y_pickT <| oy hS y_assign <| n_thenN ?_
   obtain rfl := osi hF
   exact wp_ret (wr1 hS)
 replace hF := bf c1 hF
 iterate 5 (refine o_sk rfl rfl ?_)
 refine oy hS y_pickF <| oy hS y_assign <| n_thenN ?_
 obtain rfl := osi hF
 exact wp_ret (wr1 hS)
theorem w_r3_May {g : Frag} {a0 : Int} {a1 : Int} {r : Bool}  (hF : r3_May a0 a1 = some r) : LCs Tryd.prog 36 #[.int .i64 a0, .int .i64 a1] g (.bool r) := w_r3_May_  hF

noncomputable def r0_At_b1 (a0 : (List ByteArray)) (a1 : ByteArray) : Int → Option (Step Int Int) := fun x15 => bif decide (x15 < (a0.length : Int)) then (at' a0 x15).bind fun x35 => bif decide (x35 = a1) then some (.done (x15)) else some (.next (IntKind.i64.wrap (x15 + 1))) else some (.done ((-1)))
noncomputable def r0_At (a0 : (List ByteArray)) (a1 : ByteArray) : Option Int :=
  loop (σ := Int) (r0_At_b1 a0 a1) 0
theorem w_r0_At_ {g : Frag} {a0 : (List ByteArray)} {v0_ : Value} {a1 : ByteArray} {r : Int} (h0 : SlT g enc_string 1 a0 v0_) (hF : r0_At a0 a1 = some r) : LCs Tryd.prog 37 #[v0_, .string a1] g (.int .i64 r) := by
 unfold r0_At at hF
 refine lc_body (k := 19) (av := [v0_, .string a1]) func37 rfl rfl (h := fun W hS => ?_)
 refine c_seq <| c_region <| oy hS y_assign <| n_thenN ?_
 iterate 2 (refine c_seq ?_)
 refine c_region <| oy hS y_assign <| n_thenN <| c_block ?_
 refine c_loopP hF (fun (q : Int) a w' => (∃ s : Nat → Value, a = Ac ((((Fm.dead 19 s).upd 0 v0_).upd 1 (.string a1)).upd 5 (.int .i64 q))) ∧ St W g [] [] w') ⟨mk_exF, (hS.re (.n))⟩ ?_
 clear hS hF
 intro n32 q a w hI hq
 revert hq hI; revert q; intro x15 hI hq
 obtain ⟨⟨s33, rfl⟩, hS⟩ := hq
 obtain ⟨z30, hF, B0⟩ := iter_step hI
 clear hI
 dsimp only [r0_At_b1] at hF
 iterate 2 (refine c_seq ?_)
 refine c_region ?_
 iterate 2 (refine oy hS y_move ?_)
 refine oy hS (y_len h0 underlying23) <| oy hS y_bin <| n_thenN ?_
 refine c_if (ht := fun c34 => ?_) (hf := fun c34 => ?_)
 · replace hF := bt c34 hF
   refine wp_skip <| c_seq <| c_block <| c_seq <| c_region ?_
   iterate 2 (refine oy hS y_move ?_)
   obtain ⟨x35, D0, hF⟩ := ob hF
   obtain ⟨b36, o37, c38, M0, e40, N0, E0, G0, I0, J0, K0⟩ := SlT.at D0 h0 enc_len_string
   refine oy hS (y_index E0 G0 I0 underlying23 el_string.size) <| oy hS (y_load (fun w hS => hS.block J0) underlying9 rfl (K0 0 _ rfl)) <| oy hS y_move <| oy hS y_seql <| n_thenN ?_
   refine c_if (ht := fun c47 => ?_) (hf := fun c47 => ?_)
   · replace hF := bt c47 hF
     refine c_seq <| c_region <| oy hS y_move <| oy hS y_assign <| n_thenN ?_
     obtain rfl := osi hF
     obtain rfl : _ = r := B0
     exact wp_ret (wr1 hS)
   replace hF := bf c47 hF
   refine wp_skip <| c_region <| oy hS y_move <| oy hS y_bin <| oy hS y_assign <| n_thenN ?_
   obtain rfl := osi hF
   exact ⟨_, B0, mk_exF, (hS.re (.n))⟩
 replace hF := bf c34 hF
 refine wp_exit ?_
 refine c_seq <| c_region <| oy hS y_assign <| n_thenN ?_
 obtain rfl := osi hF
 obtain rfl : _ = r := B0
 exact wp_ret (wr1 hS)
theorem w_r0_At {g : Frag} {a0 : (List ByteArray)} {v0_ : Value} {a1 : ByteArray} {r : Int} (h0 : SlT g enc_string 1 a0 v0_) (hF : r0_At a0 a1 = some r) : LCs Tryd.prog 37 #[v0_, .string a1] g (.int .i64 r) := w_r0_At_ h0 hF
end Go.Proofs.YtaplgcdpppcajaaDoor
