/- The law BenchPorts, lifted. Printed by lift.py. -/
import Derived.Test.YtgakgpbmcbegbaaGreatDoorProg
import Derived.Test.YtgakgpbmcbegbaaGreatDoorP15
import Derived.KernelRfl
namespace Go.Proofs.YtgakgpbmcbegbaaGreatDoor
open Go Go.RowKit Fr
set_option linter.unusedVariables false
set_option linter.unusedSimpArgs false
set_option maxRecDepth 20000
open Tryz
set_option maxHeartbeats 2000000
noncomputable section
def l23_BenchPorts_b1 (r2 : (List (List Int))) : Int → Option (Step Int Bool) := fun x28 => bif decide (x28 < (r2.length : Int)) then (at' r2 x28).bind fun x50 => (l23_alike (ByteArray.mk #[109, 97, 105, 110, 58, 32, 105, 110, 32, 114, 49, 10, 105, 110, 32, 114, 50, 10, 97, 100, 100, 32, 114, 51, 44, 32, 114, 49, 44, 32, 114, 50, 10, 111, 117, 116, 32, 114, 51, 10, 109, 117, 108, 32, 114, 52, 44, 32, 114, 49, 44, 32, 114, 50, 10, 105, 110, 32, 114, 53, 10, 111, 117, 116, 32, 114, 52, 10, 100, 105, 118, 32, 114, 54, 44, 32, 114, 53, 44, 32, 114, 49, 10, 111, 117, 116, 32, 114, 53, 10, 111, 117, 116, 32, 114, 54, 10, 98, 110, 122, 32, 114, 53, 44, 32, 109, 97, 105, 110, 10, 104, 97, 108, 116]) x50).bind fun r62 => bif !r62 then some (.done (false)) else some (.next (IntKind.i64.wrap (x28 + 1))) else (l23_wakes).bind fun r64 => some (.done (r64))
def l23_BenchPorts (a0 : T_Ask) : Option Bool :=
  (l23_ins a0).bind fun r2 => loop (σ := Int) (l23_BenchPorts_b1 r2) 0
theorem w_l23_BenchPorts {g : Frag} {a0 : T_Ask} {v0_ : Value} {r : Bool} (h0 : Rd_Ask g a0 v0_) (hF : l23_BenchPorts a0 = some r) : LCs Tryz.prog 3 #[v0_] g (.bool r) := by
 obtain ⟨D0, E0, rfl, G0, I0⟩ := h0; unfold l23_BenchPorts at hF; refine lc_body (k := 20) (av := [.agg (cl_Ask D0 E0 a0.N).toArray]) func3 rfl rfl (h := fun W hS => ?_); refine sr ?_; refine o_boxP (cl := (cl_Ask D0 E0 a0.N)) rfl hS ?_; clear hS; intro b1 w hS; refine oy hS yA <| nT <| sr ?_; refine oy hS (y_loadW (fun w hS => hS.own mH) ud25 rfl (by exact sz_sledgelaw22_Ask)) ?_; obtain ⟨r2, hr2, hF⟩ := ob hF; refine cM hS func8 (w_l23_ins (a0 := a0) (h0 := ⟨_, _, rfl, G0, I0⟩) (hF := hr2)) ?_; clear hS; intro v3 LY4 w hS hr5; obtain ⟨LX6, v_0_7, LX_0_8, rfl, rfl, h_0_9⟩ := hr5; simp only [aa, ac, al] at hS; obtain ⟨hS, Y0⟩ := St.frzA hS; refine oy hS yA <| nT <| cs <| sr <| oy hS yA <| nT <| c_block ?_; refine c_loopP hF (fun (q : Int) a w' => (∃ s, a = Ac (((Fm.dead 20 s).upd 3 v_0_7).upd 4 (.int .i64 q))) ∧ St W (g.plus LX6) [] (LX_0_8 ++ []) w') ⟨mk_exF, (hS.re (.t .h .n))⟩ ?_; clear hS hF; intro n47 q a w hI hq
 revert hq hI; revert q; intro x28 hI hq
 obtain ⟨⟨s48, rfl⟩, hS⟩ := hq; obtain ⟨z45, hF, B0⟩ := iter_step hI; clear hI; dsimp only [l23_BenchPorts_b1] at hF; refine cs <| sr <| oy hS yM <| oy hS yM <| oy hS (y_lenM h_0_9 ud26) <| oy hS yB <| nT ?_; refine cI hF ?_ ?_
 · clear hF; intro c49 hF; refine sk <| cs <| c_block <| sr <| oy hS yM <| oy hS yM ?_; obtain ⟨x50, J0, hF⟩ := ob hF; obtain ⟨b51, c52, Z0, _, K0, M0, N0, R0, T0, B1, rfl, U0⟩ := OwN.at J0 h_0_9; refine oy hS (y_index K0 M0 N0 ud26 el_S_uint32.size) <| oy hS (yL (mA (mX R0)) ud23 rfl (T0 0 _ rfl)) ?_; obtain ⟨r62, V0, hF⟩ := ob hF; refine cS hS func9 (w_l23_alike (a0 := (ByteArray.mk #[109, 97, 105, 110, 58, 32, 105, 110, 32, 114, 49, 10, 105, 110, 32, 114, 50, 10, 97, 100, 100, 32, 114, 51, 44, 32, 114, 49, 44, 32, 114, 50, 10, 111, 117, 116, 32, 114, 51, 10, 109, 117, 108, 32, 114, 52, 44, 32, 114, 49, 44, 32, 114, 50, 10, 105, 110, 32, 114, 53, 10, 111, 117, 116, 32, 114, 52, 10, 100, 105, 118, 32, 114, 54, 44, 32, 114, 53, 44, 32, 114, 49, 10, 111, 117, 116, 32, 114, 53, 10, 111, 117, 116, 32, 114, 54, 10, 98, 110, 122, 32, 114, 53, 44, 32, 109, 97, 105, 110, 10, 104, 97, 108, 116])) (a1 := x50) (h1 := U0.plus) (hF := V0)) ?_; clear hS; intro w hS; refine oy hS y_not <| nT ?_; refine cI hF ?_ ?_
   · clear hF; intro c63 hF; refine sr <| oy hS yA <| nT ?_; obtain rfl := osi hF; obtain rfl : _ = r := B0; exact wR (wr1 (hS.less (Frag.le_plus _ _)))
   clear hF; intro c63 hF; refine sk <| cr <| oy hS yM <| oy hS yB <| oy hS yA <| nT ?_; obtain rfl := osi hF; exact ⟨_, B0, mk_exF, (hS.re (.s))⟩
 clear hF; intro c49 hF; refine wp_exit ?_; refine sr ?_; obtain ⟨r64, X0, hF⟩ := ob hF; refine cS hS func10 (w_l23_wakes  (hF := X0)) ?_; clear hS; intro w hS; refine oy hS yA <| nT ?_; obtain rfl := osi hF; obtain rfl : _ = r := B0; exact wR (wr1 (hS.less (Frag.le_plus _ _)))
end
end Go.Proofs.YtgakgpbmcbegbaaGreatDoor
