/- The law BenchForever, lifted. Printed by lift.py. -/
import Derived.Test.YtnmllfjiiihiaaaGreatDoorProg
import Derived.Test.YtnmllfjiiihiaaaGreatDoorP16
import Derived.KernelRfl
namespace Go.Proofs.YtnmllfjiiihiaaaGreatDoor
open Go Go.RowKit Fr
set_option linter.unusedVariables false
set_option linter.unusedSimpArgs false
set_option maxRecDepth 20000
open Tryz
set_option maxHeartbeats 2000000
noncomputable section
def l23_BenchForever_b1 (r2 : (List (List Int))) : Int → Option (Step Int Bool) := fun x56 => bif decide (x56 < (r2.length : Int)) then (at' r2 x56).bind fun B0 => (l23_alike (ByteArray.mk #[109, 97, 105, 110, 58, 32, 105, 110, 32, 114, 49, 10, 97, 100, 100, 32, 114, 50, 44, 32, 114, 50, 44, 32, 114, 49, 10, 111, 117, 116, 32, 114, 50, 10, 106, 109, 112, 32, 109, 97, 105, 110]) B0).bind fun D0 => bif !D0 then some (.done (false)) else (at' r2 x56).bind fun E0 => (l23_alike (ByteArray.mk #[109, 97, 105, 110, 58, 32, 97, 100, 100, 105, 32, 114, 49, 44, 32, 114, 49, 44, 32, 49, 10, 109, 117, 108, 32, 114, 50, 44, 32, 114, 49, 44, 32, 114, 49, 10, 111, 117, 116, 32, 114, 50, 10, 97, 58, 32, 106, 109, 112, 32, 98, 10, 98, 58, 32, 98, 110, 122, 32, 114, 49, 44, 32, 109, 97, 105, 110, 10, 106, 109, 112, 32, 97]) E0).bind fun G0 => bif !G0 then some (.done (false)) else (at' r2 x56).bind fun I0 => (l23_alike (ByteArray.mk #[109, 97, 105, 110, 58, 32, 106, 109, 112, 32, 109, 97, 105, 110]) I0).bind fun J0 => bif !J0 then some (.done (false)) else some (.next (IntKind.i64.wrap (x56 + 1))) else (l23_wakes).bind fun K0 => some (.done (K0))
def l23_BenchForever (a0 : T_Ask) : Option Bool :=
  (l23_ins a0).bind fun r2 => loop (σ := Int) (l23_BenchForever_b1 r2) 0
theorem w_l23_BenchForever {g : Frag} {a0 : T_Ask} {v0_ : Value} {r : Bool} (h0 : Rd_Ask g a0 v0_) (hF : l23_BenchForever a0 = some r) : LCs Tryz.prog 3 #[v0_] g (.bool r) := by
 obtain ⟨D0, E0, rfl, G0, I0⟩ := h0; unfold l23_BenchForever at hF; refine lc_body (k := 36) (av := [.agg (cl_Ask D0 E0 a0.N).toArray]) func3 rfl rfl (h := fun W hS => ?_); refine sr ?_; refine o_boxP (cl := (cl_Ask D0 E0 a0.N)) rfl hS ?_; clear hS; intro b1 w hS; refine oy hS yA <| nT <| sr ?_; refine oy hS (y_loadW (fun w hS => hS.own mH) ud25 rfl (by exact sz_sledgelaw22_Ask)) ?_; obtain ⟨r2, hr2, hF⟩ := ob hF; refine cM hS func4 (w_l23_ins (a0 := a0) (h0 := ⟨_, _, rfl, G0, I0⟩) (hF := hr2)) ?_; clear hS; intro v3 LY4 w hS hr5; obtain ⟨LX6, v_0_7, LX_0_8, rfl, rfl, h_0_9⟩ := hr5; simp only [aa, ac, al] at hS; obtain ⟨hS, U2⟩ := St.frzA hS; refine oy hS yA <| nT <| cs <| sr <| oy hS yA <| nT <| c_block ?_; refine c_loopP hF (fun (q : Int) a w' => (∃ s, a = Ac (((Fm.dead 36 s).upd 3 v_0_7).upd 4 (.int .i64 q))) ∧ St W (g.plus LX6) [] (LX_0_8 ++ []) w') ⟨mk_exF, (hS.re (.t .h .n))⟩ ?_; clear hS hF; intro V2 q a w hI hq
 revert hq hI; revert q; intro x56 hI hq
 obtain ⟨⟨X2, rfl⟩, hS⟩ := hq; obtain ⟨Y2, hF, B0⟩ := iter_step hI; clear hI; dsimp only [l23_BenchForever_b1] at hF; refine cs <| sr <| oy hS yM <| oy hS yM <| oy hS (y_lenM h_0_9 ud26) <| oy hS yB <| nT ?_; refine cI hF ?_ ?_
 · clear hF; intro Y1 hF; refine sk <| cs <| c_block <| sr <| oy hS yM <| oy hS yM ?_; obtain ⟨Z1, J0, hF⟩ := ob hF; obtain ⟨Z2, B3, J2, _, K0, M0, N0, R0, T0, K2, rfl, U0⟩ := OwN.at J0 h_0_9; refine oy hS (y_index K0 M0 N0 ud26 el_S_uint32.size) <| oy hS (yL (mA (mX R0)) ud23 rfl (T0 0 _ rfl)) ?_; obtain ⟨D3, V0, hF⟩ := ob hF; refine cS hS func5 (w_l23_alike (a0 := (ByteArray.mk #[109, 97, 105, 110, 58, 32, 105, 110, 32, 114, 49, 10, 97, 100, 100, 32, 114, 50, 44, 32, 114, 50, 44, 32, 114, 49, 10, 111, 117, 116, 32, 114, 50, 10, 106, 109, 112, 32, 109, 97, 105, 110])) (a1 := Z1) (h1 := U0.plus) (hF := V0)) ?_; clear hS; intro w hS; refine oy hS y_not ?_; refine oI hF ?_ ?_
   · clear hF; intro B2 hF; iterate 6 (refine o_sk rfl rfl ?_)
     refine oy hS y_pickT <| oy hS yM ?_; iterate 6 (refine o_sk rfl rfl ?_)
     refine oy hS y_pickT <| nT ?_; refine c_if_true (h := ?_); refine sr <| oy hS yA <| nT ?_; obtain rfl := osi hF; obtain rfl : _ = r := B0; exact wR (wr1 (hS.less (Frag.le_plus _ _)))
   clear hF; intro B2 hF; refine gu <| oy hS yM <| gu <| oy hS yM <| gu ?_; obtain ⟨D2, X0, hF⟩ := ob hF; obtain ⟨E3, G3, M2, _, Y0, Z0, B1, D1, E1, N2, rfl, G1⟩ := OwN.at X0 h_0_9; refine oy hS (y_index Y0 Z0 B1 ud26 el_S_uint32.size) <| gu <| oy hS (yL (mA (mX D1)) ud23 rfl (E1 0 _ rfl)) <| gu ?_; obtain ⟨I3, I1, hF⟩ := ob hF; refine cS hS func5 (w_l23_alike (a0 := (ByteArray.mk #[109, 97, 105, 110, 58, 32, 97, 100, 100, 105, 32, 114, 49, 44, 32, 114, 49, 44, 32, 49, 10, 109, 117, 108, 32, 114, 50, 44, 32, 114, 49, 44, 32, 114, 49, 10, 111, 117, 116, 32, 114, 50, 10, 97, 58, 32, 106, 109, 112, 32, 98, 10, 98, 58, 32, 98, 110, 122, 32, 114, 49, 44, 32, 109, 97, 105, 110, 10, 106, 109, 112, 32, 97])) (a1 := D2) (h1 := G1.plus) (hF := I1)) ?_; clear hS; intro w hS; refine gu <| oy hS y_not <| oy hS y_pickF ?_; refine oI hF ?_ ?_
   · clear hF; intro E2 hF; iterate 6 (refine o_sk rfl rfl ?_)
     refine oy hS y_pickT <| nT ?_; refine c_if_true (h := ?_); refine sr <| oy hS yA <| nT ?_; obtain rfl := osi hF; obtain rfl : _ = r := B0; exact wR (wr1 (hS.less (Frag.le_plus _ _)))
   clear hF; intro E2 hF; refine gu <| oy hS yM <| gu <| oy hS yM <| gu ?_; obtain ⟨G2, J1, hF⟩ := ob hF; obtain ⟨J3, K3, R2, _, K1, M1, N1, R1, T1, T2, rfl, U1⟩ := OwN.at J1 h_0_9; refine oy hS (y_index K1 M1 N1 ud26 el_S_uint32.size) <| gu <| oy hS (yL (mA (mX R1)) ud23 rfl (T1 0 _ rfl)) <| gu ?_; obtain ⟨M3, V1, hF⟩ := ob hF; refine cS hS func5 (w_l23_alike (a0 := (ByteArray.mk #[109, 97, 105, 110, 58, 32, 106, 109, 112, 32, 109, 97, 105, 110])) (a1 := G2) (h1 := U1.plus) (hF := V1)) ?_; clear hS; intro w hS; refine gu <| oy hS y_not <| oy hS y_pickF <| nT ?_; refine cI hF ?_ ?_
   · clear hF; intro I2 hF; refine sr <| oy hS yA <| nT ?_; obtain rfl := osi hF; obtain rfl : _ = r := B0; exact wR (wr1 (hS.less (Frag.le_plus _ _)))
   clear hF; intro I2 hF; refine sk <| cr <| oy hS yM <| oy hS yB <| oy hS yA <| nT ?_; obtain rfl := osi hF; exact ⟨_, B0, mk_exF, (hS.re (.s))⟩
 clear hF; intro Y1 hF; refine wp_exit ?_; refine sr ?_; obtain ⟨N3, X1, hF⟩ := ob hF; refine cS hS func6 (w_l23_wakes  (hF := X1)) ?_; clear hS; intro w hS; refine oy hS yA <| nT ?_; obtain rfl := osi hF; obtain rfl : _ = r := B0; exact wR (wr1 (hS.less (Frag.le_plus _ _)))
end
end Go.Proofs.YtnmllfjiiihiaaaGreatDoor
