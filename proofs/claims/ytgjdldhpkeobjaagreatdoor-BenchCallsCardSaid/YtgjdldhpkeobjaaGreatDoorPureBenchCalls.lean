/- BenchCalls: its runs, by the first input's last three bits. -/
import Derived.Test.YtgjdldhpkeobjaaGreatDoorBase
import Derived.KernelRfl
namespace Go.Proofs.YtgjdldhpkeobjaaGreatDoor
open Go Go.RowKit Fr
set_option linter.unusedVariables false
set_option maxRecDepth 20000
def SA (V : Int) (xs : List Int) : T_State := ⟨[0, V, 7, 0, 0, 0, 0, 0, 0, 0, 0, 0, 0, 0, 0, 0], List.replicate 256 0, xs, 1, [], 3, [], 0, [], 0, 0⟩
def SB (V : Int) (xs : List Int) : T_State := ⟨[0, V, 7, 0, 0, 0, 0, 0, 0, 0, 0, 0, 0, 0, 0, 200], List.replicate 256 0, xs, 1, [], 6, [4], 0, [], 0, 0⟩
theorem segA0 (x : Int) (r : List Int) : PA0 (sF0 (x :: r)) 3 = some (SA (bits .and .u32 x 7) (x :: r)) := by kernel_rfl
theorem segB0 (x : Int) (r : List Int) : PB0 (sX0 (x :: r)) 4 = some (SB (bits .and .u32 x 7) (x :: r)) := by kernel_rfl
theorem segA1 (x : Int) (r : List Int) : RA0 (sF0 (x :: r)) 3 = some (SA (bits .and .u32 x 7) (x :: r)) := by kernel_rfl
theorem segB1 (x : Int) (r : List Int) : RB0 (sX0 (x :: r)) 4 = some (SB (bits .and .u32 x 7) (x :: r)) := by kernel_rfl
theorem fv {x : Int} {r : List Int} {V sa sb : Int} {ma mb : Nat} (n : Nat) (h : (x :: r).length ≤ 100) (hV : bits .and .u32 x 7 = V) (H1 : Agree (PA0 (SA V (x :: r)) ma) (PB0 (SB V (x :: r)) mb) sa sb) (H2 : Agree (RA0 (SA V (x :: r)) ma) (RB0 (SB V (x :: r)) mb) sa sb)
    (hn : n ≤ 200 := by decide) (ea : 3 + ma ≤ n := by decide) (eb : 4 + mb ≤ 4 * n + 8 := by decide) (fa : 3 + ma = n ∨ sa ≠ 0 := by decide) (fb : 4 + mb = 4 * n + 8 ∨ sb ≠ 0 := by decide) : Fine imx0 flx0 (n : Int) (x :: r) := by
  refine fine0 (n := n) (ma := 3 + ma) (mb := 4 + mb) h ?_ ?_ hn ea eb fa fb
  · rw [traj_seg (segA0 x r), traj_seg (segB0 x r), hV]; exact H1
  · rw [traj_seg (segA1 x r), traj_seg (segB1 x r), hV]; exact H2
theorem fw {x : Int} {r : List Int} {V sa sb : Int} {ma mb : Nat} (n : Nat) (h : (x :: r).length ≤ 100) (hV : bits .and .u32 x 7 = V) (H1 : Agree (PA0 (sF0 (x :: r)) ma) (PB0 (SB V (x :: r)) mb) sa sb) (H2 : Agree (RA0 (sF0 (x :: r)) ma) (RB0 (SB V (x :: r)) mb) sa sb)
    (hn : n ≤ 200 := by decide) (ea : ma ≤ n := by decide) (eb : 4 + mb ≤ 4 * n + 8 := by decide) (fa : ma = n ∨ sa ≠ 0 := by decide) (fb : 4 + mb = 4 * n + 8 ∨ sb ≠ 0 := by decide) : Fine imx0 flx0 (n : Int) (x :: r) := by
  refine fine0 (n := n) (ma := ma) (mb := 4 + mb) h ?_ ?_ hn ea eb fa fb
  · rw [traj_seg (segB0 x r), hV]; exact H1
  · rw [traj_seg (segB1 x r), hV]; exact H2
end Go.Proofs.YtgjdldhpkeobjaaGreatDoor
namespace Go.Proofs.YtgjdldhpkeobjaaGreatDoor
open Go Go.RowKit Fr
set_option linter.unusedVariables false
set_option maxRecDepth 20000
theorem ev0 (x : Int) (r : List Int) : Agree (PA0 (sF0 (x :: r)) 0) (PB0 (SB 0 (x :: r)) 4) 0 0 ∧
  Agree (RA0 (sF0 (x :: r)) 0) (RB0 (SB 0 (x :: r)) 4) 0 0 ∧
  Agree (PA0 (sF0 (x :: r)) 1) (PB0 (SB 0 (x :: r)) 8) 0 0 ∧
  Agree (RA0 (sF0 (x :: r)) 1) (RB0 (SB 0 (x :: r)) 8) 0 0 ∧
  Agree (PA0 (sF0 (x :: r)) 2) (PB0 (SB 0 (x :: r)) 9) 0 1 ∧
  Agree (RA0 (sF0 (x :: r)) 2) (RB0 (SB 0 (x :: r)) 9) 0 1 ∧
  Agree (PA0 (SA 0 (x :: r)) 0) (PB0 (SB 0 (x :: r)) 9) 0 1 ∧
  Agree (RA0 (SA 0 (x :: r)) 0) (RB0 (SB 0 (x :: r)) 9) 0 1 ∧
  Agree (PA0 (SA 0 (x :: r)) 2) (PB0 (SB 0 (x :: r)) 9) 0 1 ∧
  Agree (RA0 (SA 0 (x :: r)) 2) (RB0 (SB 0 (x :: r)) 9) 0 1 ∧
  Agree (PA0 (SA 0 (x :: r)) 4) (PB0 (SB 0 (x :: r)) 9) 0 1 ∧
  Agree (RA0 (SA 0 (x :: r)) 4) (RB0 (SB 0 (x :: r)) 9) 0 1 ∧
  Agree (PA0 (SA 0 (x :: r)) 7) (PB0 (SB 0 (x :: r)) 9) 1 1 ∧
  Agree (RA0 (SA 0 (x :: r)) 7) (RB0 (SB 0 (x :: r)) 9) 1 1 ∧
  Agree (PA0 (SA 0 (x :: r)) 7) (PB0 (SB 0 (x :: r)) 9) 1 1 ∧
  Agree (RA0 (SA 0 (x :: r)) 7) (RB0 (SB 0 (x :: r)) 9) 1 1 ∧
  Agree (PA0 (SA 0 (x :: r)) 7) (PB0 (SB 0 (x :: r)) 9) 1 1 ∧
  Agree (RA0 (SA 0 (x :: r)) 7) (RB0 (SB 0 (x :: r)) 9) 1 1 ∧
  Agree (PA0 (SA 0 (x :: r)) 7) (PB0 (SB 0 (x :: r)) 9) 1 1 ∧
  Agree (RA0 (SA 0 (x :: r)) 7) (RB0 (SB 0 (x :: r)) 9) 1 1 ∧
  Agree (PA0 (SA 0 (x :: r)) 7) (PB0 (SB 0 (x :: r)) 9) 1 1 ∧
  Agree (RA0 (SA 0 (x :: r)) 7) (RB0 (SB 0 (x :: r)) 9) 1 1 ∧
  Agree (PA0 (SA 0 (x :: r)) 7) (PB0 (SB 0 (x :: r)) 9) 1 1 ∧
  Agree (RA0 (SA 0 (x :: r)) 7) (RB0 (SB 0 (x :: r)) 9) 1 1 ∧
  Agree (PA0 (SA 0 (x :: r)) 7) (PB0 (SB 0 (x :: r)) 9) 1 1 ∧
  Agree (RA0 (SA 0 (x :: r)) 7) (RB0 (SB 0 (x :: r)) 9) 1 1 ∧
  Agree (PA0 (SA 0 (x :: r)) 7) (PB0 (SB 0 (x :: r)) 9) 1 1 ∧
  Agree (RA0 (SA 0 (x :: r)) 7) (RB0 (SB 0 (x :: r)) 9) 1 1 ∧
  Agree (PA0 (SA 0 (x :: r)) 7) (PB0 (SB 0 (x :: r)) 9) 1 1 ∧
  Agree (RA0 (SA 0 (x :: r)) 7) (RB0 (SB 0 (x :: r)) 9) 1 1 ∧
  Agree (PA0 (SA 0 (x :: r)) 7) (PB0 (SB 0 (x :: r)) 9) 1 1 ∧
  Agree (RA0 (SA 0 (x :: r)) 7) (RB0 (SB 0 (x :: r)) 9) 1 1 :=
  ⟨agree0, agree0, agree0, agree0, agree0, agree0, agree0, agree0, agree0, agree0, agree0, agree0, agree1, agree1, agree1, agree1, agree1, agree1, agree1, agree1, agree1, agree1, agree1, agree1, agree1, agree1, agree1, agree1, agree1, agree1, agree1, agree1⟩
theorem all0 {x : Int} {r : List Int} (h : (x :: r).length ≤ 100) (hV : bits .and .u32 x 7 = 0) : l23_alike txt0 (x :: r) = some true := by
  obtain ⟨E0, E1, E2, E3, E4, E5, E6, E7, E8, E9, E10, E11, E12, E13, E14, E15, E16, E17, E18, E19, E20, E21, E22, E23, E24, E25, E26, E27, E28, E29, E30, E31⟩ := ev0 x r
  exact alike0 ⟨fw 0 h hV E0 E1, fw 1 h hV E2 E3, fw 2 h hV E4 E5, fv 3 h hV E6 E7, fv 5 h hV E8 E9, fv 7 h hV E10 E11, fv 10 h hV E12 E13, fv 14 h hV E14 E15, fv 19 h hV E16 E17, fv 26 h hV E18 E19, fv 35 h hV E20 E21, fv 47 h hV E22 E23, fv 63 h hV E24 E25, fv 85 h hV E26 E27, fv 114 h hV E28 E29, fv 153 h hV E30 E31⟩
end Go.Proofs.YtgjdldhpkeobjaaGreatDoor
namespace Go.Proofs.YtgjdldhpkeobjaaGreatDoor
open Go Go.RowKit Fr
set_option linter.unusedVariables false
set_option maxRecDepth 20000
theorem ev1 (x : Int) (r : List Int) : Agree (PA0 (sF0 (x :: r)) 0) (PB0 (SB 1 (x :: r)) 4) 0 0 ∧
  Agree (RA0 (sF0 (x :: r)) 0) (RB0 (SB 1 (x :: r)) 4) 0 0 ∧
  Agree (PA0 (sF0 (x :: r)) 1) (PB0 (SB 1 (x :: r)) 8) 0 0 ∧
  Agree (RA0 (sF0 (x :: r)) 1) (RB0 (SB 1 (x :: r)) 8) 0 0 ∧
  Agree (PA0 (sF0 (x :: r)) 2) (PB0 (SB 1 (x :: r)) 12) 0 0 ∧
  Agree (RA0 (sF0 (x :: r)) 2) (RB0 (SB 1 (x :: r)) 12) 0 0 ∧
  Agree (PA0 (SA 1 (x :: r)) 0) (PB0 (SB 1 (x :: r)) 16) 0 0 ∧
  Agree (RA0 (SA 1 (x :: r)) 0) (RB0 (SB 1 (x :: r)) 16) 0 0 ∧
  Agree (PA0 (SA 1 (x :: r)) 2) (PB0 (SB 1 (x :: r)) 23) 0 1 ∧
  Agree (RA0 (SA 1 (x :: r)) 2) (RB0 (SB 1 (x :: r)) 23) 0 1 ∧
  Agree (PA0 (SA 1 (x :: r)) 4) (PB0 (SB 1 (x :: r)) 23) 0 1 ∧
  Agree (RA0 (SA 1 (x :: r)) 4) (RB0 (SB 1 (x :: r)) 23) 0 1 ∧
  Agree (PA0 (SA 1 (x :: r)) 7) (PB0 (SB 1 (x :: r)) 23) 0 1 ∧
  Agree (RA0 (SA 1 (x :: r)) 7) (RB0 (SB 1 (x :: r)) 23) 0 1 ∧
  Agree (PA0 (SA 1 (x :: r)) 11) (PB0 (SB 1 (x :: r)) 23) 0 1 ∧
  Agree (RA0 (SA 1 (x :: r)) 11) (RB0 (SB 1 (x :: r)) 23) 0 1 ∧
  Agree (PA0 (SA 1 (x :: r)) 16) (PB0 (SB 1 (x :: r)) 23) 1 1 ∧
  Agree (RA0 (SA 1 (x :: r)) 16) (RB0 (SB 1 (x :: r)) 23) 1 1 ∧
  Agree (PA0 (SA 1 (x :: r)) 16) (PB0 (SB 1 (x :: r)) 23) 1 1 ∧
  Agree (RA0 (SA 1 (x :: r)) 16) (RB0 (SB 1 (x :: r)) 23) 1 1 ∧
  Agree (PA0 (SA 1 (x :: r)) 16) (PB0 (SB 1 (x :: r)) 23) 1 1 ∧
  Agree (RA0 (SA 1 (x :: r)) 16) (RB0 (SB 1 (x :: r)) 23) 1 1 ∧
  Agree (PA0 (SA 1 (x :: r)) 16) (PB0 (SB 1 (x :: r)) 23) 1 1 ∧
  Agree (RA0 (SA 1 (x :: r)) 16) (RB0 (SB 1 (x :: r)) 23) 1 1 ∧
  Agree (PA0 (SA 1 (x :: r)) 16) (PB0 (SB 1 (x :: r)) 23) 1 1 ∧
  Agree (RA0 (SA 1 (x :: r)) 16) (RB0 (SB 1 (x :: r)) 23) 1 1 ∧
  Agree (PA0 (SA 1 (x :: r)) 16) (PB0 (SB 1 (x :: r)) 23) 1 1 ∧
  Agree (RA0 (SA 1 (x :: r)) 16) (RB0 (SB 1 (x :: r)) 23) 1 1 ∧
  Agree (PA0 (SA 1 (x :: r)) 16) (PB0 (SB 1 (x :: r)) 23) 1 1 ∧
  Agree (RA0 (SA 1 (x :: r)) 16) (RB0 (SB 1 (x :: r)) 23) 1 1 ∧
  Agree (PA0 (SA 1 (x :: r)) 16) (PB0 (SB 1 (x :: r)) 23) 1 1 ∧
  Agree (RA0 (SA 1 (x :: r)) 16) (RB0 (SB 1 (x :: r)) 23) 1 1 :=
  ⟨agree0, agree0, agree0, agree0, agree0, agree0, agree0, agree0, agree0, agree0, agree0, agree0, agree0, agree0, agree0, agree0, agree1, agree1, agree1, agree1, agree1, agree1, agree1, agree1, agree1, agree1, agree1, agree1, agree1, agree1, agree1, agree1⟩
theorem all1 {x : Int} {r : List Int} (h : (x :: r).length ≤ 100) (hV : bits .and .u32 x 7 = 1) : l23_alike txt0 (x :: r) = some true := by
  obtain ⟨E0, E1, E2, E3, E4, E5, E6, E7, E8, E9, E10, E11, E12, E13, E14, E15, E16, E17, E18, E19, E20, E21, E22, E23, E24, E25, E26, E27, E28, E29, E30, E31⟩ := ev1 x r
  exact alike0 ⟨fw 0 h hV E0 E1, fw 1 h hV E2 E3, fw 2 h hV E4 E5, fv 3 h hV E6 E7, fv 5 h hV E8 E9, fv 7 h hV E10 E11, fv 10 h hV E12 E13, fv 14 h hV E14 E15, fv 19 h hV E16 E17, fv 26 h hV E18 E19, fv 35 h hV E20 E21, fv 47 h hV E22 E23, fv 63 h hV E24 E25, fv 85 h hV E26 E27, fv 114 h hV E28 E29, fv 153 h hV E30 E31⟩
end Go.Proofs.YtgjdldhpkeobjaaGreatDoor
namespace Go.Proofs.YtgjdldhpkeobjaaGreatDoor
open Go Go.RowKit Fr
set_option linter.unusedVariables false
set_option maxRecDepth 20000
theorem ev2 (x : Int) (r : List Int) : Agree (PA0 (sF0 (x :: r)) 0) (PB0 (SB 2 (x :: r)) 4) 0 0 ∧
  Agree (RA0 (sF0 (x :: r)) 0) (RB0 (SB 2 (x :: r)) 4) 0 0 ∧
  Agree (PA0 (sF0 (x :: r)) 1) (PB0 (SB 2 (x :: r)) 8) 0 0 ∧
  Agree (RA0 (sF0 (x :: r)) 1) (RB0 (SB 2 (x :: r)) 8) 0 0 ∧
  Agree (PA0 (sF0 (x :: r)) 2) (PB0 (SB 2 (x :: r)) 12) 0 0 ∧
  Agree (RA0 (sF0 (x :: r)) 2) (RB0 (SB 2 (x :: r)) 12) 0 0 ∧
  Agree (PA0 (SA 2 (x :: r)) 0) (PB0 (SB 2 (x :: r)) 16) 0 0 ∧
  Agree (RA0 (SA 2 (x :: r)) 0) (RB0 (SB 2 (x :: r)) 16) 0 0 ∧
  Agree (PA0 (SA 2 (x :: r)) 2) (PB0 (SB 2 (x :: r)) 24) 0 0 ∧
  Agree (RA0 (SA 2 (x :: r)) 2) (RB0 (SB 2 (x :: r)) 24) 0 0 ∧
  Agree (PA0 (SA 2 (x :: r)) 4) (PB0 (SB 2 (x :: r)) 32) 0 0 ∧
  Agree (RA0 (SA 2 (x :: r)) 4) (RB0 (SB 2 (x :: r)) 32) 0 0 ∧
  Agree (PA0 (SA 2 (x :: r)) 7) (PB0 (SB 2 (x :: r)) 37) 0 1 ∧
  Agree (RA0 (SA 2 (x :: r)) 7) (RB0 (SB 2 (x :: r)) 37) 0 1 ∧
  Agree (PA0 (SA 2 (x :: r)) 11) (PB0 (SB 2 (x :: r)) 37) 0 1 ∧
  Agree (RA0 (SA 2 (x :: r)) 11) (RB0 (SB 2 (x :: r)) 37) 0 1 ∧
  Agree (PA0 (SA 2 (x :: r)) 16) (PB0 (SB 2 (x :: r)) 37) 0 1 ∧
  Agree (RA0 (SA 2 (x :: r)) 16) (RB0 (SB 2 (x :: r)) 37) 0 1 ∧
  Agree (PA0 (SA 2 (x :: r)) 23) (PB0 (SB 2 (x :: r)) 37) 0 1 ∧
  Agree (RA0 (SA 2 (x :: r)) 23) (RB0 (SB 2 (x :: r)) 37) 0 1 ∧
  Agree (PA0 (SA 2 (x :: r)) 25) (PB0 (SB 2 (x :: r)) 37) 1 1 ∧
  Agree (RA0 (SA 2 (x :: r)) 25) (RB0 (SB 2 (x :: r)) 37) 1 1 ∧
  Agree (PA0 (SA 2 (x :: r)) 25) (PB0 (SB 2 (x :: r)) 37) 1 1 ∧
  Agree (RA0 (SA 2 (x :: r)) 25) (RB0 (SB 2 (x :: r)) 37) 1 1 ∧
  Agree (PA0 (SA 2 (x :: r)) 25) (PB0 (SB 2 (x :: r)) 37) 1 1 ∧
  Agree (RA0 (SA 2 (x :: r)) 25) (RB0 (SB 2 (x :: r)) 37) 1 1 ∧
  Agree (PA0 (SA 2 (x :: r)) 25) (PB0 (SB 2 (x :: r)) 37) 1 1 ∧
  Agree (RA0 (SA 2 (x :: r)) 25) (RB0 (SB 2 (x :: r)) 37) 1 1 ∧
  Agree (PA0 (SA 2 (x :: r)) 25) (PB0 (SB 2 (x :: r)) 37) 1 1 ∧
  Agree (RA0 (SA 2 (x :: r)) 25) (RB0 (SB 2 (x :: r)) 37) 1 1 ∧
  Agree (PA0 (SA 2 (x :: r)) 25) (PB0 (SB 2 (x :: r)) 37) 1 1 ∧
  Agree (RA0 (SA 2 (x :: r)) 25) (RB0 (SB 2 (x :: r)) 37) 1 1 :=
  ⟨agree0, agree0, agree0, agree0, agree0, agree0, agree0, agree0, agree0, agree0, agree0, agree0, agree0, agree0, agree0, agree0, agree0, agree0, agree0, agree0, agree1, agree1, agree1, agree1, agree1, agree1, agree1, agree1, agree1, agree1, agree1, agree1⟩
theorem all2 {x : Int} {r : List Int} (h : (x :: r).length ≤ 100) (hV : bits .and .u32 x 7 = 2) : l23_alike txt0 (x :: r) = some true := by
  obtain ⟨E0, E1, E2, E3, E4, E5, E6, E7, E8, E9, E10, E11, E12, E13, E14, E15, E16, E17, E18, E19, E20, E21, E22, E23, E24, E25, E26, E27, E28, E29, E30, E31⟩ := ev2 x r
  exact alike0 ⟨fw 0 h hV E0 E1, fw 1 h hV E2 E3, fw 2 h hV E4 E5, fv 3 h hV E6 E7, fv 5 h hV E8 E9, fv 7 h hV E10 E11, fv 10 h hV E12 E13, fv 14 h hV E14 E15, fv 19 h hV E16 E17, fv 26 h hV E18 E19, fv 35 h hV E20 E21, fv 47 h hV E22 E23, fv 63 h hV E24 E25, fv 85 h hV E26 E27, fv 114 h hV E28 E29, fv 153 h hV E30 E31⟩
end Go.Proofs.YtgjdldhpkeobjaaGreatDoor
namespace Go.Proofs.YtgjdldhpkeobjaaGreatDoor
open Go Go.RowKit Fr
set_option linter.unusedVariables false
set_option maxRecDepth 20000
theorem ev3 (x : Int) (r : List Int) : Agree (PA0 (sF0 (x :: r)) 0) (PB0 (SB 3 (x :: r)) 4) 0 0 ∧
  Agree (RA0 (sF0 (x :: r)) 0) (RB0 (SB 3 (x :: r)) 4) 0 0 ∧
  Agree (PA0 (sF0 (x :: r)) 1) (PB0 (SB 3 (x :: r)) 8) 0 0 ∧
  Agree (RA0 (sF0 (x :: r)) 1) (RB0 (SB 3 (x :: r)) 8) 0 0 ∧
  Agree (PA0 (sF0 (x :: r)) 2) (PB0 (SB 3 (x :: r)) 12) 0 0 ∧
  Agree (RA0 (sF0 (x :: r)) 2) (RB0 (SB 3 (x :: r)) 12) 0 0 ∧
  Agree (PA0 (SA 3 (x :: r)) 0) (PB0 (SB 3 (x :: r)) 16) 0 0 ∧
  Agree (RA0 (SA 3 (x :: r)) 0) (RB0 (SB 3 (x :: r)) 16) 0 0 ∧
  Agree (PA0 (SA 3 (x :: r)) 2) (PB0 (SB 3 (x :: r)) 24) 0 0 ∧
  Agree (RA0 (SA 3 (x :: r)) 2) (RB0 (SB 3 (x :: r)) 24) 0 0 ∧
  Agree (PA0 (SA 3 (x :: r)) 4) (PB0 (SB 3 (x :: r)) 32) 0 0 ∧
  Agree (RA0 (SA 3 (x :: r)) 4) (RB0 (SB 3 (x :: r)) 32) 0 0 ∧
  Agree (PA0 (SA 3 (x :: r)) 7) (PB0 (SB 3 (x :: r)) 44) 0 0 ∧
  Agree (RA0 (SA 3 (x :: r)) 7) (RB0 (SB 3 (x :: r)) 44) 0 0 ∧
  Agree (PA0 (SA 3 (x :: r)) 11) (PB0 (SB 3 (x :: r)) 51) 0 1 ∧
  Agree (RA0 (SA 3 (x :: r)) 11) (RB0 (SB 3 (x :: r)) 51) 0 1 ∧
  Agree (PA0 (SA 3 (x :: r)) 16) (PB0 (SB 3 (x :: r)) 51) 0 1 ∧
  Agree (RA0 (SA 3 (x :: r)) 16) (RB0 (SB 3 (x :: r)) 51) 0 1 ∧
  Agree (PA0 (SA 3 (x :: r)) 23) (PB0 (SB 3 (x :: r)) 51) 0 1 ∧
  Agree (RA0 (SA 3 (x :: r)) 23) (RB0 (SB 3 (x :: r)) 51) 0 1 ∧
  Agree (PA0 (SA 3 (x :: r)) 32) (PB0 (SB 3 (x :: r)) 51) 0 1 ∧
  Agree (RA0 (SA 3 (x :: r)) 32) (RB0 (SB 3 (x :: r)) 51) 0 1 ∧
  Agree (PA0 (SA 3 (x :: r)) 34) (PB0 (SB 3 (x :: r)) 51) 1 1 ∧
  Agree (RA0 (SA 3 (x :: r)) 34) (RB0 (SB 3 (x :: r)) 51) 1 1 ∧
  Agree (PA0 (SA 3 (x :: r)) 34) (PB0 (SB 3 (x :: r)) 51) 1 1 ∧
  Agree (RA0 (SA 3 (x :: r)) 34) (RB0 (SB 3 (x :: r)) 51) 1 1 ∧
  Agree (PA0 (SA 3 (x :: r)) 34) (PB0 (SB 3 (x :: r)) 51) 1 1 ∧
  Agree (RA0 (SA 3 (x :: r)) 34) (RB0 (SB 3 (x :: r)) 51) 1 1 ∧
  Agree (PA0 (SA 3 (x :: r)) 34) (PB0 (SB 3 (x :: r)) 51) 1 1 ∧
  Agree (RA0 (SA 3 (x :: r)) 34) (RB0 (SB 3 (x :: r)) 51) 1 1 ∧
  Agree (PA0 (SA 3 (x :: r)) 34) (PB0 (SB 3 (x :: r)) 51) 1 1 ∧
  Agree (RA0 (SA 3 (x :: r)) 34) (RB0 (SB 3 (x :: r)) 51) 1 1 :=
  ⟨agree0, agree0, agree0, agree0, agree0, agree0, agree0, agree0, agree0, agree0, agree0, agree0, agree0, agree0, agree0, agree0, agree0, agree0, agree0, agree0, agree0, agree0, agree1, agree1, agree1, agree1, agree1, agree1, agree1, agree1, agree1, agree1⟩
theorem all3 {x : Int} {r : List Int} (h : (x :: r).length ≤ 100) (hV : bits .and .u32 x 7 = 3) : l23_alike txt0 (x :: r) = some true := by
  obtain ⟨E0, E1, E2, E3, E4, E5, E6, E7, E8, E9, E10, E11, E12, E13, E14, E15, E16, E17, E18, E19, E20, E21, E22, E23, E24, E25, E26, E27, E28, E29, E30, E31⟩ := ev3 x r
  exact alike0 ⟨fw 0 h hV E0 E1, fw 1 h hV E2 E3, fw 2 h hV E4 E5, fv 3 h hV E6 E7, fv 5 h hV E8 E9, fv 7 h hV E10 E11, fv 10 h hV E12 E13, fv 14 h hV E14 E15, fv 19 h hV E16 E17, fv 26 h hV E18 E19, fv 35 h hV E20 E21, fv 47 h hV E22 E23, fv 63 h hV E24 E25, fv 85 h hV E26 E27, fv 114 h hV E28 E29, fv 153 h hV E30 E31⟩
end Go.Proofs.YtgjdldhpkeobjaaGreatDoor
namespace Go.Proofs.YtgjdldhpkeobjaaGreatDoor
open Go Go.RowKit Fr
set_option linter.unusedVariables false
set_option maxRecDepth 20000
theorem ev4 (x : Int) (r : List Int) : Agree (PA0 (sF0 (x :: r)) 0) (PB0 (SB 4 (x :: r)) 4) 0 0 ∧
  Agree (RA0 (sF0 (x :: r)) 0) (RB0 (SB 4 (x :: r)) 4) 0 0 ∧
  Agree (PA0 (sF0 (x :: r)) 1) (PB0 (SB 4 (x :: r)) 8) 0 0 ∧
  Agree (RA0 (sF0 (x :: r)) 1) (RB0 (SB 4 (x :: r)) 8) 0 0 ∧
  Agree (PA0 (sF0 (x :: r)) 2) (PB0 (SB 4 (x :: r)) 12) 0 0 ∧
  Agree (RA0 (sF0 (x :: r)) 2) (RB0 (SB 4 (x :: r)) 12) 0 0 ∧
  Agree (PA0 (SA 4 (x :: r)) 0) (PB0 (SB 4 (x :: r)) 16) 0 0 ∧
  Agree (RA0 (SA 4 (x :: r)) 0) (RB0 (SB 4 (x :: r)) 16) 0 0 ∧
  Agree (PA0 (SA 4 (x :: r)) 2) (PB0 (SB 4 (x :: r)) 24) 0 0 ∧
  Agree (RA0 (SA 4 (x :: r)) 2) (RB0 (SB 4 (x :: r)) 24) 0 0 ∧
  Agree (PA0 (SA 4 (x :: r)) 4) (PB0 (SB 4 (x :: r)) 32) 0 0 ∧
  Agree (RA0 (SA 4 (x :: r)) 4) (RB0 (SB 4 (x :: r)) 32) 0 0 ∧
  Agree (PA0 (SA 4 (x :: r)) 7) (PB0 (SB 4 (x :: r)) 44) 0 0 ∧
  Agree (RA0 (SA 4 (x :: r)) 7) (RB0 (SB 4 (x :: r)) 44) 0 0 ∧
  Agree (PA0 (SA 4 (x :: r)) 11) (PB0 (SB 4 (x :: r)) 60) 0 0 ∧
  Agree (RA0 (SA 4 (x :: r)) 11) (RB0 (SB 4 (x :: r)) 60) 0 0 ∧
  Agree (PA0 (SA 4 (x :: r)) 16) (PB0 (SB 4 (x :: r)) 65) 0 1 ∧
  Agree (RA0 (SA 4 (x :: r)) 16) (RB0 (SB 4 (x :: r)) 65) 0 1 ∧
  Agree (PA0 (SA 4 (x :: r)) 23) (PB0 (SB 4 (x :: r)) 65) 0 1 ∧
  Agree (RA0 (SA 4 (x :: r)) 23) (RB0 (SB 4 (x :: r)) 65) 0 1 ∧
  Agree (PA0 (SA 4 (x :: r)) 32) (PB0 (SB 4 (x :: r)) 65) 0 1 ∧
  Agree (RA0 (SA 4 (x :: r)) 32) (RB0 (SB 4 (x :: r)) 65) 0 1 ∧
  Agree (PA0 (SA 4 (x :: r)) 43) (PB0 (SB 4 (x :: r)) 65) 1 1 ∧
  Agree (RA0 (SA 4 (x :: r)) 43) (RB0 (SB 4 (x :: r)) 65) 1 1 ∧
  Agree (PA0 (SA 4 (x :: r)) 43) (PB0 (SB 4 (x :: r)) 65) 1 1 ∧
  Agree (RA0 (SA 4 (x :: r)) 43) (RB0 (SB 4 (x :: r)) 65) 1 1 ∧
  Agree (PA0 (SA 4 (x :: r)) 43) (PB0 (SB 4 (x :: r)) 65) 1 1 ∧
  Agree (RA0 (SA 4 (x :: r)) 43) (RB0 (SB 4 (x :: r)) 65) 1 1 ∧
  Agree (PA0 (SA 4 (x :: r)) 43) (PB0 (SB 4 (x :: r)) 65) 1 1 ∧
  Agree (RA0 (SA 4 (x :: r)) 43) (RB0 (SB 4 (x :: r)) 65) 1 1 ∧
  Agree (PA0 (SA 4 (x :: r)) 43) (PB0 (SB 4 (x :: r)) 65) 1 1 ∧
  Agree (RA0 (SA 4 (x :: r)) 43) (RB0 (SB 4 (x :: r)) 65) 1 1 :=
  ⟨agree0, agree0, agree0, agree0, agree0, agree0, agree0, agree0, agree0, agree0, agree0, agree0, agree0, agree0, agree0, agree0, agree0, agree0, agree0, agree0, agree0, agree0, agree1, agree1, agree1, agree1, agree1, agree1, agree1, agree1, agree1, agree1⟩
theorem all4 {x : Int} {r : List Int} (h : (x :: r).length ≤ 100) (hV : bits .and .u32 x 7 = 4) : l23_alike txt0 (x :: r) = some true := by
  obtain ⟨E0, E1, E2, E3, E4, E5, E6, E7, E8, E9, E10, E11, E12, E13, E14, E15, E16, E17, E18, E19, E20, E21, E22, E23, E24, E25, E26, E27, E28, E29, E30, E31⟩ := ev4 x r
  exact alike0 ⟨fw 0 h hV E0 E1, fw 1 h hV E2 E3, fw 2 h hV E4 E5, fv 3 h hV E6 E7, fv 5 h hV E8 E9, fv 7 h hV E10 E11, fv 10 h hV E12 E13, fv 14 h hV E14 E15, fv 19 h hV E16 E17, fv 26 h hV E18 E19, fv 35 h hV E20 E21, fv 47 h hV E22 E23, fv 63 h hV E24 E25, fv 85 h hV E26 E27, fv 114 h hV E28 E29, fv 153 h hV E30 E31⟩
end Go.Proofs.YtgjdldhpkeobjaaGreatDoor
namespace Go.Proofs.YtgjdldhpkeobjaaGreatDoor
open Go Go.RowKit Fr
set_option linter.unusedVariables false
set_option maxRecDepth 20000
theorem ev5 (x : Int) (r : List Int) : Agree (PA0 (sF0 (x :: r)) 0) (PB0 (SB 5 (x :: r)) 4) 0 0 ∧
  Agree (RA0 (sF0 (x :: r)) 0) (RB0 (SB 5 (x :: r)) 4) 0 0 ∧
  Agree (PA0 (sF0 (x :: r)) 1) (PB0 (SB 5 (x :: r)) 8) 0 0 ∧
  Agree (RA0 (sF0 (x :: r)) 1) (RB0 (SB 5 (x :: r)) 8) 0 0 ∧
  Agree (PA0 (sF0 (x :: r)) 2) (PB0 (SB 5 (x :: r)) 12) 0 0 ∧
  Agree (RA0 (sF0 (x :: r)) 2) (RB0 (SB 5 (x :: r)) 12) 0 0 ∧
  Agree (PA0 (SA 5 (x :: r)) 0) (PB0 (SB 5 (x :: r)) 16) 0 0 ∧
  Agree (RA0 (SA 5 (x :: r)) 0) (RB0 (SB 5 (x :: r)) 16) 0 0 ∧
  Agree (PA0 (SA 5 (x :: r)) 2) (PB0 (SB 5 (x :: r)) 24) 0 0 ∧
  Agree (RA0 (SA 5 (x :: r)) 2) (RB0 (SB 5 (x :: r)) 24) 0 0 ∧
  Agree (PA0 (SA 5 (x :: r)) 4) (PB0 (SB 5 (x :: r)) 32) 0 0 ∧
  Agree (RA0 (SA 5 (x :: r)) 4) (RB0 (SB 5 (x :: r)) 32) 0 0 ∧
  Agree (PA0 (SA 5 (x :: r)) 7) (PB0 (SB 5 (x :: r)) 44) 0 0 ∧
  Agree (RA0 (SA 5 (x :: r)) 7) (RB0 (SB 5 (x :: r)) 44) 0 0 ∧
  Agree (PA0 (SA 5 (x :: r)) 11) (PB0 (SB 5 (x :: r)) 60) 0 0 ∧
  Agree (RA0 (SA 5 (x :: r)) 11) (RB0 (SB 5 (x :: r)) 60) 0 0 ∧
  Agree (PA0 (SA 5 (x :: r)) 16) (PB0 (SB 5 (x :: r)) 79) 0 1 ∧
  Agree (RA0 (SA 5 (x :: r)) 16) (RB0 (SB 5 (x :: r)) 79) 0 1 ∧
  Agree (PA0 (SA 5 (x :: r)) 23) (PB0 (SB 5 (x :: r)) 79) 0 1 ∧
  Agree (RA0 (SA 5 (x :: r)) 23) (RB0 (SB 5 (x :: r)) 79) 0 1 ∧
  Agree (PA0 (SA 5 (x :: r)) 32) (PB0 (SB 5 (x :: r)) 79) 0 1 ∧
  Agree (RA0 (SA 5 (x :: r)) 32) (RB0 (SB 5 (x :: r)) 79) 0 1 ∧
  Agree (PA0 (SA 5 (x :: r)) 44) (PB0 (SB 5 (x :: r)) 79) 0 1 ∧
  Agree (RA0 (SA 5 (x :: r)) 44) (RB0 (SB 5 (x :: r)) 79) 0 1 ∧
  Agree (PA0 (SA 5 (x :: r)) 52) (PB0 (SB 5 (x :: r)) 79) 1 1 ∧
  Agree (RA0 (SA 5 (x :: r)) 52) (RB0 (SB 5 (x :: r)) 79) 1 1 ∧
  Agree (PA0 (SA 5 (x :: r)) 52) (PB0 (SB 5 (x :: r)) 79) 1 1 ∧
  Agree (RA0 (SA 5 (x :: r)) 52) (RB0 (SB 5 (x :: r)) 79) 1 1 ∧
  Agree (PA0 (SA 5 (x :: r)) 52) (PB0 (SB 5 (x :: r)) 79) 1 1 ∧
  Agree (RA0 (SA 5 (x :: r)) 52) (RB0 (SB 5 (x :: r)) 79) 1 1 ∧
  Agree (PA0 (SA 5 (x :: r)) 52) (PB0 (SB 5 (x :: r)) 79) 1 1 ∧
  Agree (RA0 (SA 5 (x :: r)) 52) (RB0 (SB 5 (x :: r)) 79) 1 1 :=
  ⟨agree0, agree0, agree0, agree0, agree0, agree0, agree0, agree0, agree0, agree0, agree0, agree0, agree0, agree0, agree0, agree0, agree0, agree0, agree0, agree0, agree0, agree0, agree0, agree0, agree1, agree1, agree1, agree1, agree1, agree1, agree1, agree1⟩
theorem all5 {x : Int} {r : List Int} (h : (x :: r).length ≤ 100) (hV : bits .and .u32 x 7 = 5) : l23_alike txt0 (x :: r) = some true := by
  obtain ⟨E0, E1, E2, E3, E4, E5, E6, E7, E8, E9, E10, E11, E12, E13, E14, E15, E16, E17, E18, E19, E20, E21, E22, E23, E24, E25, E26, E27, E28, E29, E30, E31⟩ := ev5 x r
  exact alike0 ⟨fw 0 h hV E0 E1, fw 1 h hV E2 E3, fw 2 h hV E4 E5, fv 3 h hV E6 E7, fv 5 h hV E8 E9, fv 7 h hV E10 E11, fv 10 h hV E12 E13, fv 14 h hV E14 E15, fv 19 h hV E16 E17, fv 26 h hV E18 E19, fv 35 h hV E20 E21, fv 47 h hV E22 E23, fv 63 h hV E24 E25, fv 85 h hV E26 E27, fv 114 h hV E28 E29, fv 153 h hV E30 E31⟩
end Go.Proofs.YtgjdldhpkeobjaaGreatDoor
namespace Go.Proofs.YtgjdldhpkeobjaaGreatDoor
open Go Go.RowKit Fr
set_option linter.unusedVariables false
set_option maxRecDepth 20000
theorem ev6 (x : Int) (r : List Int) : Agree (PA0 (sF0 (x :: r)) 0) (PB0 (SB 6 (x :: r)) 4) 0 0 ∧
  Agree (RA0 (sF0 (x :: r)) 0) (RB0 (SB 6 (x :: r)) 4) 0 0 ∧
  Agree (PA0 (sF0 (x :: r)) 1) (PB0 (SB 6 (x :: r)) 8) 0 0 ∧
  Agree (RA0 (sF0 (x :: r)) 1) (RB0 (SB 6 (x :: r)) 8) 0 0 ∧
  Agree (PA0 (sF0 (x :: r)) 2) (PB0 (SB 6 (x :: r)) 12) 0 0 ∧
  Agree (RA0 (sF0 (x :: r)) 2) (RB0 (SB 6 (x :: r)) 12) 0 0 ∧
  Agree (PA0 (SA 6 (x :: r)) 0) (PB0 (SB 6 (x :: r)) 16) 0 0 ∧
  Agree (RA0 (SA 6 (x :: r)) 0) (RB0 (SB 6 (x :: r)) 16) 0 0 ∧
  Agree (PA0 (SA 6 (x :: r)) 2) (PB0 (SB 6 (x :: r)) 24) 0 0 ∧
  Agree (RA0 (SA 6 (x :: r)) 2) (RB0 (SB 6 (x :: r)) 24) 0 0 ∧
  Agree (PA0 (SA 6 (x :: r)) 4) (PB0 (SB 6 (x :: r)) 32) 0 0 ∧
  Agree (RA0 (SA 6 (x :: r)) 4) (RB0 (SB 6 (x :: r)) 32) 0 0 ∧
  Agree (PA0 (SA 6 (x :: r)) 7) (PB0 (SB 6 (x :: r)) 44) 0 0 ∧
  Agree (RA0 (SA 6 (x :: r)) 7) (RB0 (SB 6 (x :: r)) 44) 0 0 ∧
  Agree (PA0 (SA 6 (x :: r)) 11) (PB0 (SB 6 (x :: r)) 60) 0 0 ∧
  Agree (RA0 (SA 6 (x :: r)) 11) (RB0 (SB 6 (x :: r)) 60) 0 0 ∧
  Agree (PA0 (SA 6 (x :: r)) 16) (PB0 (SB 6 (x :: r)) 80) 0 0 ∧
  Agree (RA0 (SA 6 (x :: r)) 16) (RB0 (SB 6 (x :: r)) 80) 0 0 ∧
  Agree (PA0 (SA 6 (x :: r)) 23) (PB0 (SB 6 (x :: r)) 93) 0 1 ∧
  Agree (RA0 (SA 6 (x :: r)) 23) (RB0 (SB 6 (x :: r)) 93) 0 1 ∧
  Agree (PA0 (SA 6 (x :: r)) 32) (PB0 (SB 6 (x :: r)) 93) 0 1 ∧
  Agree (RA0 (SA 6 (x :: r)) 32) (RB0 (SB 6 (x :: r)) 93) 0 1 ∧
  Agree (PA0 (SA 6 (x :: r)) 44) (PB0 (SB 6 (x :: r)) 93) 0 1 ∧
  Agree (RA0 (SA 6 (x :: r)) 44) (RB0 (SB 6 (x :: r)) 93) 0 1 ∧
  Agree (PA0 (SA 6 (x :: r)) 60) (PB0 (SB 6 (x :: r)) 93) 0 1 ∧
  Agree (RA0 (SA 6 (x :: r)) 60) (RB0 (SB 6 (x :: r)) 93) 0 1 ∧
  Agree (PA0 (SA 6 (x :: r)) 61) (PB0 (SB 6 (x :: r)) 93) 1 1 ∧
  Agree (RA0 (SA 6 (x :: r)) 61) (RB0 (SB 6 (x :: r)) 93) 1 1 ∧
  Agree (PA0 (SA 6 (x :: r)) 61) (PB0 (SB 6 (x :: r)) 93) 1 1 ∧
  Agree (RA0 (SA 6 (x :: r)) 61) (RB0 (SB 6 (x :: r)) 93) 1 1 ∧
  Agree (PA0 (SA 6 (x :: r)) 61) (PB0 (SB 6 (x :: r)) 93) 1 1 ∧
  Agree (RA0 (SA 6 (x :: r)) 61) (RB0 (SB 6 (x :: r)) 93) 1 1 :=
  ⟨agree0, agree0, agree0, agree0, agree0, agree0, agree0, agree0, agree0, agree0, agree0, agree0, agree0, agree0, agree0, agree0, agree0, agree0, agree0, agree0, agree0, agree0, agree0, agree0, agree0, agree0, agree1, agree1, agree1, agree1, agree1, agree1⟩
theorem all6 {x : Int} {r : List Int} (h : (x :: r).length ≤ 100) (hV : bits .and .u32 x 7 = 6) : l23_alike txt0 (x :: r) = some true := by
  obtain ⟨E0, E1, E2, E3, E4, E5, E6, E7, E8, E9, E10, E11, E12, E13, E14, E15, E16, E17, E18, E19, E20, E21, E22, E23, E24, E25, E26, E27, E28, E29, E30, E31⟩ := ev6 x r
  exact alike0 ⟨fw 0 h hV E0 E1, fw 1 h hV E2 E3, fw 2 h hV E4 E5, fv 3 h hV E6 E7, fv 5 h hV E8 E9, fv 7 h hV E10 E11, fv 10 h hV E12 E13, fv 14 h hV E14 E15, fv 19 h hV E16 E17, fv 26 h hV E18 E19, fv 35 h hV E20 E21, fv 47 h hV E22 E23, fv 63 h hV E24 E25, fv 85 h hV E26 E27, fv 114 h hV E28 E29, fv 153 h hV E30 E31⟩
end Go.Proofs.YtgjdldhpkeobjaaGreatDoor
namespace Go.Proofs.YtgjdldhpkeobjaaGreatDoor
open Go Go.RowKit Fr
set_option linter.unusedVariables false
set_option maxRecDepth 20000
theorem ev7 (x : Int) (r : List Int) : Agree (PA0 (sF0 (x :: r)) 0) (PB0 (SB 7 (x :: r)) 4) 0 0 ∧
  Agree (RA0 (sF0 (x :: r)) 0) (RB0 (SB 7 (x :: r)) 4) 0 0 ∧
  Agree (PA0 (sF0 (x :: r)) 1) (PB0 (SB 7 (x :: r)) 8) 0 0 ∧
  Agree (RA0 (sF0 (x :: r)) 1) (RB0 (SB 7 (x :: r)) 8) 0 0 ∧
  Agree (PA0 (sF0 (x :: r)) 2) (PB0 (SB 7 (x :: r)) 12) 0 0 ∧
  Agree (RA0 (sF0 (x :: r)) 2) (RB0 (SB 7 (x :: r)) 12) 0 0 ∧
  Agree (PA0 (SA 7 (x :: r)) 0) (PB0 (SB 7 (x :: r)) 16) 0 0 ∧
  Agree (RA0 (SA 7 (x :: r)) 0) (RB0 (SB 7 (x :: r)) 16) 0 0 ∧
  Agree (PA0 (SA 7 (x :: r)) 2) (PB0 (SB 7 (x :: r)) 24) 0 0 ∧
  Agree (RA0 (SA 7 (x :: r)) 2) (RB0 (SB 7 (x :: r)) 24) 0 0 ∧
  Agree (PA0 (SA 7 (x :: r)) 4) (PB0 (SB 7 (x :: r)) 32) 0 0 ∧
  Agree (RA0 (SA 7 (x :: r)) 4) (RB0 (SB 7 (x :: r)) 32) 0 0 ∧
  Agree (PA0 (SA 7 (x :: r)) 7) (PB0 (SB 7 (x :: r)) 44) 0 0 ∧
  Agree (RA0 (SA 7 (x :: r)) 7) (RB0 (SB 7 (x :: r)) 44) 0 0 ∧
  Agree (PA0 (SA 7 (x :: r)) 11) (PB0 (SB 7 (x :: r)) 60) 0 0 ∧
  Agree (RA0 (SA 7 (x :: r)) 11) (RB0 (SB 7 (x :: r)) 60) 0 0 ∧
  Agree (PA0 (SA 7 (x :: r)) 16) (PB0 (SB 7 (x :: r)) 80) 0 0 ∧
  Agree (RA0 (SA 7 (x :: r)) 16) (RB0 (SB 7 (x :: r)) 80) 0 0 ∧
  Agree (PA0 (SA 7 (x :: r)) 23) (PB0 (SB 7 (x :: r)) 107) 0 1 ∧
  Agree (RA0 (SA 7 (x :: r)) 23) (RB0 (SB 7 (x :: r)) 107) 0 1 ∧
  Agree (PA0 (SA 7 (x :: r)) 32) (PB0 (SB 7 (x :: r)) 107) 0 1 ∧
  Agree (RA0 (SA 7 (x :: r)) 32) (RB0 (SB 7 (x :: r)) 107) 0 1 ∧
  Agree (PA0 (SA 7 (x :: r)) 44) (PB0 (SB 7 (x :: r)) 107) 0 1 ∧
  Agree (RA0 (SA 7 (x :: r)) 44) (RB0 (SB 7 (x :: r)) 107) 0 1 ∧
  Agree (PA0 (SA 7 (x :: r)) 60) (PB0 (SB 7 (x :: r)) 107) 0 1 ∧
  Agree (RA0 (SA 7 (x :: r)) 60) (RB0 (SB 7 (x :: r)) 107) 0 1 ∧
  Agree (PA0 (SA 7 (x :: r)) 70) (PB0 (SB 7 (x :: r)) 107) 1 1 ∧
  Agree (RA0 (SA 7 (x :: r)) 70) (RB0 (SB 7 (x :: r)) 107) 1 1 ∧
  Agree (PA0 (SA 7 (x :: r)) 70) (PB0 (SB 7 (x :: r)) 107) 1 1 ∧
  Agree (RA0 (SA 7 (x :: r)) 70) (RB0 (SB 7 (x :: r)) 107) 1 1 ∧
  Agree (PA0 (SA 7 (x :: r)) 70) (PB0 (SB 7 (x :: r)) 107) 1 1 ∧
  Agree (RA0 (SA 7 (x :: r)) 70) (RB0 (SB 7 (x :: r)) 107) 1 1 :=
  ⟨agree0, agree0, agree0, agree0, agree0, agree0, agree0, agree0, agree0, agree0, agree0, agree0, agree0, agree0, agree0, agree0, agree0, agree0, agree0, agree0, agree0, agree0, agree0, agree0, agree0, agree0, agree1, agree1, agree1, agree1, agree1, agree1⟩
theorem all7 {x : Int} {r : List Int} (h : (x :: r).length ≤ 100) (hV : bits .and .u32 x 7 = 7) : l23_alike txt0 (x :: r) = some true := by
  obtain ⟨E0, E1, E2, E3, E4, E5, E6, E7, E8, E9, E10, E11, E12, E13, E14, E15, E16, E17, E18, E19, E20, E21, E22, E23, E24, E25, E26, E27, E28, E29, E30, E31⟩ := ev7 x r
  exact alike0 ⟨fw 0 h hV E0 E1, fw 1 h hV E2 E3, fw 2 h hV E4 E5, fv 3 h hV E6 E7, fv 5 h hV E8 E9, fv 7 h hV E10 E11, fv 10 h hV E12 E13, fv 14 h hV E14 E15, fv 19 h hV E16 E17, fv 26 h hV E18 E19, fv 35 h hV E20 E21, fv 47 h hV E22 E23, fv 63 h hV E24 E25, fv 85 h hV E26 E27, fv 114 h hV E28 E29, fv 153 h hV E30 E31⟩
end Go.Proofs.YtgjdldhpkeobjaaGreatDoor
namespace Go.Proofs.YtgjdldhpkeobjaaGreatDoor
open Go Go.RowKit Fr
set_option linter.unusedVariables false
set_option maxRecDepth 20000
theorem evN  : Agree (PA0 (sF0 []) 0) (PB0 (sX0 []) 8) 0 0 ∧
  Agree (RA0 (sF0 []) 0) (RB0 (sX0 []) 8) 0 0 ∧
  Agree (PA0 (sF0 []) 1) (PB0 (sX0 []) 12) 0 0 ∧
  Agree (RA0 (sF0 []) 1) (RB0 (sX0 []) 12) 0 0 ∧
  Agree (PA0 (sF0 []) 2) (PB0 (sX0 []) 13) 0 1 ∧
  Agree (RA0 (sF0 []) 2) (RB0 (sX0 []) 13) 0 1 ∧
  Agree (PA0 (sF0 []) 3) (PB0 (sX0 []) 13) 0 1 ∧
  Agree (RA0 (sF0 []) 3) (RB0 (sX0 []) 13) 0 1 ∧
  Agree (PA0 (sF0 []) 5) (PB0 (sX0 []) 13) 0 1 ∧
  Agree (RA0 (sF0 []) 5) (RB0 (sX0 []) 13) 0 1 ∧
  Agree (PA0 (sF0 []) 7) (PB0 (sX0 []) 13) 0 1 ∧
  Agree (RA0 (sF0 []) 7) (RB0 (sX0 []) 13) 0 1 ∧
  Agree (PA0 (sF0 []) 10) (PB0 (sX0 []) 13) 1 1 ∧
  Agree (RA0 (sF0 []) 10) (RB0 (sX0 []) 13) 1 1 ∧
  Agree (PA0 (sF0 []) 10) (PB0 (sX0 []) 13) 1 1 ∧
  Agree (RA0 (sF0 []) 10) (RB0 (sX0 []) 13) 1 1 ∧
  Agree (PA0 (sF0 []) 10) (PB0 (sX0 []) 13) 1 1 ∧
  Agree (RA0 (sF0 []) 10) (RB0 (sX0 []) 13) 1 1 ∧
  Agree (PA0 (sF0 []) 10) (PB0 (sX0 []) 13) 1 1 ∧
  Agree (RA0 (sF0 []) 10) (RB0 (sX0 []) 13) 1 1 ∧
  Agree (PA0 (sF0 []) 10) (PB0 (sX0 []) 13) 1 1 ∧
  Agree (RA0 (sF0 []) 10) (RB0 (sX0 []) 13) 1 1 ∧
  Agree (PA0 (sF0 []) 10) (PB0 (sX0 []) 13) 1 1 ∧
  Agree (RA0 (sF0 []) 10) (RB0 (sX0 []) 13) 1 1 ∧
  Agree (PA0 (sF0 []) 10) (PB0 (sX0 []) 13) 1 1 ∧
  Agree (RA0 (sF0 []) 10) (RB0 (sX0 []) 13) 1 1 ∧
  Agree (PA0 (sF0 []) 10) (PB0 (sX0 []) 13) 1 1 ∧
  Agree (RA0 (sF0 []) 10) (RB0 (sX0 []) 13) 1 1 ∧
  Agree (PA0 (sF0 []) 10) (PB0 (sX0 []) 13) 1 1 ∧
  Agree (RA0 (sF0 []) 10) (RB0 (sX0 []) 13) 1 1 ∧
  Agree (PA0 (sF0 []) 10) (PB0 (sX0 []) 13) 1 1 ∧
  Agree (RA0 (sF0 []) 10) (RB0 (sX0 []) 13) 1 1 :=
  ⟨agree0, agree0, agree0, agree0, agree0, agree0, agree0, agree0, agree0, agree0, agree0, agree0, agree1, agree1, agree1, agree1, agree1, agree1, agree1, agree1, agree1, agree1, agree1, agree1, agree1, agree1, agree1, agree1, agree1, agree1, agree1, agree1⟩
theorem allN (h : ([] : List Int).length ≤ 100) : l23_alike txt0 [] = some true := by
  obtain ⟨E0, E1, E2, E3, E4, E5, E6, E7, E8, E9, E10, E11, E12, E13, E14, E15, E16, E17, E18, E19, E20, E21, E22, E23, E24, E25, E26, E27, E28, E29, E30, E31⟩ := evN
  exact alike0 ⟨fine0 (n := 0) h E0 E1, fine0 (n := 1) h E2 E3, fine0 (n := 2) h E4 E5, fine0 (n := 3) h E6 E7, fine0 (n := 5) h E8 E9, fine0 (n := 7) h E10 E11, fine0 (n := 10) h E12 E13, fine0 (n := 14) h E14 E15, fine0 (n := 19) h E16 E17, fine0 (n := 26) h E18 E19, fine0 (n := 35) h E20 E21, fine0 (n := 47) h E22 E23, fine0 (n := 63) h E24 E25, fine0 (n := 85) h E26 E27, fine0 (n := 114) h E28 E29, fine0 (n := 153) h E30 E31⟩
end Go.Proofs.YtgjdldhpkeobjaaGreatDoor
namespace Go.Proofs.YtgjdldhpkeobjaaGreatDoor
open Go Go.RowKit Fr
set_option linter.unusedVariables false
set_option maxRecDepth 20000
theorem and7 (n : Int) : 0 ≤ bits .and .u32 n 7 ∧ bits .and .u32 n 7 ≤ 7 := by
  show 0 ≤ IntKind.u32.wrap (((BitVec.ofInt 32 n) &&& (BitVec.ofInt 32 7)).toNat : Int) ∧ IntKind.u32.wrap (((BitVec.ofInt 32 n) &&& (BitVec.ofInt 32 7)).toNat : Int) ≤ 7
  have h : ((BitVec.ofInt 32 n) &&& (BitVec.ofInt 32 7)).toNat ≤ 7 := by
    rw [BitVec.toNat_and]
    exact Nat.and_le_right
  generalize ((BitVec.ofInt 32 n) &&& (BitVec.ofInt 32 7)).toNat = k at h
  rcases (by omega : k = 0 ∨ k = 1 ∨ k = 2 ∨ k = 3 ∨ k = 4 ∨ k = 5 ∨ k = 6 ∨ k = 7) with rfl | rfl | rfl | rfl | rfl | rfl | rfl | rfl <;> decide
theorem alike_ok {xs : List Int} (h : xs.length ≤ 100) : l23_alike (ByteArray.mk #[109, 97, 105, 110, 58, 32, 105, 110, 32, 114, 49, 10, 108, 105, 32, 114, 50, 44, 32, 55, 10, 97, 110, 100, 32, 114, 49, 44, 32, 114, 49, 44, 32, 114, 50, 10, 108, 105, 32, 114, 49, 53, 44, 32, 50, 48, 48, 10, 99, 97, 108, 108, 32, 102, 97, 99, 116, 10, 111, 117, 116, 32, 114, 50, 10, 104, 97, 108, 116, 10, 102, 97, 99, 116, 58, 32, 98, 110, 122, 32, 114, 49, 44, 32, 109, 111, 114, 101, 10, 108, 105, 32, 114, 50, 44, 32, 49, 10, 114, 101, 116, 10, 109, 111, 114, 101, 58, 32, 115, 116, 32, 114, 49, 44, 32, 114, 49, 53, 44, 32, 48, 10, 97, 100, 100, 105, 32, 114, 49, 53, 44, 32, 114, 49, 53, 44, 32, 45, 49, 10, 97, 100, 100, 105, 32, 114, 49, 44, 32, 114, 49, 44, 32, 45, 49, 10, 99, 97, 108, 108, 32, 102, 97, 99, 116, 10, 97, 100, 100, 105, 32, 114, 49, 53, 44, 32, 114, 49, 53, 44, 32, 49, 10, 108, 100, 32, 114, 49, 44, 32, 114, 49, 53, 44, 32, 48, 10, 109, 117, 108, 32, 114, 50, 44, 32, 114, 50, 44, 32, 114, 49, 10, 114, 101, 116]) xs = some true := by
  change l23_alike txt0 xs = some true
  cases xs with
  | nil => exact allN h
  | cons x r =>
    have h7 := and7 x
    rcases (by omega : bits .and .u32 x 7 = 0 ∨ bits .and .u32 x 7 = 1 ∨ bits .and .u32 x 7 = 2 ∨ bits .and .u32 x 7 = 3 ∨ bits .and .u32 x 7 = 4 ∨ bits .and .u32 x 7 = 5 ∨ bits .and .u32 x 7 = 6 ∨ bits .and .u32 x 7 = 7) with hV | hV | hV | hV | hV | hV | hV | hV
    · exact all0 h hV
    · exact all1 h hV
    · exact all2 h hV
    · exact all3 h hV
    · exact all4 h hV
    · exact all5 h hV
    · exact all6 h hV
    · exact all7 h hV
def sev : List (List Int) := [[], [3, 4, 0], [5, 1, 2, 0, 7, 7, 0], [1, 0, 0], [4294967295, 2147483648, 1], [250, 9, 9, 9], [65538, 2147450880, 5]]
theorem pure_BenchCalls (x : T_Ask) (hx : Wf_Ask x) : l23_BenchCalls x = some true := by
  have key : ∀ l : List (List Int), (∀ z ∈ l, z.length ≤ 100) → ∀ n : Nat, n + l.length ≤ 100 → ∀ p : List (List Int), p.length = n → loop (l23_BenchCalls_b1 (p ++ l)) (n : Int) = some true := by
    intro l
    induction l with
    | nil =>
      intro _ n hn p hp
      refine loop_done ?_
      rw [l23_BenchCalls_b1, List.append_nil, hp, wakes_ok]
      simp
    | cons z l ih =>
      intro hl n hn p hp
      have a : at' (p ++ z :: l) (n : Int) = some z := by
        rw [at'_nat (by simp only [List.length_append, List.length_cons]; omega)]
        subst hp
        simp
      have b : l23_BenchCalls_b1 (p ++ z :: l) (n : Int) = some (.next ((n + 1 : Nat) : Int)) := by
        have c : decide ((n : Int) < ((p ++ z :: l).length : Int)) = true := decide_eq_true (by simp only [List.length_append, List.length_cons]; omega)
        rw [l23_BenchCalls_b1, c, a]
        simp only [cond_true, Option.bind_some, alike_ok (hl z List.mem_cons_self), Bool.not_true, cond_false]
        rw [wrap_nat (by simp only [List.length_cons] at hn; omega)]
      rw [loop_next b, show p ++ z :: l = (p ++ [z]) ++ l by simp]
      exact ih (fun z hz => hl z (List.mem_cons_of_mem _ hz)) (n + 1) (by simp only [List.length_cons] at hn; omega) (p ++ [z]) (by simp [hp])
  have h7 : ∀ z ∈ sev, z.length ≤ 100 := by decide
  rw [l23_BenchCalls]
  by_cases h : x.In_.length ≤ 100
  · have e : l23_ins x = some (sev ++ [x.In_]) := by
      rw [l23_ins, decide_eq_true (show (x.In_.length : Int) ≤ 100 by omega)]; rfl
    rw [e, Option.bind_some]
    exact key (sev ++ [x.In_]) (fun z hz => by
      rcases List.mem_append.1 hz with hz | hz
      · exact h7 z hz
      · rw [List.mem_singleton] at hz; subst hz; exact h) 0 (by simp [sev]) [] rfl
  · have e : l23_ins x = some sev := by
      rw [l23_ins, decide_eq_false (show ¬ (x.In_.length : Int) ≤ 100 by omega)]; rfl
    rw [e, Option.bind_some]
    exact key sev h7 0 (by decide) [] rfl
end Go.Proofs.YtgjdldhpkeobjaaGreatDoor
