/- The law HazardJumps, as a plain statement: proved. -/
import Derived.Test.YthbpicnbkdbbmaaGreatLHazardJumps
import Derived.Test.YthbpicnbkdbbmaaGreatPiI
namespace Go.Proofs.YthbpicnbkdbbmaaGreat
open Go Go.RowKit Fr
set_option linter.unusedVariables false
set_option linter.unusedSimpArgs false
set_option maxRecDepth 20000
abbrev jmZ (op : Int) (p : Nat) : A4 T_Ins := ⟨⟨op, 0, 1, 0, IntKind.i64.wrap (6 + (p : Int)), ByteArray.empty⟩, z0, z0, z0⟩
abbrev jmT (op : Int) : List (A4 T_Ins) := [⟨⟨op, 0, 0, 0, 0, ByteArray.empty⟩, z0, z0, z0⟩, zB, zB]
theorem jm_z : [29, 30].all (fun op => goodBB (jmZ op 0) && goodBB (jmZ op 1)) = true := by kernel_rfl
theorem jm_t : (List.range 6).all (fun j => (jmT (28 + (j : Int))).all goodBB) = true := by kernel_rfl
theorem hj_round {x : T_Script} (hx : Wf_Script x) {op : Int} (hop : (jmT op).all goodBB = true) {k i : Nat} (hk : k < 4) (hi : i < 2) : l7_HazardJumps_b3 x (k : Int) op (i : Int) = some (.next ((i + 1 : Nat) : Int)) := by
  have hd : decide ((i : Int) < 2) = true := decide_eq_true (by omega)
  obtain ⟨p, hp2, hm⟩ := modN x.N.length (k := 2) (by decide)
  have hm' : rem' (x.N.length : Int) 2 = some (p : Int) := hm
  have wi : IntKind.i64.wrap ((i : Int) + 1) = ((i + 1 : Nat) : Int) := wrap_nat (by omega)
  obtain ⟨o, ho, hgo⟩ : ∃ o, at' ([29, 30] : List Int) (i : Int) = some o ∧ goodBB (jmZ o p) = true := by
    have h := jm_z
    simp only [List.all_cons, List.all_nil, Bool.and_true, Bool.and_eq_true] at h
    rcases (show i = 0 ∨ i = 1 by omega) with rfl | rfl <;> rcases (show p = 0 ∨ p = 1 by omega) with rfl | rfl
    · exact ⟨29, rfl, h.1.1⟩
    · exact ⟨29, rfl, h.1.2⟩
    · exact ⟨30, rfl, h.2.1⟩
    · exact ⟨30, rfl, h.2.2⟩
  have hp := pad_loop (b := l7_HazardJumps_b5 (k : Int)) (k := k) (by omega) (z := jmZ o p) (fun xs i hi => by
      simp only [l7_HazardJumps_b5, show decide ((i : Int) < (k : Int)) = true from decide_eq_true (by omega), cond_true]) (fun xs => by
      simp only [l7_HazardJumps_b5, Int.lt_irrefl, decide_false, cond_false])
  rw [l7_HazardJumps_b3, hd, cond_true, hm', Option.bind_some, ho, Option.bind_some, hp, cut, l7_HazardJumps_k4, app'_le (by simp; omega), Option.bind_some]
  refine found_then (good_pad (goodBB_of hgo) (goodC_of hop)) (by simp; omega) ?_
  rw [wi]; rfl
theorem pure_HazardJumps (x : T_Script) (hx : Wf_Script x) : l7_HazardJumps x = some true := by
  refine loop_from 28 6 (fun i h0 hi => ?_) ?_
  · obtain ⟨j, rfl⟩ : ∃ j, i = 28 + j := ⟨i - 28, by omega⟩
    have ej : ((28 + j : Nat) : Int) = 28 + (j : Int) := by omega
    have hop := all_range jm_t (k := j) (by omega)
    have hd : decide (((28 + j : Nat) : Int) ≤ 33) = true := decide_eq_true (by omega)
    have wj : IntKind.i64.wrap (((28 + j : Nat) : Int) + 1) = ((28 + j + 1 : Nat) : Int) := wrap_nat (by omega)
    rw [← ej] at hop
    rw [l7_HazardJumps_b1, hd, cond_true]
    refine loop_count 4 (fun k hk => ?_) ?_
    · have hd : decide ((k : Int) < 4) = true := decide_eq_true (by omega)
      rw [l7_HazardJumps_b2, hd, cond_true]
      refine loop_count 2 (fun i hi => hj_round hx hop hk hi) ?_
      simp only [l7_HazardJumps_b3, show decide (((2 : Nat) : Int) < 2) = false from rfl, cond_false]
      rw [wrap_nat (by omega)]
    · simp only [l7_HazardJumps_b2, show decide (((4 : Nat) : Int) < 4) = false from rfl, cond_false, wj]
  · simp [l7_HazardJumps_b1, hwakes]
end Go.Proofs.YthbpicnbkdbbmaaGreat
