/- The law HazardWrites, as a plain statement: proved. -/
import Derived.Test.YthbpicnbkdbbmaaGreatLHazardWrites
import Derived.Test.YthbpicnbkdbbmaaGreatPiI
namespace Go.Proofs.YthbpicnbkdbbmaaGreat
open Go Go.RowKit Fr
set_option linter.unusedVariables false
set_option linter.unusedSimpArgs false
set_option maxRecDepth 20000
theorem hw_round {x : T_Script} (hx : Wf_Script x) {k i : Nat} (hk : k < 5) (hi : i < 3) : l7_HazardWrites_b2 (k : Int) x (i : Int) = some (.next ((i + 1 : Nat) : Int)) := by
  have hd : decide ((i : Int) < 3) = true := decide_eq_true (by omega)
  have hl := hx.h3
  have hp := pad_loop (b := l7_HazardWrites_b4 (k : Int)) (k := k) (by omega) (z := ⟨z0, z0, ⟨24, 3, 0, 0, 0, ByteArray.empty⟩, z0⟩) (fun xs i hi => by
      simp only [l7_HazardWrites_b4, show decide ((i : Int) < (k : Int)) = true from decide_eq_true (by omega), cond_true]) (fun xs => by
      simp only [l7_HazardWrites_b4, Int.lt_irrefl, decide_false, cond_false])
  have wl : IntKind.i64.wrap ((x.N.length : Int) + (k : Int)) = ((x.N.length + k : Nat) : Int) := by rw [wrap_i64 (by omega) (by omega)]; omega
  obtain ⟨p, hp2, hm⟩ := modN (x.N.length + k) (k := 2) (by decide)
  have hm' : rem' ((x.N.length + k : Nat) : Int) 2 = some (p : Int) := hm
  have wi : IntKind.i64.wrap ((i : Int) + 1) = ((i + 1 : Nat) : Int) := wrap_nat (by omega)
  simp only [z0] at hp
  rw [l7_HazardWrites_b2, hd, cond_true, hp, cut, l7_HazardWrites_k3, wl, hm', Option.bind_some]
  have hlen : ∀ b : A4 T_Ins, (((⟨z0, z0, ⟨24, 3, 0, 0, 0, ByteArray.empty⟩, z0⟩ : A4 T_Ins) :: List.replicate k zB) ++ [b]).length ≤ 1024 := fun b => by simp; omega
  have fin : ∀ b : A4 T_Ins, GoodB b → ((app' ((⟨z0, z0, ⟨24, 3, 0, 0, 0, ByteArray.empty⟩, z0⟩ : A4 T_Ins) :: List.replicate k zB) [b]).bind fun zs1005 => (l7_found zs1005).bind fun r1006 => bif !r1006 then some (Step.done (Step.done false)) else some (Step.next (IntKind.i64.wrap ((i : Int) + 1)))) = (some (.next ((i + 1 : Nat) : Int)) : Option (Step Int (Step Int Bool))) := fun b hb => by
    rw [app'_le (by simp; omega), Option.bind_some]
    exact found_then (good_pad (goodBB_of (by kernel_rfl)) (goodC_cons hb goodC_nil)) (hlen b) (by rw [wi]; rfl)
  rcases (show i = 0 ∨ i = 1 ∨ i = 2 by omega) with rfl | rfl | rfl
  · exact fin _ (goodBB_of (by kernel_rfl))
  · exact fin _ (goodBB_of (by kernel_rfl))
  · rcases (show p = 0 ∨ p = 1 by omega) with rfl | rfl
    · exact fin _ (goodBB_of (by kernel_rfl))
    · exact fin _ (goodBB_of (by kernel_rfl))
theorem pure_HazardWrites (x : T_Script) (hx : Wf_Script x) : l7_HazardWrites x = some true := by
  refine loop_count 5 (fun k hk => ?_) ?_
  · have hd : decide ((k : Int) < 5) = true := decide_eq_true (by omega)
    rw [l7_HazardWrites_b1, hd, cond_true]
    refine loop_count 3 (fun i hi => hw_round hx hk hi) ?_
    simp only [l7_HazardWrites_b2, show decide (((3 : Nat) : Int) < 3) = false from rfl, cond_false]
    rw [wrap_nat (by omega)]
  · simp [l7_HazardWrites_b1, hwakes]
end Go.Proofs.YthbpicnbkdbbmaaGreat
