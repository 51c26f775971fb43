/- The law PipePorts, as a plain statement: proved. -/
import Derived.Test.YthbpicnbkdbbmaaGreatLPipePorts
import Derived.Test.YthbpicnbkdbbmaaGreatPiG
namespace Go.Proofs.YthbpicnbkdbbmaaGreat
open Go Go.RowKit Fr
set_option linter.unusedVariables false
set_option linter.unusedSimpArgs false
set_option maxRecDepth 20000
theorem pure_PipePorts (x : T_Script) (hx : Wf_Script x) : l6_PipePorts x = some true := by
  obtain ⟨k, hk, hm⟩ := modN x.N.length (k := 3) (by decide)
  have hm' : rem' (x.N.length : Int) 3 = some (k : Int) := hm
  let L : List T_Ins := [⟨26, 1, 0, 0, 0, ByteArray.empty⟩, ⟨26, 2, 0, 0, 0, ByteArray.empty⟩, ⟨25, 0, 3, 1, IntKind.i64.wrap (1 + (k : Int)), ByteArray.empty⟩, ⟨24, 4, 3, 0, 1, ByteArray.empty⟩, ⟨27, 0, 1, 0, 0, ByteArray.empty⟩, ⟨27, 0, 2, 0, 0, ByteArray.empty⟩, ⟨27, 0, 4, 0, 0, ByteArray.empty⟩, ⟨26, 3, 0, 0, 0, ByteArray.empty⟩, ⟨27, 0, 4, 0, 0, ByteArray.empty⟩, ⟨33, 0, 0, 0, 0, ByteArray.empty⟩]
  let C : List (A4 T_Ins) := [⟨z0, z0, ⟨26, 1, 0, 0, 0, ByteArray.empty⟩, z0⟩, ⟨z0, z0, ⟨26, 2, 0, 0, 0, ByteArray.empty⟩, z0⟩, ⟨z0, z0, ⟨25, 0, 3, 1, IntKind.i64.wrap (1 + (k : Int)), ByteArray.empty⟩, z0⟩, ⟨z0, z0, ⟨24, 4, 3, 0, 1, ByteArray.empty⟩, z0⟩, ⟨z0, z0, ⟨27, 0, 1, 0, 0, ByteArray.empty⟩, z0⟩, ⟨z0, z0, ⟨27, 0, 2, 0, 0, ByteArray.empty⟩, z0⟩, ⟨z0, z0, ⟨27, 0, 4, 0, 0, ByteArray.empty⟩, z0⟩, ⟨z0, z0, ⟨26, 3, 0, 0, 0, ByteArray.empty⟩, z0⟩, ⟨z0, z0, ⟨27, 0, 4, 0, 0, ByteArray.empty⟩, z0⟩, ⟨⟨33, 0, 0, 0, 0, ByteArray.empty⟩, z0, z0, z0⟩]
  have hat : ∀ i : Nat, i < 10 → ∃ y b, at' L (i : Int) = some y ∧ l6_at y = some b ∧ C.take (i + 1) = C.take i ++ [b] := fun i hi => by
    rcases (show i = 0 ∨ i = 1 ∨ i = 2 ∨ i = 3 ∨ i = 4 ∨ i = 5 ∨ i = 6 ∨ i = 7 ∨ i = 8 ∨ i = 9 by omega) with rfl | rfl | rfl | rfl | rfl | rfl | rfl | rfl | rfl | rfl
    iterate 9 exact ⟨_, _, rfl, at2 (l := []) rfl, rfl⟩
    exact ⟨_, _, rfl, at0 (l := []) rfl, rfl⟩
  have hlp : ∀ m i : Nat, i + m = 10 → loop (l6_PipePorts_b2 (k : Int)) (C.take i, (i : Int)) = some (.next C) := by
    intro m
    induction m with
    | zero =>
      intro i h
      obtain rfl : i = 10 := by omega
      exact loop_done rfl
    | succ m ih =>
      intro i h
      obtain ⟨y, b, h1, h2, h3⟩ := hat i (by omega)
      have hd : decide ((i : Int) < (L.length : Int)) = true := decide_eq_true (by simp [L]; omega)
      rw [← ih (i + 1) (by omega)]
      refine loop_next ?_
      rw [show l6_PipePorts_b2 (k : Int) (C.take i, (i : Int)) = (bif decide ((i : Int) < (L.length : Int)) then (at' L (i : Int)).bind fun x134 => (l6_at x134).bind fun r143 => (app' (C.take i) ([r143] : List (A4 T_Ins))).bind fun zs151 => some (Step.next (zs151, IntKind.i64.wrap ((i : Int) + 1))) else some (Step.done (Step.next (C.take i))) : Option (Step (List (A4 T_Ins) × Int) (Step (List (A4 T_Ins)) Bool))) from rfl]
      rw [hd, cond_true, h1, Option.bind_some, h2, Option.bind_some, app'_le (by simp; omega), Option.bind_some, wrap_nat (by omega), h3]
  have h0 := hlp 10 0 (by omega)
  have h0' : loop (l6_PipePorts_b2 (k : Int)) ([], 0) = some (.next C) := h0
  have hg : GoodC C := goodC_of (all_range (p := fun k : Nat => List.all [(⟨z0, z0, ⟨26, 1, 0, 0, 0, ByteArray.empty⟩, z0⟩ : A4 T_Ins), ⟨z0, z0, ⟨26, 2, 0, 0, 0, ByteArray.empty⟩, z0⟩, ⟨z0, z0, ⟨25, 0, 3, 1, IntKind.i64.wrap (1 + (k : Int)), ByteArray.empty⟩, z0⟩, ⟨z0, z0, ⟨24, 4, 3, 0, 1, ByteArray.empty⟩, z0⟩, ⟨z0, z0, ⟨27, 0, 1, 0, 0, ByteArray.empty⟩, z0⟩, ⟨z0, z0, ⟨27, 0, 2, 0, 0, ByteArray.empty⟩, z0⟩, ⟨z0, z0, ⟨27, 0, 4, 0, 0, ByteArray.empty⟩, z0⟩, ⟨z0, z0, ⟨26, 3, 0, 0, 0, ByteArray.empty⟩, z0⟩, ⟨z0, z0, ⟨27, 0, 4, 0, 0, ByteArray.empty⟩, z0⟩, ⟨⟨33, 0, 0, 0, 0, ByteArray.empty⟩, z0, z0, z0⟩] goodBB) (by kernel_rfl) hk)
  simp only [l6_PipePorts, hm', Option.bind_some, h0', cut, l6_PipePorts_k1]
  refine run_then hg (by simp [C]) (by simp) rfl ?_
  simp only [cond_true]
  refine run_then hg (by simp [C]) (by simp) rfl ?_
  simp only [cond_true]
  exact run_then hg (by simp [C]) (by simp) rfl rfl
end Go.Proofs.YthbpicnbkdbbmaaGreat
