/- The law IsaFields, as a plain statement. -/
import Derived.Test.YtaplgcdpppcajaaDoorLIsaFields
import Derived.Test.YtaplgcdpppcajaaDoorIn
import Derived.Test.YtaplgcdpppcajaaDoorIsC
namespace Go.Proofs.YtaplgcdpppcajaaDoor
open Go Go.RowKit Fr
set_option linter.unusedVariables false
set_option linter.unusedSimpArgs false
set_option maxRecDepth 20000
theorem rem4 {k : Int} (h : 0 ≤ k) : rem' k 4 = some (k.tmod 4) ∧ 0 ≤ k.tmod 4 ∧ k.tmod 4 < 4 := ⟨rfl, Int.tmod_nonneg _ h, Int.tmod_lt_of_pos _ (by decide)⟩
theorem at4 {α : Type} {a b c d : α} {j : Int} (h0 : 0 ≤ j) (h1 : j < 4) : ∃ y, at' [a, b, c, d] j = some y := by
  obtain ⟨h, e⟩ := at'_int (xs := [a, b, c, d]) h0 (by simpa using h1)
  exact ⟨_, e⟩
theorem agree (x : T_Ins) : (decide ((l3_num (if vB x = true then 0 else 1)) = 0) != vB x) = false := by
  cases vB x <;> rfl
theorem k6_next {k d op a b : Int} (h : 0 ≤ k) : l3_IsaFields_k6 k op a d b = some (.next (IntKind.i64.wrap (k + 1))) := by
  obtain ⟨h1, h2, h3⟩ := rem4 h
  unfold l3_IsaFields_k6
  rw [show quo' .i64 k 4 = some (IntKind.i64.wrap (k.tdiv 4)) from rfl]
  simp only [Option.bind_some, h1]
  generalize IntKind.i64.wrap (k.tdiv 4) = q
  obtain ⟨y1, e1⟩ := at4 (a := (-1 : Int)) (b := 16) (c := 1) (d := 0) h2 h3
  obtain ⟨y2, e2⟩ := at4 (a := (8191 : Int)) (b := 8192) (c := -8192) (d := -8193) h2 h3
  obtain ⟨y3, e3⟩ := at4 (a := (131071 : Int)) (b := 131072) (c := -131072) (d := -131073) h2 h3
  obtain ⟨y4, e4⟩ := at4 (a := (1 : Int)) (b := 1023) (c := 1024) (d := -1) h2 h3
  obtain ⟨y5, e5⟩ := at4 (a := ByteArray.mk #[97]) (b := ByteArray.mk #[49]) (c := ByteArray.mk #[46, 97]) (d := ByteArray.mk #[97, 98, 99, 100, 101, 102, 103, 104, 105, 106, 107, 108, 109]) h2 h3
  obtain ⟨y6, e6⟩ := at4 (a := (0 : Int)) (b := 1) (c := -1) (d := 131072) h2 h3
  simp only [e1, e2, e3, e4, e5, e6, Option.bind_some, isa_check, r3_ins, agree, cond_false, cond_eq_ite, ite_self]
  simp
theorem b3_next {op k : Int} (ho : 0 ≤ op ∧ op ≤ 33) (h : 0 ≤ k) (h1 : k < 40) : l3_IsaFields_b3 op k = some (.next (IntKind.i64.wrap (k + 1))) := by
  obtain ⟨h5, _⟩ := form_shape ho
  unfold l3_IsaFields_b3
  have r16 : ∀ n : Int, rem' n 16 = some (n.tmod 16) := fun n => rfl
  have k5 : ∀ f d a : Int, l3_IsaFields_k5 f k op d a = some (.next (IntKind.i64.wrap (k + 1))) := fun f d a => by
    unfold l3_IsaFields_k5
    rw [r16]
    cases r3_HasB f <;> exact k6_next h
  have k4 : ∀ f d : Int, l3_IsaFields_k4 f k op d = some (.next (IntKind.i64.wrap (k + 1))) := fun f d => by
    unfold l3_IsaFields_k4
    rw [r16]
    cases r3_HasA f <;> exact k5 f d _
  simp only [h1, decide_true, cond_true, h5, Option.bind_some, r16]
  cases r3_HasD (isa_Shape op) <;> exact k4 _ _
theorem b3_all {op : Int} (ho : 0 ≤ op ∧ op ≤ 33) : loop (l3_IsaFields_b3 op) 0 = some (.next (IntKind.i64.wrap (op + 1))) := by
  have H : ∀ k : Int, (0 ≤ k ∧ k ≤ 40) → (∃ s', l3_IsaFields_b3 op k = some (.next s') ∧ (0 ≤ s' ∧ s' ≤ 40) ∧ (40 - s').toNat < (40 - k).toNat) ∨ ∃ r, l3_IsaFields_b3 op k = some (.done r) ∧ r = .next (IntKind.i64.wrap (op + 1)) := by
    intro k hk
    by_cases h1 : k < 40
    · left
      refine ⟨_, b3_next ho hk.1 h1, ?_⟩
      rw [wrap_i64 (by omega) (by omega)]; omega
    · right
      exact ⟨_, by unfold l3_IsaFields_b3; simp [h1], rfl⟩
  obtain ⟨r, hr, rfl⟩ := loop_ex (b := l3_IsaFields_b3 op) (fun k => 0 ≤ k ∧ k ≤ 40) (fun k => (40 - k).toNat) (fun r => r = .next (IntKind.i64.wrap (op + 1))) H 41 0 (by decide) (by decide)
  exact hr
theorem pure_IsaFields (x : T_Ask) (hx : Wf_Ask x) : l3_IsaFields x = some true := by
  have H : ∀ k : Int, (0 ≤ k ∧ k ≤ 34) → (∃ s', l3_IsaFields_b2 k = some (.next s') ∧ (0 ≤ s' ∧ s' ≤ 34) ∧ (34 - s').toNat < (34 - k).toNat) ∨ ∃ r, l3_IsaFields_b2 k = some (.done r) ∧ r = .next () := by
    intro k hk
    unfold l3_IsaFields_b2
    by_cases h1 : k ≤ 33
    · left
      refine ⟨IntKind.i64.wrap (k + 1), ?_, ?_⟩
      · simp only [h1, decide_true, cond_true]
        exact b3_all ⟨hk.1, h1⟩
      · rw [wrap_i64 (by omega) (by omega)]; omega
    · right
      exact ⟨_, by simp [h1], rfl⟩
  obtain ⟨r, hr, rfl⟩ := loop_ex (b := l3_IsaFields_b2) (fun k => 0 ≤ k ∧ k ≤ 34) (fun k => (34 - k).toNat) (fun r => r = .next ()) H 35 0 (by decide) (by decide)
  unfold l3_IsaFields
  rw [hr, cut_next]
  unfold l3_IsaFields_k1
  have h0 : decide ((0 : Int) ≤ (x.I.length : Int)) = true := by simp
  rw [h0, wakes_true]
  rfl
end Go.Proofs.YtaplgcdpppcajaaDoor
