/- The law IsaTells, as a plain statement. -/
import Derived.Test.YtaplgcdpppcajaaDoorLIsaTells
import Derived.Test.YtaplgcdpppcajaaDoorIn
import Derived.Test.YtaplgcdpppcajaaDoorIsC
namespace Go.Proofs.YtaplgcdpppcajaaDoor
open Go Go.RowKit Fr
set_option linter.unusedVariables false
set_option linter.unusedSimpArgs false
set_option maxRecDepth 20000
theorem tells_round (I : List T_Ins) (S : List ByteArray) {i : Int} (h0 : 0 ≤ i) (h1 : i < I.length) : l3_IsaTells_k2 ⟨I, S⟩ i () = some (.next (IntKind.i64.wrap (i + 1))) := by
  obtain ⟨hl, hat⟩ := at'_int h0 h1
  generalize I[i.toNat] = x at hat
  unfold l3_IsaTells_k2
  simp only [hat, Option.bind_some]
  cases hv : vB x with
  | false =>
    have ht : isa_Text x = some (ByteArray.mk #[], 1) := by unfold isa_Text; simp [isa_ins, hv]
    have hr : isa_Reads x = some ([], 1) := by unfold isa_Reads; simp [isa_ins, hv]
    have hw : isa_Writes x = some (0, 1) := by unfold isa_Writes; simp [isa_ins, hv]
    simp only [ht, hr, hw, r3_ins, hv, Option.bind_some, cond_false, cut_next]
    unfold l3_IsaTells_k3
    simp [isa_check, hv, l3_num, eqn [] (by simp)]
  | true =>
    have hk := ok_of hv
    obtain ⟨nm, hn, hz⟩ := names_at hk.op
    obtain ⟨h5, h6⟩ := form_shape hk.op
    have ht := isa_text hv hn hz
    have ht2 := r3_text hv hn hz
    have hr : isa_Reads x = some (rdl x, 0) := by unfold isa_Reads; simp [isa_ins, hv, isa_read]
    have hr2 := r3_read hk.op
    have he : r0_EqNumbers (rdl x) (rdl x) = some true := eqn _ (by unfold rdl; split <;> split <;> simp)
    have hw : isa_Writes x = some (bif isa_HasD (isa_Shape x.Op) then (x.D, 0) else (0, 9)) := by
      unfold isa_Writes; simp only [isa_ins, hv, Option.bind_some, Bool.not_true, cond_false]
      cases isa_HasD (isa_Shape x.Op) <;> rfl
    have hw2 : r3_Writes x = some (bif isa_HasD (isa_Shape x.Op) then x.D else -1) := by
      unfold r3_Writes; simp only [h5, Option.bind_some, hasD_eq h6]
      cases isa_HasD (isa_Shape x.Op) <;> rfl
    have hd := hk.d.1
    simp only [ht, ht2, hr, hr2, hw, hw2, r3_ins, hv, Option.bind_some, cond_true]
    unfold l3_IsaTells_k3
    cases isa_HasD (isa_Shape x.Op)
    · simp [isa_check, hv, l3_num, he, cut_next]
    · simp [isa_check, hv, l3_num, he, cut_next, hd]
theorem pure_IsaTells (x : T_Ask) (hx : Wf_Ask x) : l3_IsaTells x = some true := by
  obtain ⟨I, S⟩ := x
  have H : ∀ i : Int, (0 ≤ i ∧ i ≤ 20) → (∃ s', l3_IsaTells_b1 ⟨I, S⟩ i = some (.next s') ∧ (0 ≤ s' ∧ s' ≤ 20) ∧ (20 - s').toNat < (20 - i).toNat) ∨ ∃ r, l3_IsaTells_b1 ⟨I, S⟩ i = some (.done r) ∧ r = true := by
    intro i hi
    unfold l3_IsaTells_b1
    simp only [wakes_true, Option.bind_some]
    by_cases h1 : i < (I.length : Int)
    · by_cases h2 : i < 20
      · left
        refine ⟨IntKind.i64.wrap (i + 1), ?_, ?_⟩
        · simp only [h1, h2, decide_true, cond_true, cut_next]
          exact tells_round I S hi.1 h1
        · rw [wrap_i64 (by omega) (by omega)]; omega
      · right
        exact ⟨true, by simp [h1, h2, cut], rfl⟩
    · right
      exact ⟨true, by simp [h1, cut], rfl⟩
  obtain ⟨r, hr, rfl⟩ := loop_ex (b := l3_IsaTells_b1 ⟨I, S⟩) (fun i => 0 ≤ i ∧ i ≤ 20) (fun i => (20 - i).toNat) (fun r => r = true) H 21 0 (by decide) (by decide)
  exact hr
end Go.Proofs.YtaplgcdpppcajaaDoor
