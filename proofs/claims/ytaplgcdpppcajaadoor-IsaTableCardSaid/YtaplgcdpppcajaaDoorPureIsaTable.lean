/- The law IsaTable, as a plain statement. -/
import Derived.Test.YtaplgcdpppcajaaDoorLIsaTable
import Derived.Test.YtaplgcdpppcajaaDoorIn
import Derived.Test.YtaplgcdpppcajaaDoorIsD
namespace Go.Proofs.YtaplgcdpppcajaaDoor
open Go Go.RowKit Fr
set_option linter.unusedVariables false
set_option linter.unusedSimpArgs false
set_option maxRecDepth 20000
theorem b5_all {op : Int} (ho : -2 ≤ op ∧ op ≤ 35) : loop (l3_IsaTable_b5 op) (-1) = some (.next (IntKind.i64.wrap (op + 1))) := by
  have hm : ∀ s : Int, -1 ≤ s → s ≤ 5 → r3_May op s = some (isa_May op s) := by
    intro s h1 h2
    by_cases h : 0 ≤ op ∧ op ≤ 33
    · exact may_eq h ⟨h1, h2⟩
    · have : op = -2 ∨ op = -1 ∨ op = 34 ∨ op = 35 := by omega
      rcases this with rfl | rfl | rfl | rfl <;> rfl
  have H : ∀ s : Int, (-1 ≤ s ∧ s ≤ 6) → (∃ s', l3_IsaTable_b5 op s = some (.next s') ∧ (-1 ≤ s' ∧ s' ≤ 6) ∧ (6 - s').toNat < (6 - s).toNat) ∨ ∃ r, l3_IsaTable_b5 op s = some (.done r) ∧ r = .next (IntKind.i64.wrap (op + 1)) := by
    intro s hs
    unfold l3_IsaTable_b5
    by_cases h1 : s ≤ 5
    · left
      refine ⟨IntKind.i64.wrap (s + 1), ?_, ?_⟩
      · simp only [h1, decide_true, cond_true, hm s hs.1 h1, Option.bind_some, bne_self_eq_false, cond_false]
      · rw [wrap_i64 (by omega) (by omega)]; omega
    · right
      exact ⟨_, by simp [h1], rfl⟩
  obtain ⟨r, hr, rfl⟩ := loop_ex (b := l3_IsaTable_b5 op) (fun k => -1 ≤ k ∧ k ≤ 6) (fun k => (6 - k).toNat) (fun r => r = .next (IntKind.i64.wrap (op + 1))) H 8 (-1) (by decide) (by decide)
  exact hr
theorem b2_next {op : Int} (ho : -2 ≤ op ∧ op ≤ 35) : l3_IsaTable_b2 op = some (.next (IntKind.i64.wrap (op + 1))) := by
  have h35 : decide (op ≤ 35) = true := by simpa using ho.2
  have hk4 := b5_all ho
  unfold l3_IsaTable_b2
  rw [h35, cond_true]
  by_cases h : 0 ≤ op ∧ op ≤ 33
  · have hi : isa_Is op = true := by simp [isa_Is, h.1, h.2]
    have hv : r3_Valid op = true := by simp [r3_Valid, r0_Between, h.1, h.2]
    obtain ⟨nm, hn, hx⟩ := name_ix h
    have hx2 : ¬ ix nm r3_Names 0 < 0 := by omega
    have hN : isa_Name op = some (nm, 0) := by unfold isa_Name; simp [hi, names_eq, hn]
    have hO : isa_Op nm = some (op, 0) := by rw [op_of, decide_eq_false hx2, cond_false, hx]
    have he : r0_EqNumbers (r3_Slots op) (r3_Slots op) = some true := eqn _ (by
      rcases ops_cases h with rfl | rfl | rfl | rfl | rfl | rfl | rfl | rfl | rfl | rfl | rfl | rfl | rfl | rfl | rfl | rfl | rfl | rfl | rfl | rfl | rfl | rfl | rfl | rfl | rfl | rfl | rfl | rfl | rfl | rfl | rfl | rfl | rfl | rfl <;> decide)
    simp only [hN, slots_eq h, hv, hn, (form_shape h).1, hO, Option.bind_some, cond_true, l3_num, ne_eq, not_true_eq_false, decide_false, cond_false, cut_next]
    unfold l3_IsaTable_k3 l3_IsaTable_k4
    simp [l3_num, isa_Form, isa_Latency, hi, late_eq, he, ends_eq, effect_eq ho, cut_next, hk4]
  · have hi : isa_Is op = false := by
      have : op = -2 ∨ op = -1 ∨ op = 34 ∨ op = 35 := by omega
      rcases this with rfl | rfl | rfl | rfl <;> rfl
    have hv : r3_Valid op = false := by
      have : op = -2 ∨ op = -1 ∨ op = 34 ∨ op = 35 := by omega
      rcases this with rfl | rfl | rfl | rfl <;> rfl
    have hN : isa_Name op = some (ByteArray.mk #[], 1) := by unfold isa_Name; simp [hi]
    have hS : isa_Slots op = some ([], 1) := by unfold isa_Slots; simp [hi]
    simp only [hN, hS, hv, Option.bind_some, cond_false, cut_next]
    unfold l3_IsaTable_k3 l3_IsaTable_k4
    simp [l3_num, isa_Form, isa_Latency, hi, eqn [] (by simp), ends_eq, effect_eq ho, cut_next, hk4]
theorem k7_next {l : List ByteArray} {i : Int} (h0 : 0 ≤ i) (h1 : i < l.length) : l3_IsaTable_k7 l i () = some (.next (IntKind.i64.wrap (i + 1))) := by
  obtain ⟨hl, hat⟩ := at'_int h0 h1
  generalize l[i.toNat] = s at hat
  unfold l3_IsaTable_k7
  simp only [hat, Option.bind_some, op_of, at_ix _ _ (show r3_Names.length ≤ 4294967296 by decide), isa_name, r3_name, bne_self_eq_false, cond_false]
  generalize ix s r3_Names 0 = k
  by_cases hk : 0 ≤ k
  · have hk2 : ¬ k < 0 := by omega
    simp [hk, hk2, l3_num]
  · have hk2 : k < 0 := by omega
    simp [hk, hk2, l3_num]
theorem pure_IsaTable (x : T_Ask) (hx : Wf_Ask x) : l3_IsaTable x = some true := by
  have H1 : ∀ k : Int, (-2 ≤ k ∧ k ≤ 36) → (∃ s', l3_IsaTable_b2 k = some (.next s') ∧ (-2 ≤ s' ∧ s' ≤ 36) ∧ (36 - s').toNat < (36 - k).toNat) ∨ ∃ r, l3_IsaTable_b2 k = some (.done r) ∧ r = .next () := by
    intro k hk
    by_cases h1 : k ≤ 35
    · left
      refine ⟨_, b2_next ⟨hk.1, h1⟩, ?_⟩
      rw [wrap_i64 (by omega) (by omega)]; omega
    · right
      exact ⟨_, by unfold l3_IsaTable_b2; simp [h1], rfl⟩
  obtain ⟨r, hr, rfl⟩ := loop_ex (b := l3_IsaTable_b2) (fun k => -2 ≤ k ∧ k ≤ 36) (fun k => (36 - k).toNat) (fun r => r = .next ()) H1 39 (-2) (by decide) (by decide)
  unfold l3_IsaTable
  rw [hr, cut_next]
  unfold l3_IsaTable_k1
  have hS : x.S.length * 16 ≤ 140737488351232 := hx.h2
  have ha : ∀ l : List ByteArray, l.length ≤ 5 → appW 16 l x.S = some (l ++ x.S) := fun l hl => by
    unfold appW
    rw [if_pos ⟨by omega, by decide⟩]
  rw [ha _ (by decide), Option.bind_some]
  generalize ([(ByteArray.mk #[]), (ByteArray.mk #[65, 68, 68]), (ByteArray.mk #[97, 100]), (ByteArray.mk #[110, 111, 112, 32]), (ByteArray.mk #[46, 99, 111, 100, 101])] : List ByteArray) ++ x.S = l
  have H : ∀ i : Int, (0 ≤ i ∧ i ≤ 20) → (∃ s', l3_IsaTable_b6 l i = some (.next s') ∧ (0 ≤ s' ∧ s' ≤ 20) ∧ (20 - s').toNat < (20 - i).toNat) ∨ ∃ r, l3_IsaTable_b6 l i = some (.done r) ∧ r = true := by
    intro i hi
    unfold l3_IsaTable_b6
    simp only [wakes_true, Option.bind_some]
    by_cases h1 : i < (l.length : Int)
    · by_cases h2 : i < 20
      · left
        refine ⟨IntKind.i64.wrap (i + 1), ?_, ?_⟩
        · simp only [h1, h2, decide_true, cond_true, cut_next]
          exact k7_next hi.1 h1
        · rw [wrap_i64 (by omega) (by omega)]; omega
      · right
        exact ⟨true, by simp [h1, h2, cut], rfl⟩
    · right
      exact ⟨true, by simp [h1, cut], rfl⟩
  obtain ⟨r, hr2, rfl⟩ := loop_ex (b := l3_IsaTable_b6 l) (fun i => 0 ≤ i ∧ i ≤ 20) (fun i => (20 - i).toNat) (fun r => r = true) H 21 0 (by decide) (by decide)
  exact hr2
end Go.Proofs.YtaplgcdpppcajaaDoor
