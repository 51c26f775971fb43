/- The table of ops: both the same. -/
import Derived.Test.YtaplgcdpppcajaaDoorIsC
namespace Go.Proofs.YtaplgcdpppcajaaDoor
open Go Fr
set_option linter.unusedVariables false
set_option linter.unusedSimpArgs false
set_option maxRecDepth 20000

theorem sl_all {op : Int} (h0 : isa_Is op = true) (h1 : iter (slices_IndexFunc_int_int_isa_Slots_1_b1 [0, 1, 2, 3] op) 6 0 = some (-1)) : isa_Slots op = some ([0, 1, 2, 3], 0) := by
  unfold isa_Slots slices_DeleteFunc_int_int_isa_Slots_1 slices_IndexFunc_int_int_isa_Slots_1
  rw [loop_of 6 h1, h0]; rfl
theorem sl_some {op i : Int} {st : List Int × Int} {r : List Int} (h0 : isa_Is op = true) (h1 : iter (slices_IndexFunc_int_int_isa_Slots_1_b1 [0, 1, 2, 3] op) 6 0 = some i) (hi : decide (i = -1) = false)
    (h2 : iter (slices_DeleteFunc_int_int_isa_Slots_1_b2 op) 8 ([0, 1, 2, 3], i, IntKind.i64.wrap (i + 1)) = some (.next st)) (h3 : slices_DeleteFunc_int_int_isa_Slots_1_k1 st = some r) : isa_Slots op = some (r, 0) := by
  unfold isa_Slots slices_DeleteFunc_int_int_isa_Slots_1 slices_IndexFunc_int_int_isa_Slots_1
  rw [loop_of 6 h1, h0]
  simp only [Bool.not_true, cond_false, Option.bind_some, hi]
  rw [loop_of 8 h2, cut_next, h3]; rfl
theorem slots_eq {op : Int} (h : 0 ≤ op ∧ op ≤ 33) : isa_Slots op = some (r3_Slots op, 0) := by
  rcases ops_cases h with rfl | rfl | rfl | rfl | rfl | rfl | rfl | rfl | rfl | rfl | rfl | rfl | rfl | rfl | rfl | rfl | rfl | rfl | rfl | rfl | rfl | rfl | rfl | rfl | rfl | rfl | rfl | rfl | rfl | rfl | rfl | rfl | rfl | rfl
  · exact sl_all (by kernel_rfl) (by kernel_rfl)
  · exact sl_some (i := 2) (st := ([0, 1, 2, 3], 2)) (by kernel_rfl) (by kernel_rfl) (by decide) (by kernel_rfl) (by kernel_rfl)
  · exact sl_some (i := 2) (st := ([0, 1, 2, 3], 2)) (by kernel_rfl) (by kernel_rfl) (by decide) (by kernel_rfl) (by kernel_rfl)
  · exact sl_some (i := 2) (st := ([0, 1, 2, 3], 2)) (by kernel_rfl) (by kernel_rfl) (by decide) (by kernel_rfl) (by kernel_rfl)
  · exact sl_some (i := 2) (st := ([0, 1, 2, 3], 2)) (by kernel_rfl) (by kernel_rfl) (by decide) (by kernel_rfl) (by kernel_rfl)
  · exact sl_some (i := 2) (st := ([0, 1, 2, 3], 2)) (by kernel_rfl) (by kernel_rfl) (by decide) (by kernel_rfl) (by kernel_rfl)
  · exact sl_some (i := 2) (st := ([0, 1, 2, 3], 2)) (by kernel_rfl) (by kernel_rfl) (by decide) (by kernel_rfl) (by kernel_rfl)
  · exact sl_some (i := 2) (st := ([0, 1, 2, 3], 2)) (by kernel_rfl) (by kernel_rfl) (by decide) (by kernel_rfl) (by kernel_rfl)
  · exact sl_some (i := 2) (st := ([0, 1, 2, 3], 2)) (by kernel_rfl) (by kernel_rfl) (by decide) (by kernel_rfl) (by kernel_rfl)
  · exact sl_some (i := 2) (st := ([0, 1, 2, 3], 2)) (by kernel_rfl) (by kernel_rfl) (by decide) (by kernel_rfl) (by kernel_rfl)
  · exact sl_some (i := 2) (st := ([0, 1, 2, 3], 2)) (by kernel_rfl) (by kernel_rfl) (by decide) (by kernel_rfl) (by kernel_rfl)
  · exact sl_some (i := 2) (st := ([0, 1, 2, 3], 2)) (by kernel_rfl) (by kernel_rfl) (by decide) (by kernel_rfl) (by kernel_rfl)
  · exact sl_some (i := 2) (st := ([0, 1, 2, 3], 2)) (by kernel_rfl) (by kernel_rfl) (by decide) (by kernel_rfl) (by kernel_rfl)
  · exact sl_some (i := 2) (st := ([0, 1, 2, 3], 2)) (by kernel_rfl) (by kernel_rfl) (by decide) (by kernel_rfl) (by kernel_rfl)
  · exact sl_some (i := 0) (st := ([3, 1, 2, 3], 1)) (by kernel_rfl) (by kernel_rfl) (by decide) (by kernel_rfl) (by kernel_rfl)
  · exact sl_some (i := 0) (st := ([3, 1, 2, 3], 1)) (by kernel_rfl) (by kernel_rfl) (by decide) (by kernel_rfl) (by kernel_rfl)
  · exact sl_some (i := 0) (st := ([3, 1, 2, 3], 1)) (by kernel_rfl) (by kernel_rfl) (by decide) (by kernel_rfl) (by kernel_rfl)
  · exact sl_some (i := 0) (st := ([3, 1, 2, 3], 1)) (by kernel_rfl) (by kernel_rfl) (by decide) (by kernel_rfl) (by kernel_rfl)
  · exact sl_some (i := 0) (st := ([1, 1, 2, 3], 1)) (by kernel_rfl) (by kernel_rfl) (by decide) (by kernel_rfl) (by kernel_rfl)
  · exact sl_some (i := 0) (st := ([1, 1, 2, 3], 1)) (by kernel_rfl) (by kernel_rfl) (by decide) (by kernel_rfl) (by kernel_rfl)
  · exact sl_some (i := 0) (st := ([3, 1, 2, 3], 1)) (by kernel_rfl) (by kernel_rfl) (by decide) (by kernel_rfl) (by kernel_rfl)
  · exact sl_some (i := 0) (st := ([1, 1, 2, 3], 1)) (by kernel_rfl) (by kernel_rfl) (by decide) (by kernel_rfl) (by kernel_rfl)
  · exact sl_some (i := 2) (st := ([0, 1, 2, 3], 2)) (by kernel_rfl) (by kernel_rfl) (by decide) (by kernel_rfl) (by kernel_rfl)
  · exact sl_some (i := 2) (st := ([0, 1, 2, 3], 2)) (by kernel_rfl) (by kernel_rfl) (by decide) (by kernel_rfl) (by kernel_rfl)
  · exact sl_some (i := 0) (st := ([2, 1, 2, 3], 1)) (by kernel_rfl) (by kernel_rfl) (by decide) (by kernel_rfl) (by kernel_rfl)
  · exact sl_some (i := 0) (st := ([2, 1, 2, 3], 1)) (by kernel_rfl) (by kernel_rfl) (by decide) (by kernel_rfl) (by kernel_rfl)
  · exact sl_some (i := 0) (st := ([2, 1, 2, 3], 1)) (by kernel_rfl) (by kernel_rfl) (by decide) (by kernel_rfl) (by kernel_rfl)
  · exact sl_some (i := 0) (st := ([2, 1, 2, 3], 1)) (by kernel_rfl) (by kernel_rfl) (by decide) (by kernel_rfl) (by kernel_rfl)
  · exact sl_some (i := 1) (st := ([0, 1, 2, 3], 1)) (by kernel_rfl) (by kernel_rfl) (by decide) (by kernel_rfl) (by kernel_rfl)
  · exact sl_some (i := 1) (st := ([0, 1, 2, 3], 1)) (by kernel_rfl) (by kernel_rfl) (by decide) (by kernel_rfl) (by kernel_rfl)
  · exact sl_some (i := 1) (st := ([0, 1, 2, 3], 1)) (by kernel_rfl) (by kernel_rfl) (by decide) (by kernel_rfl) (by kernel_rfl)
  · exact sl_some (i := 1) (st := ([0, 1, 2, 3], 1)) (by kernel_rfl) (by kernel_rfl) (by decide) (by kernel_rfl) (by kernel_rfl)
  · exact sl_some (i := 1) (st := ([0, 1, 2, 3], 1)) (by kernel_rfl) (by kernel_rfl) (by decide) (by kernel_rfl) (by kernel_rfl)
  · exact sl_some (i := 1) (st := ([0, 1, 2, 3], 1)) (by kernel_rfl) (by kernel_rfl) (by decide) (by kernel_rfl) (by kernel_rfl)

theorem in_eq (l : List Int) (n : Int) (hl : l.length ≤ 4294967296) : ∃ r, r0_In l n = some r ∧ decide (0 ≤ r) = !(l.all fun x => !decide (x = n)) := by
  refine loop_find (b := r0_In_b1 l n) (xs := l) (q := fun x => !decide (x = n)) (fun i h => ?_) ?_
  · have h1 : decide ((i : Int) < (l.length : Int)) = true := by simpa using h
    simp only [r0_In_b1, h1, cond_true, at'_nat h, Option.bind_some, wrap_nat (show i < 9223372036854775807 by omega)]
    cases decide (l[i] = n) <;> rfl
  · simp [r0_In_b1]
theorem r3_may {op s : Int} (h : 0 ≤ op ∧ op ≤ 33) : r3_May op s = some (!((r3_Slots op).all fun x => !decide (x = s))) := by
  have hv : r3_Valid op = true := by simp [r3_Valid, r0_Between, h.1, h.2]
  have hl : (r3_Slots op).length ≤ 4294967296 := by
    rcases ops_cases h with rfl | rfl | rfl | rfl | rfl | rfl | rfl | rfl | rfl | rfl | rfl | rfl | rfl | rfl | rfl | rfl | rfl | rfl | rfl | rfl | rfl | rfl | rfl | rfl | rfl | rfl | rfl | rfl | rfl | rfl | rfl | rfl | rfl | rfl <;> decide
  obtain ⟨r, h1, h2⟩ := in_eq (r3_Slots op) s hl
  unfold r3_May
  rw [hv, cond_true, h1, Option.bind_some, h2]
theorem slot_cases {s : Int} (h : -1 ≤ s ∧ s ≤ 5) : s = -1 ∨ s = 0 ∨ s = 1 ∨ s = 2 ∨ s = 3 ∨ s = 4 ∨ s = 5 := by omega
theorem may_eq {op s : Int} (h : 0 ≤ op ∧ op ≤ 33) (hs : -1 ≤ s ∧ s ≤ 5) : r3_May op s = some (isa_May op s) := by
  rw [r3_may h]
  rcases ops_cases h with rfl | rfl | rfl | rfl | rfl | rfl | rfl | rfl | rfl | rfl | rfl | rfl | rfl | rfl | rfl | rfl | rfl | rfl | rfl | rfl | rfl | rfl | rfl | rfl | rfl | rfl | rfl | rfl | rfl | rfl | rfl | rfl | rfl | rfl <;> rcases slot_cases hs with rfl | rfl | rfl | rfl | rfl | rfl | rfl <;> rfl
theorem late_eq {op : Int} : isa_Late op = r3_Latency op := rfl
theorem ends_eq {op : Int} : isa_Ends op = r3_Ends op := rfl
theorem effect_eq {op : Int} (h : -2 ≤ op ∧ op ≤ 35) : isa_Effect op = r3_Effect op := by
  have : op = -2 ∨ op = -1 ∨ (0 ≤ op ∧ op ≤ 33) ∨ op = 34 ∨ op = 35 := by omega
  rcases this with rfl | rfl | h | rfl | rfl
  · rfl
  · rfl
  · rcases ops_cases h with rfl | rfl | rfl | rfl | rfl | rfl | rfl | rfl | rfl | rfl | rfl | rfl | rfl | rfl | rfl | rfl | rfl | rfl | rfl | rfl | rfl | rfl | rfl | rfl | rfl | rfl | rfl | rfl | rfl | rfl | rfl | rfl | rfl | rfl <;> rfl
  · rfl
  · rfl
theorem op_of {s : ByteArray} : isa_Op s = some (bif decide (ix s r3_Names 0 < 0) then (0, 9) else (ix s r3_Names 0, 0)) := by
  unfold isa_Op
  simp only [names_eq, Option.bind_some, index_ix _ _ (show r3_Names.length ≤ 4294967296 by decide)]
  cases decide (ix s r3_Names 0 < 0) <;> rfl
theorem at_ix (xs : List ByteArray) (s : ByteArray) (hl : xs.length ≤ 4294967296) : r0_At xs s = some (ix s xs 0) := by
  have := loop_ix (b := r0_At_b1 xs s) (xs := xs) (s := s) hl (fun i h => ?_) ?_ xs.length 0 (by omega)
  · unfold r0_At; simpa using this
  · have h1 : decide ((i : Int) < (xs.length : Int)) = true := by simpa using h
    simp only [r0_At_b1, h1, cond_true, at'_nat h, Option.bind_some, wrap_nat (show i < 9223372036854775807 by omega)]
    cases decide (xs[i] = s) <;> rfl
  · simp [r0_At_b1]
theorem name_ix {op : Int} (h : 0 ≤ op ∧ op ≤ 33) : ∃ nm, at' r3_Names op = some nm ∧ ix nm r3_Names 0 = op := by
  rcases ops_cases h with rfl | rfl | rfl | rfl | rfl | rfl | rfl | rfl | rfl | rfl | rfl | rfl | rfl | rfl | rfl | rfl | rfl | rfl | rfl | rfl | rfl | rfl | rfl | rfl | rfl | rfl | rfl | rfl | rfl | rfl | rfl | rfl | rfl | rfl <;> exact ⟨_, rfl, by decide⟩
end Go.Proofs.YtaplgcdpppcajaaDoor
