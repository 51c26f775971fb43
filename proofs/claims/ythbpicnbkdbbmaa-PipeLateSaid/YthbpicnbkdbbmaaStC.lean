/- The word table: both answers. -/
import Derived.Test.YthbpicnbkdbbmaaStB
import Derived.Test.YthbpicnbkdbbmaaMAgree
namespace Go.Proofs.Ythbpicnbkdbbmaa
open Go Fr
set_option linter.unusedVariables false
set_option linter.unusedSimpArgs false
set_option maxRecDepth 20000

theorem word_ops {op : Int} (h : 1 ≤ op ∧ op ≤ 17) : op = 1 ∨ op = 2 ∨ op = 3 ∨ op = 4 ∨ op = 5 ∨ op = 6 ∨ op = 7 ∨ op = 8 ∨ op = 9 ∨ op = 10 ∨ op = 11 ∨ op = 12 ∨ op = 13 ∨ op = 14 ∨ op = 15 ∨ op = 16 ∨ op = 17 := by omega
theorem r1_flag_eq (b : Bool) : r1_flag b = M.wFlag b := by cases b <;> rfl
theorem word_flag_eq (b : Bool) : word_flag b = M.wFlag b := by cases b <;> rfl
theorem r1_of_eq {op a b : Int} (ho : 1 ≤ op ∧ op ≤ 17) (hb : 0 ≤ b ∧ b < 4294967296) : r1_Of op a b = some (M.r1Of op a b) := by
  have h31 := M.and31 b hb.1
  rcases word_ops ho with rfl | rfl | rfl | rfl | rfl | rfl | rfl | rfl | rfl | rfl | rfl | rfl | rfl | rfl | rfl | rfl | rfl <;>
    simp [r1_Of, M.r1Of, r1_flag_eq, shl', shr', h31, M.shl, M.shr, M.u32, M.i32, M.i64]
  all_goals (by_cases h0 : IntKind.i64.wrap (IntKind.i32.wrap b) = 0 <;> simp [h0, quo', rem'])
theorem word_of_eq {op a b : Int} (ho : 1 ≤ op ∧ op ≤ 17) (hb : 0 ≤ b ∧ b < 4294967296) : word_Of op a b = some (M.wOf op a b) := by
  have h32 : 0 ≤ b.tmod 32 := by rw [Int.tmod_eq_emod_of_nonneg hb.1]; omega
  have hz := M.i32_zero_iff hb
  have hh : M.wHas op = true := by simp [M.wHas]; omega
  have hw : word_Has op = true := by simp [word_Has, ho.1, ho.2]
  by_cases h0 : b = 0
  · subst h0
    rcases word_ops ho with rfl | rfl | rfl | rfl | rfl | rfl | rfl | rfl | rfl | rfl | rfl | rfl | rfl | rfl | rfl | rfl | rfl <;>
      simp [word_Of, hw, M.wOf, hh, word_flag_eq, shl', shr', rem', M.shl, M.shr, M.u32, M.i32, M.i64, word_logic, word_compared, word_product, M.wLogic, M.wCompared, M.wProduct]
  · have h0' : ¬ IntKind.i32.wrap b = 0 := fun h => h0 (hz.1 h)
    rcases word_ops ho with rfl | rfl | rfl | rfl | rfl | rfl | rfl | rfl | rfl | rfl | rfl | rfl | rfl | rfl | rfl | rfl | rfl <;>
      simp [word_Of, hw, M.wOf, hh, word_flag_eq, shl', shr', rem', quo', M.shl, M.shr, M.u32, M.i32, M.i64, word_logic, word_compared, word_product, M.wLogic, M.wCompared, M.wProduct, h0, h0', h32]
def U (n : Int) : Prop := 0 ≤ n ∧ n ≤ 4294967295
theorem u_wrap (n : Int) : U (IntKind.u32.wrap n) := by rw [M.u32_eq]; unfold U; omega
theorem u_flag (b : Bool) : U (M.wFlag b) := by cases b <;> exact ⟨by decide, by decide⟩
theorem u_fdiv {a : Int} (h : U a) (k : Nat) : U (a.fdiv (2 ^ k)) := by
  have hp : (0 : Int) < 2 ^ k := Int.pow_pos (by omega)
  rw [Int.fdiv_eq_ediv_of_nonneg _ (by omega)]
  refine ⟨Int.ediv_nonneg h.1 (by omega), Int.le_trans (Int.ediv_le_self _ h.1) h.2⟩
theorem u_and (a b : Int) : U (bits .and .u32 a b) := u_wrap _
theorem u_or (a b : Int) : U (bits .or .u32 a b) := u_wrap _
theorem u_xor (a b : Int) : U (bits .xor .u32 a b) := u_wrap _
theorem word_u {op a b : Int} (ho : 1 ≤ op ∧ op ≤ 17) (ha : U a) : U (M.wOf op a b).1 := by
  have hh : M.wHas op = true := by simp [M.wHas]; omega
  simp only [M.wOf, hh]
  have h0 : U 0 := ⟨by decide, by decide⟩
  rcases word_ops ho with rfl | rfl | rfl | rfl | rfl | rfl | rfl | rfl | rfl | rfl | rfl | rfl | rfl | rfl | rfl | rfl | rfl <;>
    simp [M.wLogic, M.wCompared, M.wProduct, M.u32, M.shl, M.shr]
  all_goals first | exact u_wrap _ | exact u_flag _ | exact u_and _ _ | exact u_or _ _ | exact u_xor _ _ | exact u_fdiv ha _ | (split <;> first | exact u_wrap _ | exact h0)
/-- What both answer to a word op. -/
theorem word_both {op a b : Int} (ho : 1 ≤ op ∧ op ≤ 17) (ha : U a) (hb : U b) :
    (∃ v, U v ∧ word_Of op a b = some (v, 0) ∧ r1_Of op a b = some (v, true)) ∨ ∃ v e v', e ≠ 0 ∧ word_Of op a b = some (v, e) ∧ r1_Of op a b = some (v', false) := by
  have hb' : 0 ≤ b ∧ b < 4294967296 := by unfold U at hb; omega
  obtain ⟨h1, h2⟩ := M.of_agree (a := a) ho hb'
  rw [word_of_eq ho hb', r1_of_eq ho hb']
  by_cases h : (M.wOf op a b).2 = 0
  · rw [h, decide_eq_true rfl] at h1
    refine .inl ⟨(M.wOf op a b).1, word_u ho ha, ?_, ?_⟩
    · rw [← h]
    · rw [h2 h1, ← h1]
  · refine .inr ⟨_, _, (M.r1Of op a b).1, h, rfl, ?_⟩
    rw [decide_eq_false h] at h1
    rw [← h1]
end Go.Proofs.Ythbpicnbkdbbmaa
