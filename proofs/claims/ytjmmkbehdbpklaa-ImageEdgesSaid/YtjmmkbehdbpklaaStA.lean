/- Valid codes and programs: the two judges agree. -/
import Derived.Test.YtjmmkbehdbpklaaAll
namespace Go.Proofs.Ytjmmkbehdbpklaa
open Go Fr
set_option linter.unusedVariables false
set_option linter.unusedSimpArgs false
set_option maxRecDepth 20000

def regB (h : Bool) (n : Int) : Bool := if h then decide (0 ≤ n ∧ n ≤ 15) else decide (n = 0)
def immB (f imm : Int) : Bool :=
  if f = 8 ∨ f = 9 then decide (0 ≤ imm ∧ imm ≤ 1023) else if f = 3 ∨ f = 5 then decide (-8192 ≤ imm ∧ imm < 8192)
  else if f = 4 then decide (-131072 ≤ imm ∧ imm < 131072) else decide (imm = 0)
def insB (x : T_Ins) : Bool :=
  decide (0 ≤ x.Op ∧ x.Op ≤ 33) && regB (isa_HasD (isa_Shape x.Op)) x.D && regB (isa_HasA (isa_Shape x.Op)) x.A && regB (isa_HasB (isa_Shape x.Op)) x.B && immB (isa_Shape x.Op) x.Imm

theorem ops_cases {op : Int} (h : 0 ≤ op ∧ op ≤ 33) : op = 0 ∨ op = 1 ∨ op = 2 ∨ op = 3 ∨ op = 4 ∨ op = 5 ∨ op = 6 ∨ op = 7 ∨ op = 8 ∨ op = 9 ∨ op = 10 ∨ op = 11 ∨ op = 12 ∨ op = 13 ∨ op = 14 ∨ op = 15 ∨ op = 16 ∨ op = 17 ∨ op = 18 ∨ op = 19 ∨ op = 20 ∨ op = 21 ∨ op = 22 ∨ op = 23 ∨ op = 24 ∨ op = 25 ∨ op = 26 ∨ op = 27 ∨ op = 28 ∨ op = 29 ∨ op = 30 ∨ op = 31 ∨ op = 32 ∨ op = 33 := by omega
theorem form_shape {op : Int} (h : 0 ≤ op ∧ op ≤ 33) : r3_Form op = some (isa_Shape op) ∧ 0 ≤ isa_Shape op ∧ isa_Shape op ≤ 9 := by
  rcases ops_cases h with rfl | rfl | rfl | rfl | rfl | rfl | rfl | rfl | rfl | rfl | rfl | rfl | rfl | rfl | rfl | rfl | rfl | rfl | rfl | rfl | rfl | rfl | rfl | rfl | rfl | rfl | rfl | rfl | rfl | rfl | rfl | rfl | rfl | rfl <;> exact ⟨rfl, by decide, by decide⟩
theorem shapes {f : Int} (h : 0 ≤ f ∧ f ≤ 9) : f = 0 ∨ f = 1 ∨ f = 2 ∨ f = 3 ∨ f = 4 ∨ f = 5 ∨ f = 6 ∨ f = 7 ∨ f = 8 ∨ f = 9 := by omega
theorem hasD_eq {f : Int} (h : 0 ≤ f ∧ f ≤ 9) : r3_HasD f = isa_HasD f := by
  rcases shapes h with rfl | rfl | rfl | rfl | rfl | rfl | rfl | rfl | rfl | rfl <;> rfl
theorem hasA_eq {f : Int} (h : 0 ≤ f ∧ f ≤ 9) : r3_HasA f = isa_HasA f := by
  rcases shapes h with rfl | rfl | rfl | rfl | rfl | rfl | rfl | rfl | rfl | rfl <;> rfl
theorem hasB_eq {f : Int} (h : 0 ≤ f ∧ f ≤ 9) : r3_HasB f = isa_HasB f := by
  rcases shapes h with rfl | rfl | rfl | rfl | rfl | rfl | rfl | rfl | rfl | rfl <;> rfl
theorem reg_r3 (h : Bool) (n : Int) : r3_reg n h = regB h n := by
  cases h <;> simp [r3_reg, regB, r0_Num, cond_eq_ite]
theorem reg_isa (h : Bool) (n : Int) : isa_reg h n = regB h n := by
  cases h <;> simp only [isa_reg, regB, cond_eq_ite] <;> by_cases h1 : n = 0
  · simp [h1]
  · simp [h1]
  · simp [h1]
  · by_cases h2 : 0 < n
    · have h3 : (n < 16) ↔ (0 ≤ n ∧ n ≤ 15) := by omega
      simp [h1, h2, h3]
    · have h3 : ¬ (0 ≤ n ∧ n ≤ 15) := by omega
      simp [h1, h2, h3]
theorem fits14 (n : Int) : r1_Fits n 14 = some (decide (-8192 ≤ n ∧ n < 8192)) := by
  have h1 : shl' .i64 1 (IntKind.i64.wrap (14 - 1)) = some 8192 := by decide
  have h2 : IntKind.i64.wrap (0 - 8192) = -8192 := by decide
  simp only [r1_Fits, h1, Option.bind_some, h2, cond_eq_ite]
  by_cases h : -8192 ≤ n <;> simp [h]
theorem fits18 (n : Int) : r1_Fits n 18 = some (decide (-131072 ≤ n ∧ n < 131072)) := by
  have h1 : shl' .i64 1 (IntKind.i64.wrap (18 - 1)) = some 131072 := by decide
  have h2 : IntKind.i64.wrap (0 - 131072) = -131072 := by decide
  simp only [r1_Fits, h1, Option.bind_some, h2, cond_eq_ite]
  by_cases h : -131072 ≤ n <;> simp [h]
theorem within14 (n : Int) : word_Within n 14 = some (decide (-8192 ≤ n ∧ n < 8192)) := by
  have h1 : shl' .i64 (-1) (IntKind.i64.wrap (14 - 1)) = some (-8192) := by decide
  have h2 : shl' .i64 1 (IntKind.i64.wrap (14 - 1)) = some 8192 := by decide
  simp only [word_Within, h1, h2, Option.bind_some, cond_eq_ite]
  by_cases h : -8192 ≤ n <;> simp [h]
theorem within18 (n : Int) : word_Within n 18 = some (decide (-131072 ≤ n ∧ n < 131072)) := by
  have h1 : shl' .i64 (-1) (IntKind.i64.wrap (18 - 1)) = some (-131072) := by decide
  have h2 : shl' .i64 1 (IntKind.i64.wrap (18 - 1)) = some 131072 := by decide
  simp only [word_Within, h1, h2, Option.bind_some, cond_eq_ite]
  by_cases h : -131072 ≤ n <;> simp [h]
def e0 : ByteArray := ByteArray.mk #[]
theorem r3_imm {x : T_Ins} {f : Int} (hf : 0 ≤ f ∧ f ≤ 9) (hs : x.Sym = ByteArray.mk #[]) : r3_Ins_k1 x f () = some (immB f x.Imm) := by
  simp only [r3_Ins_k1, hs, decide_true, Bool.not_true, cond_false]
  rcases shapes hf with rfl | rfl | rfl | rfl | rfl | rfl | rfl | rfl | rfl | rfl <;> simp [r3_Target, r3_Bits, immB, fits14, fits18, r0_Num]
  all_goals (by_cases h : 0 ≤ x.Imm <;> simp [h])
theorem isa_imm0 {x : T_Ins} {f : Int} (hf : 0 ≤ f ∧ f ≤ 9) (hs : x.Sym = ByteArray.mk #[]) : isa_imm x f = some (immB f x.Imm) := by
  rcases shapes hf with rfl | rfl | rfl | rfl | rfl | rfl | rfl | rfl | rfl | rfl <;> simp [isa_imm, hs, isa_Target, isa_Bits, immB, within14, within18]
  all_goals (by_cases h : 0 ≤ x.Imm <;> simp [h]; try omega)
theorem r3_ins0 {x : T_Ins} (hs : x.Sym = ByteArray.mk #[]) : r3_Ins x = some (insB x) := by
  by_cases ho : 0 ≤ x.Op ∧ x.Op ≤ 33
  · obtain ⟨h1, h2⟩ := form_shape ho
    have hv : r3_Valid x.Op = true := by simp [r3_Valid, r0_Between, ho.1, ho.2]
    simp only [r3_Ins, hv, Bool.not_true, cond_false, h1, Option.bind_some, hasD_eq h2, hasA_eq h2, hasB_eq h2, reg_r3, insB, ho, and_self, decide_true, Bool.true_and]
    cases regB (isa_HasD (isa_Shape x.Op)) x.D
    · simp [cut]
    cases regB (isa_HasA (isa_Shape x.Op)) x.A
    · simp [cut]
    cases regB (isa_HasB (isa_Shape x.Op)) x.B
    · simp [cut]
    simp only [Bool.not_true, cond_false, cut, r3_imm h2 hs, Bool.true_and]
  · have hv : r3_Valid x.Op = false := by
      simp only [r3_Valid, r0_Between, cond_eq_ite]
      by_cases h : 0 ≤ x.Op <;> simp [h]; omega
    simp [r3_Ins, hv, insB, ho]
theorem isa_ins0 {x : T_Ins} (hs : x.Sym = ByteArray.mk #[]) : isa_IsIns x = some (insB x) := by
  by_cases ho : 0 ≤ x.Op ∧ x.Op ≤ 33
  · obtain ⟨h1, h2⟩ := form_shape ho
    have hv : isa_Is x.Op = true := by simp [isa_Is, ho.1, ho.2]
    simp only [isa_IsIns, hv, Bool.not_true, cond_false, reg_isa, insB, ho, and_self, decide_true, Bool.true_and]
    cases regB (isa_HasD (isa_Shape x.Op)) x.D
    · simp
    cases regB (isa_HasA (isa_Shape x.Op)) x.A
    · simp
    cases regB (isa_HasB (isa_Shape x.Op)) x.B
    · simp
    simp only [cond_true, isa_imm0 h2 hs, Bool.true_and, Option.bind_some]
  · have hv : isa_Is x.Op = false := by
      simp only [isa_Is, cond_eq_ite]
      by_cases h : 0 ≤ x.Op <;> simp [h]; omega
    simp [isa_IsIns, hv, insB, ho]
end Go.Proofs.Ytjmmkbehdbpklaa
