/- Instructions that may be, with names: the two judges agree. -/
import Derived.Test.YtaplgcdpppcajaaDoorStA
namespace Go.Proofs.YtaplgcdpppcajaaDoor
open Go Fr
set_option linter.unusedVariables false
set_option linter.unusedSimpArgs false
set_option maxRecDepth 20000

theorem bsize (s : ByteArray) : s.size = s.data.toList.length := by rw [Array.length_toList]; rfl
theorem byte'_nat {s : ByteArray} {i : Nat} (h : i < s.data.toList.length) : byte' s (i : Int) = some ((s.data.toList[i].toNat : Nat) : Int) := by
  have h' : i < s.size := by rw [bsize]; exact h
  have e : s[i]? = some s[i] := by simp [getElem?_pos, h']
  have e2 : s[i] = s.data.toList[i] := by simp [ByteArray.getElem_eq_getElem_data]
  simp [byte', e, e2]

def letB (c : UInt8) : Bool := decide ((c.toNat : Int) = 95) || (decide ((97 : Int) ≤ c.toNat) && decide ((c.toNat : Int) ≤ 122))
def chB (c : UInt8) : Bool := letB c || (decide ((48 : Int) ≤ c.toNat) && decide ((c.toNat : Int) ≤ 57))
def nameL (l : List UInt8) : Bool := match l with
  | [] => false
  | c :: r => decide (l.length ≤ 12) && letB c && l.all chB
def nameB (s : ByteArray) : Bool := nameL s.data.toList

theorem isa_letter_eq (c : UInt8) : isa_letter (c.toNat : Int) = letB c := by
  simp only [isa_letter, letB, cond_eq_ite]
  by_cases h : (c.toNat : Int) = 95 <;> by_cases h2 : (97 : Int) ≤ c.toNat <;> simp [h, h2]
theorem isa_loop (s : ByteArray) (hl : s.data.toList.length ≤ 12) : loop (isa_Name2_b2 s) 0 = some (s.data.toList.all chB) := by
  have := loop_list (b := isa_Name2_b2 s) (xs := s.data.toList) (q := chB) (no := false) (yes := true) (fun i h => ?_) ?_
  · rw [this]; cases s.data.toList.all chB <;> rfl
  · have h1 : decide ((i : Int) < (s.size : Int)) = true := by rw [bsize]; simpa using h
    simp only [isa_Name2_b2, h1, cond_true, byte'_nat h, Option.bind_some, isa_letter_eq]
    rw [wrap_nat (by omega)]
    simp only [chB]
    generalize s.data.toList[i] = c
    have e1 : decide ((c.toNat : Int) < 48) = !decide ((48 : Int) ≤ c.toNat) := by by_cases h : (48 : Int) ≤ c.toNat <;> simp [h] <;> omega
    have e2 : decide ((57 : Int) < c.toNat) = !decide ((c.toNat : Int) ≤ 57) := by by_cases h : (c.toNat : Int) ≤ 57 <;> simp [h] <;> omega
    rw [e1, e2]
    cases letB c <;> cases decide ((48 : Int) ≤ c.toNat) <;> cases decide ((c.toNat : Int) ≤ 57) <;> rfl
  · have h1 : decide (((s.data.toList.length : Nat) : Int) < (s.size : Int)) = false := by rw [bsize]; simp
    simp only [isa_Name2_b2, h1, cond_false]
theorem r3_loop (s : ByteArray) (hl : s.data.toList.length ≤ 12) : loop (r3_Name_b2 s) 0 = some (s.data.toList.all chB) := by
  have := loop_list (b := r3_Name_b2 s) (xs := s.data.toList) (q := chB) (no := false) (yes := true) (fun i h => ?_) ?_
  · rw [this]; cases s.data.toList.all chB <;> rfl
  · have h1 : decide ((i : Int) < (s.size : Int)) = true := by rw [bsize]; simpa using h
    simp only [r3_Name_b2, h1, cond_true, byte'_nat h, Option.bind_some]
    rw [wrap_nat (by omega)]
    simp only [chB, letB]
    generalize s.data.toList[i] = c
    by_cases h3 : (c.toNat : Int) = 95
    · have h4 : ¬ (97 : Int) ≤ c.toNat := by omega
      simp [h3]
    · cases decide ((97 : Int) ≤ c.toNat) <;> cases decide ((c.toNat : Int) ≤ 122) <;> cases decide ((48 : Int) ≤ c.toNat) <;> cases decide ((c.toNat : Int) ≤ 57) <;> simp [h3]
  · have h1 : decide (((s.data.toList.length : Nat) : Int) < (s.size : Int)) = false := by rw [bsize]; simp
    simp only [r3_Name_b2, h1, cond_false]
theorem ba_nil {s : ByteArray} (h : s.data.toList = []) : s = ByteArray.mk #[] := by
  cases s with
  | mk d => simp only [Array.toList_eq_nil_iff] at h; rw [h]
theorem isa_name (s : ByteArray) : isa_Name2 s = some (nameB s) := by
  simp only [isa_Name2, nameB]
  cases hl : s.data.toList with
  | nil => rw [ba_nil hl]; rfl
  | cons c r =>
    have hn : ¬ s = ByteArray.mk #[] := by intro h; rw [h] at hl; cases hl
    have hz : s.size = (c :: r).length := by rw [bsize, hl]
    by_cases h12 : (c :: r).length ≤ 12
    · have h12' : ¬ (12 : Int) < (s.size : Int) := by omega
      have hb : byte' s 0 = some (c.toNat : Int) := by
        have := byte'_nat (s := s) (i := 0) (by rw [hl]; simp)
        simpa [hl] using this
      simp only [hn, h12', decide_false, cond_false, hb, Option.bind_some, isa_letter_eq, nameL, h12, decide_true, Bool.true_and]
      cases hc : letB c
      · simp [cut]
      · simp only [Bool.not_true, cond_false, cut, isa_Name2_k1, Bool.true_and]
        rw [isa_loop s (by rw [hl]; exact h12), hl]
    · have h12' : (12 : Int) < (s.size : Int) := by omega
      have hN : nameL (c :: r) = false := by unfold nameL; rw [decide_eq_false h12]; rfl
      simp [hn, h12', hN, cut]
theorem r3_name (s : ByteArray) : r3_Name s = some (nameB s) := by
  simp only [r3_Name, nameB]
  cases hl : s.data.toList with
  | nil => rw [ba_nil hl]; rfl
  | cons c r =>
    have hz : s.size = (c :: r).length := by rw [bsize, hl]
    have hn : ¬ (s.size : Int) = 0 := by rw [hz]; simp; omega
    by_cases h12 : (c :: r).length ≤ 12
    · have h12' : ¬ (12 : Int) < (s.size : Int) := by omega
      have hb : byte' s 0 = some (c.toNat : Int) := by
        have := byte'_nat (s := s) (i := 0) (by rw [hl]; simp)
        simpa [hl] using this
      have hk : cut (some (Step.next ())) (r3_Name_k1 s) = some ((c :: r).all chB) := by
        simp only [cut, r3_Name_k1]
        rw [r3_loop s (by rw [hl]; exact h12), hl]
      simp only [hn, h12', decide_false, cond_false, hb, Option.bind_some, nameL, h12, decide_true, Bool.true_and, cond_eq_ite]
      by_cases h48 : (48 : Int) ≤ c.toNat
      · by_cases h57 : (c.toNat : Int) ≤ 57
        · have hl : letB c = false := by
            simp only [letB]
            have h1 : ¬ (c.toNat : Int) = 95 := by omega
            have h2 : ¬ (97 : Int) ≤ c.toNat := by omega
            simp [h1, h2]
          simp [h48, h57, cut, hl]
        · simp only [h48, h57, decide_true, decide_false, if_true, Bool.false_eq_true, if_false, hk]
          have hc : chB c = letB c := by simp [chB, h57]
          simp only [List.all_cons, hc]
          cases letB c <;> simp
      · simp only [h48, decide_false, Bool.false_eq_true, if_false, hk]
        have hc : chB c = letB c := by simp [chB, h48]
        simp only [List.all_cons, hc]
        cases letB c <;> simp
    · have h12' : (12 : Int) < (s.size : Int) := by omega
      have hN : nameL (c :: r) = false := by unfold nameL; rw [decide_eq_false h12]; rfl
      simp [hn, h12', hN, cut]

/-- What an instruction's Imm and Sym may be. -/
def symB (f : Int) (x : T_Ins) : Bool :=
  if x.Sym = ByteArray.mk #[] then immB f x.Imm else nameB x.Sym && ((decide (f = 4) && decide (-131072 ≤ x.Imm ∧ x.Imm < 131072)) || ((decide (f = 8) || decide (f = 9)) && decide (x.Imm = 0)))
def vB (x : T_Ins) : Bool :=
  decide (0 ≤ x.Op ∧ x.Op ≤ 33) && regB (isa_HasD (isa_Shape x.Op)) x.D && regB (isa_HasA (isa_Shape x.Op)) x.A && regB (isa_HasB (isa_Shape x.Op)) x.B && symB (isa_Shape x.Op) x
theorem shape4 {op : Int} (h : 0 ≤ op ∧ op ≤ 33) : decide (op = 23) = decide (isa_Shape op = 4) := by
  rcases ops_cases h with rfl | rfl | rfl | rfl | rfl | rfl | rfl | rfl | rfl | rfl | rfl | rfl | rfl | rfl | rfl | rfl | rfl | rfl | rfl | rfl | rfl | rfl | rfl | rfl | rfl | rfl | rfl | rfl | rfl | rfl | rfl | rfl | rfl | rfl <;> rfl
theorem isa_imm_eq {x : T_Ins} {f : Int} (hf : 0 ≤ f ∧ f ≤ 9) : isa_imm x f = some (symB f x) := by
  by_cases hs : x.Sym = ByteArray.mk #[]
  · rw [isa_imm0 hf hs]; simp [symB, hs]
  · simp only [isa_imm, hs, decide_false, Bool.not_false, cond_true, isa_name, Option.bind_some, symB, if_false]
    rcases shapes hf with rfl | rfl | rfl | rfl | rfl | rfl | rfl | rfl | rfl | rfl <;> simp [isa_Target, isa_Bits, within18]
    all_goals (cases nameB x.Sym <;> simp)
    all_goals (by_cases h : x.Imm = 0 <;> simp [h])
theorem r3_imm_eq {x : T_Ins} (ho : 0 ≤ x.Op ∧ x.Op ≤ 33) : r3_Ins_k1 x (isa_Shape x.Op) () = some (symB (isa_Shape x.Op) x) := by
  obtain ⟨h1, h2⟩ := form_shape ho
  by_cases hs : x.Sym = ByteArray.mk #[]
  · rw [r3_imm h2 hs]; simp [symB, hs]
  · simp only [r3_Ins_k1, hs, decide_false, Bool.not_false, cond_true, r3_name, Option.bind_some, symB, if_false, shape4 ho]
    rcases shapes h2 with h | h | h | h | h | h | h | h | h | h <;> simp only [h] <;> simp [r3_Target, fits18]
    all_goals (cases nameB x.Sym <;> simp)
    all_goals (by_cases h : -131072 ≤ x.Imm <;> by_cases h3 : x.Imm < 131072 <;> simp [h, h3])
theorem r3_ins (x : T_Ins) : r3_Ins x = some (vB x) := by
  by_cases ho : 0 ≤ x.Op ∧ x.Op ≤ 33
  · obtain ⟨h1, h2⟩ := form_shape ho
    have hv : r3_Valid x.Op = true := by simp [r3_Valid, r0_Between, ho.1, ho.2]
    simp only [r3_Ins, hv, Bool.not_true, cond_false, h1, Option.bind_some, hasD_eq h2, hasA_eq h2, hasB_eq h2, reg_r3, vB, ho, and_self, decide_true, Bool.true_and]
    cases regB (isa_HasD (isa_Shape x.Op)) x.D
    · simp [cut]
    cases regB (isa_HasA (isa_Shape x.Op)) x.A
    · simp [cut]
    cases regB (isa_HasB (isa_Shape x.Op)) x.B
    · simp [cut]
    simp only [Bool.not_true, cond_false, cut, r3_imm_eq ho, Bool.true_and]
  · have hv : r3_Valid x.Op = false := by
      simp only [r3_Valid, r0_Between, cond_eq_ite]
      by_cases h : 0 ≤ x.Op <;> simp [h]; omega
    simp [r3_Ins, hv, vB, ho]
theorem isa_ins (x : T_Ins) : isa_IsIns x = some (vB x) := by
  by_cases ho : 0 ≤ x.Op ∧ x.Op ≤ 33
  · obtain ⟨h1, h2⟩ := form_shape ho
    have hv : isa_Is x.Op = true := by simp [isa_Is, ho.1, ho.2]
    simp only [isa_IsIns, hv, Bool.not_true, cond_false, reg_isa, vB, ho, and_self, decide_true, Bool.true_and]
    cases regB (isa_HasD (isa_Shape x.Op)) x.D
    · simp
    cases regB (isa_HasA (isa_Shape x.Op)) x.A
    · simp
    cases regB (isa_HasB (isa_Shape x.Op)) x.B
    · simp
    simp only [cond_true, isa_imm_eq h2, Bool.true_and, Option.bind_some]
  · have hv : isa_Is x.Op = false := by
      simp only [isa_Is, cond_eq_ite]
      by_cases h : 0 ≤ x.Op <;> simp [h]; omega
    simp [isa_IsIns, hv, vB, ho]
theorem isa_check (x : T_Ins) : isa_Check x = some (if vB x then 0 else 1) := by
  simp only [isa_Check, isa_ins, Option.bind_some]
  cases vB x <;> rfl
end Go.Proofs.YtaplgcdpppcajaaDoor
