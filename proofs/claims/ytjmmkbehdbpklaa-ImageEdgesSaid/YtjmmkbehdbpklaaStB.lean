/- Names end; programs and states: the two judges agree. -/
import Derived.Test.YtjmmkbehdbpklaaStA
namespace Go.Proofs.Ytjmmkbehdbpklaa
open Go Fr
set_option linter.unusedVariables false
set_option linter.unusedSimpArgs false
set_option maxRecDepth 20000

theorem byte'_in {s : ByteArray} {i : Int} (h0 : 0 ≤ i) (h : i < s.size) : ∃ v, byte' s i = some v := by
  simp only [byte', h0, if_true]
  have hl : i.toNat < s.size := by omega
  exact ⟨_, by rw [getElem?_pos s i.toNat hl]; rfl⟩
def Ok (i : Int) : Option (Step Int Bool) → Prop
  | none => False
  | some (.next j) => j = i + 1
  | some (.done _) => True
theorem ok_bif {i : Int} {c : Bool} {x y : Option (Step Int Bool)} (hx : Ok i x) (hy : Ok i y) : Ok i (bif c then x else y) := by cases c <;> assumption
theorem ok_byte {i j : Int} {s : ByteArray} {f : Int → Option (Step Int Bool)} (h0 : 0 ≤ j) (h : j < s.size) (hf : ∀ v, Ok i (f v)) : Ok i ((byte' s j).bind f) := by
  obtain ⟨v, hv⟩ := byte'_in h0 h
  rw [hv]; exact hf v
theorem ok_next {i : Int} (h : -9223372036854775808 ≤ i + 1) (h1 : i + 1 ≤ 9223372036854775807) : Ok i (some (.next (IntKind.i64.wrap (i + 1)))) := wrap_i64 h h1
theorem loop_ok {b : Int → Option (Step Int Bool)} {n : Int} (h : ∀ i, 0 ≤ i → i < n → Ok i (b i)) (he : ∃ r, b n = some (.done r)) (hn : 0 ≤ n) : ∃ r, loop b 0 = some r := by
  obtain ⟨r, hr, _⟩ := loop_ex (b := b) (fun i => 0 ≤ i ∧ i ≤ n) (fun i => (n - i).toNat) (fun _ => True) (fun i hi => by
    by_cases h1 : i < n
    · have := h i hi.1 h1
      revert this
      cases b i with
      | none => intro h; exact h.elim
      | some z =>
        cases z with
        | next j => intro h; exact .inl ⟨j, rfl, by have : j = i + 1 := h; omega, by have : j = i + 1 := h; omega⟩
        | done r => intro _; exact .inr ⟨r, rfl, trivial⟩
    · obtain rfl : i = n := by omega
      obtain ⟨r, hr⟩ := he
      exact .inr ⟨r, hr, trivial⟩) (n.toNat + 1) 0 (by simp) ⟨by omega, hn⟩
  exact ⟨r, hr⟩
theorem r3_name_ends {s : ByteArray} (hs : s.size ≤ 140737488351232) : ∃ b, r3_Name s = some b := by
  have hl : ∃ r, loop (r3_Name_b2 s) 0 = some r := by
    refine loop_ok (n := s.size) (fun i h0 h1 => ?_) ⟨true, by simp [r3_Name_b2]⟩ (by omega)
    have : decide (i < (s.size : Int)) = true := by simpa using h1
    simp only [r3_Name_b2, this, cond_true]
    repeat' (first | exact trivial | refine ok_bif ?_ ?_ | refine ok_byte (by omega) (by omega) fun _ => ?_ | exact ok_next (by omega) (by omega))
  obtain ⟨r, hr⟩ := hl
  simp only [r3_Name]
  by_cases h0 : (s.size : Int) = 0
  · exact ⟨false, by simp [h0, cut]⟩
  by_cases h1 : 12 < (s.size : Int)
  · exact ⟨false, by simp [h0, h1, cut]⟩
  obtain ⟨v, hv⟩ := byte'_in (s := s) (i := 0) (by omega) (by omega)
  simp only [h0, h1, decide_false, cond_false, hv, Option.bind_some]
  by_cases h2 : 48 ≤ v <;> by_cases h3 : v ≤ 57 <;> simp [h2, h3, cut, r3_Name_k1, hr]
theorem isa_name_ends {s : ByteArray} (hs : s.size ≤ 140737488351232) : ∃ b, isa_Name2 s = some b := by
  have hl : ∃ r, loop (isa_Name2_b2 s) 0 = some r := by
    refine loop_ok (n := s.size) (fun i h0 h1 => ?_) ⟨true, by simp [isa_Name2_b2]⟩ (by omega)
    have : decide (i < (s.size : Int)) = true := by simpa using h1
    simp only [isa_Name2_b2, this, cond_true]
    repeat' (first | exact trivial | refine ok_bif ?_ ?_ | refine ok_byte (by omega) (by omega) fun _ => ?_ | exact ok_next (by omega) (by omega))
  obtain ⟨r, hr⟩ := hl
  simp only [isa_Name2]
  by_cases h0 : s = ByteArray.mk #[]
  · exact ⟨false, by simp [h0, cut]⟩
  by_cases h1 : 12 < (s.size : Int)
  · exact ⟨false, by simp [h0, h1, cut]⟩
  have h4 : 0 < s.size := by
    rcases Nat.eq_zero_or_pos s.size with h | h
    · exact absurd (ByteArray.ext (Array.eq_empty_of_size_eq_zero h)) h0
    · exact h
  obtain ⟨v, hv⟩ := byte'_in (s := s) (i := 0) (by omega) (by omega)
  simp only [h0, h1, decide_false, cond_false, hv, Option.bind_some]
  cases isa_letter v <;> simp [cut, isa_Name2_k1, hr]

def Ends {α : Type} (x : Option α) : Prop := ∃ b, x = some b
theorem ends_some {α : Type} (x : α) : Ends (some x) := ⟨x, rfl⟩
theorem ends_bif {α : Type} {c : Bool} {x y : Option α} (hx : Ends x) (hy : Ends y) : Ends (bif c then x else y) := by cases c <;> assumption
theorem ends_bind {α β : Type} {x : Option α} {f : α → Option β} (hx : Ends x) (hf : ∀ v, Ends (f v)) : Ends (x.bind f) := by
  obtain ⟨v, rfl⟩ := hx; exact hf v
theorem ends_cut {σ α : Type} {x : Option (Step σ α)} {k : σ → Option α} (hx : Ends x) (hk : ∀ s, Ends (k s)) : Ends (cut x k) := by
  obtain ⟨v, rfl⟩ := hx
  cases v with
  | next s => exact hk s
  | done r => exact ⟨r, rfl⟩
theorem r3_ins_ends {x : T_Ins} (hx : Wf_Ins x) : Ends (r3_Ins x) := by
  by_cases ho : 0 ≤ x.Op ∧ x.Op ≤ 33
  · obtain ⟨h1, h2⟩ := form_shape ho
    simp only [r3_Ins, h1, Option.bind_some]
    refine ends_bif (ends_some _) (ends_cut (by repeat' (first | exact ends_some _ | refine ends_bif ?_ ?_)) fun s => ?_)
    simp only [r3_Ins_k1]
    have hn := r3_name_ends hx.h5
    refine ends_bif (ends_bind hn fun v => ?_) (ends_bif (ends_some _) ?_)
    · refine ends_bif (ends_bif ?_ ?_) (ends_some _)
      · rw [fits18]; simp only [Option.bind_some]
        repeat' (first | exact ends_some _ | refine ends_bif ?_ ?_)
      · repeat' (first | exact ends_some _ | refine ends_bif ?_ ?_)
    · rcases shapes h2 with h | h | h | h | h | h | h | h | h | h <;> rw [h] <;> simp [r3_Bits, fits14, fits18, Ends]
  · have hv : r3_Valid x.Op = false := by
      simp only [r3_Valid, r0_Between, cond_eq_ite]
      by_cases h : 0 ≤ x.Op <;> simp [h]; omega
    exact ⟨false, by simp [r3_Ins, hv]⟩
theorem isa_ins_ends {x : T_Ins} (hx : Wf_Ins x) : Ends (isa_IsIns x) := by
  by_cases ho : 0 ≤ x.Op ∧ x.Op ≤ 33
  · obtain ⟨h1, h2⟩ := form_shape ho
    simp only [isa_IsIns]
    refine ends_bif (ends_some _) (ends_bif (ends_bif (ends_bif (ends_bind ?_ fun v => ends_some _) (ends_some _)) (ends_some _)) (ends_some _))
    have hn := isa_name_ends hx.h5
    rcases shapes h2 with h | h | h | h | h | h | h | h | h | h <;> rw [h] <;> simp only [isa_imm, isa_Bits, isa_Target, decide_true, decide_false, Int.reduceEq, Int.reduceNeg, cond_true, cond_false, within14, within18, Option.bind_some] <;>
      (repeat' (first | exact ends_some _ | refine ends_bif ?_ ?_ | refine ends_bind hn fun _ => ?_))
  · have hv : isa_Is x.Op = false := by
      simp only [isa_Is, cond_eq_ite]
      by_cases h : 0 ≤ x.Op <;> simp [h]; omega
    exact ⟨false, by simp [isa_IsIns, hv]⟩

/-- A code of a running program. -/
def codeB (x : T_Ins) : Bool := decide (x.Sym = ByteArray.mk #[]) && insB x
/-- A number of 0..n. -/
def numB (n : Int) (x : Int) : Bool := decide (0 ≤ x ∧ x ≤ n)
theorem num_eq (n x : Int) : r0_Num x n = numB n x := by
  simp only [r0_Num, numB, cond_eq_ite]
  by_cases h : 0 ≤ x <;> simp [h]
end Go.Proofs.Ytjmmkbehdbpklaa
