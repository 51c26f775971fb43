/- Bundles and code: the two judges agree. -/
import Derived.Test.YtjmmkbehdbpklaaStB
namespace Go.Proofs.Ytjmmkbehdbpklaa
open Go Fr
set_option linter.unusedVariables false
set_option linter.unusedSimpArgs false
set_option maxRecDepth 20000

theorem r0_in {xs : List Int} {v : Int} (hl : xs.length ≤ 140737488351232) : ∃ r, r0_In xs v = some r ∧ decide (0 ≤ r) = xs.any (fun x => decide (x = v)) := by
  obtain ⟨r, h1, h2⟩ := loop_find (b := r0_In_b1 xs v) (xs := xs) (q := fun x => !decide (x = v)) (fun i h => by
    have hd : decide ((i : Int) < xs.length) = true := by simpa using h
    simp only [r0_In_b1, hd, cond_true, at'_nat h, Option.bind_some]
    rw [wrap_nat (by omega)]
    by_cases h1 : xs[i] = v <;> simp [h1]) (by simp [r0_In_b1])
  refine ⟨r, h1, ?_⟩
  rw [h2]
  clear h1 h2
  induction xs with
  | nil => rfl
  | cons x xs ih =>
    have := ih (by simp at hl; omega)
    by_cases h : x = v <;> simp_all
theorem may_eq {op slot : Int} (hs : -1 ≤ slot ∧ slot ≤ 5) : r3_May op slot = some (isa_May op slot) := by
  by_cases ho : 0 ≤ op ∧ op ≤ 33
  · have hv : r3_Valid op = true := by simp [r3_Valid, r0_Between, ho.1, ho.2]
    have hl : (r3_Slots op).length ≤ 140737488351232 := by
      rcases ops_cases ho with rfl | rfl | rfl | rfl | rfl | rfl | rfl | rfl | rfl | rfl | rfl | rfl | rfl | rfl | rfl | rfl | rfl | rfl | rfl | rfl | rfl | rfl | rfl | rfl | rfl | rfl | rfl | rfl | rfl | rfl | rfl | rfl | rfl | rfl <;> decide
    obtain ⟨r, h1, h2⟩ := r0_in (xs := r3_Slots op) (v := slot) hl
    simp only [r3_May, hv, cond_true, h1, Option.bind_some, h2, Option.some.injEq]
    clear h1 h2 hl hv
    rcases (show slot = -1 ∨ slot = 0 ∨ slot = 1 ∨ slot = 2 ∨ slot = 3 ∨ slot = 4 ∨ slot = 5 by omega) with rfl | rfl | rfl | rfl | rfl | rfl | rfl <;>
      rcases ops_cases ho with rfl | rfl | rfl | rfl | rfl | rfl | rfl | rfl | rfl | rfl | rfl | rfl | rfl | rfl | rfl | rfl | rfl | rfl | rfl | rfl | rfl | rfl | rfl | rfl | rfl | rfl | rfl | rfl | rfl | rfl | rfl | rfl | rfl | rfl <;> decide
  · have hv : r3_Valid op = false := by
      simp only [r3_Valid, r0_Between, cond_eq_ite]
      by_cases h : 0 ≤ op <;> simp [h]; omega
    have hi : isa_Is op = false := by
      simp only [isa_Is, cond_eq_ite]
      by_cases h : 0 ≤ op <;> simp [h]; omega
    simp [r3_May, hv, isa_May, hi]
/-- A code in its slot. -/
def slotB (x : T_Ins) (k : Int) : Bool := codeB x && isa_May x.Op k
def bunB (b : A4 T_Ins) : Bool := slotB b.x0 0 && slotB b.x1 1 && slotB b.x2 2 && slotB b.x3 3
def pcodB (c : List (A4 T_Ins)) : Bool := decide (c.length ≤ 1024) && c.all bunB
theorem loop4 {ρ : Type} {b : Int → Option (Step Int ρ)} {q0 q1 q2 q3 : Bool} {no yes : ρ} (h0 : b 0 = some (bif q0 then .next 1 else .done no)) (h1 : b 1 = some (bif q1 then .next 2 else .done no)) (h2 : b 2 = some (bif q2 then .next 3 else .done no)) (h3 : b 3 = some (bif q3 then .next 4 else .done no)) (h4 : b 4 = some (.done yes)) :
    loop b 0 = some (bif q0 && q1 && q2 && q3 then yes else no) := by
  cases q0
  · rw [loop_done h0]; rfl
  rw [loop_next h0]
  cases q1
  · rw [loop_done h1]; rfl
  rw [loop_next h1]
  cases q2
  · rw [loop_done h2]; rfl
  rw [loop_next h2]
  cases q3
  · rw [loop_done h3]; rfl
  rw [loop_next h3, loop_done h4]; rfl
theorem w4 {k : Int} (h : 0 ≤ k ∧ k < 4) : IntKind.i64.wrap (k + 1) = k + 1 := wrap_i64 (by omega) (by omega)
theorem r3_bun_step {b : A4 T_Ins} {k : Int} {x : T_Ins} (hk : 0 ≤ k ∧ k < 4) (hx : at' [b.x0, b.x1, b.x2, b.x3] k = some x) (hw : Wf_Ins x) : r3_Bundle_b1 b true k = some (bif slotB x k then .next (k + 1) else .done false) := by
  have hd : decide (k < 4) = true := by simpa using hk.2
  simp only [r3_Bundle_b1, hd, cond_true, hx, Option.bind_some, may_eq (op := x.Op) (slot := k) (by omega), w4 hk]
  obtain ⟨v, hv⟩ := r3_ins_ends hw
  by_cases hs : x.Sym = ByteArray.mk #[]
  · rw [r3_ins0 hs]
    simp only [Option.bind_some, hs, slotB, codeB, decide_true, Bool.true_and, Bool.not_true, cond_false]
    cases insB x <;> cases isa_May x.Op k <;> rfl
  · simp only [hv, Option.bind_some, hs, slotB, codeB, decide_false, Bool.false_and, Bool.not_false, cond_true, cond_false]
    cases v <;> cases isa_May x.Op k <;> rfl
theorem r3_bun_b {b : A4 T_Ins} (hw : Wf_Bundle b) : r3_Bundle b true = some (bunB b) := by
  have h := loop4 (b := r3_Bundle_b1 b true) (no := false) (yes := true) (r3_bun_step (k := 0) (by decide) rfl hw.h0) (r3_bun_step (k := 1) (by decide) rfl hw.h1) (r3_bun_step (k := 2) (by decide) rfl hw.h2) (r3_bun_step (k := 3) (by decide) rfl hw.h3) (by simp [r3_Bundle_b1])
  rw [r3_Bundle, h, bunB]
  cases slotB b.x0 0 && slotB b.x1 1 && slotB b.x2 2 && slotB b.x3 3 <;> rfl
theorem isa_bun_step {b : A4 T_Ins} {k : Int} {x : T_Ins} (hk : 0 ≤ k ∧ k < 4) (hx : at' [b.x0, b.x1, b.x2, b.x3] k = some x) (hs : x.Sym = ByteArray.mk #[]) : bits_IsBundle_b1 b k = some (bif insB x && isa_May x.Op k then .next (k + 1) else .done false) := by
  have hd : decide (k < 4) = true := by simpa using hk.2
  simp only [bits_IsBundle_b1, hd, cond_true, hx, Option.bind_some, isa_ins0 hs, w4 hk]
  cases insB x <;> cases isa_May x.Op k <;> rfl
theorem bare_step {b : A4 T_Ins} {k : Int} {x : T_Ins} (hk : 0 ≤ k ∧ k < 4) (hx : at' [b.x0, b.x1, b.x2, b.x3] k = some x) : bits_Bare_b1 b k = some (bif decide (x.Sym = ByteArray.mk #[]) then .next (k + 1) else .done false) := by
  have hd : decide (k < 4) = true := by simpa using hk.2
  simp only [bits_Bare_b1, hd, cond_true, hx, Option.bind_some, w4 hk]
  cases decide (x.Sym = ByteArray.mk #[]) <;> rfl
theorem at4 {b : A4 T_Ins} {k : Int} (hk : 0 ≤ k ∧ k < 4) : ∃ x, at' [b.x0, b.x1, b.x2, b.x3] k = some x ∧ (x = b.x0 ∨ x = b.x1 ∨ x = b.x2 ∨ x = b.x3) := by
  rcases (show k = 0 ∨ k = 1 ∨ k = 2 ∨ k = 3 by omega) with rfl | rfl | rfl | rfl
  · exact ⟨_, rfl, .inl rfl⟩
  · exact ⟨_, rfl, .inr (.inl rfl)⟩
  · exact ⟨_, rfl, .inr (.inr (.inl rfl))⟩
  · exact ⟨_, rfl, .inr (.inr (.inr rfl))⟩
theorem isbun_ends {b : A4 T_Ins} (hw : Wf_Bundle b) : ∃ v, bits_IsBundle b = some v := by
  refine loop_ok (n := 4) (fun k h0 h1 => ?_) ⟨true, by simp [bits_IsBundle_b1]⟩ (by decide)
  obtain ⟨x, hx, hc⟩ := at4 (b := b) ⟨h0, h1⟩
  have hwx : Wf_Ins x := by
    rcases hc with rfl | rfl | rfl | rfl
    · exact hw.h0
    · exact hw.h1
    · exact hw.h2
    · exact hw.h3
  obtain ⟨v, hv⟩ := isa_ins_ends hwx
  have hd : decide (k < 4) = true := by simpa using h1
  simp only [bits_IsBundle_b1, hd, cond_true, hx, Option.bind_some, hv]
  repeat' (first | exact trivial | refine ok_bif ?_ ?_ | exact ok_next (by omega) (by omega))
theorem code1_b {b : A4 T_Ins} (hw : Wf_Bundle b) : pipe_Code_1 b = some (!bunB b) := by
  have hb := loop4 (b := bits_Bare_b1 b) (no := false) (yes := true) (bare_step (k := 0) (by decide) rfl) (bare_step (k := 1) (by decide) rfl) (bare_step (k := 2) (by decide) rfl) (bare_step (k := 3) (by decide) rfl) (by simp [bits_Bare_b1])
  by_cases hs : b.x0.Sym = ByteArray.mk #[] ∧ b.x1.Sym = ByteArray.mk #[] ∧ b.x2.Sym = ByteArray.mk #[] ∧ b.x3.Sym = ByteArray.mk #[]
  · obtain ⟨s0, s1, s2, s3⟩ := hs
    have hi := loop4 (b := bits_IsBundle_b1 b) (no := false) (yes := true) (isa_bun_step (k := 0) (by decide) rfl s0) (isa_bun_step (k := 1) (by decide) rfl s1) (isa_bun_step (k := 2) (by decide) rfl s2) (isa_bun_step (k := 3) (by decide) rfl s3) (by simp [bits_IsBundle_b1])
    simp only [pipe_Code_1, bits_IsBundle, hi, bits_Bare, hb, Option.bind_some, s0, s1, s2, s3, decide_true, bunB, slotB, codeB, Bool.true_and]
    generalize (insB b.x0 && isa_May b.x0.Op 0) = q0
    generalize (insB b.x1 && isa_May b.x1.Op 1) = q1
    generalize (insB b.x2 && isa_May b.x2.Op 2) = q2
    generalize (insB b.x3 && isa_May b.x3.Op 3) = q3
    cases q0 <;> cases q1 <;> cases q2 <;> cases q3 <;> rfl
  · obtain ⟨v, hv⟩ := isbun_ends hw
    have hq : (decide (b.x0.Sym = ByteArray.mk #[]) && decide (b.x1.Sym = ByteArray.mk #[]) && decide (b.x2.Sym = ByteArray.mk #[]) && decide (b.x3.Sym = ByteArray.mk #[])) = false := by
      cases hq : (decide (b.x0.Sym = ByteArray.mk #[]) && decide (b.x1.Sym = ByteArray.mk #[]) && decide (b.x2.Sym = ByteArray.mk #[]) && decide (b.x3.Sym = ByteArray.mk #[])) with
      | false => rfl
      | true =>
        simp only [Bool.and_eq_true, decide_eq_true_eq] at hq
        exact absurd ⟨hq.1.1.1, hq.1.1.2, hq.1.2, hq.2⟩ hs
    have hn : bunB b = false := by
      cases hn : bunB b with
      | false => rfl
      | true =>
        simp only [bunB, slotB, codeB, Bool.and_eq_true, decide_eq_true_eq] at hn
        exact absurd ⟨hn.1.1.1.1.1, hn.1.1.2.1.1, hn.1.2.1.1, hn.2.1.1⟩ hs
    simp only [pipe_Code_1, hv, bits_Bare, hb, hq, Option.bind_some, hn, cond_false]
    cases v <;> rfl
theorem r3_code_b {c : List (A4 T_Ins)} (hw : ∀ z ∈ c, Wf_Bundle z) : r3_Code c = some (pcodB c) := by
  have hat : ∀ i : Nat, ∀ h : i < c.length, i ≤ 1024 → r3_Code_b1 c i = some (bif bunB c[i] then .next ((i + 1 : Nat) : Int) else .done false) := by
    intro i h h1
    have hd : decide ((i : Int) < c.length) = true := by simpa using h
    have hd2 : decide ((i : Int) ≤ 1024) = true := by simp; omega
    simp only [r3_Code_b1, hd, hd2, cond_true, at'_nat h, Option.bind_some, r3_bun_b (hw c[i] (List.getElem_mem h))]
    rw [wrap_nat (by omega)]
    cases bunB c[i] <;> rfl
  simp only [r3_Code]
  by_cases hl : c.length ≤ 1024
  · have h := loop_list (b := r3_Code_b1 c) (xs := c) (q := bunB) (no := false) (yes := true) (fun i h => hat i h (by omega)) (by simp [r3_Code_b1]; omega)
    rw [h]
    simp [pcodB, hl]
  · have h := loop_list (b := r3_Code_b1 c) (xs := c.take 1025) (q := bunB) (no := false) (yes := false) (fun i h => by
        have h2 : i < 1025 := by simp at h; omega
        rw [List.getElem_take]
        exact hat i (by simp at h; omega) (by omega)) (by
        have h3 : (c.take 1025).length = 1025 := by simp; omega
        rw [h3]
        have h4 : ¬ (c.length : Int) ≤ 1024 := by omega
        simp [r3_Code_b1, h4])
    rw [h]
    simp [pcodB, hl]
theorem pipe_code_b {c : List (A4 T_Ins)} (hw : ∀ z ∈ c, Wf_Bundle z) : pipe_Code c = some (pcodB c) := by
  simp only [pipe_Code]
  by_cases hl : c.length ≤ 1024
  · have hl2 : decide ((c.length : Int) ≤ 1024) = true := by simp; omega
    obtain ⟨r, hr, hd⟩ := loop_find (b := slices_IndexFunc_api_Bundle_api_Bundle_pipe_Code_1_b1 c) (xs := c) (q := bunB) (fun i h => by
        have hd : decide ((i : Int) < c.length) = true := by simpa using h
        simp only [slices_IndexFunc_api_Bundle_api_Bundle_pipe_Code_1_b1, hd, cond_true, at'_nat h, Option.bind_some, code1_b (hw c[i] (List.getElem_mem h))]
        rw [wrap_nat (by omega)]
        cases bunB c[i] <;> rfl) (by simp [slices_IndexFunc_api_Bundle_api_Bundle_pipe_Code_1_b1])
    simp only [hl2, cond_true, slices_ContainsFunc_api_Bundle_api_Bundle_pipe_Code_1, slices_IndexFunc_api_Bundle_api_Bundle_pipe_Code_1, hr, Option.bind_some, hd, pcodB, hl, decide_true, Bool.true_and, Bool.not_not]
  · have hl2 : decide ((c.length : Int) ≤ 1024) = false := by simp; omega
    simp [hl2, pcodB, hl]
end Go.Proofs.Ytjmmkbehdbpklaa
