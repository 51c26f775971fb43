/- What is on its way, and states: the two judges agree. -/
import Derived.Test.YtfnmihhcopkkbaaGreatPiA
namespace Go.Proofs.YtfnmihhcopkkbaaGreat
open Go Fr
set_option linter.unusedVariables false
set_option linter.unusedSimpArgs false
set_option maxRecDepth 20000
def okW (w : T_Write) : Bool := numB 15 w.Reg && numB 4 w.Left
def late (k : Int) (l : List T_Write) : Int := (l.countP (fun w => decide (k ≤ w.Left)) : Nat)
def lateB (l : List T_Write) : Bool := decide (late 0 l ≤ 20) && decide (late 1 l ≤ 16) && decide (late 2 l ≤ 12) && decide (late 3 l ≤ 8) && decide (late 4 l ≤ 4)
def fliesB (l : List T_Write) : Bool := l.all okW && lateB l
theorem late_le (k : Int) (l : List T_Write) : 0 ≤ late k l ∧ late k l ≤ l.length := ⟨by unfold late; omega, by unfold late; have := List.countP_le_length (p := fun w : T_Write => decide (k ≤ w.Left)) (l := l); omega⟩
theorem late_snoc (k : Int) (l : List T_Write) (w : T_Write) : late k (l ++ [w]) = late k l + if k ≤ w.Left then 1 else 0 := by
  simp only [late, List.countP_append, List.countP_cons, List.countP_nil, decide_eq_true_eq]
  split <;> simp
theorem loop5 {ρ : Type} {b : Int → Option (Step Int ρ)} {q0 q1 q2 q3 q4 : Bool} {no yes : ρ} (h0 : b 0 = some (bif q0 then .next 1 else .done no)) (h1 : b 1 = some (bif q1 then .next 2 else .done no)) (h2 : b 2 = some (bif q2 then .next 3 else .done no)) (h3 : b 3 = some (bif q3 then .next 4 else .done no)) (h4 : b 4 = some (bif q4 then .next 5 else .done no)) (h5 : b 5 = some (.done yes)) :
    loop b 0 = some (bif q0 && q1 && q2 && q3 && q4 then yes else no) := by
  cases q0
  · rw [loop_done h0]; rfl
  rw [loop_next h0]
  cases q1
  · rw [loop_done h1]; rfl
  rw [loop_next h1]
  cases q2
  · rw [loop_done h2]; rfl
  rw [loop_next h2]
  cases q3
  · rw [loop_done h3]; rfl
  rw [loop_next h3]
  cases q4
  · rw [loop_done h4]; rfl
  rw [loop_next h4, loop_done h5]; rfl
theorem flies_in {w : T_Write} {i a0 a1 a2 a3 a4 : Int} (hw : 0 ≤ w.Left ∧ w.Left ≤ 4) (hi : 0 ≤ i ∧ i < 1000000000000000000) (h0 : 0 ≤ a0 ∧ a0 < 1000000000000000000) (h1 : 0 ≤ a1 ∧ a1 < 1000000000000000000) (h2 : 0 ≤ a2 ∧ a2 < 1000000000000000000) (h3 : 0 ≤ a3 ∧ a3 < 1000000000000000000) (h4 : 0 ≤ a4 ∧ a4 < 1000000000000000000) :
    loop (pipe_flies_b4 w i) (0, a0, a1, a2, a3, a4) = some (.next (i + 1, a0 + (if 0 ≤ w.Left then 1 else 0), a1 + (if 1 ≤ w.Left then 1 else 0), a2 + (if 2 ≤ w.Left then 1 else 0), a3 + (if 3 ≤ w.Left then 1 else 0), a4 + (if 4 ≤ w.Left then 1 else 0))) := by
  have wi := wrap_i64 (n := i + 1) (by omega) (by omega)
  have w0 := wrap_i64 (n := a0 + 1) (by omega) (by omega)
  have w1 := wrap_i64 (n := a1 + 1) (by omega) (by omega)
  have w2 := wrap_i64 (n := a2 + 1) (by omega) (by omega)
  have w3 := wrap_i64 (n := a3 + 1) (by omega) (by omega)
  have w4 := wrap_i64 (n := a4 + 1) (by omega) (by omega)
  have wl := wrap_i64 (n := w.Left + 1) (by omega) (by omega)
  have s0 : ∀ {b0 b1 b2 b3 b4 : Int}, b0 = a0 → 0 ≤ w.Left → pipe_flies_b4 w i (0, b0, b1, b2, b3, b4) = some (.next (1, a0 + 1, b1, b2, b3, b4)) := fun e h => by
    subst e
    simp [pipe_flies_b4, wl, at', A5.put, w0, show (0 : Int) < w.Left + 1 by omega, show IntKind.i64.wrap 1 = 1 by decide]
  have s1 : ∀ {b0 b1 b2 b3 b4 : Int}, b1 = a1 → 1 ≤ w.Left → pipe_flies_b4 w i (1, b0, b1, b2, b3, b4) = some (.next (2, b0, a1 + 1, b2, b3, b4)) := fun e h => by
    subst e
    simp [pipe_flies_b4, wl, at', A5.put, w1, show (1 : Int) < w.Left + 1 by omega, show IntKind.i64.wrap 2 = 2 by decide]
  have s2 : ∀ {b0 b1 b2 b3 b4 : Int}, b2 = a2 → 2 ≤ w.Left → pipe_flies_b4 w i (2, b0, b1, b2, b3, b4) = some (.next (3, b0, b1, a2 + 1, b3, b4)) := fun e h => by
    subst e
    simp [pipe_flies_b4, wl, at', A5.put, w2, show (2 : Int) < w.Left + 1 by omega, show IntKind.i64.wrap 3 = 3 by decide]
  have s3 : ∀ {b0 b1 b2 b3 b4 : Int}, b3 = a3 → 3 ≤ w.Left → pipe_flies_b4 w i (3, b0, b1, b2, b3, b4) = some (.next (4, b0, b1, b2, a3 + 1, b4)) := fun e h => by
    subst e
    simp [pipe_flies_b4, wl, at', A5.put, w3, show (3 : Int) < w.Left + 1 by omega, show IntKind.i64.wrap 4 = 4 by decide]
  have s4 : ∀ {b0 b1 b2 b3 b4 : Int}, b4 = a4 → 4 ≤ w.Left → pipe_flies_b4 w i (4, b0, b1, b2, b3, b4) = some (.next (5, b0, b1, b2, b3, a4 + 1)) := fun e h => by
    subst e
    simp [pipe_flies_b4, wl, at', A5.put, w4, show (4 : Int) < w.Left + 1 by omega, show IntKind.i64.wrap 5 = 5 by decide]
  have se : ∀ {j b0 b1 b2 b3 b4 : Int}, w.Left + 1 = j → pipe_flies_b4 w i (j, b0, b1, b2, b3, b4) = some (.done (.next (i + 1, b0, b1, b2, b3, b4))) := fun e => by
    subst e
    simp [pipe_flies_b4, wl, wi]
  rw [loop_next (s0 rfl hw.1)]
  rcases (show w.Left = 0 ∨ w.Left = 1 ∨ w.Left = 2 ∨ w.Left = 3 ∨ w.Left = 4 by omega) with h | h | h | h | h
  · rw [loop_done (se (by omega))]; simp [h]
  · rw [loop_next (s1 rfl (by omega)), loop_done (se (by omega))]; simp [h]
  · rw [loop_next (s1 rfl (by omega)), loop_next (s2 rfl (by omega)), loop_done (se (by omega))]; simp [h]
  · rw [loop_next (s1 rfl (by omega)), loop_next (s2 rfl (by omega)), loop_next (s3 rfl (by omega)), loop_done (se (by omega))]; simp [h]
  · rw [loop_next (s1 rfl (by omega)), loop_next (s2 rfl (by omega)), loop_next (s3 rfl (by omega)), loop_next (s4 rfl (by omega)), loop_done (se (by omega))]; simp [h]
theorem okW_iff {w : T_Write} : okW w = true ↔ (0 ≤ w.Reg ∧ w.Reg ≤ 15) ∧ 0 ≤ w.Left ∧ w.Left ≤ 4 := by simp [okW, numB]
theorem flies_loop {l : List T_Write} (hl : l.length ≤ 140737488351232) : ∀ (m i : Nat), i + m = l.length → loop (pipe_flies_b2 l) ((i : Int), late 0 (l.take i), late 1 (l.take i), late 2 (l.take i), late 3 (l.take i), late 4 (l.take i)) =
    some (bif (l.drop i).all okW then .next (late 0 l, late 1 l, late 2 l, late 3 l, late 4 l) else .done false)
  | 0, i, h => by
    obtain rfl : i = l.length := by omega
    rw [loop_done (r := .next (late 0 l, late 1 l, late 2 l, late 3 l, late 4 l)) (by simp [pipe_flies_b2])]
    simp
  | m + 1, i, h => by
    have hi : i < l.length := by omega
    have hd : decide ((i : Int) < l.length) = true := by simpa using hi
    have hb : ∀ k : Int, 0 ≤ late k (l.take i) ∧ late k (l.take i) < 1000000000000000000 := fun k => by
      have := late_le k (l.take i); simp at this; omega
    have ht : l.take (i + 1) = l.take i ++ [l[i]] := by rw [List.take_succ_eq_append_getElem hi]
    have hdr : l.drop i = l[i] :: l.drop (i + 1) := List.drop_eq_getElem_cons hi
    have ih := flies_loop hl m (i + 1) (by omega)
    rw [hdr, List.all_cons]
    by_cases hw : okW l[i] = true
    · obtain ⟨⟨r0, r1⟩, l0, l1⟩ := okW_iff.1 hw
      rw [loop_next (s' := (((i + 1 : Nat) : Int), late 0 (l.take (i + 1)), late 1 (l.take (i + 1)), late 2 (l.take (i + 1)), late 3 (l.take (i + 1)), late 4 (l.take (i + 1)))), ih, hw]
      · rfl
      · simp only [pipe_flies_b2, hd, cond_true, at'_nat hi, Option.bind_some, show ¬ l[i].Reg < 0 by omega, show ¬ 16 ≤ l[i].Reg by omega, show ¬ l[i].Left < 0 by omega, show ¬ 4 < l[i].Left by omega, decide_false, cond_false, cut, pipe_flies_k3]
        rw [flies_in ⟨l0, l1⟩ (by omega) (hb 0) (hb 1) (hb 2) (hb 3) (hb 4), ht]
        simp only [late_snoc]
        congr 3
    · have hf : okW l[i] = false := by simpa using hw
      rw [loop_done (r := .done false)]
      · rw [hf]; rfl
      · simp only [pipe_flies_b2, hd, cond_true, at'_nat hi, Option.bind_some]
        by_cases r0 : l[i].Reg < 0
        · simp [r0, cut]
        by_cases r1 : 16 ≤ l[i].Reg
        · simp [r0, r1, cut]
        by_cases l0 : l[i].Left < 0
        · simp [r0, r1, l0, cut]
        by_cases l1 : 4 < l[i].Left
        · simp [r0, r1, l0, l1, cut]
        · exact absurd (okW_iff.2 ⟨⟨by omega, by omega⟩, by omega, by omega⟩) hw
theorem flies_b {l : List T_Write} (hl : l.length ≤ 140737488351232) : pipe_flies l = some (fliesB l) := by
  have h := flies_loop hl l.length 0 (by omega)
  have h' : loop (pipe_flies_b2 l) (0, 0, 0, 0, 0, 0) = _ := h
  rw [pipe_flies, h']
  simp only [List.drop_zero, fliesB]
  cases l.all okW with
  | false => rfl
  | true =>
    simp only [cond_true, cut, Bool.true_and, pipe_flies_k1]
    have st : ∀ (k : Int) (a0 a1 a2 a3 a4 v : Int), 0 ≤ k ∧ k < 5 → at' [a0, a1, a2, a3, a4] k = some v → pipe_flies_b5 a0 a1 a2 a3 a4 k = some (bif decide (v ≤ 4 * (5 - k)) then .next (k + 1) else .done false) := by
      intro k a0 a1 a2 a3 a4 v hk hv
      have e1 := wrap_i64 (n := 5 - k) (by omega) (by omega)
      have e2 := wrap_i64 (n := 4 * (5 - k)) (by omega) (by omega)
      have e3 := wrap_i64 (n := k + 1) (by omega) (by omega)
      simp only [pipe_flies_b5, hk.2, decide_true, cond_true, hv, Option.bind_some, e1, e2, e3]
      by_cases h : v ≤ 4 * (5 - k)
      · have h2 : ¬ 4 * (5 - k) < v := by omega
        simp [h, h2]
      · have h2 : 4 * (5 - k) < v := by omega
        simp [h, h2]
    rw [loop5 (q0 := decide (late 0 l ≤ 20)) (q1 := decide (late 1 l ≤ 16)) (q2 := decide (late 2 l ≤ 12)) (q3 := decide (late 3 l ≤ 8)) (q4 := decide (late 4 l ≤ 4)) (no := false) (yes := true) (st 0 _ _ _ _ _ _ (by decide) rfl) (st 1 _ _ _ _ _ _ (by decide) rfl) (st 2 _ _ _ _ _ _ (by decide) rfl) (st 3 _ _ _ _ _ _ (by decide) rfl) (st 4 _ _ _ _ _ _ (by decide) rfl) (by simp [pipe_flies_b5])]
    simp only [lateB]
    generalize (decide (late 0 l ≤ 20) && decide (late 1 l ≤ 16) && decide (late 2 l ≤ 12) && decide (late 3 l ≤ 8) && decide (late 4 l ≤ 4)) = q
    cases q <;> rfl
def coreB (s : T_State) : Bool :=
  decide (s.Regs.length = 16) && decide (s.Mem.length = 256) && decide (s.In_.length ≤ 100) && decide (s.Stack.length ≤ 16) && numB s.In_.length s.Taken && numB 1024 s.PC && s.Stack.all (numB 1024)
def ppB (s : T_State) : Bool := coreB s && numB 6 s.Stop && numB 1024 s.Jump && numB 2 s.Delay && fliesB s.Fly
theorem seq_core_b {s : T_State} (hw : s.Stack.length ≤ 140737488351232) : seq_Core s = some (coreB s) := by
  have hl := upto_eq (n := 1024) (xs := s.Stack) (by exact hw)
  have hone : ∀ n x : Int, seq_upto n [x] = some (numB n x) := fun n x => by rw [upto_eq (by simp)]; simp
  have e1 : decide ((s.Regs.length : Int) ≠ 16) = !decide (s.Regs.length = 16) := by by_cases h : s.Regs.length = 16 <;> simp [h]; omega
  have e2 : decide ((s.Mem.length : Int) ≠ 256) = !decide (s.Mem.length = 256) := by by_cases h : s.Mem.length = 256 <;> simp [h]; omega
  have e3 : decide (100 < (s.In_.length : Int)) = !decide (s.In_.length ≤ 100) := by by_cases h : s.In_.length ≤ 100 <;> simp [h] <;> omega
  have e4 : decide (16 < (s.Stack.length : Int)) = !decide (s.Stack.length ≤ 16) := by by_cases h : s.Stack.length ≤ 16 <;> simp [h] <;> omega
  have hk : seq_Core_k1 s () = some (numB s.In_.length s.Taken && numB 1024 s.PC && s.Stack.all (numB 1024)) := by
    simp only [seq_Core_k1, hone, hl, Option.bind_some]
    cases numB s.In_.length s.Taken <;> cases numB 1024 s.PC <;> rfl
  simp only [seq_Core, e1, e2, e3, e4, coreB]
  generalize s.Stack.all (numB 1024) = b7 at *
  generalize decide (s.Regs.length = 16) = b1
  generalize decide (s.Mem.length = 256) = b2
  generalize decide (s.In_.length ≤ 100) = b3
  generalize decide (s.Stack.length ≤ 16) = b4
  generalize numB s.In_.length s.Taken = b5 at *
  generalize numB 1024 s.PC = b6 at *
  cases b1 <;> cases b2 <;> cases b3 <;> cases b4 <;> cases b5 <;> cases b6 <;> simp [cut, *]
theorem pipe_may_b {s : T_State} (hw : s.Stack.length ≤ 140737488351232) (hf : s.Fly.length ≤ 140737488351232) : pipe_May s = some (ppB s) := by
  have hk1 : pipe_May_k1 s () = some (numB 1024 s.Jump && numB 2 s.Delay) := by
    simp only [pipe_May_k1, numB]
    by_cases h1 : 0 ≤ s.Jump <;> by_cases h2 : s.Jump ≤ 1024 <;> by_cases h3 : 0 ≤ s.Delay <;> by_cases h4 : s.Delay ≤ 2 <;> simp [h1, h2, h3, h4]
  have hs : ∀ b : Bool, (bif decide (s.Stop < 0) then some (Step.done false) else bif decide (6 < s.Stop) then some (.done false) else (some b).bind fun r => bif !r then some (.done false) else some (.next ())) = some (bif numB 6 s.Stop && b then Step.next () else .done false) := fun b => by
    by_cases h1 : s.Stop < 0
    · have h2 : ¬ 0 ≤ s.Stop := by omega
      simp [h1, numB, h2]
    · by_cases h3 : 6 < s.Stop
      · have h2 : ¬ s.Stop ≤ 6 := by omega
        simp [h1, h3, numB, h2]
      · have h2 : 0 ≤ s.Stop := by omega
        have h4 : s.Stop ≤ 6 := by omega
        cases b <;> simp [h1, h3, numB, h2, h4]
  simp only [pipe_May, seq_core_b hw, Option.bind_some, flies_b hf, ppB]
  cases coreB s with
  | false => rfl
  | true =>
    simp only [Bool.not_true, cond_false, Bool.true_and]
    have := hs (fliesB s.Fly)
    simp only [Option.bind_some] at this
    rw [this]
    cases numB 6 s.Stop <;> cases fliesB s.Fly <;> simp [cut, hk1]
end Go.Proofs.YtfnmihhcopkkbaaGreat
