/- One step, and runs: both machines. -/
import Derived.Test.YtadajdcbeegabaaStD
namespace Go.Proofs.Ytadajdcbeegabaa
open Go Fr
set_option linter.unusedVariables false
set_option linter.unusedSimpArgs false
set_option maxRecDepth 20000

/-- What a step leaves. -/
structure Goes (s s' : T_State) : Prop where
  inv : Inv s'
  inn : s'.In_ = s.In_
  taken : s.Taken ≤ s'.Taken
  out : ∃ o, s'.Out = s.Out ++ o ∧ o.length ≤ 1
theorem prog_code {p : List T_Ins} (h : progB p = true) : p.length ≤ 1024 ∧ ∀ x ∈ p, codeB x = true := by
  simp only [progB, Bool.and_eq_true, decide_eq_true_eq, List.all_eq_true] at h
  exact h
theorem near_inv {s s1 : T_State} (hI : Inv s) (hn : Near s s1) : Inv s1 where
  regs := by rw [hn.regs]; exact hI.regs
  regsU := by rw [hn.regs]; exact hI.regsU
  mem := by rw [hn.mem]; exact hI.mem
  memU := hn.memU
  inl := by rw [hn.inn]; exact hI.inl
  inU := by rw [hn.inn]; exact hI.inU
  taken := by rw [hn.inn]; have := hn.taken; have := hI.taken; omega
  outU := by
    obtain ⟨o, h1, h2, h3⟩ := hn.out
    rw [h1]; intro z hz
    rcases List.mem_append.1 hz with hz | hz
    · exact hI.outU z hz
    · exact h3 z hz
  pc := by rw [hn.pc]; exact hI.pc
  stack := hn.stack
  stackN := hn.stackN
  stop := by rw [hn.stop]; exact hI.stop
  fly := by rw [hn.fly]; exact hI.fly
  jump := by rw [hn.jump]; exact hI.jump
  delay := by rw [hn.delay]; exact hI.delay
theorem near_goes {s s1 : T_State} (hI : Inv s) (hn : Near s s1) : Goes s s1 :=
  ⟨near_inv hI hn, hn.inn, hn.taken.1, by obtain ⟨o, h1, h2, _⟩ := hn.out; exact ⟨o, h1, h2⟩⟩
theorem step_both {p : List T_Ins} {s : T_State} (hp : progB p = true) (hI : Inv s) (hO : s.Out.length < 4294967296) :
    ∃ s', r5_step p s = some s' ∧ seq_step p s = some s' ∧ Goes s s' := by
  obtain ⟨hl, hc⟩ := prog_code hp
  have hw : IntKind.i64.wrap (s.PC + 1) = s.PC + 1 := wrap_i64 (by have := hI.pc; omega) (by have := hI.pc; omega)
  by_cases hpc : (p.length : Int) ≤ s.PC
  · refine ⟨{ s with Stop := 5 }, by simp [r5_step, hpc], by simp [seq_step, hpc], ⟨{ hI with stop := ⟨by simp, by simp⟩ }, rfl, by simp, [], by simp, by simp⟩⟩
  obtain ⟨hx, hat⟩ := at'_int (xs := p) hI.pc.1 (by omega)
  have hcx := hc _ (List.getElem_mem hx)
  generalize p[s.PC.toNat] = x at hat hcx
  obtain ⟨_, hD, hA, hB, _⟩ := code_facts hcx
  have hr := hI.regs
  obtain ⟨hla, hra⟩ := at'_int (xs := s.Regs) hA.1 (by omega)
  obtain ⟨hlb, hrb⟩ := at'_int (xs := s.Regs) hB.1 (by omega)
  have ua := hI.regsU _ (List.getElem_mem hla)
  have ub := hI.regsU _ (List.getElem_mem hlb)
  generalize s.Regs[x.A.toNat] = a at hra ua
  generalize s.Regs[x.B.toNat] = b at hrb ub
  obtain ⟨s1, d, h1, hN, hst, hres, hto, s0, v, e, ha, hpc0, hcase⟩ := do_both (nxt := s.PC + 1) hI hO hcx ua ub (by have := hI.pc; omega)
  have hI1 := near_inv hI hN
  have hG1 := near_goes hI hN
  have hw1 : IntKind.i64.wrap (s1.PC + 1) = s.PC + 1 := by rw [hN.pc, hw]
  have hw0 : IntKind.i64.wrap (s0.PC + 1) = s.PC + 1 := by rw [hpc0, hw]
  have hset := fun v => set'_int (xs := s1.Regs) (i := x.D) (x := v) hD.1 (by rw [hN.regs]; omega)
  have hpcf : decide ((p.length : Int) ≤ s.PC) = false := by simpa using hpc
  by_cases hd : d.stop = 0
  · refine ⟨{ s1 with Regs := bif d.has then s1.Regs.set x.D.toNat d.result else s1.Regs, PC := bif d.jumps then d.to else s.PC + 1 }, ?_, ?_, ?_⟩
    · simp only [r5_step, hpcf, cond_false, hat, Option.bind_some, hra, hrb, hw, h1, cut, r5_step_k1, hd, ne_eq, not_true_eq_false, decide_false]
      cases d.has <;> cases d.jumps <;> simp [hset, r5_step_k2, hw1]
    · rcases hcase with ⟨he, rfl, h2⟩ | ⟨rfl, to, j, h2, h3⟩
      · exact absurd (h2.symm.trans hd) he
      · obtain ⟨h4, h5, h6, h7⟩ := h3 hd
        simp only [seq_step, hpcf, cond_false, hat, Option.bind_some, hra, hrb, ha, cut, decide_true, cond_true, hw0, h2]
        subst h6
        rw [hd]
        cases hj : d.jumps <;> cases hh : d.has <;> rw [hh] at h4 <;> simp [seq_step_k1, ← h4, hset]
        · exact congrArg _ (h5 hh)
        · exact (h7 hj).symm
        · exact ⟨congrArg _ (h5 hh), (h7 hj).symm⟩
    · refine ⟨{ hI1 with regs := ?_, regsU := ?_, pc := ?_ }, hG1.inn, hG1.taken, hG1.out⟩
      · cases d.has <;> simp [hI1.regs]
      · intro z hz
        cases hh : d.has with
        | false => rw [hh] at hz; exact hI1.regsU z hz
        | true =>
          rw [hh] at hz
          rcases List.mem_or_eq_of_mem_set hz with hz | rfl
          · exact hI1.regsU z hz
          · exact hres hh
      · cases hj : d.jumps with
        | false => simp; have := hI.pc; omega
        | true => exact hto hj
  · refine ⟨{ s1 with Stop := d.stop }, ?_, ?_, ?_⟩
    · simp [r5_step, hpcf, hat, hra, hrb, hw, h1, cut, r5_step_k1, hd]
    · rcases hcase with ⟨he, rfl, h2⟩ | ⟨rfl, to, j, h2, h3⟩
      · simp [seq_step, hpcf, hat, hra, hrb, ha, cut, he, seq_step_k1, h2]
      · simp only [seq_step, hpcf, cond_false, hat, Option.bind_some, hra, hrb, ha, cut, decide_true, cond_true, hw0, h2]
        cases j <;> simp [seq_step_k1, hd]
    · exact ⟨{ hI1 with stop := hst }, hG1.inn, hG1.taken, hG1.out⟩
/-- The step, as a function. -/
noncomputable def stp (p : List T_Ins) (s : T_State) : T_State := (r5_step p s).getD s
theorem stp_of {p : List T_Ins} {s : T_State} (hp : progB p = true) (hI : Inv s) (hO : s.Out.length < 4294967296) : r5_step p s = some (stp p s) ∧ seq_step p s = some (stp p s) ∧ Goes s (stp p s) := by
  obtain ⟨s', h1, h2, h3⟩ := step_both hp hI hO
  have : stp p s = s' := by simp [stp, h1]
  rw [this]; exact ⟨h1, h2, h3⟩
/-- At most n steps. -/
noncomputable def go (p : List T_Ins) : Nat → T_State → T_State × Nat
  | 0, s => (s, 0)
  | n + 1, s => if s.Stop = 0 then ((go p n (stp p s)).1, (go p n (stp p s)).2 + 1) else (s, 0)
theorem r5_loop {p : List T_Ins} (hp : progB p = true) {n : Int} (hn : n ≤ 1000000) : ∀ (m i : Nat) (s : T_State), (i : Int) + m = n → Inv s → s.Out.length + m < 4294967296 →
    loop (r5_Run_b1 n p) (i, s.Regs, s.Mem, s.In_, s.Taken, s.Out, s.PC, s.Stack, s.Stop, s.Fly, s.Jump, s.Delay) = some ((go p m s).1, ((i + (go p m s).2 : Nat) : Int))
  | 0, i, s, hi, hI, hO => by
    have : decide ((i : Int) < n) = false := by simp; omega
    rw [loop_done (r := (s, (i : Int))) (by simp only [r5_Run_b1, this, cond_false])]
    rfl
  | m + 1, i, s, hi, hI, hO => by
    have h1 : decide ((i : Int) < n) = true := by simp; omega
    by_cases hs : s.Stop = 0
    · obtain ⟨h2, _, h3⟩ := stp_of (s := s) hp hI (by omega)
      rw [loop_next (s' := (((i + 1 : Nat) : Int), (stp p s).Regs, (stp p s).Mem, (stp p s).In_, (stp p s).Taken, (stp p s).Out, (stp p s).PC, (stp p s).Stack, (stp p s).Stop, (stp p s).Fly, (stp p s).Jump, (stp p s).Delay))]
      · rw [r5_loop hp hn m (i + 1) (stp p s) (by omega) h3.inv (by obtain ⟨o, h4, h5⟩ := h3.out; rw [h4]; simp; omega)]
        simp only [go, hs, if_true]
        congr 2
        omega
      · simp only [r5_Run_b1, h1, cond_true, hs, decide_true, Option.bind_some]
        have h2' : r5_step p ⟨s.Regs, s.Mem, s.In_, s.Taken, s.Out, s.PC, s.Stack, 0, s.Fly, s.Jump, s.Delay⟩ = some (stp p s) := by rw [← h2]; congr 1; rw [← hs]
        rw [h2']
        simp only [Option.bind_some]
        rw [wrap_nat (by omega)]
    · have h2 : decide (s.Stop = 0) = false := by simpa using hs
      rw [loop_done (r := (s, (i : Int))) (by simp only [r5_Run_b1, h1, cond_true, h2, cond_false])]
      simp only [go, hs, if_false]
      rfl
theorem seq_loop {p : List T_Ins} (hp : progB p = true) {n : Int} (hn : n ≤ 1000000) : ∀ (m i : Nat) (s : T_State), (i : Int) + m = n → Inv s → s.Out.length + m < 4294967296 →
    loop (seq_Run_b2 n p) (i, s.Regs, s.Mem, s.In_, s.Taken, s.Out, s.PC, s.Stack, s.Stop, s.Fly, s.Jump, s.Delay) = some ((go p m s).1, ((i + (go p m s).2 : Nat) : Int), 0)
  | 0, i, s, hi, hI, hO => by
    have : decide ((i : Int) < n) = false := by simp; omega
    rw [loop_done (r := (s, (i : Int), 0)) (by simp only [seq_Run_b2, this, cond_false])]
    rfl
  | m + 1, i, s, hi, hI, hO => by
    have h1 : decide ((i : Int) < n) = true := by simp; omega
    by_cases hs : s.Stop = 0
    · obtain ⟨_, h2, h3⟩ := stp_of (s := s) hp hI (by omega)
      rw [loop_next (s' := (((i + 1 : Nat) : Int), (stp p s).Regs, (stp p s).Mem, (stp p s).In_, (stp p s).Taken, (stp p s).Out, (stp p s).PC, (stp p s).Stack, (stp p s).Stop, (stp p s).Fly, (stp p s).Jump, (stp p s).Delay))]
      · rw [seq_loop hp hn m (i + 1) (stp p s) (by omega) h3.inv (by obtain ⟨o, h4, h5⟩ := h3.out; rw [h4]; simp; omega)]
        simp only [go, hs, if_true]
        congr 3
        omega
      · simp only [seq_Run_b2, h1, cond_true, hs, decide_true, Option.bind_some]
        have h2' : seq_step p ⟨s.Regs, s.Mem, s.In_, s.Taken, s.Out, s.PC, s.Stack, 0, s.Fly, s.Jump, s.Delay⟩ = some (stp p s) := by rw [← h2]; congr 1; rw [← hs]
        rw [h2']
        simp only [Option.bind_some]
        rw [wrap_nat (by omega)]
    · have h2 : decide (s.Stop = 0) = false := by simpa using hs
      rw [loop_done (r := (s, (i : Int), 0)) (by simp only [seq_Run_b2, h1, cond_true, h2, cond_false])]
      simp only [go, hs, if_false]
      rfl
/-- What a run leaves. -/
structure Ran (n : Nat) (s s' : T_State) : Prop where
  inv : Inv s'
  inn : s'.In_ = s.In_
  taken : s.Taken ≤ s'.Taken
  out : ∃ o, s'.Out = s.Out ++ o ∧ o.length ≤ n
theorem go_ran {p : List T_Ins} (hp : progB p = true) : ∀ (n : Nat) (s : T_State), Inv s → s.Out.length + n < 4294967296 → Ran n s (go p n s).1
  | 0, s, hI, _ => ⟨hI, rfl, by simp [go], [], by simp [go], by simp⟩
  | n + 1, s, hI, hO => by
    by_cases hs : s.Stop = 0
    · obtain ⟨_, _, h3⟩ := stp_of (s := s) hp hI (by omega)
      obtain ⟨o, h4, h5⟩ := h3.out
      have ih := go_ran hp n (stp p s) h3.inv (by rw [h4]; simp; omega)
      obtain ⟨o2, h6, h7⟩ := ih.out
      simp only [go, hs, if_true]
      exact ⟨ih.inv, by rw [ih.inn, h3.inn], by have := ih.taken; have := h3.taken; omega, o ++ o2, by rw [h6, h4, List.append_assoc], by simp; omega⟩
    · simp only [go, hs, if_false]
      exact ⟨hI, rfl, by omega, [], by simp, by simp⟩
theorem go_add (p : List T_Ins) : ∀ (m n : Nat) (s : T_State), go p (m + n) s = ((go p n (go p m s).1).1, (go p m s).2 + (go p n (go p m s).1).2)
  | 0, n, s => by simp [go]
  | m + 1, n, s => by
    rw [show m + 1 + n = (m + n) + 1 by omega]
    by_cases hs : s.Stop = 0
    · simp only [go, hs, if_true]
      rw [go_add p m n (stp p s)]
      simp only [Prod.mk.injEq, true_and]; omega
    · simp only [go, hs, if_false]
      cases n with
      | zero => simp [go]
      | succ n => simp [go, hs]
theorem go_stopped {p : List T_Ins} : ∀ (n : Nat) {s : T_State}, s.Stop ≠ 0 → go p n s = (s, 0)
  | 0, _, _ => rfl
  | n + 1, s, h => by simp [go, h]
theorem go_runs {p : List T_Ins} : ∀ (n : Nat) {s : T_State}, (go p n s).1.Stop = 0 → (go p n s).2 = n
  | 0, _, _ => rfl
  | n + 1, s, h => by
    by_cases hs : s.Stop = 0
    · simp only [go, hs, if_true] at h ⊢
      rw [go_runs n h]
    · simp only [go, hs, if_false] at h
end Go.Proofs.Ytadajdcbeegabaa
