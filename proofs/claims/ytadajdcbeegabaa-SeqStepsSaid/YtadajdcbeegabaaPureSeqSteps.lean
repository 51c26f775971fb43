/- The law SeqSteps, as a plain statement: proved. -/
import Derived.Test.YtadajdcbeegabaaLSeqSteps
import Derived.Test.YtadajdcbeegabaaStG
namespace Go.Proofs.Ytadajdcbeegabaa
open Go Go.RowKit Fr
set_option linter.unusedVariables false
set_option linter.unusedSimpArgs false
set_option maxRecDepth 20000
theorem may_b {x : T_Script} (hx : Wf_Script x) : l5_May x = some (progB x.P && stB x.S) := by
  have h1 := r3_prog_b hx.h1
  have h2 := r5_state_b (s := x.S) (by have := hx.h2.h10; omega)
  simp only [l5_May, h1, h2, Option.bind_some]
  cases progB x.P <;> rfl
/-- A bad program or state: the machine runs nothing. -/
theorem seq_run_bad {x : T_Script} (hx : Wf_Script x) (h : (progB x.P && stB x.S) = false) (n : Int) : seq_Run x.P x.S n = some (none', 0, 1) := by
  have h1 := seq_prog_b hx.h1
  have h2 := seq_may_b (s := x.S) (by have := hx.h2.h10; omega)
  simp only [seq_Run, h1, h2, Option.bind_some]
  cases hp : progB x.P with
  | false => rfl
  | true =>
    rw [hp, Bool.true_and] at h
    rw [h]; rfl
theorem seq_run_far {x : T_Script} (hx : Wf_Script x) {n : Int} (h : ¬ (0 ≤ n ∧ n ≤ 20000)) : seq_Run x.P x.S n = some (none', 0, 1) := by
  have h1 := seq_prog_b hx.h1
  have h2 := seq_may_b (s := x.S) (by have := hx.h2.h10; omega)
  have h3 : seq_upto 20000 [n] = some false := by rw [upto_eq (by simp)]; simp [numB]; omega
  simp only [seq_Run, h1, h2, h3, Option.bind_some]
  cases progB x.P <;> cases stB x.S <;> rfl
theorem light_short {x : T_Script} (h : Light x) {n : Nat} (hn : 12000 ≤ n) : Short n x.S :=
  ⟨by have := h.regs; omega, by have := h.mem; omega, by have := h.inn; omega, by have := h.out; omega, by have := h.stack; omega, by have := h.fly; omega⟩
theorem none_short (n : Nat) : Short n none' := ⟨by simp [none'], by simp [none'], by simp [none'], by simp [none'], by simp [none'], by simp [none']⟩
noncomputable abbrev K6 (x : T_Script) (i n : Int) := l5_SeqSteps_k6 x.P x.S.Regs x.S.Mem x.S.In_ x.S.Taken x.S.Out x.S.PC x.S.Stack x.S.Stop x.S.Fly x.S.Jump x.S.Delay x i n
theorem k6_ok {x : T_Script} (hx : Wf_Script x) (hL : Light x) {i n : Int} (hi : 0 ≤ i ∧ i ≤ 1000) (hn : n ≤ 200 ∨ 20000 < n) : K6 x i n = some (.next (i + 1)) := by
  have w : IntKind.i64.wrap (i + 1) = i + 1 := wrap_i64 (by omega) (by omega)
  have q1 := eqState (light_short hL (n := 140737488351232) (by omega))
  have q2 := eqCodes (xs := x.P) (by have := hL.p; omega)
  have q3 := eqState (none_short 140737488351232)
  simp only [none'] at q3
  cases hb : (progB x.P && stB x.S) with
  | false =>
    have h1 := seq_run_bad hx hb n
    simp only [none'] at h1
    simp only [K6, l5_SeqSteps_k6, h1, may_b hx, hb, Option.bind_some, cond_false, cut, l5_SeqSteps_k7, l5_num, ne_eq, not_true_eq_false, decide_false, q1, q2, q3, Bool.not_true, w]
  | true =>
    by_cases h0 : 0 ≤ n ∧ n ≤ 20000
    · obtain ⟨m, rfl⟩ := Int.eq_ofNat_of_zero_le h0.1
      simp only [Bool.and_eq_true] at hb
      have hI := st_inv hx.h2 hb.2
      have o0 := hL.out
      have h1 := seq_run hx.h1 hb.1 hI (n := m) (by omega) (by omega)
      have h2 := r5_run hb.1 hI (n := m) (by omega) (by omega)
      have hr := go_ran hb.1 m x.S hI (by omega)
      obtain ⟨o, e1, l1⟩ := hr.out
      have q4 := eqState (s := (go x.P m x.S).1) (inv_short hr.inv (by omega) (by rw [e1]; simp; omega))
      have h3 : r0_Num (m : Int) 20000 = true := by rw [num_eq]; simp [numB]; omega
      simp only [K6, l5_SeqSteps_k6, h1, may_b hx, hb.1, hb.2, Bool.and_self, Option.bind_some, cond_true, cond_false, h2, h3, cut, l5_SeqSteps_k7, l5_num, ne_eq, not_true_eq_false, decide_false, q1, q2, q4, Bool.not_true, w]
    · have h1 := seq_run_far hx h0
      simp only [none'] at h1
      have h3 : r0_Num n 20000 = false := by rw [num_eq]; simp only [numB, decide_eq_false_iff_not]; exact h0
      simp only [K6, l5_SeqSteps_k6, h1, may_b hx, hb, Option.bind_some, cond_true, cond_false, h3, cut, l5_SeqSteps_k7, l5_num, ne_eq, not_true_eq_false, decide_false, q1, q2, q3, Bool.not_true, w]
/-- The first loop. -/
theorem loop4 {x : T_Script} (hx : Wf_Script x) (hL : Light x) (zs : List Int) : loop (l5_SeqSteps_b4 zs x.P x.S.Regs x.S.Mem x.S.In_ x.S.Taken x.S.Out x.S.PC x.S.Stack x.S.Stop x.S.Fly x.S.Jump x.S.Delay x) 0 = some (.next ()) := by
  obtain ⟨r, h, rfl⟩ := loop_ex (b := l5_SeqSteps_b4 zs x.P x.S.Regs x.S.Mem x.S.In_ x.S.Taken x.S.Out x.S.PC x.S.Stack x.S.Stop x.S.Fly x.S.Jump x.S.Delay x) (fun i => 0 ≤ i ∧ i ≤ 9) (fun i => (9 - i).toNat) (fun r => r = .next ()) (fun i hi => by
    by_cases h1 : i < zs.length
    · by_cases h2 : i < 9
      · obtain ⟨hl, hat⟩ := at'_int (xs := zs) hi.1 h1
        refine .inl ⟨i + 1, ?_, by omega, by omega⟩
        generalize zs[i.toNat] = n at hat
        simp only [l5_SeqSteps_b4, h1, h2, decide_true, cond_true, cut, l5_SeqSteps_k5, hat, Option.bind_some]
        by_cases h3 : 200 < n
        · by_cases h4 : n ≤ 20000
          · simp only [h3, h4, decide_true, cond_true]
            exact k6_ok hx hL (by omega) (by omega)
          · simp only [h3, h4, decide_true, decide_false, cond_true, cond_false]
            exact k6_ok hx hL (by omega) (by omega)
        · simp only [h3, decide_false, cond_false]
          exact k6_ok hx hL (by omega) (by omega)
      · exact .inr ⟨_, by simp [l5_SeqSteps_b4, h1, h2, cut], rfl⟩
    · exact .inr ⟨_, by simp [l5_SeqSteps_b4, h1, cut], rfl⟩) 10 0 (by decide) (by decide)
  exact h
/-- What is handed over is spent. -/
theorem words_spent {xs : List Int} (hl : xs.length ≤ 140737488351232) : l0_Words xs = some () := by
  obtain ⟨r, h, _⟩ := loop_ex (b := l0_Words_b1) (fun s => 0 ≤ s.2 ∧ s.1.length ≤ 140737488351232 ∧ s.2 ≤ s.1.length) (fun s => (s.1.length - s.2).toNat) (fun _ => True) (fun ⟨zs, i⟩ hi => by
    simp only at hi
    by_cases h1 : i < zs.length
    · refine .inl ⟨(zs.set i.toNat 3735928559, i + 1), ?_, ⟨by simp; omega, by simp; omega, by simp; omega⟩, by simp; omega⟩
      simp only [l0_Words_b1, h1, decide_true, cond_true, set'_int hi.1 h1, Option.bind_some]
      rw [wrap_i64 (by omega) (by omega)]
    · exact .inr ⟨(), by simp [l0_Words_b1, h1], trivial⟩) (xs.length + 1) (xs, 0) (by simp) ⟨by simp, hl, by simp⟩
  exact h
theorem state_spent {s : T_State} (h : Short 140737488351232 s) : l0_State s = some () := by
  have h2 : ∃ zs, loop l0_State_b2 (0, s.Stack) = some (.next zs) := by
    obtain ⟨r, h1, zs, rfl⟩ := loop_ex (b := l0_State_b2) (fun s => 0 ≤ s.1 ∧ s.2.length ≤ 140737488351232 ∧ s.1 ≤ s.2.length) (fun s => (s.2.length - s.1).toNat) (fun r => ∃ zs, r = .next zs) (fun ⟨i, zs⟩ hi => by
      simp only at hi
      by_cases h1 : i < zs.length
      · refine .inl ⟨(i + 1, zs.set i.toNat (-9)), ?_, ⟨by simp; omega, by simp; omega, by simp; omega⟩, by simp; omega⟩
        simp only [l0_State_b2, h1, decide_true, cond_true, set'_int hi.1 h1, Option.bind_some]
        rw [wrap_i64 (by omega) (by omega)]
      · exact .inr ⟨.next zs, by simp [l0_State_b2, h1], zs, rfl⟩) (s.Stack.length + 1) (0, s.Stack) (by simp) ⟨by simp, h.stack, by simp⟩
    exact ⟨zs, h1⟩
  have h3 : loop l0_State_b3 (0, s.Fly) = some () := by
    obtain ⟨r, h1, _⟩ := loop_ex (b := l0_State_b3) (fun s => 0 ≤ s.1 ∧ s.2.length ≤ 140737488351232 ∧ s.1 ≤ s.2.length) (fun s => (s.2.length - s.1).toNat) (fun _ => True) (fun ⟨i, zs⟩ hi => by
      simp only at hi
      by_cases h1 : i < zs.length
      · refine .inl ⟨(i + 1, zs.set i.toNat ⟨(-9), 0, 0⟩), ?_, ⟨by simp; omega, by simp; omega, by simp; omega⟩, by simp; omega⟩
        simp only [l0_State_b3, h1, decide_true, cond_true, set'_int hi.1 h1, Option.bind_some]
        rw [wrap_i64 (by omega) (by omega)]
      · exact .inr ⟨(), by simp [l0_State_b3, h1], trivial⟩) (s.Fly.length + 1) (0, s.Fly) (by simp) ⟨by simp, h.fly, by simp⟩
    exact h1
  obtain ⟨zs, h2⟩ := h2
  simp only [l0_State, words_spent h.regs, words_spent h.mem, words_spent h.inn, words_spent h.out, Option.bind_some, h2, cut, l0_State_k1, h3]
/-- The second loop, over a good script. -/
theorem loop9 {x : T_Script} (hx : Wf_Script x) (hp : progB x.P = true) (hb : stB x.S = true) : ∀ (m i : Nat) (s : T_State), i + m = 60 → Inv s → s.Out.length ≤ 3000 + i →
    loop (l5_SeqSteps_b9 x.P x) ((i : Int), s.Regs, s.Mem, s.In_, s.Taken, s.Out, s.PC, s.Stack, s.Stop, s.Fly, s.Jump, s.Delay) = some (.next ())
  | 0, i, s, hi, hI, hO => by
    have : decide ((i : Int) < 60) = false := by simp; omega
    exact loop_done (by simp only [l5_SeqSteps_b9, this, cond_false])
  | m + 1, i, s, hi, hI, hO => by
    have h1 : decide ((i : Int) < 60) = true := by simp; omega
    have h2 := seq_step1 hx.h1 hp hI (by omega)
    have h3 := r5_run hp hI (n := 1) (by omega) (by omega)
    have hr := go_ran hp 1 s hI (by omega)
    generalize (go x.P 1 s).1 = s1 at h2 h3 hr
    obtain ⟨o, ho, hol⟩ := hr.out
    have hO1 : s1.Out.length ≤ 3000 + (i + 1) := by rw [ho]; simp; omega
    have hs := inv_short hr.inv (n := 140737488351232) (by omega) (by omega)
    rw [loop_next (s' := (((i + 1 : Nat) : Int), s1.Regs, s1.Mem, s1.In_, s1.Taken, s1.Out, s1.PC, s1.Stack, s1.Stop, s1.Fly, s1.Jump, s1.Delay))]
    · exact loop9 hx hp hb m (i + 1) s1 (by omega) hr.inv (by omega)
    · have h3' : r5_Run x.P s 1 = some (s1, ((go x.P 1 s).2 : Int)) := h3
      simp only [l5_SeqSteps_b9, h1, cond_true, h2, Option.bind_some, may_b hx, hp, hb, Bool.and_self, Bool.not_true, cond_false, h3', l5_num, ne_eq, not_true_eq_false, decide_false, eqState hs, state_spent hs]
      rw [wrap_nat (by omega)]
theorem pure_SeqSteps (x : T_Script) (hx : Wf_Script x) : l5_SeqSteps x = some true := by
  obtain ⟨h, h1, hL⟩ := heavy hx
  simp only [l5_SeqSteps, h1, Option.bind_some]
  cases h with
  | true => rfl
  | false =>
    have hL := hL rfl
    have c1 := copyState (light_short hL (n := 4294967296) (by omega))
    have c2 := copyCodes (xs := x.P) (by have := hL.p; omega)
    have m1 := seq_may_b (s := x.S) (by have := hx.h2.h10; omega)
    have m2 := r5_state_b (s := x.S) (by have := hx.h2.h10; omega)
    have q1 := eqState (light_short hL (n := 140737488351232) (by omega))
    have q3 := eqState (none_short 140737488351232)
    simp only [none'] at q3
    have ck : ∃ n, seq_Check x.S = some n ∧ (decide (l5_num n = 0) != stB x.S) = false := by
      simp only [seq_Check, m1, Option.bind_some]
      cases stB x.S
      · exact ⟨1, rfl, rfl⟩
      · exact ⟨0, rfl, rfl⟩
    obtain ⟨n, ck1, ck2⟩ := ck
    have hap : app' ([0, 1, 2, 30, (-1), 20001] : List Int) x.N = some ([0, 1, 2, 30, (-1), 20001] ++ x.N) := app'_le (by have := hL.n; simp; omega)
    have k3 : l5_SeqSteps_k3 x x.P x.S.Regs x.S.Mem x.S.In_ x.S.Taken x.S.Out x.S.PC x.S.Stack x.S.Stop x.S.Fly x.S.Jump x.S.Delay () = some true := by
      cases hb : (progB x.P && stB x.S) with
      | true =>
        simp only [Bool.and_eq_true] at hb
        have h9 := loop9 hx hb.1 hb.2 60 0 x.S (by omega) (st_inv hx.h2 hb.2) (by have := hL.out; omega)
        have h9' : loop (l5_SeqSteps_b9 x.P x) (0, x.S.Regs, x.S.Mem, x.S.In_, x.S.Taken, x.S.Out, x.S.PC, x.S.Stack, x.S.Stop, x.S.Fly, x.S.Jump, x.S.Delay) = some (.next ()) := h9
        simp only [l5_SeqSteps_k3, c1, Option.bind_some, h9', cut, l5_SeqSteps_k8, q1, cond_true, wakes]
      | false =>
        have hb1 := seq_run_bad hx hb 1
        simp only [none'] at hb1
        have h9 : loop (l5_SeqSteps_b9 x.P x) (0, x.S.Regs, x.S.Mem, x.S.In_, x.S.Taken, x.S.Out, x.S.PC, x.S.Stack, x.S.Stop, x.S.Fly, x.S.Jump, x.S.Delay) = some (.done true) := by
          refine loop_done ?_
          simp only [l5_SeqSteps_b9, show decide ((0 : Int) < 60) = true from rfl, cond_true, seq_Step, hb1, Option.bind_some, may_b hx, hb, Bool.not_false, l5_num, decide_true, q3, wakes]
        simp only [l5_SeqSteps_k3, c1, Option.bind_some, h9, cut]
    have k2 : l5_SeqSteps_k2 x x.P x.S.Regs x.S.Mem x.S.In_ x.S.Taken x.S.Out x.S.PC x.S.Stack x.S.Stop x.S.Fly x.S.Jump x.S.Delay () = some true := by
      simp only [l5_SeqSteps_k2, hap, Option.bind_some, loop4 hx hL, cut, k3]
    simp only [cond_false, c1, c2, Option.bind_some, cut, l5_SeqSteps_k1, ck1, m2, ck2]
    by_cases hl : x.In_.length ≤ 100
    · have d1 : decide ((x.In_.length : Int) ≤ 100) = true := by simp; omega
      have hI := fresh_inv hl (fun z hz => (hx.h4 z hz))
      have q4 := eqState (inv_short hI (n := 140737488351232) (by omega) (by simp [fresh]))
      simp only [seq_new hl, d1, cond_true, Option.bind_some, l5_num, ne_eq, not_true_eq_false, decide_false, cond_false, r5_new (xs := x.In_) (by omega), q4, Bool.not_true, k2]
    · have d1 : decide ((x.In_.length : Int) ≤ 100) = false := by simp; omega
      have sn := seq_new_no hl
      simp only [none'] at sn
      simp only [sn, d1, cond_false, Option.bind_some, l5_num, ne_eq, not_true_eq_false, decide_false, q3, Bool.not_true, k2]
end Go.Proofs.Ytadajdcbeegabaa
