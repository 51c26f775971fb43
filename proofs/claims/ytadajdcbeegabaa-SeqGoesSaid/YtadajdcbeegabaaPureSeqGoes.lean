/- The law SeqGoes, as a plain statement: proved. -/
import Derived.Test.YtadajdcbeegabaaLSeqGoes
import Derived.Test.YtadajdcbeegabaaStG
namespace Go.Proofs.Ytadajdcbeegabaa
open Go Go.RowKit Fr
set_option linter.unusedVariables false
set_option linter.unusedSimpArgs false
set_option maxRecDepth 20000
theorem may_b {x : T_Script} (hx : Wf_Script x) : l5_May x = some (progB x.P && stB x.S) := by
  have h1 := r3_prog_b hx.h1
  have h2 := r5_state_b (s := x.S) (by have := hx.h2.h10; omega)
  simp only [l5_May, h1, h2, Option.bind_some]
  cases progB x.P <;> rfl
theorem begins {xs ys : List Int} (hl : xs.length ≤ 140737488351232) : r0_Begins (xs ++ ys) xs = some true := by
  have h : decide ((xs.length : Int) ≤ ((xs ++ ys).length : Int)) = true := by simp; omega
  have h2 : sub' (xs ++ ys) 0 (xs.length : Int) = some xs := by
    simp only [sub']
    rw [if_pos ⟨by omega, by omega, by simp⟩]
    simp
  simp only [r0_Begins, h, cond_true, h2, Option.bind_some, eqWords hl]
theorem pure_SeqGoes (x : T_Script) (hx : Wf_Script x) : l5_SeqGoes x = some true := by
  obtain ⟨h, h1, hL⟩ := heavy hx
  simp only [l5_SeqGoes, h1, may_b hx, Option.bind_some]
  cases h with
  | true => rfl
  | false =>
    have hL := hL rfl
    cases hb : (progB x.P && stB x.S) with
    | false => rfl
    | true =>
      simp only [Bool.and_eq_true] at hb
      have hp := hb.1
      have hI := st_inv hx.h2 hb.2
      have o0 := hL.out
      have r17 := go_ran hp 17 x.S hI (by omega)
      obtain ⟨o1, e1, l1⟩ := r17.out
      have b1 : (go x.P 17 x.S).1.Out.length ≤ 3017 := by rw [e1]; simp; omega
      have r25 := go_ran hp 25 _ r17.inv (by omega)
      obtain ⟨o2, e2, l2⟩ := r25.out
      have b2 : (go x.P 25 (go x.P 17 x.S).1).1.Out.length ≤ 3042 := by rw [e2]; simp; omega
      have s17 := seq_run hx.h1 hp hI (n := 17) (by omega) (by omega)
      have s25 := seq_run hx.h1 hp r17.inv (n := 25) (by omega) (by omega)
      have s42 := seq_run hx.h1 hp hI (n := 42) (by omega) (by omega)
      have ha := go_add x.P 17 25 x.S
      have k1 : seq_Run x.P x.S 17 = some ((go x.P 17 x.S).1, ((go x.P 17 x.S).2 : Int), 0) := s17
      have k2 : seq_Run x.P (go x.P 17 x.S).1 25 = some ((go x.P 25 (go x.P 17 x.S).1).1, ((go x.P 25 (go x.P 17 x.S).1).2 : Int), 0) := s25
      have k3 : seq_Run x.P x.S 42 = some ((go x.P 25 (go x.P 17 x.S).1).1, (((go x.P 17 x.S).2 + (go x.P 25 (go x.P 17 x.S).1).2 : Nat) : Int), 0) := by
        have := s42
        rw [show (42 : Nat) = 17 + 25 from rfl, ha] at this
        exact this
      have hstop := fun h => go_runs (p := x.P) (s := x.S) 42 (by rw [show (42 : Nat) = 17 + 25 from rfl, ha]; exact h)
      rw [show (42 : Nat) = 17 + 25 from rfl, ha] at hstop
      generalize hs1 : (go x.P 17 x.S).1 = s1 at *
      generalize hs2 : (go x.P 25 s1).1 = s2 at *
      generalize hn1 : (go x.P 17 x.S).2 = n1 at *
      generalize hn2 : (go x.P 25 s1).2 = n2 at *
      have c1 : n1 ≤ 42 ∧ n2 ≤ 42 := by
        have q : ∀ n s, (go x.P n s).2 ≤ n := by
          intro n
          induction n with
          | zero => intro s; simp [go]
          | succ n ih =>
            intro s
            by_cases hs : s.Stop = 0
            · simp only [go, hs, if_true]; have := ih (stp x.P s); omega
            · simp [go, hs]
        have := q 17 x.S; have := q 25 s1
        omega
      have w1 : IntKind.i64.wrap ((n1 : Int) + (n2 : Int)) = ((n1 + n2 : Nat) : Int) := by rw [wrap_i64 (by omega) (by omega)]; omega
      have q1 := eqState (s := s2) (inv_short r25.inv (by omega) (by omega))
      have q2 := begins (xs := x.S.Out) (ys := o1) (by omega)
      have q3 := begins (xs := s1.Out) (ys := o2) (by omega)
      rw [← e1] at q2
      rw [← e2] at q3
      have t1 := r17.taken
      have t2 := r25.taken
      have i1 := r17.inn
      have i2 := r25.inn
      have q4 := eqWords (xs := x.S.In_) (by have := hI.inl; omega)
      have q4' : r0_EqWords s2.In_ x.S.In_ = some true := by rw [i2, i1]; exact q4
      have d1 : decide (s1.Taken < x.S.Taken) = false := by simp; omega
      have d2 : decide (s2.Taken < s1.Taken) = false := by simp; omega
      simp only [Bool.not_true, cond_false, cut, l5_SeqGoes_k1, k1, k2, k3, Option.bind_some, l5_num, ne_eq, not_true_eq_false, decide_false, w1, q1, q2, q3, q4', d1, d2, l5_SeqGoes_k2, wakes]
      by_cases hs : s2.Stop = 0
      · have := hstop hs
        have h42 : ((n1 + n2 : Nat) : Int) = 42 := by omega
        simp [hs, h42]
      · have k4 := seq_step1 hx.h1 hp r25.inv (by omega)
        rw [go_stopped 1 hs] at k4
        simp [hs, k4, q1]
end Go.Proofs.Ytadajdcbeegabaa
