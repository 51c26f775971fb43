/- The law PipeGoes, as a plain statement: proved. -/
import Derived.Test.YthbpicnbkdbbmaaLPipeGoes
import Derived.Test.YthbpicnbkdbbmaaPiW
namespace Go.Proofs.Ythbpicnbkdbbmaa
open Go Go.RowKit Fr
set_option linter.unusedVariables false
set_option linter.unusedSimpArgs false
set_option maxRecDepth 20000
theorem runf_stop {f : T_State → T_State} (n : Nat) {s : T_State} (h : s.Stop ≠ 0) : runf f n s = (s, 0) := by
  cases n with
  | zero => rfl
  | succ n => simp [runf, h]
theorem runf_plus {f : T_State → T_State} (n : Nat) : ∀ (m : Nat) (s : T_State), runf f (m + n) s = ((runf f n (runf f m s).1).1, (runf f m s).2 + (runf f n (runf f m s).1).2)
  | 0, s => by simp [runf]
  | m + 1, s => by
    rw [show m + 1 + n = (m + n) + 1 by omega]
    by_cases hs : s.Stop = 0
    · simp only [runf, hs, if_true, runf_plus n m (f s), Prod.mk.injEq, true_and]; omega
    · simp [runf, hs, runf_stop n hs]
theorem runf_most {f : T_State → T_State} : ∀ (n : Nat) (s : T_State), (runf f n s).2 ≤ n
  | 0, s => Nat.le_refl _
  | n + 1, s => by
    by_cases hs : s.Stop = 0
    · have := runf_most (f := f) n (f s); simp only [runf, hs, if_true]; omega
    · simp [runf, hs]
theorem runf_full {f : T_State → T_State} : ∀ (n : Nat) (s : T_State), (runf f n s).1.Stop = 0 → (runf f n s).2 = n
  | 0, s, _ => rfl
  | n + 1, s, h => by
    by_cases hs : s.Stop = 0
    · simp only [runf, hs, if_true] at h ⊢; rw [runf_full n _ h]
    · simp [runf, hs] at h
theorem runf_halt {f : T_State → T_State} (hf : ∀ s, PInv s → s.Stop = 0 → s.Out.length + 4 < 4294967296 → Nxt s (f s)) : ∀ (n : Nat) (s : T_State), PInv s → s.Out.length + 4 * n < 4294967296 → (s.Stop = 1 → s.Fly = []) → (runf f n s).1.Stop = 1 → (runf f n s).1.Fly = []
  | 0, s, _, _, h, h1 => h h1
  | n + 1, s, hP, hO, h, h1 => by
    by_cases hs : s.Stop = 0
    · have hN := hf s hP hs (by omega)
      obtain ⟨o, o1, o2⟩ := hN.out
      simp only [runf, hs, if_true] at h1 ⊢
      exact runf_halt hf n _ hN.inv (by rw [o1]; simp; omega) hN.halt h1
    · simp only [runf, hs, if_false] at h1 ⊢; exact h h1
theorem begins {a b : List Int} (h : a.length + b.length ≤ 140737488351232) : r0_Begins (a ++ b) a = some true := by
  have h1 : decide ((a.length : Int) ≤ ((a ++ b).length : Int)) = true := decide_eq_true (by simp; omega)
  have h2 : sub' (a ++ b) 0 (a.length : Int) = some a := by
    simp only [sub']
    rw [if_pos (by simp)]
    simp
  simp only [r0_Begins, h1, cond_true, h2, Option.bind_some, eqWords (xs := a) (by omega)]
theorem heavy0 : l5_Heavy (⟨[], (⟨[], [], [], 0, [], 0, [], 0, [], 0, 0⟩ : T_State), [], []⟩) = some false := by
  have h1 : l0_CodesWeight [] = some 0 := by
    simp only [l0_CodesWeight]
    exact loop_done (by rfl)
  have h2 : l0_StateWeight (⟨[], [], [], 0, [], 0, [], 0, [], 0, 0⟩ : T_State) = some 0 := by decide
  simp only [l5_Heavy, h1, h2, Option.bind_some]
  rfl
theorem pure_PipeGoes (x : T_Script) (hx : Wf_Script x) : l6_PipeGoes x = some true := by
  obtain ⟨h, h1, hL⟩ := heavy hx
  simp only [l6_PipeGoes, h1, Option.bind_some]
  cases h with
  | true => rfl
  | false =>
    have hL := hL rfl
    simp only [cond_false, may_b hx, Option.bind_some]
    cases hb : (pcodB x.C && ppB x.S) with
    | false => rfl
    | true =>
      simp only [Bool.and_eq_true] at hb
      have hp := hb.1
      have hP := pp_inv hx.h2 hb.2
      have hO := hL.out
      have hN : ∀ s, PInv s → s.Stop = 0 → s.Out.length + 4 < 4294967296 → Nxt s (cyc x.C s) := fun s hP hs hO => (cyc_of hp hP hs hO).2.2.2
      have r1 := pipe_run hx.h1 hp hP (n := 13) (by omega) (by omega)
      have n1 := runf_ran hN 13 x.S hP (by omega)
      obtain ⟨o1, e1, l1⟩ := n1.out
      have hO1 : (runf (cyc x.C) 13 x.S).1.Out.length ≤ x.S.Out.length + 52 := by rw [e1]; simp; omega
      have r2 := pipe_run hx.h1 hp n1.inv (n := 29) (by omega) (by omega)
      have n2 := runf_ran hN 29 _ n1.inv (by omega)
      obtain ⟨o2, e2, l2⟩ := n2.out
      have hO2 : (runf (cyc x.C) 29 (runf (cyc x.C) 13 x.S).1).1.Out.length ≤ x.S.Out.length + 52 + 116 := by rw [e2]; simp; omega
      have r3 := pipe_run hx.h1 hp hP (n := 42) (by omega) (by omega)
      have ha := runf_plus (f := cyc x.C) 29 13 x.S
      have hall := runf_full (f := cyc x.C) 42 x.S
      have hhalt : x.S.Stop = 0 → (runf (cyc x.C) 42 x.S).1.Stop = 1 → (runf (cyc x.C) 42 x.S).1.Fly = [] := fun h0 => runf_halt hN 42 x.S hP (by omega) (fun h => by rw [h0] at h; cases h)
      have k1 := runf_most (f := cyc x.C) 13 x.S
      have k2 := runf_most (f := cyc x.C) 29 (runf (cyc x.C) 13 x.S).1
      simp only [show 13 + 29 = 42 from rfl] at ha
      rw [ha] at r3 hall hhalt
      have b1 := begins (a := x.S.Out) (b := o1) (by omega)
      rw [← e1] at b1
      have b2 := begins (a := (runf (cyc x.C) 13 x.S).1.Out) (b := o2) (by omega)
      rw [← e2] at b2
      generalize hs1 : (runf (cyc x.C) 13 x.S).1 = s1 at *
      generalize (runf (cyc x.C) 13 x.S).2 = c1 at *
      generalize hs2 : (runf (cyc x.C) 29 s1).1 = s2 at *
      generalize (runf (cyc x.C) 29 s1).2 = c2 at *
      have p1 : r5_Pipe s1 = some true := by
        have f1 := n1.inv.inv.stack; have f2 := n1.inv.fly.len
        have g := pinv_may n1.inv
        rw [pipe_may_b (by omega) (by omega)] at g
        rw [r5_pipe_b (by omega) (by omega)]; exact g
      have f1 := n2.inv.inv.stack; have f2 := n2.inv.fly.len
      have g2 := pinv_may n2.inv
      have p2 : r5_Pipe s2 = some true := by
        have g := g2
        rw [pipe_may_b (by omega) (by omega)] at g
        rw [r5_pipe_b (by omega) (by omega)]; exact g
      have ck : pipe_Check s2 = some 0 := by simp only [pipe_Check, g2, Option.bind_some]; rfl
      have q := eqState (s := s2) (inv_short n2.inv (by omega) (by omega))
      have w : IntKind.i64.wrap ((c1 : Int) + (c2 : Int)) = ((c1 + c2 : Nat) : Int) := by rw [wrap_i64 (by omega) (by omega)]; omega
      have r1' : pipe_Run x.C x.S 13 = some (s1, (c1 : Int), 0) := r1
      have r2' : pipe_Run x.C s1 29 = some (s2, (c2 : Int), 0) := r2
      have r3' : pipe_Run x.C x.S 42 = some (s2, ((c1 + c2 : Nat) : Int), 0) := r3
      simp only [Bool.not_true, cond_false, cut, l6_PipeGoes_k1, r1', r2', r3', Option.bind_some, l6_num, ne_eq, not_true_eq_false, decide_false, w, q, b1, b2, p1, p2, ck, l6_PipeGoes_k2, heavy0, Bool.not_false, cond_true, wakes]
      by_cases ht : s2.Stop = 1
      · have ht0 : ¬ s2.Stop = 0 := by omega
        by_cases h0 : x.S.Stop = 0
        · have := hhalt h0 ht
          simp [ht, h0, this]
        · simp [ht, h0]
      · by_cases ht0 : s2.Stop = 0
        · have := hall ht0
          have h42 : ((c1 + c2 : Nat) : Int) = 42 := by omega
          simp [ht, ht0, h42]
        · simp [ht, ht0]
end Go.Proofs.Ythbpicnbkdbbmaa
