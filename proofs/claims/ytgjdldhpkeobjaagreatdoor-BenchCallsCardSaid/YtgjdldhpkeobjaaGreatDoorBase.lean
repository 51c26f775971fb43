/- Runs told by what comes step by step: a loop that counts up to a number, or ends ahead of it. -/
import Derived.Test.YtgjdldhpkeobjaaGreatDoorLo
import Derived.KernelRfl
import Derived.Test.YtgjdldhpkeobjaaGreatDoorLBenchCalls
import Derived.Test.YtgjdldhpkeobjaaGreatDoorIn
namespace Go.Proofs.YtgjdldhpkeobjaaGreatDoor
open Go Go.RowKit Fr
set_option linter.unusedVariables false
/-- A list is longer than a number: told by the list's head alone. -/
def ltn {α : Type} : Nat → List α → Bool
  | _, [] => false
  | 0, _ :: _ => true
  | n + 1, _ :: l => ltn n l
theorem ltn_eq {α : Type} : ∀ (n : Nat) (l : List α), ltn n l = decide (n < l.length)
  | _, [] => by simp [ltn]
  | 0, _ :: _ => by simp [ltn]
  | n + 1, _ :: l => by rw [ltn, ltn_eq n l]; simp
def ltl {α : Type} (x : Int) (l : List α) : Bool := match x with
  | .ofNat n => ltn n l
  | .negSucc _ => true
theorem ltl_eq {α : Type} (x : Int) (l : List α) : decide (x < (l.length : Int)) = ltl x l := by
  cases x with
  | ofNat n => rw [ltl, ltn_eq]; simp
  | negSucc n => rw [ltl]; exact decide_eq_true (by omega)
noncomputable def traj {σ : Type} (b : σ → Option σ) (s : σ) (n : Nat) : Option σ := Nat.rec (some s) (fun _ r => r.bind b) n
theorem traj_s {σ : Type} (b : σ → Option σ) (s : σ) (n : Nat) : traj b s (n + 1) = (traj b s n).bind b := rfl
theorem traj_add {σ : Type} (b : σ → Option σ) (s : σ) (m : Nat) : ∀ n, traj b s (m + n) = (traj b s m).bind fun t => traj b t n
  | 0 => by
    rw [Nat.add_zero]
    cases traj b s m <;> rfl
  | n + 1 => by
    rw [show m + (n + 1) = (m + n) + 1 from rfl, traj_s, traj_add b s m n]
    cases traj b s m <;> rfl
theorem traj_pre {σ : Type} {b : σ → Option σ} {s : σ} {m n : Nat} {t : σ} (h : traj b s (m + n) = some t) : ∃ u, traj b s m = some u := by
  rw [traj_add] at h
  cases e : traj b s m with
  | none => rw [e] at h; cases h
  | some u => exact ⟨u, rfl⟩
/-- A step of what has not stopped. -/
def stp {σ : Type} (alive : σ → Bool) (step : σ → Option σ) (s : σ) : Option σ := bif alive s then step s else none
theorem run_of {σ ρ S : Type} {b : σ → Option (Step σ ρ)} (mk : Int → S → σ) (fin : Int → S → ρ) {alive : S → Bool} {step : S → Option S} {n : Nat}
    (hn : ∀ (i : Nat) s t, i < n → alive s = true → step s = some t → b (mk (i : Int) s) = some (.next (mk ((i + 1 : Nat) : Int) t)))
    {s0 s : S} {m : Nat} (hm : m ≤ n) (h : traj (stp alive step) s0 m = some s) (he : b (mk (m : Int) s) = some (.done (fin (m : Int) s))) : loop b (mk 0 s0) = some (fin (m : Int) s) := by
  have key : ∀ k, k ≤ m → ∀ u, traj (stp alive step) s0 k = some u → loop b (mk 0 s0) = loop b (mk (k : Int) u) := by
    intro k
    induction k with
    | zero => intro _ u hu; obtain rfl := Option.some.inj (show some s0 = some u from hu); rfl
    | succ k ih =>
      intro hk u hu
      rw [traj_s] at hu
      cases e : traj (stp alive step) s0 k with
      | none => rw [e] at hu; cases hu
      | some v =>
        rw [e, Option.bind_some] at hu
        rw [ih (by omega) v e]
        have ha : alive v = true := by
          cases q : alive v with
          | true => rfl
          | false => rw [stp, q] at hu; cases hu
        rw [stp, ha, cond_true] at hu
        exact loop_next (hn k v u (by omega) ha hu)
  rw [key m (Nat.le_refl _) s h]
  exact loop_done he
theorem eq_self {b : Int → Option (Step Int Bool)} {xs : List Int} (hl : xs.length ≤ 140737488351232)
    (h1 : ∀ i : Nat, i < xs.length → b (i : Int) = some (.next (IntKind.i64.wrap ((i : Int) + 1)))) (h2 : b (xs.length : Int) = some (.done true)) : loop b 0 = some true := by
  obtain ⟨r, h, rfl⟩ := loop_ex (b := b) (fun i => 0 ≤ i ∧ i ≤ xs.length) (fun i => (xs.length - i).toNat) (fun r => r = true) (fun i hi => by
    obtain ⟨n, rfl⟩ := Int.eq_ofNat_of_zero_le hi.1
    by_cases h3 : n < xs.length
    · refine .inl ⟨_, h1 n h3, ?_, ?_⟩
      · rw [wrap_nat (by omega)]; omega
      · rw [wrap_nat (by omega)]; omega
    · have e : n = xs.length := by omega
      subst e
      exact .inr ⟨_, h2, rfl⟩) (xs.length + 1) 0 (by omega) (by omega)
  exact h
end Go.Proofs.YtgjdldhpkeobjaaGreatDoor
namespace Go.Proofs.YtgjdldhpkeobjaaGreatDoor
open Go Go.RowKit Fr
set_option linter.unusedVariables false
set_option maxRecDepth 20000
abbrev Tup : Type := Int × List Int × List Int × List Int × Int × List Int × Int × List Int × Int × List T_Write × Int × Int
def mkT (i : Int) (s : T_State) : Tup := (i, s.Regs, s.Mem, s.In_, s.Taken, s.Out, s.PC, s.Stack, s.Stop, s.Fly, s.Jump, s.Delay)
def live (s : T_State) : Bool := decide (s.Stop = 0)
/-- What comes first is told at once by the list's head. -/
noncomputable def actF : PSigma fun f : T_State → T_Ins → Int → Int → Option (T_State × Int × Int) => seq_Act = f := ⟨_, by
  funext a b c d
  unfold seq_Act seq_Act_k1 seq_Act_k2
  simp only [ltl_eq]
  exact rfl⟩
theorem actF_eq : seq_Act = actF.1 := actF.2
noncomputable def stepF : PSigma fun f : List T_Ins → T_State → Option T_State => seq_step = f := ⟨_, by
  funext a b
  unfold seq_step
  simp only [actF_eq]
  exact rfl⟩
theorem stepF_eq : seq_step = stepF.1 := stepF.2
noncomputable def issF : PSigma fun f : T_State → A4 T_Ins → Option (T_State × Bool) => pipe_issue = f := ⟨_, by
  funext a b
  unfold pipe_issue pipe_issue_b1
  simp only [actF_eq]
  exact rfl⟩
theorem issF_eq : pipe_issue = issF.1 := issF.2
noncomputable def hazF : PSigma fun f : List (A4 T_Ins) → T_State → Option T_State => hazard_Go = f := ⟨_, by
  funext a b
  unfold hazard_Go pipe_Go
  simp only [issF_eq]
  exact rfl⟩
theorem hazF_eq : hazard_Go = hazF.1 := hazF.2
noncomputable def doF : PSigma fun f : T_State → T_Ins → Int → Int → Int → Option (T_State × T_deed) => r5_do = f := ⟨_, by
  funext a b c d e
  unfold r5_do r5_do_k1
  simp only [ltl_eq]
  exact rfl⟩
theorem doF_eq : r5_do = doF.1 := doF.2
noncomputable def rstF : PSigma fun f : List T_Ins → T_State → Option T_State => r5_step = f := ⟨_, by
  funext a b
  unfold r5_step
  simp only [doF_eq]
  exact rfl⟩
theorem rstF_eq : r5_step = rstF.1 := rstF.2
noncomputable def risF : PSigma fun f : List (A4 T_Ins) → T_State → Option T_State => r5_issue = f := ⟨_, by
  funext a b
  unfold r5_issue r5_issue_b2
  simp only [doF_eq]
  exact rfl⟩
theorem risF_eq : r5_issue = risF.1 := risF.2
noncomputable def rcy (c : List (A4 T_Ins)) (s : T_State) : Option T_State := (r5_lands s).bind fun D0 => (r5_find c D0).bind fun Y0 => bif decide (0 ≤ Y0) then none else risF.1 c D0
section
variable {n : Int} {m : Nat} {s0 s t : T_State}
theorem seq_next {c : List T_Ins} {i : Nat} (hn : n ≤ 20000) (hi : (i : Int) < n) (ha : live s = true) (h : stepF.1 c s = some t) : seq_Run_b1 n c (mkT i s) = some (.next (mkT ((i + 1 : Nat) : Int) t)) := by
  have h' : seq_step c s = some t := by rw [stepF_eq]; exact h
  have e : seq_Run_b1 n c (mkT i s) = bif decide ((i : Int) < n) then bif decide (s.Stop = 0) then (seq_step c s).bind fun B0 => some (.next (mkT (IntKind.i64.wrap ((i : Int) + 1)) B0)) else some (.done (s, (i : Int), 0)) else some (.done (s, (i : Int), 0)) := rfl
  rw [e, decide_eq_true hi, show decide (s.Stop = 0) = true from ha, h', wrap_nat (by omega)]
  rfl
theorem seq_run {c : List T_Ins} (hn : n ≤ 20000) (hm : (m : Int) ≤ n) (h : traj (stp live (stepF.1 c)) s0 m = some s) (he : (m : Int) = n ∨ live s = false) : loop (seq_Run_b1 n c) (mkT 0 s0) = some (s, (m : Int), 0) := by
  obtain ⟨N, rfl⟩ := Int.eq_ofNat_of_zero_le (show 0 ≤ n by omega)
  refine run_of (n := N) mkT (fun i s => (s, i, 0)) (fun i s t hi ha hs => seq_next hn (by omega) ha hs) (by omega) h ?_
  have e : seq_Run_b1 (N : Int) c (mkT m s) = bif decide ((m : Int) < N) then bif decide (s.Stop = 0) then (seq_step c s).bind fun B0 => some (.next (mkT (IntKind.i64.wrap ((m : Int) + 1)) B0)) else some (.done (s, (m : Int), 0)) else some (.done (s, (m : Int), 0)) := rfl
  rw [e]
  rcases he with he | he
  · rw [decide_eq_false (by omega)]; rfl
  · rw [show decide (s.Stop = 0) = false from he]; cases decide ((m : Int) < N) <;> rfl
theorem haz_next {c : List (A4 T_Ins)} {i : Nat} (hn : n ≤ 20000) (hi : (i : Int) < n) (ha : live s = true) (h : hazF.1 c s = some t) : pipe_By_hazard_Go_b1 n c (mkT i s) = some (.next (mkT ((i + 1 : Nat) : Int) t)) := by
  have h' : hazard_Go c s = some t := by rw [hazF_eq]; exact h
  have e : pipe_By_hazard_Go_b1 n c (mkT i s) = bif decide ((i : Int) < n) then bif decide (s.Stop = 0) then (hazard_Go c s).bind fun B0 => some (.next (mkT (IntKind.i64.wrap ((i : Int) + 1)) B0)) else some (.done (s, (i : Int), 0)) else some (.done (s, (i : Int), 0)) := rfl
  rw [e, decide_eq_true hi, show decide (s.Stop = 0) = true from ha, h', wrap_nat (by omega)]
  rfl
theorem haz_run {c : List (A4 T_Ins)} (hn : n ≤ 20000) (hm : (m : Int) ≤ n) (h : traj (stp live (hazF.1 c)) s0 m = some s) (he : (m : Int) = n ∨ live s = false) : loop (pipe_By_hazard_Go_b1 n c) (mkT 0 s0) = some (s, (m : Int), 0) := by
  obtain ⟨N, rfl⟩ := Int.eq_ofNat_of_zero_le (show 0 ≤ n by omega)
  refine run_of (n := N) mkT (fun i s => (s, i, 0)) (fun i s t hi ha hs => haz_next hn (by omega) ha hs) (by omega) h ?_
  have e : pipe_By_hazard_Go_b1 (N : Int) c (mkT m s) = bif decide ((m : Int) < N) then bif decide (s.Stop = 0) then (hazard_Go c s).bind fun B0 => some (.next (mkT (IntKind.i64.wrap ((m : Int) + 1)) B0)) else some (.done (s, (m : Int), 0)) else some (.done (s, (m : Int), 0)) := rfl
  rw [e]
  rcases he with he | he
  · rw [decide_eq_false (by omega)]; rfl
  · rw [show decide (s.Stop = 0) = false from he]; cases decide ((m : Int) < N) <;> rfl
theorem rst_next {c : List T_Ins} {i : Nat} (hn : n ≤ 20000) (hi : (i : Int) < n) (ha : live s = true) (h : rstF.1 c s = some t) : r5_Run_b1 n c (mkT i s) = some (.next (mkT ((i + 1 : Nat) : Int) t)) := by
  have h' : r5_step c s = some t := by rw [rstF_eq]; exact h
  have e : r5_Run_b1 n c (mkT i s) = bif decide ((i : Int) < n) then bif decide (s.Stop = 0) then (r5_step c s).bind fun B0 => some (.next (mkT (IntKind.i64.wrap ((i : Int) + 1)) B0)) else some (.done (s, (i : Int))) else some (.done (s, (i : Int))) := rfl
  rw [e, decide_eq_true hi, show decide (s.Stop = 0) = true from ha, h', wrap_nat (by omega)]
  rfl
theorem rst_run {c : List T_Ins} (hn : n ≤ 20000) (hm : (m : Int) ≤ n) (h : traj (stp live (rstF.1 c)) s0 m = some s) (he : (m : Int) = n ∨ live s = false) : loop (r5_Run_b1 n c) (mkT 0 s0) = some (s, (m : Int)) := by
  obtain ⟨N, rfl⟩ := Int.eq_ofNat_of_zero_le (show 0 ≤ n by omega)
  refine run_of (n := N) mkT (fun i s => (s, i)) (fun i s t hi ha hs => rst_next hn (by omega) ha hs) (by omega) h ?_
  have e : r5_Run_b1 (N : Int) c (mkT m s) = bif decide ((m : Int) < N) then bif decide (s.Stop = 0) then (r5_step c s).bind fun B0 => some (.next (mkT (IntKind.i64.wrap ((m : Int) + 1)) B0)) else some (.done (s, (m : Int))) else some (.done (s, (m : Int))) := rfl
  rw [e]
  rcases he with he | he
  · rw [decide_eq_false (by omega)]; rfl
  · rw [show decide (s.Stop = 0) = false from he]; cases decide ((m : Int) < N) <;> rfl
theorem rcy_next {c : List (A4 T_Ins)} {i : Nat} (hn : n ≤ 20000) (hi : (i : Int) < n) (ha : live s = true) (h : rcy c s = some t) : r5_Cycles_b1 n true c (mkT i s) = some (.next (mkT ((i + 1 : Nat) : Int) t)) := by
  have e : r5_Cycles_b1 n true c (mkT i s) = cut (bif decide ((i : Int) < n) then bif decide (s.Stop = 0) then some (.next ()) else some (.done (.done (s, (i : Int)))) else some (.done (.done (s, (i : Int))))) (r5_Cycles_k2 s.Regs s.Mem s.In_ s.Taken s.Out s.PC s.Stack s.Stop s.Fly s.Jump s.Delay true c (i : Int)) := rfl
  rw [e, decide_eq_true hi, show decide (s.Stop = 0) = true from ha]
  have k : r5_Cycles_k2 s.Regs s.Mem s.In_ s.Taken s.Out s.PC s.Stack s.Stop s.Fly s.Jump s.Delay true c (i : Int) () = (r5_lands s).bind fun D0 => (r5_find c D0).bind fun Y0 => bif decide (0 ≤ Y0) then none else (risF.1 c D0).bind fun B0 => some (.next (mkT (IntKind.i64.wrap ((i : Int) + 1)) B0)) := by
    unfold r5_Cycles_k2
    rw [← risF_eq]
    rfl
  show r5_Cycles_k2 s.Regs s.Mem s.In_ s.Taken s.Out s.PC s.Stack s.Stop s.Fly s.Jump s.Delay true c (i : Int) () = _
  rw [k, wrap_nat (by omega)]
  unfold rcy at h
  obtain ⟨d, hd, h⟩ := ob h
  obtain ⟨y, hy, h⟩ := ob h
  rw [hd, Option.bind_some, hy, Option.bind_some]
  cases q : decide (0 ≤ y) with
  | true => rw [q] at h; cases h
  | false => rw [q, cond_false] at h; rw [cond_false, h]; rfl
theorem rcy_run {c : List (A4 T_Ins)} (hn : n ≤ 20000) (hm : (m : Int) ≤ n) (h : traj (stp live (rcy c)) s0 m = some s) (he : (m : Int) = n ∨ live s = false) : loop (r5_Cycles_b1 n true c) (mkT 0 s0) = some (s, (m : Int)) := by
  obtain ⟨N, rfl⟩ := Int.eq_ofNat_of_zero_le (show 0 ≤ n by omega)
  refine run_of (n := N) mkT (fun i s => (s, i)) (fun i s t hi ha hs => rcy_next hn (by omega) ha hs) (by omega) h ?_
  have e : r5_Cycles_b1 (N : Int) true c (mkT m s) = cut (bif decide ((m : Int) < N) then bif decide (s.Stop = 0) then some (.next ()) else some (.done (.done (s, (m : Int)))) else some (.done (.done (s, (m : Int))))) (r5_Cycles_k2 s.Regs s.Mem s.In_ s.Taken s.Out s.PC s.Stack s.Stop s.Fly s.Jump s.Delay true c (m : Int)) := rfl
  rw [e]
  rcases he with he | he
  · rw [decide_eq_false (by omega)]; rfl
  · rw [show decide (s.Stop = 0) = false from he]; cases decide ((m : Int) < N) <;> rfl
end
theorem equal_self {a : List Int} (h : a.length ≤ 1000) : slices_Equal_uint32_uint32 a a = some true := by
  simp only [slices_Equal_uint32_uint32, ne_eq, not_true_eq_false, decide_false, cond_false]
  exact eq_self (xs := a) (by omega) (fun i h => by
    have e : decide ((i : Int) < (a.length : Int)) = true := decide_eq_true (by omega)
    simp only [slices_Equal_uint32_uint32_b1, e, cond_true, at'_nat h, Option.bind_some, ne_eq, not_true_eq_false, decide_false, cond_false]) (by simp [slices_Equal_uint32_uint32_b1])
theorem words_self {a : List Int} (h : a.length ≤ 1000) : r0_EqWords a a = some true := by
  simp only [r0_EqWords, ne_eq, not_true_eq_false, decide_false, cond_false]
  exact eq_self (xs := a) (by omega) (fun i h => by
    have e : decide ((i : Int) < (a.length : Int)) = true := decide_eq_true (by omega)
    simp only [r0_EqWords_b1, e, cond_true, at'_nat h, Option.bind_some, ne_eq, not_true_eq_false, decide_false, cond_false]) (by simp [r0_EqWords_b1])
theorem sub_take {a : List Int} {k : Nat} (h : k ≤ a.length) : sub' a 0 (k : Int) = some (a.take k) := by
  rw [sub', if_pos ⟨by omega, by omega, by omega⟩]
  simp
/-- What one has put out is the head of what the other has. -/
theorem begins_of {a b : List Int} (h : a = b.take a.length) (hl : a.length ≤ 1000) : bench_begins a b = some true := by
  have hle : a.length ≤ b.length := by
    have := congrArg List.length h
    rw [List.length_take] at this
    omega
  have e : imin (a.length : Int) (b.length : Int) = (a.length : Int) := by
    unfold imin
    rw [if_neg (by omega)]
  rw [bench_begins, e, sub_take (Nat.le_refl _), sub_take hle, Option.bind_some, Option.bind_some, ← h, List.take_length, equal_self hl]
  rfl
/-- Two runs' ends that agree. -/
def Agree (A B : Option T_State) (sa sb : Int) : Prop := ∃ a b, A = some a ∧ B = some b ∧ a.Stop = sa ∧ b.Stop = sb ∧ a.Out = b.Out.take a.Out.length ∧ a.Out.length ≤ 1000 ∧
  (sa = 0 ∧ sb ≠ 6 ∨ sa = 1 ∧ sb = 1 ∧ b.Mem = a.Mem ∧ b.Out = a.Out ∧ b.Taken = a.Taken ∧ b.Regs = a.Regs ∧ a.Mem.length ≤ 1000 ∧ a.Regs.length ≤ 1000)
theorem agree0 {A B : Option T_State} {sb : Int} (hA : A.isSome = true := by kernel_rfl) (hB : B.isSome = true := by kernel_rfl) (h1 : (A.get hA).Stop = 0 := by kernel_rfl) (h2 : (B.get hB).Stop = sb := by kernel_rfl) (h3 : (A.get hA).Out = (B.get hB).Out.take (A.get hA).Out.length := by kernel_rfl) (h4 : decide ((A.get hA).Out.length ≤ 1000) = true := by kernel_rfl) (h5 : sb ≠ 6 := by decide) : Agree A B 0 sb :=
  ⟨A.get hA, B.get hB, (Option.some_get hA).symm, (Option.some_get hB).symm, h1, h2, h3, of_decide_eq_true h4, .inl ⟨rfl, h5⟩⟩
theorem agree1 {A B : Option T_State} (hA : A.isSome = true := by kernel_rfl) (hB : B.isSome = true := by kernel_rfl) (h1 : (A.get hA).Stop = 1 := by kernel_rfl) (h2 : (B.get hB).Stop = 1 := by kernel_rfl) (h4 : decide ((A.get hA).Out.length ≤ 1000) = true := by kernel_rfl)
    (m : (B.get hB).Mem = (A.get hA).Mem := by kernel_rfl) (o : (B.get hB).Out = (A.get hA).Out := by kernel_rfl) (t : (B.get hB).Taken = (A.get hA).Taken := by kernel_rfl) (r : (B.get hB).Regs = (A.get hA).Regs := by kernel_rfl) (lm : decide ((A.get hA).Mem.length ≤ 1000) = true := by kernel_rfl) (lr : decide ((A.get hA).Regs.length ≤ 1000) = true := by kernel_rfl) : Agree A B 1 1 :=
  ⟨A.get hA, B.get hB, (Option.some_get hA).symm, (Option.some_get hB).symm, h1, h2, by rw [o, List.take_length], of_decide_eq_true h4, .inr ⟨rfl, rfl, m, o, t, r, of_decide_eq_true lm, of_decide_eq_true lr⟩⟩
theorem same_of {a b : T_State} {sa sb : Int} (h : a.Stop = sa ∧ b.Stop = sb ∧ a.Out = b.Out.take a.Out.length ∧ a.Out.length ≤ 1000 ∧
    (sa = 0 ∧ sb ≠ 6 ∨ sa = 1 ∧ sb = 1 ∧ b.Mem = a.Mem ∧ b.Out = a.Out ∧ b.Taken = a.Taken ∧ b.Regs = a.Regs ∧ a.Mem.length ≤ 1000 ∧ a.Regs.length ≤ 1000)) : bench_same a b = some true := by
  obtain ⟨h1, h2, h3, h4, h5⟩ := h
  rcases h5 with ⟨rfl, h6⟩ | ⟨rfl, rfl, m, o, t, r, lm, lr⟩
  · rw [bench_same, decide_eq_true h1, cond_true, decide_eq_true (by rw [h2]; exact h6), cond_true, begins_of h3 h4]
    rfl
  · rw [bench_same, h1, h2, t, m, o, r, equal_self lm, equal_self h4, equal_self lr]
    simp
theorem rbegins_of {a b : List Int} (h : a = b.take a.length) (hl : a.length ≤ 1000) : ∃ k, r0_Begins a b = some k ∧ (k = true ∨ r0_Begins b a = some true) := by
  have hle : a.length ≤ b.length := by
    have := congrArg List.length h
    rw [List.length_take] at this
    omega
  have h2 : r0_Begins b a = some true := by
    rw [r0_Begins, decide_eq_true (show (a.length : Int) ≤ (b.length : Int) by omega), cond_true, sub_take hle, Option.bind_some, ← h, words_self hl]
    rfl
  by_cases e : b.length ≤ a.length
  · have q : a = b := by
      rw [h, List.take_of_length_le (by omega)]
    subst q
    exact ⟨true, h2, .inl rfl⟩
  · exact ⟨false, by rw [r0_Begins, decide_eq_false (by omega)]; rfl, .inr h2⟩
end Go.Proofs.YtgjdldhpkeobjaaGreatDoor
namespace Go.Proofs.YtgjdldhpkeobjaaGreatDoor
open Go Go.RowKit Fr
set_option linter.unusedVariables false
set_option maxRecDepth 20000
/-- A state that begins. -/
def st0 (data : List Int) (pc : Int) (xs : List Int) : T_State := ⟨List.replicate 16 0, cop (List.replicate 256 0) data, xs, 0, [], pc, [], 0, [], 0, 0⟩
theorem wakes_ok : l23_wakes = some true := by kernel_rfl
theorem upto_ok {xs : List Int} : seq_upto (xs.length : Int) [0] = some true := by kernel_rfl
theorem upto_n {n : Nat} (h : n ≤ 200) : seq_upto 20000 [(n : Int)] = some true := by
  have e1 : decide ((n : Int) < 0) = false := decide_eq_false (by omega)
  have e2 : decide ((20000 : Int) < (n : Int)) = false := decide_eq_false (by omega)
  have e3 : seq_upto_1 (n : Int) 20000 = some false := by
    rw [seq_upto_1, e1, cond_false, e2]
  have b0 : slices_IndexFunc_int_int_seq_upto_1_b1 [(n : Int)] 20000 0 = some (.next 1) := by
    have a0 : at' [(n : Int)] 0 = some (n : Int) := rfl
    have c0 : decide ((0 : Int) < (([(n : Int)] : List Int).length : Int)) = true := rfl
    rw [slices_IndexFunc_int_int_seq_upto_1_b1, c0, cond_true, a0, Option.bind_some, e3]
    rfl
  have b1 : slices_IndexFunc_int_int_seq_upto_1_b1 [(n : Int)] 20000 1 = some (.done (-1)) := rfl
  rw [seq_upto, slices_ContainsFunc_int_int_seq_upto_1, slices_IndexFunc_int_int_seq_upto_1, loop_next b0, loop_done b1]
  rfl
section
variable {xs : List Int} (h : xs.length ≤ 100)
include h
theorem h100 : decide (100 < (xs.length : Int)) = false := decide_eq_false (by omega)
theorem clone_ok : slices_Clone_uint32 xs = some xs := app'_le (by simp only [List.length_nil]; omega)
theorem words_ok : r0_CopyWords xs = some xs := loop_copied (by omega) fun _ _ => rfl
theorem new_ok : seq_New xs = some (⟨List.replicate 16 0, List.replicate 256 0, xs, 0, [], 0, [], 0, [], 0, 0⟩, 0) := by
  rw [seq_New, h100 h, clone_ok h]; kernel_rfl
theorem loaded_ok (data : List Int) (pc : Int) : image_loaded data pc xs = some (st0 data pc xs, 0) := by rw [image_loaded, new_ok h]; rfl
theorem rnew_ok : r5_New xs = some (⟨List.replicate 16 0, List.replicate 256 0, xs, 0, [], 0, [], 0, [], 0, 0⟩) := by
  rw [r5_New, words_ok h]; kernel_rfl
end
def Fine (X : T_Image) (F : T_Flat) (n : Int) (xs : List Int) : Prop := ∃ v, bench_Compare X F n xs = some (v, 0) ∧ r19_Compare X F n xs = some v ∧ v.Same = true ∧ v.Begins = true
theorem alike_next {X : T_Image} {F : T_Flat} {xs : List Int} {n m : Int} (hn : decide (n < 200) = true) (H : Fine X F n xs) (hq : (quo' .i64 n 3).bind (fun q => some (IntKind.i64.wrap ((IntKind.i64.wrap (n + 1)) + q))) = some m) : l23_alike_b1 (X, ⟨0, 0, 0⟩) (F, ⟨0, 0, 0⟩) xs n = some (.next m) := by
  obtain ⟨v, h1, h2, h3, h4⟩ := H
  obtain ⟨q, hq1, hq2⟩ := ob hq
  obtain rfl := Option.some.inj hq2
  have hv : eqb_Verdict v v = true := eqb_Verdict_iff.2 rfl
  rw [l23_alike_b1, hn, cond_true]
  simp only [h1, h2, h3, h4, hv, hq1, l23_num, Option.bind_some, ne_eq, not_true_eq_false, decide_false, cond_false, Bool.not_true]
theorem traj_seg {σ : Type} {b : σ → Option σ} {s t : σ} {c : Nat} (h : traj b s c = some t) (m : Nat) : traj b s (c + m) = traj b t m := by rw [traj_add, h]; rfl
theorem e' {α : Type} {x y : α} (h : x = y) : x = y := h
def tx0 : ByteArray := ByteArray.mk #[46, 103, 108, 111, 98, 97, 108, 32, 109, 97, 105, 110, 10, 109, 97, 105, 110, 58, 32, 105, 110, 32, 114, 49, 10, 108, 105, 32, 114, 50, 44, 32, 55, 10, 97, 110, 100, 32, 114, 49, 44, 32, 114, 49, 44, 32, 114, 50, 10, 108, 105, 32, 114, 49, 53, 44, 32, 50, 48, 48, 10, 99, 97, 108, 108, 32, 102, 97, 99, 116, 10, 111, 117, 116, 32, 114, 50, 10, 104, 97, 108, 116, 10, 102, 97, 99, 116, 58, 32, 98, 110, 122, 32, 114, 49, 44, 32, 109, 111, 114, 101, 10, 108, 105, 32, 114, 50, 44, 32, 49, 10, 114, 101, 116, 10, 109, 111, 114, 101, 58, 32, 115, 116, 32, 114, 49, 44, 32, 114, 49, 53, 44, 32, 48, 10, 97, 100, 100, 105, 32, 114, 49, 53, 44, 32, 114, 49, 53, 44, 32, 45, 49, 10, 97, 100, 100, 105, 32, 114, 49, 44, 32, 114, 49, 44, 32, 45, 49, 10, 99, 97, 108, 108, 32, 102, 97, 99, 116, 10, 97, 100, 100, 105, 32, 114, 49, 53, 44, 32, 114, 49, 53, 44, 32, 49, 10, 108, 100, 32, 114, 49, 44, 32, 114, 49, 53, 44, 32, 48, 10, 109, 117, 108, 32, 114, 50, 44, 32, 114, 50, 44, 32, 114, 49, 10, 114, 101, 116]
def imx0 : T_Image := ⟨[⟨⟨23, 2, 0, 0, 7, ByteArray.empty⟩, ⟨23, 15, 0, 0, 200, ByteArray.empty⟩, ⟨26, 1, 0, 0, 0, ByteArray.empty⟩, ⟨0, 0, 0, 0, 0, ByteArray.empty⟩⟩, ⟨⟨31, 0, 0, 0, 6, ByteArray.empty⟩, ⟨0, 0, 0, 0, 0, ByteArray.empty⟩, ⟨0, 0, 0, 0, 0, ByteArray.empty⟩, ⟨0, 0, 0, 0, 0, ByteArray.empty⟩⟩, ⟨⟨3, 1, 1, 2, 0, ByteArray.empty⟩, ⟨0, 0, 0, 0, 0, ByteArray.empty⟩, ⟨0, 0, 0, 0, 0, ByteArray.empty⟩, ⟨0, 0, 0, 0, 0, ByteArray.empty⟩⟩, ⟨⟨0, 0, 0, 0, 0, ByteArray.empty⟩, ⟨0, 0, 0, 0, 0, ByteArray.empty⟩, ⟨0, 0, 0, 0, 0, ByteArray.empty⟩, ⟨0, 0, 0, 0, 0, ByteArray.empty⟩⟩, ⟨⟨0, 0, 0, 0, 0, ByteArray.empty⟩, ⟨0, 0, 0, 0, 0, ByteArray.empty⟩, ⟨27, 0, 2, 0, 0, ByteArray.empty⟩, ⟨0, 0, 0, 0, 0, ByteArray.empty⟩⟩, ⟨⟨33, 0, 0, 0, 0, ByteArray.empty⟩, ⟨0, 0, 0, 0, 0, ByteArray.empty⟩, ⟨0, 0, 0, 0, 0, ByteArray.empty⟩, ⟨0, 0, 0, 0, 0, ByteArray.empty⟩⟩, ⟨⟨30, 0, 1, 0, 13, ByteArray.empty⟩, ⟨0, 0, 0, 0, 0, ByteArray.empty⟩, ⟨0, 0, 0, 0, 0, ByteArray.empty⟩, ⟨0, 0, 0, 0, 0, ByteArray.empty⟩⟩, ⟨⟨0, 0, 0, 0, 0, ByteArray.empty⟩, ⟨0, 0, 0, 0, 0, ByteArray.empty⟩, ⟨0, 0, 0, 0, 0, ByteArray.empty⟩, ⟨0, 0, 0, 0, 0, ByteArray.empty⟩⟩, ⟨⟨0, 0, 0, 0, 0, ByteArray.empty⟩, ⟨0, 0, 0, 0, 0, ByteArray.empty⟩, ⟨0, 0, 0, 0, 0, ByteArray.empty⟩, ⟨0, 0, 0, 0, 0, ByteArray.empty⟩⟩, ⟨⟨23, 2, 0, 0, 1, ByteArray.empty⟩, ⟨0, 0, 0, 0, 0, ByteArray.empty⟩, ⟨0, 0, 0, 0, 0, ByteArray.empty⟩, ⟨0, 0, 0, 0, 0, ByteArray.empty⟩⟩, ⟨⟨32, 0, 0, 0, 0, ByteArray.empty⟩, ⟨0, 0, 0, 0, 0, ByteArray.empty⟩, ⟨0, 0, 0, 0, 0, ByteArray.empty⟩, ⟨0, 0, 0, 0, 0, ByteArray.empty⟩⟩, ⟨⟨0, 0, 0, 0, 0, ByteArray.empty⟩, ⟨0, 0, 0, 0, 0, ByteArray.empty⟩, ⟨0, 0, 0, 0, 0, ByteArray.empty⟩, ⟨0, 0, 0, 0, 0, ByteArray.empty⟩⟩, ⟨⟨0, 0, 0, 0, 0, ByteArray.empty⟩, ⟨0, 0, 0, 0, 0, ByteArray.empty⟩, ⟨0, 0, 0, 0, 0, ByteArray.empty⟩, ⟨0, 0, 0, 0, 0, ByteArray.empty⟩⟩, ⟨⟨0, 0, 0, 0, 0, ByteArray.empty⟩, ⟨0, 0, 0, 0, 0, ByteArray.empty⟩, ⟨25, 0, 15, 1, 0, ByteArray.empty⟩, ⟨0, 0, 0, 0, 0, ByteArray.empty⟩⟩, ⟨⟨22, 15, 15, 0, -1, ByteArray.empty⟩, ⟨22, 1, 1, 0, -1, ByteArray.empty⟩, ⟨0, 0, 0, 0, 0, ByteArray.empty⟩, ⟨0, 0, 0, 0, 0, ByteArray.empty⟩⟩, ⟨⟨31, 0, 0, 0, 6, ByteArray.empty⟩, ⟨0, 0, 0, 0, 0, ByteArray.empty⟩, ⟨0, 0, 0, 0, 0, ByteArray.empty⟩, ⟨0, 0, 0, 0, 0, ByteArray.empty⟩⟩, ⟨⟨0, 0, 0, 0, 0, ByteArray.empty⟩, ⟨0, 0, 0, 0, 0, ByteArray.empty⟩, ⟨0, 0, 0, 0, 0, ByteArray.empty⟩, ⟨0, 0, 0, 0, 0, ByteArray.empty⟩⟩, ⟨⟨0, 0, 0, 0, 0, ByteArray.empty⟩, ⟨0, 0, 0, 0, 0, ByteArray.empty⟩, ⟨0, 0, 0, 0, 0, ByteArray.empty⟩, ⟨0, 0, 0, 0, 0, ByteArray.empty⟩⟩, ⟨⟨22, 15, 15, 0, 1, ByteArray.empty⟩, ⟨0, 0, 0, 0, 0, ByteArray.empty⟩, ⟨0, 0, 0, 0, 0, ByteArray.empty⟩, ⟨0, 0, 0, 0, 0, ByteArray.empty⟩⟩, ⟨⟨0, 0, 0, 0, 0, ByteArray.empty⟩, ⟨0, 0, 0, 0, 0, ByteArray.empty⟩, ⟨24, 1, 15, 0, 0, ByteArray.empty⟩, ⟨0, 0, 0, 0, 0, ByteArray.empty⟩⟩, ⟨⟨0, 0, 0, 0, 0, ByteArray.empty⟩, ⟨0, 0, 0, 0, 0, ByteArray.empty⟩, ⟨0, 0, 0, 0, 0, ByteArray.empty⟩, ⟨0, 0, 0, 0, 0, ByteArray.empty⟩⟩, ⟨⟨32, 0, 0, 0, 0, ByteArray.empty⟩, ⟨0, 0, 0, 0, 0, ByteArray.empty⟩, ⟨0, 0, 0, 0, 0, ByteArray.empty⟩, ⟨0, 0, 0, 0, 0, ByteArray.empty⟩⟩, ⟨⟨0, 0, 0, 0, 0, ByteArray.empty⟩, ⟨0, 0, 0, 0, 0, ByteArray.empty⟩, ⟨0, 0, 0, 0, 0, ByteArray.empty⟩, ⟨14, 2, 2, 1, 0, ByteArray.empty⟩⟩, ⟨⟨0, 0, 0, 0, 0, ByteArray.empty⟩, ⟨0, 0, 0, 0, 0, ByteArray.empty⟩, ⟨0, 0, 0, 0, 0, ByteArray.empty⟩, ⟨0, 0, 0, 0, 0, ByteArray.empty⟩⟩], [], 0⟩
def flx0 : T_Flat := ⟨[⟨26, 1, 0, 0, 0, ByteArray.empty⟩, ⟨23, 2, 0, 0, 7, ByteArray.empty⟩, ⟨3, 1, 1, 2, 0, ByteArray.empty⟩, ⟨23, 15, 0, 0, 200, ByteArray.empty⟩, ⟨31, 0, 0, 0, 7, ByteArray.empty⟩, ⟨27, 0, 2, 0, 0, ByteArray.empty⟩, ⟨33, 0, 0, 0, 0, ByteArray.empty⟩, ⟨30, 0, 1, 0, 10, ByteArray.empty⟩, ⟨23, 2, 0, 0, 1, ByteArray.empty⟩, ⟨32, 0, 0, 0, 0, ByteArray.empty⟩, ⟨25, 0, 15, 1, 0, ByteArray.empty⟩, ⟨22, 15, 15, 0, -1, ByteArray.empty⟩, ⟨22, 1, 1, 0, -1, ByteArray.empty⟩, ⟨31, 0, 0, 0, 7, ByteArray.empty⟩, ⟨22, 15, 15, 0, 1, ByteArray.empty⟩, ⟨24, 1, 15, 0, 0, ByteArray.empty⟩, ⟨14, 2, 2, 1, 0, ByteArray.empty⟩, ⟨32, 0, 0, 0, 0, ByteArray.empty⟩], [], 0⟩
theorem build0 : r19_Build [⟨false, [tx0]⟩] = some (imx0, ⟨0, 0, 0⟩) := by kernel_rfl
theorem model0 : r19_Model [⟨false, [tx0]⟩] = some (flx0, ⟨0, 0, 0⟩) := by kernel_rfl
theorem mayX0 : link_May imx0 = some true := by kernel_rfl
theorem mayF0 : image_May flx0 = some true := by kernel_rfl
theorem codeX0 : pipe_Code imx0.Code = some true := by kernel_rfl
theorem progF0 : seq_Program flx0.Code = some true := by kernel_rfl
abbrev sX0 (xs : List Int) : T_State := st0 imx0.Data imx0.Entry xs
abbrev sF0 (xs : List Int) : T_State := st0 flx0.Data flx0.Entry xs
noncomputable abbrev PA0 (s : T_State) (m : Nat) : Option T_State := traj (stp live (stepF.1 flx0.Code)) s m
noncomputable abbrev PB0 (s : T_State) (m : Nat) : Option T_State := traj (stp live (hazF.1 imx0.Code)) s m
noncomputable abbrev RA0 (s : T_State) (m : Nat) : Option T_State := traj (stp live (rstF.1 flx0.Code)) s m
noncomputable abbrev RB0 (s : T_State) (m : Nat) : Option T_State := traj (stp live (rcy imx0.Code)) s m
def txt0 : ByteArray := ByteArray.mk #[109, 97, 105, 110, 58, 32, 105, 110, 32, 114, 49, 10, 108, 105, 32, 114, 50, 44, 32, 55, 10, 97, 110, 100, 32, 114, 49, 44, 32, 114, 49, 44, 32, 114, 50, 10, 108, 105, 32, 114, 49, 53, 44, 32, 50, 48, 48, 10, 99, 97, 108, 108, 32, 102, 97, 99, 116, 10, 111, 117, 116, 32, 114, 50, 10, 104, 97, 108, 116, 10, 102, 97, 99, 116, 58, 32, 98, 110, 122, 32, 114, 49, 44, 32, 109, 111, 114, 101, 10, 108, 105, 32, 114, 50, 44, 32, 49, 10, 114, 101, 116, 10, 109, 111, 114, 101, 58, 32, 115, 116, 32, 114, 49, 44, 32, 114, 49, 53, 44, 32, 48, 10, 97, 100, 100, 105, 32, 114, 49, 53, 44, 32, 114, 49, 53, 44, 32, 45, 49, 10, 97, 100, 100, 105, 32, 114, 49, 44, 32, 114, 49, 44, 32, 45, 49, 10, 99, 97, 108, 108, 32, 102, 97, 99, 116, 10, 97, 100, 100, 105, 32, 114, 49, 53, 44, 32, 114, 49, 53, 44, 32, 49, 10, 108, 100, 32, 114, 49, 44, 32, 114, 49, 53, 44, 32, 48, 10, 109, 117, 108, 32, 114, 50, 44, 32, 114, 50, 44, 32, 114, 49, 10, 114, 101, 116]
section
variable {xs : List Int} (h : xs.length ≤ 100)
include h
theorem loadX0 : image_Load imx0 xs = some (sX0 xs, 0) := by rw [image_Load, mayX0, loaded_ok h]; rfl
theorem loadF0 : image_Flat flx0 xs = some (sF0 xs, 0) := by rw [image_Flat, mayF0, loaded_ok h]; rfl
theorem coreX0 : seq_Core (sX0 xs) = some true := by
  unfold seq_Core
  rw [show (sX0 xs).In_ = xs from rfl, show (sX0 xs).Taken = 0 from rfl, h100 h, upto_ok]; kernel_rfl
theorem coreF0 : seq_Core (sF0 xs) = some true := by
  unfold seq_Core
  rw [show (sF0 xs).In_ = xs from rfl, show (sF0 xs).Taken = 0 from rfl, h100 h, upto_ok]; kernel_rfl
theorem pmayX0 : pipe_May (sX0 xs) = some true := by rw [pipe_May, coreX0 h]; kernel_rfl
theorem smayF0 : seq_May (sF0 xs) = some true := by rw [seq_May, coreF0 h]; kernel_rfl
theorem ownX0 : seq_Own (sX0 xs) = some (sX0 xs) := by
  unfold seq_Own
  rw [show (sX0 xs).In_ = xs from rfl, clone_ok h]; kernel_rfl
theorem ownF0 : seq_Own (sF0 xs) = some (sF0 xs) := by
  unfold seq_Own
  rw [show (sF0 xs).In_ = xs from rfl, clone_ok h]; kernel_rfl
theorem rloadX0 : r19_Load imx0.Data imx0.Entry xs = some (sX0 xs) := by rw [r19_Load, rnew_ok h]; kernel_rfl
theorem rloadF0 : r19_Load flx0.Data flx0.Entry xs = some (sF0 xs) := by rw [r19_Load, rnew_ok h]; kernel_rfl
theorem copyX0 : r0_CopyState (sX0 xs) = some (sX0 xs) := by
  unfold r0_CopyState
  rw [show (sX0 xs).In_ = xs from rfl, words_ok h]; kernel_rfl
theorem copyF0 : r0_CopyState (sF0 xs) = some (sF0 xs) := by
  unfold r0_CopyState
  rw [show (sF0 xs).In_ = xs from rfl, words_ok h]; kernel_rfl
theorem cmpP0 {n ma mb : Nat} {sa sb : Int} (hn : n ≤ 200) (ea : ma ≤ n) (eb : mb ≤ 4 * n + 8) (fa : ma = n ∨ sa ≠ 0) (fb : mb = 4 * n + 8 ∨ sb ≠ 0)
    (H : Agree (traj (stp live (stepF.1 flx0.Code)) (sF0 xs) ma) (traj (stp live (hazF.1 imx0.Code)) (sX0 xs) mb) sa sb) : bench_Compare imx0 flx0 (n : Int) xs = some (⟨ma, mb, sa, sb, true, true⟩, 0) := by
  obtain ⟨a, b, hA, hB, q⟩ := H
  have hs := same_of q
  obtain ⟨q1, q2, q3, q4, _⟩ := q
  have w : IntKind.i64.wrap ((IntKind.i64.wrap (4 * (n : Int))) + 8) = ((4 * n + 8 : Nat) : Int) := by
    rw [wrap_i64 (n := 4 * (n : Int)) (by omega) (by omega), wrap_i64 (by omega) (by omega)]; omega
  have rA : seq_Run flx0.Code (sF0 xs) (n : Int) = some (a, (ma : Int), 0) := by
    have e := seq_run (n := (n : Int)) (c := flx0.Code) (by omega) (by omega) hA (fa.imp (fun h => by omega) (fun h => decide_eq_false (by rw [q1]; exact h)))
    rw [seq_Run, progF0, smayF0 h, ownF0 h, upto_n (by omega)]
    exact e
  have rB : hazard_Run imx0.Code (sX0 xs) (((4 * n + 8 : Nat) : Int)) = some (b, (mb : Int), 0) := by
    have e := haz_run (n := ((4 * n + 8 : Nat) : Int)) (c := imx0.Code) (by omega) (by omega) hB (fb.imp (fun h => by omega) (fun h => decide_eq_false (by rw [q2]; exact h)))
    rw [hazard_Run, pipe_By_hazard_Go, codeX0, pmayX0 h, ownX0 h]
    simp only [Option.bind_some, Bool.not_true, cond_false]
    rw [decide_eq_false (by omega), decide_eq_false (by omega), cond_false, cond_false]
    change (loop (pipe_By_hazard_Go_b1 _ imx0.Code) (mkT 0 (sX0 xs))).bind _ = _
    rw [e]
    rfl
  rw [bench_Compare, loadX0 h, loadF0 h]
  simp only [Option.bind_some, ne_eq, not_true_eq_false, decide_false, cond_false]
  rw [decide_eq_false (show ¬ (n : Int) < 0 by omega), decide_eq_false (show ¬ (4000 : Int) < n by omega), cond_false, cond_false, rA, Option.bind_some, w, rB, Option.bind_some, hs, Option.bind_some, begins_of q3 q4, Option.bind_some, q1, q2]
theorem cmpR0 {n ma mb : Nat} {sa sb : Int} (hn : n ≤ 200) (ea : ma ≤ n) (eb : mb ≤ 4 * n + 8) (fa : ma = n ∨ sa ≠ 0) (fb : mb = 4 * n + 8 ∨ sb ≠ 0)
    (H : Agree (traj (stp live (rstF.1 flx0.Code)) (sF0 xs) ma) (traj (stp live (rcy imx0.Code)) (sX0 xs) mb) sa sb) : r19_Compare imx0 flx0 (n : Int) xs = some ⟨ma, mb, sa, sb, true, true⟩ := by
  obtain ⟨a, b, hA, hB, q1, q2, q3, q4, q5⟩ := H
  have w : IntKind.i64.wrap ((IntKind.i64.wrap (4 * (n : Int))) + 8) = ((4 * n + 8 : Nat) : Int) := by
    rw [wrap_i64 (n := 4 * (n : Int)) (by omega) (by omega), wrap_i64 (by omega) (by omega)]; omega
  have rA : r5_Run flx0.Code (sF0 xs) (n : Int) = some (a, (ma : Int)) := by
    have e := rst_run (n := (n : Int)) (c := flx0.Code) (by omega) (by omega) hA (fa.imp (fun h => by omega) (fun h => decide_eq_false (by rw [q1]; exact h)))
    rw [r5_Run, copyF0 h]
    exact e
  have rB : r5_Cycles imx0.Code (sX0 xs) (((4 * n + 8 : Nat) : Int)) true = some (b, (mb : Int)) := by
    have e := rcy_run (n := ((4 * n + 8 : Nat) : Int)) (c := imx0.Code) (by omega) (by omega) hB (fb.imp (fun h => by omega) (fun h => decide_eq_false (by rw [q2]; exact h)))
    rw [r5_Cycles, copyX0 h]
    exact e
  rw [r19_Compare, rloadF0 h, Option.bind_some, rA, Option.bind_some]
  simp only [cut, r19_Compare_k1, rloadX0 h, Option.bind_some, w, rB, r19_Compare_k2]
  obtain ⟨k, hk, hk2⟩ := rbegins_of q3 q4
  have fin : r19_Compare_k3 a.Stop b.Stop (ma : Int) (mb : Int) a.Mem b.Mem a.Taken b.Taken a.Out b.Out a.Regs b.Regs true = some ⟨ma, mb, sa, sb, true, true⟩ := by
    rw [r19_Compare_k3, q1, q2]
    rcases q5 with ⟨rfl, h6⟩ | ⟨rfl, rfl, m, o, t, r, lm, lr⟩
    · simp [h6]
    · rw [m, o, t, r, words_self lm, words_self q4, words_self lr]
      simp
  rw [hk, Option.bind_some]
  rcases hk2 with rfl | hk2
  · exact fin
  · cases k with
    | true => exact fin
    | false => rw [cond_false, hk2]; exact fin
theorem fine0 {n ma mb : Nat} {sa sb : Int} 
    (H1 : Agree (traj (stp live (stepF.1 flx0.Code)) (sF0 xs) ma) (traj (stp live (hazF.1 imx0.Code)) (sX0 xs) mb) sa sb)
    (H2 : Agree (traj (stp live (rstF.1 flx0.Code)) (sF0 xs) ma) (traj (stp live (rcy imx0.Code)) (sX0 xs) mb) sa sb)
    (hn : n ≤ 200 := by decide) (ea : ma ≤ n := by decide) (eb : mb ≤ 4 * n + 8 := by decide) (fa : ma = n ∨ sa ≠ 0 := by decide) (fb : mb = 4 * n + 8 ∨ sb ≠ 0 := by decide) : Fine imx0 flx0 (n : Int) xs :=
  ⟨_, cmpP0 h hn ea eb fa fb H1, cmpR0 h hn ea eb fa fb H2, rfl, rfl⟩
omit h in
theorem alike0 (H : Fine imx0 flx0 0 xs ∧ Fine imx0 flx0 1 xs ∧ Fine imx0 flx0 2 xs ∧ Fine imx0 flx0 3 xs ∧ Fine imx0 flx0 5 xs ∧ Fine imx0 flx0 7 xs ∧ Fine imx0 flx0 10 xs ∧ Fine imx0 flx0 14 xs ∧ Fine imx0 flx0 19 xs ∧ Fine imx0 flx0 26 xs ∧ Fine imx0 flx0 35 xs ∧ Fine imx0 flx0 47 xs ∧ Fine imx0 flx0 63 xs ∧ Fine imx0 flx0 85 xs ∧ Fine imx0 flx0 114 xs ∧ Fine imx0 flx0 153 xs) : l23_alike txt0 xs = some true := by
  obtain ⟨H0, H1, H2, H3, H5, H7, H10, H14, H19, H26, H35, H47, H63, H85, H114, H153⟩ := H
  rw [l23_alike, show cat' (ByteArray.mk #[46, 103, 108, 111, 98, 97, 108, 32, 109, 97, 105, 110, 10]) txt0 = some tx0 by kernel_rfl, Option.bind_some, build0, Option.bind_some, model0, Option.bind_some]
  change loop (l23_alike_b1 (imx0, ⟨0, 0, 0⟩) (flx0, ⟨0, 0, 0⟩) xs) 0 = some true
  rw [loop_next (alike_next rfl H0 (m := 1) rfl), loop_next (alike_next rfl H1 (m := 2) rfl), loop_next (alike_next rfl H2 (m := 3) rfl), loop_next (alike_next rfl H3 (m := 5) rfl), loop_next (alike_next rfl H5 (m := 7) rfl), loop_next (alike_next rfl H7 (m := 10) rfl), loop_next (alike_next rfl H10 (m := 14) rfl), loop_next (alike_next rfl H14 (m := 19) rfl), loop_next (alike_next rfl H19 (m := 26) rfl), loop_next (alike_next rfl H26 (m := 35) rfl), loop_next (alike_next rfl H35 (m := 47) rfl), loop_next (alike_next rfl H47 (m := 63) rfl), loop_next (alike_next rfl H63 (m := 85) rfl), loop_next (alike_next rfl H85 (m := 114) rfl), loop_next (alike_next rfl H114 (m := 153) rfl), loop_next (alike_next rfl H153 (m := 205) rfl)]
  exact loop_done (by rw [l23_alike_b1, wakes_ok]; rfl)
end
end Go.Proofs.YtgjdldhpkeobjaaGreatDoor
