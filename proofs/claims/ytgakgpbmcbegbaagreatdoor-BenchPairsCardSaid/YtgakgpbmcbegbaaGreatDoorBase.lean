/- Runs told by what comes step by step: a loop that counts up to a number, or ends ahead of it. -/
import Derived.Test.YtgakgpbmcbegbaaGreatDoorLo
import Derived.KernelRfl
import Derived.Test.YtgakgpbmcbegbaaGreatDoorLBenchPairs
import Derived.Test.YtgakgpbmcbegbaaGreatDoorIn
namespace Go.Proofs.YtgakgpbmcbegbaaGreatDoor
open Go Go.RowKit Fr
set_option linter.unusedVariables false
/-- A list is longer than a number: told by the list's head alone. -/
def ltn {α : Type} : Nat → List α → Bool
  | _, [] => false
  | 0, _ :: _ => true
  | n + 1, _ :: l => ltn n l
theorem ltn_eq {α : Type} : ∀ (n : Nat) (l : List α), ltn n l = decide (n < l.length)
  | _, [] => by simp [ltn]
  | 0, _ :: _ => by simp [ltn]
  | n + 1, _ :: l => by rw [ltn, ltn_eq n l]; simp
def ltl {α : Type} (x : Int) (l : List α) : Bool := match x with
  | .ofNat n => ltn n l
  | .negSucc _ => true
theorem ltl_eq {α : Type} (x : Int) (l : List α) : decide (x < (l.length : Int)) = ltl x l := by
  cases x with
  | ofNat n => rw [ltl, ltn_eq]; simp
  | negSucc n => rw [ltl]; exact decide_eq_true (by omega)
noncomputable def traj {σ : Type} (b : σ → Option σ) (s : σ) (n : Nat) : Option σ := Nat.rec (some s) (fun _ r => r.bind b) n
theorem traj_s {σ : Type} (b : σ → Option σ) (s : σ) (n : Nat) : traj b s (n + 1) = (traj b s n).bind b := rfl
theorem traj_add {σ : Type} (b : σ → Option σ) (s : σ) (m : Nat) : ∀ n, traj b s (m + n) = (traj b s m).bind fun t => traj b t n
  | 0 => by
    rw [Nat.add_zero]
    cases traj b s m <;> rfl
  | n + 1 => by
    rw [show m + (n + 1) = (m + n) + 1 from rfl, traj_s, traj_add b s m n]
    cases traj b s m <;> rfl
theorem traj_pre {σ : Type} {b : σ → Option σ} {s : σ} {m n : Nat} {t : σ} (h : traj b s (m + n) = some t) : ∃ u, traj b s m = some u := by
  rw [traj_add] at h
  cases e : traj b s m with
  | none => rw [e] at h; cases h
  | some u => exact ⟨u, rfl⟩
/-- A step of what has not stopped. -/
def stp {σ : Type} (alive : σ → Bool) (step : σ → Option σ) (s : σ) : Option σ := bif alive s then step s else none
theorem run_of {σ ρ S : Type} {b : σ → Option (Step σ ρ)} (mk : Int → S → σ) (fin : Int → S → ρ) {alive : S → Bool} {step : S → Option S} {n : Nat}
    (hn : ∀ (i : Nat) s t, i < n → alive s = true → step s = some t → b (mk (i : Int) s) = some (.next (mk ((i + 1 : Nat) : Int) t)))
    {s0 s : S} {m : Nat} (hm : m ≤ n) (h : traj (stp alive step) s0 m = some s) (he : b (mk (m : Int) s) = some (.done (fin (m : Int) s))) : loop b (mk 0 s0) = some (fin (m : Int) s) := by
  have key : ∀ k, k ≤ m → ∀ u, traj (stp alive step) s0 k = some u → loop b (mk 0 s0) = loop b (mk (k : Int) u) := by
    intro k
    induction k with
    | zero => intro _ u hu; obtain rfl := Option.some.inj (show some s0 = some u from hu); rfl
    | succ k ih =>
      intro hk u hu
      rw [traj_s] at hu
      cases e : traj (stp alive step) s0 k with
      | none => rw [e] at hu; cases hu
      | some v =>
        rw [e, Option.bind_some] at hu
        rw [ih (by omega) v e]
        have ha : alive v = true := by
          cases q : alive v with
          | true => rfl
          | false => rw [stp, q] at hu; cases hu
        rw [stp, ha, cond_true] at hu
        exact loop_next (hn k v u (by omega) ha hu)
  rw [key m (Nat.le_refl _) s h]
  exact loop_done he
theorem eq_self {b : Int → Option (Step Int Bool)} {xs : List Int} (hl : xs.length ≤ 140737488351232)
    (h1 : ∀ i : Nat, i < xs.length → b (i : Int) = some (.next (IntKind.i64.wrap ((i : Int) + 1)))) (h2 : b (xs.length : Int) = some (.done true)) : loop b 0 = some true := by
  obtain ⟨r, h, rfl⟩ := loop_ex (b := b) (fun i => 0 ≤ i ∧ i ≤ xs.length) (fun i => (xs.length - i).toNat) (fun r => r = true) (fun i hi => by
    obtain ⟨n, rfl⟩ := Int.eq_ofNat_of_zero_le hi.1
    by_cases h3 : n < xs.length
    · refine .inl ⟨_, h1 n h3, ?_, ?_⟩
      · rw [wrap_nat (by omega)]; omega
      · rw [wrap_nat (by omega)]; omega
    · have e : n = xs.length := by omega
      subst e
      exact .inr ⟨_, h2, rfl⟩) (xs.length + 1) 0 (by omega) (by omega)
  exact h
end Go.Proofs.YtgakgpbmcbegbaaGreatDoor
namespace Go.Proofs.YtgakgpbmcbegbaaGreatDoor
open Go Go.RowKit Fr
set_option linter.unusedVariables false
set_option maxRecDepth 20000
abbrev Tup : Type := Int × List Int × List Int × List Int × Int × List Int × Int × List Int × Int × List T_Write × Int × Int
def mkT (i : Int) (s : T_State) : Tup := (i, s.Regs, s.Mem, s.In_, s.Taken, s.Out, s.PC, s.Stack, s.Stop, s.Fly, s.Jump, s.Delay)
def live (s : T_State) : Bool := decide (s.Stop = 0)
noncomputable def rcy (c : List (A4 T_Ins)) (s : T_State) : Option T_State := (r5_lands s).bind fun D0 => (r5_find c D0).bind fun Y0 => bif decide (0 ≤ Y0) then none else r5_issue c D0
section
variable {n : Int} {m : Nat} {s0 s t : T_State}
theorem seq_next {c : List T_Ins} {i : Nat} (hn : n ≤ 20000) (hi : (i : Int) < n) (ha : live s = true) (h : seq_step c s = some t) : seq_Run_b1 n c (mkT i s) = some (.next (mkT ((i + 1 : Nat) : Int) t)) := by
  have h' : seq_step c s = some t := h
  have e : seq_Run_b1 n c (mkT i s) = bif decide ((i : Int) < n) then bif decide (s.Stop = 0) then (seq_step c s).bind fun B0 => some (.next (mkT (IntKind.i64.wrap ((i : Int) + 1)) B0)) else some (.done (s, (i : Int), 0)) else some (.done (s, (i : Int), 0)) := rfl
  rw [e, decide_eq_true hi, show decide (s.Stop = 0) = true from ha, h', wrap_nat (by omega)]
  rfl
theorem seq_run {c : List T_Ins} (hn : n ≤ 20000) (hm : (m : Int) ≤ n) (h : traj (stp live (seq_step c)) s0 m = some s) (he : (m : Int) = n ∨ live s = false) : loop (seq_Run_b1 n c) (mkT 0 s0) = some (s, (m : Int), 0) := by
  obtain ⟨N, rfl⟩ := Int.eq_ofNat_of_zero_le (show 0 ≤ n by omega)
  refine run_of (n := N) mkT (fun i s => (s, i, 0)) (fun i s t hi ha hs => seq_next hn (by omega) ha hs) (by omega) h ?_
  have e : seq_Run_b1 (N : Int) c (mkT m s) = bif decide ((m : Int) < N) then bif decide (s.Stop = 0) then (seq_step c s).bind fun B0 => some (.next (mkT (IntKind.i64.wrap ((m : Int) + 1)) B0)) else some (.done (s, (m : Int), 0)) else some (.done (s, (m : Int), 0)) := rfl
  rw [e]
  rcases he with he | he
  · rw [decide_eq_false (by omega)]; rfl
  · rw [show decide (s.Stop = 0) = false from he]; cases decide ((m : Int) < N) <;> rfl
theorem haz_next {c : List (A4 T_Ins)} {i : Nat} (hn : n ≤ 20000) (hi : (i : Int) < n) (ha : live s = true) (h : hazard_Go c s = some t) : pipe_By_hazard_Go_b1 n c (mkT i s) = some (.next (mkT ((i + 1 : Nat) : Int) t)) := by
  have h' : hazard_Go c s = some t := h
  have e : pipe_By_hazard_Go_b1 n c (mkT i s) = bif decide ((i : Int) < n) then bif decide (s.Stop = 0) then (hazard_Go c s).bind fun B0 => some (.next (mkT (IntKind.i64.wrap ((i : Int) + 1)) B0)) else some (.done (s, (i : Int), 0)) else some (.done (s, (i : Int), 0)) := rfl
  rw [e, decide_eq_true hi, show decide (s.Stop = 0) = true from ha, h', wrap_nat (by omega)]
  rfl
theorem haz_run {c : List (A4 T_Ins)} (hn : n ≤ 20000) (hm : (m : Int) ≤ n) (h : traj (stp live (hazard_Go c)) s0 m = some s) (he : (m : Int) = n ∨ live s = false) : loop (pipe_By_hazard_Go_b1 n c) (mkT 0 s0) = some (s, (m : Int), 0) := by
  obtain ⟨N, rfl⟩ := Int.eq_ofNat_of_zero_le (show 0 ≤ n by omega)
  refine run_of (n := N) mkT (fun i s => (s, i, 0)) (fun i s t hi ha hs => haz_next hn (by omega) ha hs) (by omega) h ?_
  have e : pipe_By_hazard_Go_b1 (N : Int) c (mkT m s) = bif decide ((m : Int) < N) then bif decide (s.Stop = 0) then (hazard_Go c s).bind fun B0 => some (.next (mkT (IntKind.i64.wrap ((m : Int) + 1)) B0)) else some (.done (s, (m : Int), 0)) else some (.done (s, (m : Int), 0)) := rfl
  rw [e]
  rcases he with he | he
  · rw [decide_eq_false (by omega)]; rfl
  · rw [show decide (s.Stop = 0) = false from he]; cases decide ((m : Int) < N) <;> rfl
theorem rst_next {c : List T_Ins} {i : Nat} (hn : n ≤ 20000) (hi : (i : Int) < n) (ha : live s = true) (h : r5_step c s = some t) : r5_Run_b1 n c (mkT i s) = some (.next (mkT ((i + 1 : Nat) : Int) t)) := by
  have h' : r5_step c s = some t := h
  have e : r5_Run_b1 n c (mkT i s) = bif decide ((i : Int) < n) then bif decide (s.Stop = 0) then (r5_step c s).bind fun B0 => some (.next (mkT (IntKind.i64.wrap ((i : Int) + 1)) B0)) else some (.done (s, (i : Int))) else some (.done (s, (i : Int))) := rfl
  rw [e, decide_eq_true hi, show decide (s.Stop = 0) = true from ha, h', wrap_nat (by omega)]
  rfl
theorem rst_run {c : List T_Ins} (hn : n ≤ 20000) (hm : (m : Int) ≤ n) (h : traj (stp live (r5_step c)) s0 m = some s) (he : (m : Int) = n ∨ live s = false) : loop (r5_Run_b1 n c) (mkT 0 s0) = some (s, (m : Int)) := by
  obtain ⟨N, rfl⟩ := Int.eq_ofNat_of_zero_le (show 0 ≤ n by omega)
  refine run_of (n := N) mkT (fun i s => (s, i)) (fun i s t hi ha hs => rst_next hn (by omega) ha hs) (by omega) h ?_
  have e : r5_Run_b1 (N : Int) c (mkT m s) = bif decide ((m : Int) < N) then bif decide (s.Stop = 0) then (r5_step c s).bind fun B0 => some (.next (mkT (IntKind.i64.wrap ((m : Int) + 1)) B0)) else some (.done (s, (m : Int))) else some (.done (s, (m : Int))) := rfl
  rw [e]
  rcases he with he | he
  · rw [decide_eq_false (by omega)]; rfl
  · rw [show decide (s.Stop = 0) = false from he]; cases decide ((m : Int) < N) <;> rfl
theorem rcy_next {c : List (A4 T_Ins)} {i : Nat} (hn : n ≤ 20000) (hi : (i : Int) < n) (ha : live s = true) (h : rcy c s = some t) : r5_Cycles_b1 n true c (mkT i s) = some (.next (mkT ((i + 1 : Nat) : Int) t)) := by
  have e : r5_Cycles_b1 n true c (mkT i s) = cut (bif decide ((i : Int) < n) then bif decide (s.Stop = 0) then some (.next ()) else some (.done (.done (s, (i : Int)))) else some (.done (.done (s, (i : Int))))) (r5_Cycles_k2 s.Regs s.Mem s.In_ s.Taken s.Out s.PC s.Stack s.Stop s.Fly s.Jump s.Delay true c (i : Int)) := rfl
  rw [e, decide_eq_true hi, show decide (s.Stop = 0) = true from ha]
  have k : r5_Cycles_k2 s.Regs s.Mem s.In_ s.Taken s.Out s.PC s.Stack s.Stop s.Fly s.Jump s.Delay true c (i : Int) () = (r5_lands s).bind fun D0 => (r5_find c D0).bind fun Y0 => bif decide (0 ≤ Y0) then none else (r5_issue c D0).bind fun B0 => some (.next (mkT (IntKind.i64.wrap ((i : Int) + 1)) B0)) := by
    unfold r5_Cycles_k2
    rfl
  show r5_Cycles_k2 s.Regs s.Mem s.In_ s.Taken s.Out s.PC s.Stack s.Stop s.Fly s.Jump s.Delay true c (i : Int) () = _
  rw [k, wrap_nat (by omega)]
  unfold rcy at h
  obtain ⟨d, hd, h⟩ := ob h
  obtain ⟨y, hy, h⟩ := ob h
  rw [hd, Option.bind_some, hy, Option.bind_some]
  cases q : decide (0 ≤ y) with
  | true => rw [q] at h; cases h
  | false => rw [q, cond_false] at h; rw [cond_false, h]; rfl
theorem rcy_run {c : List (A4 T_Ins)} (hn : n ≤ 20000) (hm : (m : Int) ≤ n) (h : traj (stp live (rcy c)) s0 m = some s) (he : (m : Int) = n ∨ live s = false) : loop (r5_Cycles_b1 n true c) (mkT 0 s0) = some (s, (m : Int)) := by
  obtain ⟨N, rfl⟩ := Int.eq_ofNat_of_zero_le (show 0 ≤ n by omega)
  refine run_of (n := N) mkT (fun i s => (s, i)) (fun i s t hi ha hs => rcy_next hn (by omega) ha hs) (by omega) h ?_
  have e : r5_Cycles_b1 (N : Int) true c (mkT m s) = cut (bif decide ((m : Int) < N) then bif decide (s.Stop = 0) then some (.next ()) else some (.done (.done (s, (m : Int)))) else some (.done (.done (s, (m : Int))))) (r5_Cycles_k2 s.Regs s.Mem s.In_ s.Taken s.Out s.PC s.Stack s.Stop s.Fly s.Jump s.Delay true c (m : Int)) := rfl
  rw [e]
  rcases he with he | he
  · rw [decide_eq_false (by omega)]; rfl
  · rw [show decide (s.Stop = 0) = false from he]; cases decide ((m : Int) < N) <;> rfl
end
theorem equal_self {a : List Int} (h : a.length ≤ 1000) : slices_Equal_uint32_uint32 a a = some true := by
  simp only [slices_Equal_uint32_uint32, ne_eq, not_true_eq_false, decide_false, cond_false]
  exact eq_self (xs := a) (by omega) (fun i h => by
    have e : decide ((i : Int) < (a.length : Int)) = true := decide_eq_true (by omega)
    simp only [slices_Equal_uint32_uint32_b1, e, cond_true, at'_nat h, Option.bind_some, ne_eq, not_true_eq_false, decide_false, cond_false]) (by simp [slices_Equal_uint32_uint32_b1])
theorem words_self {a : List Int} (h : a.length ≤ 1000) : r0_EqWords a a = some true := by
  simp only [r0_EqWords, ne_eq, not_true_eq_false, decide_false, cond_false]
  exact eq_self (xs := a) (by omega) (fun i h => by
    have e : decide ((i : Int) < (a.length : Int)) = true := decide_eq_true (by omega)
    simp only [r0_EqWords_b1, e, cond_true, at'_nat h, Option.bind_some, ne_eq, not_true_eq_false, decide_false, cond_false]) (by simp [r0_EqWords_b1])
theorem sub_take {a : List Int} {k : Nat} (h : k ≤ a.length) : sub' a 0 (k : Int) = some (a.take k) := by
  rw [sub', if_pos ⟨by omega, by omega, by omega⟩]
  simp
/-- What one has put out is the head of what the other has. -/
theorem begins_of {a b : List Int} (h : a = b.take a.length) (hl : a.length ≤ 1000) : bench_begins a b = some true := by
  have hle : a.length ≤ b.length := by
    have := congrArg List.length h
    rw [List.length_take] at this
    omega
  have e : imin (a.length : Int) (b.length : Int) = (a.length : Int) := by
    unfold imin
    rw [if_neg (by omega)]
  rw [bench_begins, e, sub_take (Nat.le_refl _), sub_take hle, Option.bind_some, Option.bind_some, ← h, List.take_length, equal_self hl]
  rfl
/-- Two runs' ends that agree. -/
def Agree (A B : Option T_State) (sa sb : Int) : Prop := ∃ a b, A = some a ∧ B = some b ∧ a.Stop = sa ∧ b.Stop = sb ∧ a.Out = b.Out.take a.Out.length ∧ a.Out.length ≤ 1000 ∧
  (sa = 0 ∧ sb ≠ 6 ∨ sa = 1 ∧ sb = 1 ∧ b.Mem = a.Mem ∧ b.Out = a.Out ∧ b.Taken = a.Taken ∧ b.Regs = a.Regs ∧ a.Mem.length ≤ 1000 ∧ a.Regs.length ≤ 1000)
theorem agree0 {A B : Option T_State} {sb : Int} (hA : A.isSome = true := by kernel_rfl) (hB : B.isSome = true := by kernel_rfl) (h1 : (A.get hA).Stop = 0 := by kernel_rfl) (h2 : (B.get hB).Stop = sb := by kernel_rfl) (h3 : (A.get hA).Out = (B.get hB).Out.take (A.get hA).Out.length := by kernel_rfl) (h4 : decide ((A.get hA).Out.length ≤ 1000) = true := by kernel_rfl) (h5 : sb ≠ 6 := by decide) : Agree A B 0 sb :=
  ⟨A.get hA, B.get hB, (Option.some_get hA).symm, (Option.some_get hB).symm, h1, h2, h3, of_decide_eq_true h4, .inl ⟨rfl, h5⟩⟩
theorem agree1 {A B : Option T_State} (hA : A.isSome = true := by kernel_rfl) (hB : B.isSome = true := by kernel_rfl) (h1 : (A.get hA).Stop = 1 := by kernel_rfl) (h2 : (B.get hB).Stop = 1 := by kernel_rfl) (h4 : decide ((A.get hA).Out.length ≤ 1000) = true := by kernel_rfl)
    (m : (B.get hB).Mem = (A.get hA).Mem := by kernel_rfl) (o : (B.get hB).Out = (A.get hA).Out := by kernel_rfl) (t : (B.get hB).Taken = (A.get hA).Taken := by kernel_rfl) (r : (B.get hB).Regs = (A.get hA).Regs := by kernel_rfl) (lm : decide ((A.get hA).Mem.length ≤ 1000) = true := by kernel_rfl) (lr : decide ((A.get hA).Regs.length ≤ 1000) = true := by kernel_rfl) : Agree A B 1 1 :=
  ⟨A.get hA, B.get hB, (Option.some_get hA).symm, (Option.some_get hB).symm, h1, h2, by rw [o, List.take_length], of_decide_eq_true h4, .inr ⟨rfl, rfl, m, o, t, r, of_decide_eq_true lm, of_decide_eq_true lr⟩⟩
theorem same_of {a b : T_State} {sa sb : Int} (h : a.Stop = sa ∧ b.Stop = sb ∧ a.Out = b.Out.take a.Out.length ∧ a.Out.length ≤ 1000 ∧
    (sa = 0 ∧ sb ≠ 6 ∨ sa = 1 ∧ sb = 1 ∧ b.Mem = a.Mem ∧ b.Out = a.Out ∧ b.Taken = a.Taken ∧ b.Regs = a.Regs ∧ a.Mem.length ≤ 1000 ∧ a.Regs.length ≤ 1000)) : bench_same a b = some true := by
  obtain ⟨h1, h2, h3, h4, h5⟩ := h
  rcases h5 with ⟨rfl, h6⟩ | ⟨rfl, rfl, m, o, t, r, lm, lr⟩
  · rw [bench_same, decide_eq_true h1, cond_true, decide_eq_true (by rw [h2]; exact h6), cond_true, begins_of h3 h4]
    rfl
  · rw [bench_same, h1, h2, t, m, o, r, equal_self lm, equal_self h4, equal_self lr]
    simp
theorem rbegins_of {a b : List Int} (h : a = b.take a.length) (hl : a.length ≤ 1000) : ∃ k, r0_Begins a b = some k ∧ (k = true ∨ r0_Begins b a = some true) := by
  have hle : a.length ≤ b.length := by
    have := congrArg List.length h
    rw [List.length_take] at this
    omega
  have h2 : r0_Begins b a = some true := by
    rw [r0_Begins, decide_eq_true (show (a.length : Int) ≤ (b.length : Int) by omega), cond_true, sub_take hle, Option.bind_some, ← h, words_self hl]
    rfl
  by_cases e : b.length ≤ a.length
  · have q : a = b := by
      rw [h, List.take_of_length_le (by omega)]
    subst q
    exact ⟨true, h2, .inl rfl⟩
  · exact ⟨false, by rw [r0_Begins, decide_eq_false (by omega)]; rfl, .inr h2⟩
end Go.Proofs.YtgakgpbmcbegbaaGreatDoor
namespace Go.Proofs.YtgakgpbmcbegbaaGreatDoor
open Go Go.RowKit Fr
set_option linter.unusedVariables false
set_option linter.unusedSimpArgs false
set_option maxRecDepth 20000
noncomputable section
def G_seq_step (A_ : T_State → T_Ins → Int → Int → Option (T_State × Int × Int)) (a0 : (List T_Ins)) (a1 : T_State) : Option T_State :=
  bif decide ((a0.length : Int) ≤ a1.PC) then none else (at' a0 a1.PC).bind fun x2 => (at' a1.Regs x2.A).bind fun x15 => (at' a1.Regs x2.B).bind fun x24 => (A_ a1 x2 x15 x24).bind fun r33 => cut (σ := (Int × Int × (List Int) × (List Int) × (List Int) × Int × (List Int) × Int × (List Int) × Int × (List T_Write) × Int × Int)) (bif decide (r33.2.2 = 0) then (seq_Turn r33.1 x2 x15 (IntKind.i64.wrap (r33.1.PC + 1))).bind fun B0 => bif B0.2.2.1 then some (.next (B0.2.2.2, B0.2.1, B0.1.Regs, B0.1.Mem, B0.1.In_, B0.1.Taken, B0.1.Out, B0.1.PC, B0.1.Stack, B0.1.Stop, B0.1.Fly, B0.1.Jump, B0.1.Delay)) else some (.next (B0.2.2.2, IntKind.i64.wrap (r33.1.PC + 1), B0.1.Regs, B0.1.Mem, B0.1.In_, B0.1.Taken, B0.1.Out, B0.1.PC, B0.1.Stack, B0.1.Stop, B0.1.Fly, B0.1.Jump, B0.1.Delay)) else some (.next (r33.2.2, IntKind.i64.wrap (r33.1.PC + 1), r33.1.Regs, r33.1.Mem, r33.1.In_, r33.1.Taken, r33.1.Out, r33.1.PC, r33.1.Stack, r33.1.Stop, r33.1.Fly, r33.1.Jump, r33.1.Delay))) (seq_step_k1 x2 r33)
theorem G_seq_step_eq : seq_step = G_seq_step seq_Act := rfl
def G_pipe_issue_b1 (A_ : T_State → T_Ins → Int → Int → Option (T_State × Int × Int)) (a1 : (A4 T_Ins)) (r2 : (List Int)) : (Bool × Int × (List Int) × (List Int) × (List Int) × Int × (List Int) × Int × (List Int) × Int × (List T_Write) × Int × Int) → Option (Step (Bool × Int × (List Int) × (List Int) × (List Int) × Int × (List Int) × Int × (List Int) × Int × (List T_Write) × Int × Int) (T_State × Bool)) := fun (G0, I0, J0, K0, M0, N0, R0, T0, U0, V0, X0, Y0, Z0) => bif decide (I0 < 4) then (at' [a1.x0, a1.x1, a1.x2, a1.x3] I0).bind fun E0 => (at' r2 E0.A).bind fun B1 => (at' r2 E0.B).bind fun D1 => (A_ (⟨J0, K0, M0, N0, R0, T0, U0, V0, X0, Y0, Z0⟩ : T_State) E0 B1 D1).bind fun D0 => cut (σ := (Bool × Int × (List Int) × (List Int) × (List Int) × Int × (List Int) × Int × (List Int) × Int × (List T_Write) × Int × Int)) (bif decide (D0.2.2 = 0) then (seq_Turn D0.1 E0 B1 (imin (IntKind.i64.wrap ((IntKind.i64.wrap (D0.1.PC + 1)) + 2)) 1024)).bind fun B0 => bif B0.2.2.1 then some (.next (true, B0.2.2.2, B0.1.Regs, B0.1.Mem, B0.1.In_, B0.1.Taken, B0.1.Out, B0.1.PC, B0.1.Stack, B0.1.Stop, B0.1.Fly, B0.2.1, 2)) else some (.next (G0, B0.2.2.2, B0.1.Regs, B0.1.Mem, B0.1.In_, B0.1.Taken, B0.1.Out, B0.1.PC, B0.1.Stack, B0.1.Stop, B0.1.Fly, B0.1.Jump, B0.1.Delay)) else some (.next (G0, D0.2.2, D0.1.Regs, D0.1.Mem, D0.1.In_, D0.1.Taken, D0.1.Out, D0.1.PC, D0.1.Stack, D0.1.Stop, D0.1.Fly, D0.1.Jump, D0.1.Delay))) (pipe_issue_k2 E0 D0 I0) else some (.done (((⟨J0, K0, M0, N0, R0, T0, U0, V0, X0, Y0, Z0⟩ : T_State), G0)))
theorem G_pipe_issue_b1_eq : pipe_issue_b1 = G_pipe_issue_b1 seq_Act := rfl
def G_pipe_issue (A_ : T_State → T_Ins → Int → Int → Option (T_State × Int × Int)) (a0 : T_State) (a1 : (A4 T_Ins)) : Option (T_State × Bool) :=
  (slices_Clone_uint32 a0.Regs).bind fun r2 => loop (σ := (Bool × Int × (List Int) × (List Int) × (List Int) × Int × (List Int) × Int × (List Int) × Int × (List T_Write) × Int × Int)) (G_pipe_issue_b1 A_ a1 r2) (false, 0, a0.Regs, a0.Mem, a0.In_, a0.Taken, a0.Out, a0.PC, a0.Stack, a0.Stop, a0.Fly, a0.Jump, a0.Delay)
theorem G_pipe_issue_eq : pipe_issue = G_pipe_issue seq_Act := rfl
def G_pipe_Go (A_ : T_State → T_Ins → Int → Int → Option (T_State × Int × Int)) (a0 : (List (A4 T_Ins))) (a1 : T_State) : Option T_State :=
  bif decide ((a0.length : Int) ≤ a1.PC) then none else (at' a0 a1.PC).bind fun x2 => (G_pipe_issue A_ a1 x2).bind fun r14 => bif decide (r14.1.Stop = 1) then (pipe_settle r14.1).bind fun r45 => some (r45) else bif decide (r14.1.Stop ≠ 0) then none else cut (σ := Bool) (bif !r14.2 then some (.next (decide (0 < r14.1.Delay))) else some (.next false)) (pipe_Go_k1 r14)
theorem G_pipe_Go_eq : pipe_Go = G_pipe_Go seq_Act := rfl
def G_hazard_Go (A_ : T_State → T_Ins → Int → Int → Option (T_State × Int × Int)) (a0 : (List (A4 T_Ins))) (a1 : T_State) : Option T_State :=
  (pipe_Land a1).bind fun r1 => (hazard_first a0 r1).bind fun r31 => bif decide (0 ≤ r31) then none else (G_pipe_Go A_ a0 r1).bind fun r33 => some (r33)
theorem G_hazard_Go_eq : hazard_Go = G_hazard_Go seq_Act := rfl
def G_r5_step (A_ : T_State → T_Ins → Int → Int → Int → Option (T_State × T_deed)) (a0 : (List T_Ins)) (a1 : T_State) : Option T_State :=
  bif decide ((a0.length : Int) ≤ a1.PC) then none else (at' a0 a1.PC).bind fun x2 => cut (σ := ((List Int) × (List Int) × (List Int) × Int × (List Int) × Int × (List Int) × Int × (List T_Write) × Int × Int × Bool × Int × Bool × Int × Int)) ((at' a1.Regs x2.A).bind fun D0 => (at' a1.Regs x2.B).bind fun E0 => (A_ a1 x2 D0 E0 (IntKind.i64.wrap (a1.PC + 1))).bind fun B0 => some (.next (B0.1.Regs, B0.1.Mem, B0.1.In_, B0.1.Taken, B0.1.Out, B0.1.PC, B0.1.Stack, B0.1.Stop, B0.1.Fly, B0.1.Jump, B0.1.Delay, B0.2.has, B0.2.result, B0.2.jumps, B0.2.to, B0.2.stop))) (r5_step_k1 x2)
theorem G_r5_step_eq : r5_step = G_r5_step r5_do := rfl
def G_r5_issue_b2 (A_ : T_State → T_Ins → Int → Int → Int → Option (T_State × T_deed)) (x2 : (A4 T_Ins)) (r15 : (List Int)) : (Bool × Int × (List Int) × (List Int) × (List Int) × Int × (List Int) × Int × (List Int) × Int × (List T_Write) × Int × Int) → Option (Step (Bool × Int × (List Int) × (List Int) × (List Int) × Int × (List Int) × Int × (List Int) × Int × (List T_Write) × Int × Int) (Step (Bool × (List Int) × (List Int) × (List Int) × Int × (List Int) × Int × (List Int) × Int × (List T_Write) × Int × Int) T_State)) := fun (I0, E0, J0, K0, M0, N0, R0, G0, T0, U0, V0, X0, Y0) => bif decide (E0 < 4) then (at' [x2.x0, x2.x1, x2.x2, x2.x3] E0).bind fun D0 => cut (σ := ((List Int) × (List Int) × (List Int) × Int × (List Int) × Int × (List Int) × Int × (List T_Write) × Int × Int × Bool × Int × Bool × Int × Int)) ((at' r15 D0.A).bind fun Z0 => (at' r15 D0.B).bind fun B1 => (A_ (⟨J0, K0, M0, N0, R0, G0, T0, U0, V0, X0, Y0⟩ : T_State) D0 Z0 B1 (imin (IntKind.i64.wrap ((IntKind.i64.wrap (G0 + 1)) + 2)) 1024)).bind fun B0 => some (.next (B0.1.Regs, B0.1.Mem, B0.1.In_, B0.1.Taken, B0.1.Out, B0.1.PC, B0.1.Stack, B0.1.Stop, B0.1.Fly, B0.1.Jump, B0.1.Delay, B0.2.has, B0.2.result, B0.2.jumps, B0.2.to, B0.2.stop))) (r5_issue_k3 I0 D0 E0) else some (.done (.next (I0, J0, K0, M0, N0, R0, G0, T0, U0, V0, X0, Y0)))
theorem G_r5_issue_b2_eq : r5_issue_b2 = G_r5_issue_b2 r5_do := rfl
def G_r5_issue (A_ : T_State → T_Ins → Int → Int → Int → Option (T_State × T_deed)) (a0 : (List (A4 T_Ins))) (a1 : T_State) : Option T_State :=
  bif decide ((a0.length : Int) ≤ a1.PC) then none else (at' a0 a1.PC).bind fun x2 => (r0_CopyWords a1.Regs).bind fun r15 => cut (σ := (Bool × (List Int) × (List Int) × (List Int) × Int × (List Int) × Int × (List Int) × Int × (List T_Write) × Int × Int)) (loop (σ := (Bool × Int × (List Int) × (List Int) × (List Int) × Int × (List Int) × Int × (List Int) × Int × (List T_Write) × Int × Int)) (G_r5_issue_b2 A_ x2 r15) (false, 0, a1.Regs, a1.Mem, a1.In_, a1.Taken, a1.Out, a1.PC, a1.Stack, a1.Stop, a1.Fly, a1.Jump, a1.Delay)) (r5_issue_k1)
theorem G_r5_issue_eq : r5_issue = G_r5_issue r5_do := rfl

end
/-- A step's two ends, mapped. -/
def smap {σ σ' ρ ρ' : Type} (ψ : σ → σ') (φ : ρ → ρ') : Step σ ρ → Step σ' ρ'
  | .next s => .next (ψ s)
  | .done r => .done (φ r)
section
variable {σ σ' τ τ' ρ ρ' α : Type}
theorem cut_cond (c : Bool) (a b : Option (Step σ ρ)) (k : σ → Option ρ) : cut (bif c then a else b) k = bif c then cut a k else cut b k := by cases c <;> rfl
theorem cut_next (s : σ) (k : σ → Option ρ) : cut (some (.next s)) k = k s := rfl
theorem cut_done (r : ρ) (k : σ → Option ρ) : cut (some (.done r)) k = some r := rfl
theorem cut_none (k : σ → Option ρ) : cut (none : Option (Step σ ρ)) k = none := rfl
theorem cut_bind (x : Option α) (g : α → Option (Step σ ρ)) (k : σ → Option ρ) : cut (x.bind g) k = x.bind fun a => cut (g a) k := by cases x <;> rfl
theorem map_cond (c : Bool) (a b : Option ρ) (φ : ρ → ρ') : (bif c then a else b).map φ = bif c then a.map φ else b.map φ := by cases c <;> rfl
theorem map_bind (x : Option α) (g : α → Option ρ) (φ : ρ → ρ') : (x.bind g).map φ = x.bind fun a => (g a).map φ := by cases x <;> rfl
theorem bind_of_map (x : Option α) (φ : α → τ) (g : τ → Option ρ) : (x.map φ).bind g = x.bind fun a => g (φ a) := by cases x <;> rfl
theorem cut_map {x : Option (Step σ ρ)} {x' : Option (Step σ' ρ')} {k : σ → Option ρ} {k' : σ' → Option ρ'} (ψ : σ' → σ) (φ : ρ' → ρ) (hx : x = x'.map (smap ψ φ)) (hk : ∀ s, k (ψ s) = (k' s).map φ) : cut x k = (cut x' k').map φ := by
  subst hx
  rcases x' with _ | (s | r)
  · rfl
  · exact hk s
  · rfl
theorem iter_map {b : σ → Option (Step σ ρ)} {b' : σ' → Option (Step σ' ρ')} (ψ : σ' → σ) (φ : ρ' → ρ) (h : ∀ s, b (ψ s) = (b' s).map (smap ψ φ)) : ∀ n s, iter b n (ψ s) = (iter b' n s).map φ
  | 0, s => rfl
  | n + 1, s => by
    rw [iter_s, iter_s, h]
    rcases b' s with _ | (t | r)
    · rfl
    · exact iter_map ψ φ h n t
    · rfl
theorem loop_map {b : σ → Option (Step σ ρ)} {b' : σ' → Option (Step σ' ρ')} (ψ : σ' → σ) (φ : ρ' → ρ) (h : ∀ s, b (ψ s) = (b' s).map (smap ψ φ)) (s : σ') : loop b (ψ s) = (loop b' s).map φ := by
  cases e : loop b' s with
  | some r =>
    obtain ⟨n, hn⟩ := loop_iff.1 e
    exact loop_iff.2 ⟨n, by rw [iter_map ψ φ h, hn]; rfl⟩
  | none =>
    cases e2 : loop b (ψ s) with
    | none => rfl
    | some r =>
      obtain ⟨n, hn⟩ := loop_iff.1 e2
      rw [iter_map ψ φ h] at hn
      cases q : iter b' n s with
      | none => rw [q] at hn; cases hn
      | some r' => rw [loop_iff.2 ⟨n, q⟩] at e; cases e
end
theorem loop_unit {ρ : Type} (c : Bool) (v : ρ) : loop (fun _ : Unit => bif c then (none : Option (Step Unit ρ)) else some (.done v)) () = bif c then none else some v := by
  cases c
  · exact loop_done rfl
  · cases h : loop (fun _ : Unit => bif true then (none : Option (Step Unit ρ)) else some (.done v)) () with
    | none => rfl
    | some r =>
      obtain ⟨n, hn⟩ := loop_iff.1 h
      cases n <;> cases hn
/-- A state whose inputs are told by number, over a list of inputs. -/
def fz (xs : List Int) (S : T_State) : T_State := ⟨S.Regs, S.Mem, xs, min S.Taken (xs.length : Int), S.Out, S.PC, S.Stack, S.Stop, S.Fly, S.Jump, S.Delay⟩
/-- The deed with inputs told by number. -/
noncomputable def actG (g : Int → Int) (S : T_State) (i : T_Ins) (a b : Int) : Option (T_State × Int × Int) :=
  bif decide (i.Op = 26) then bif decide (0 ≤ S.Taken) then some (⟨S.Regs, S.Mem, S.In_, S.Taken + 1, S.Out, S.PC, S.Stack, S.Stop, S.Fly, S.Jump, S.Delay⟩, g S.Taken, 0) else none else seq_Act S i a b
noncomputable def doG (g : Int → Int) (S : T_State) (i : T_Ins) (a b c : Int) : Option (T_State × T_deed) :=
  bif decide (i.Op = 26) then bif decide (0 ≤ S.Taken) then some (⟨S.Regs, S.Mem, S.In_, S.Taken + 1, S.Out, S.PC, S.Stack, S.Stop, S.Fly, S.Jump, S.Delay⟩, ⟨true, g S.Taken, false, 0, 0⟩) else none else r5_do S i a b c
def gOf (xs : List Int) (t : Int) : Int := (at' xs t).getD 0
section
variable {xs : List Int} (h : xs.length ≤ 100)
theorem turn_map (S : T_State) (i : T_Ins) (a b : Int) : seq_Turn (fz xs S) i a b = (seq_Turn S i a b).map fun r => (fz xs r.1, r.2) := by
  simp only [seq_Turn, seq_Turn_k1, seq_Turn_k2,  fz, cut_cond, cut_next, cut_done, cut_none, cut_bind, map_cond, map_bind, Option.map_some, Option.map_none]
include h
theorem act_map (S : T_State) (i : T_Ins) (a b : Int) : seq_Act (fz xs S) i a b = (actG (gOf xs) S i a b).map fun r => (fz xs r.1, r.2) := by
  by_cases e : i.Op = 26
  · have w : pair_Has 26 = false := rfl
    have w2 : word_Has 26 = false := rfl
    rw [actG, decide_eq_true e, cond_true]
    by_cases t0 : 0 ≤ S.Taken
    · rw [decide_eq_true t0, cond_true]
      by_cases t1 : S.Taken < (xs.length : Int)
      · obtain ⟨hl, ha⟩ := at'_int (xs := xs) t0 t1
        have m1 : min S.Taken (xs.length : Int) = S.Taken := by omega
        have m2 : min (S.Taken + 1) (xs.length : Int) = S.Taken + 1 := by omega
        have hw : IntKind.i64.wrap (S.Taken + 1) = S.Taken + 1 := wrap_i64 (by omega) (by omega)
        simp [seq_Act, seq_Act_k1, seq_Act_k2,  w, w2, e, fz, cut, m1, m2, t1, ha, hw, gOf]
      · have m1 : min S.Taken (xs.length : Int) = (xs.length : Int) := by omega
        have m2 : min (S.Taken + 1) (xs.length : Int) = (xs.length : Int) := by omega
        have ha : at' xs S.Taken = none := by
          rw [at', if_pos t0]
          exact List.getElem?_eq_none (by omega)
        simp [seq_Act, seq_Act_k1, seq_Act_k2,  w, w2, e, fz, cut, m1, m2, ha, gOf]
    · have m1 : min S.Taken (xs.length : Int) = S.Taken := by omega
      have t1 : S.Taken < (xs.length : Int) := by omega
      have ha : at' xs S.Taken = none := by rw [at', if_neg t0]
      rw [decide_eq_false t0, cond_false]
      simp [seq_Act, seq_Act_k1, seq_Act_k2,  w, w2, e, fz, cut, m1, t1, ha]
  · rw [actG, decide_eq_false e, cond_false]
    simp only [seq_Act, seq_Act_k1, seq_Act_k2,  fz, e, decide_false, cut_cond, cut_next, cut_done, cut_none, cut_bind, map_cond, map_bind, Option.map_some, Option.map_none, cond_false]
theorem do_map (S : T_State) (i : T_Ins) (a b c : Int) : r5_do (fz xs S) i a b c = (doG (gOf xs) S i a b c).map fun r => (fz xs r.1, r.2) := by
  by_cases e : i.Op = 26
  · have w : r1_Has 26 = false := rfl
    have w2 : r1_Paired 26 = false := rfl
    rw [doG, decide_eq_true e, cond_true]
    by_cases t0 : 0 ≤ S.Taken
    · rw [decide_eq_true t0, cond_true]
      by_cases t1 : S.Taken < (xs.length : Int)
      · obtain ⟨hl, ha⟩ := at'_int (xs := xs) t0 t1
        have m1 : min S.Taken (xs.length : Int) = S.Taken := by omega
        have m2 : min (S.Taken + 1) (xs.length : Int) = S.Taken + 1 := by omega
        have hw : IntKind.i64.wrap (S.Taken + 1) = S.Taken + 1 := wrap_i64 (by omega) (by omega)
        simp [r5_do,  w, w2, e, fz, cut, m1, m2, t1, ha, hw, gOf]
      · have m1 : min S.Taken (xs.length : Int) = (xs.length : Int) := by omega
        have m2 : min (S.Taken + 1) (xs.length : Int) = (xs.length : Int) := by omega
        have ha : at' xs S.Taken = none := by
          rw [at', if_pos t0]
          exact List.getElem?_eq_none (by omega)
        simp [r5_do,  w, w2, e, fz, cut, m1, m2, ha, gOf]
    · have m1 : min S.Taken (xs.length : Int) = S.Taken := by omega
      have t1 : S.Taken < (xs.length : Int) := by omega
      have ha : at' xs S.Taken = none := by rw [at', if_neg t0]
      rw [decide_eq_false t0, cond_false]
      simp [r5_do,  w, w2, e, fz, cut, m1, t1, ha]
  · rw [doG, decide_eq_false e, cond_false]
    simp only [r5_do,  fz, e, decide_false, cut_cond, cut_next, cut_done, cut_none, cut_bind, map_cond, map_bind, Option.map_some, Option.map_none, cond_false]
theorem step_map (c : List T_Ins) (S : T_State) : G_seq_step seq_Act c (fz xs S) = (G_seq_step (actG (gOf xs)) c S).map (fz xs) := by
  simp only [G_seq_step, show (fz xs S).PC = S.PC from rfl, show (fz xs S).Regs = S.Regs from rfl, act_map h, bind_of_map, map_cond, map_bind, Option.map_some, Option.map_none]
  simp only [show ∀ S, (fz xs S).PC = S.PC from fun _ => rfl, turn_map, bind_of_map, cut_cond, cut_bind, cut_next, cut_done, cut_none, map_cond, map_bind, seq_step_k1,  Option.map_some, Option.map_none]
  simp only [fz]
omit h in
theorem land_map (S : T_State) : pipe_Land (fz xs S) = (pipe_Land S).map (fz xs) := by
  unfold pipe_Land
  refine cut_map (fun q => (q.1, q.2.1, q.2.2.1, xs, q.2.2.2.2)) (fz xs) ?_ ?_
  · refine loop_map (b := pipe_Land_b2 (fz xs S)) (b' := pipe_Land_b2 S) id (smap (fun q => (q.1, q.2.1, q.2.2.1, xs, q.2.2.2.2)) (fz xs)) ?_ ([], 0, S.Regs)
    rintro ⟨a, b, c⟩
    simp only [id, pipe_Land_b2, fz, map_cond, map_bind, Option.map_some, Option.map_none, smap]
    rfl
  · rintro ⟨a, b, c, d, e, f, g⟩
    simp only [pipe_Land_k1, fz, Option.map_some]
abbrev IT : Type := Bool × Int × List Int × List Int × List Int × Int × List Int × Int × List Int × Int × List T_Write × Int × Int
def pz (xs : List Int) (q : IT) : IT := (q.1, q.2.1, q.2.2.1, q.2.2.2.1, xs, min q.2.2.2.2.2.1 (xs.length : Int), q.2.2.2.2.2.2)
theorem issue_map (S : T_State) (b : A4 T_Ins) : G_pipe_issue seq_Act (fz xs S) b = (G_pipe_issue (actG (gOf xs)) S b).map fun r => (fz xs r.1, r.2) := by
  simp only [G_pipe_issue, show (fz xs S).Regs = S.Regs from rfl, map_bind]
  refine congrArg _ (funext fun r2 => ?_)
  refine loop_map (b := G_pipe_issue_b1 seq_Act b r2) (b' := G_pipe_issue_b1 (actG (gOf xs)) b r2) (pz xs) (fun r => (fz xs r.1, r.2)) ?_ (false, 0, S.Regs, S.Mem, S.In_, S.Taken, S.Out, S.PC, S.Stack, S.Stop, S.Fly, S.Jump, S.Delay)
  rintro ⟨g0, i0, j0, k0, m0, n0, r0, t0, u0, v0, x0, y0, z0⟩
  have e : (⟨j0, k0, xs, min n0 (xs.length : Int), r0, t0, u0, v0, x0, y0, z0⟩ : T_State) = fz xs ⟨j0, k0, m0, n0, r0, t0, u0, v0, x0, y0, z0⟩ := rfl
  simp only [pz, G_pipe_issue_b1, e, act_map h, bind_of_map, map_cond, map_bind, Option.map_some, Option.map_none, smap]
  simp only [show ∀ S, (fz xs S).PC = S.PC from fun _ => rfl, turn_map, bind_of_map, cut_cond, cut_bind, cut_next, cut_done, cut_none, map_cond, map_bind, pipe_issue_k2, Option.map_some, Option.map_none, smap, pz]
  simp only [fz]
  try rfl
omit h in
theorem settle_map (S : T_State) : pipe_settle (fz xs S) = (pipe_settle S).map (fz xs) := by
  unfold pipe_settle
  simp only [show (fz xs S).Fly = S.Fly from rfl, map_bind]
  refine congrArg _ (funext fun r1 => ?_)
  refine cut_map (fun q => (xs, q.2)) (fz xs) ?_ ?_
  · refine loop_map (b := pipe_settle_b2 r1 (fz xs S)) (b' := pipe_settle_b2 r1 S) id (smap (fun q => (xs, q.2)) (fz xs)) ?_ ()
    rintro ⟨⟩
    simp only [id, pipe_settle_b2, fz, map_cond, map_bind, Option.map_some, Option.map_none, smap]
  · rintro ⟨a, b, c, d⟩
    simp only [pipe_settle_k1, fz, Option.map_some]
omit h in
theorem first_same (c : List (A4 T_Ins)) (S : T_State) : hazard_first c (fz xs S) = hazard_first c S := rfl
theorem go_map (c : List (A4 T_Ins)) (S : T_State) : G_pipe_Go seq_Act c (fz xs S) = (G_pipe_Go (actG (gOf xs)) c S).map (fz xs) := by
  simp only [G_pipe_Go, show (fz xs S).PC = S.PC from rfl, issue_map h, bind_of_map, map_cond, map_bind, Option.map_some, Option.map_none]
  simp only [show ∀ S, (fz xs S).Stop = S.Stop from fun _ => rfl, show ∀ S, (fz xs S).Delay = S.Delay from fun _ => rfl, settle_map, bind_of_map, cut_cond, cut_bind, cut_next, cut_done, cut_none, map_cond, map_bind, pipe_Go_k1, Option.map_some, Option.map_none]
  simp only [fz]
theorem haz_map (c : List (A4 T_Ins)) (S : T_State) : G_hazard_Go seq_Act c (fz xs S) = (G_hazard_Go (actG (gOf xs)) c S).map (fz xs) := by
  simp only [G_hazard_Go, land_map, first_same, go_map h, bind_of_map, map_cond, map_bind, Option.map_some, Option.map_none]
omit h in
theorem rlands_map (S : T_State) : r5_lands (fz xs S) = (r5_lands S).map (fz xs) := by
  unfold r5_lands
  refine cut_map (fun q => (q.1, q.2.1, q.2.2.1, xs, q.2.2.2.2)) (fz xs) ?_ ?_
  · refine loop_map (b := r5_lands_b2 (fz xs S)) (b' := r5_lands_b2 S) id (smap (fun q => (q.1, q.2.1, q.2.2.1, xs, q.2.2.2.2)) (fz xs)) ?_ ([], 0, S.Regs)
    rintro ⟨a, b, c⟩
    simp only [id, r5_lands_b2, fz, map_cond, map_bind, Option.map_some, Option.map_none, smap]
    rfl
  · rintro ⟨a, b, c, d, e, f, g⟩
    simp only [r5_lands_k1, fz, Option.map_some]
omit h in
theorem find_same (c : List (A4 T_Ins)) (S : T_State) : r5_find c (fz xs S) = r5_find c S := rfl
theorem rstep_map (c : List T_Ins) (S : T_State) : G_r5_step r5_do c (fz xs S) = (G_r5_step (doG (gOf xs)) c S).map (fz xs) := by
  simp only [G_r5_step, show (fz xs S).PC = S.PC from rfl, show (fz xs S).Regs = S.Regs from rfl, do_map h, bind_of_map, map_cond, map_bind, cut_bind, Option.map_some, Option.map_none]
  simp only [show ∀ S, (fz xs S).PC = S.PC from fun _ => rfl, bind_of_map, cut_cond, cut_bind, cut_next, cut_done, cut_none, map_cond, map_bind, r5_step_k1, r5_step_k2,  Option.map_some, Option.map_none]
  simp only [fz]
def kz (xs : List Int) (q : Bool × List Int × List Int × List Int × Int × List Int × Int × List Int × Int × List T_Write × Int × Int) : Bool × List Int × List Int × List Int × Int × List Int × Int × List Int × Int × List T_Write × Int × Int := (q.1, q.2.1, q.2.2.1, xs, min q.2.2.2.2.1 (xs.length : Int), q.2.2.2.2.2)
theorem rissue_map (c : List (A4 T_Ins)) (S : T_State) : G_r5_issue r5_do c (fz xs S) = (G_r5_issue (doG (gOf xs)) c S).map (fz xs) := by
  simp only [G_r5_issue, show (fz xs S).PC = S.PC from rfl, show (fz xs S).Regs = S.Regs from rfl, map_cond, map_bind, Option.map_none]
  congr 1
  refine congrArg _ (funext fun x2 => congrArg _ (funext fun r15 => ?_))
  refine cut_map (kz xs) (fz xs) ?_ ?_
  · refine loop_map (b := G_r5_issue_b2 r5_do x2 r15) (b' := G_r5_issue_b2 (doG (gOf xs)) x2 r15) (pz xs) (smap (kz xs) (fz xs)) ?_ (false, 0, S.Regs, S.Mem, S.In_, S.Taken, S.Out, S.PC, S.Stack, S.Stop, S.Fly, S.Jump, S.Delay)
    rintro ⟨g0, i0, j0, k0, m0, n0, r0, t0, u0, v0, x0, y0, z0⟩
    have e : (⟨j0, k0, xs, min n0 (xs.length : Int), r0, t0, u0, v0, x0, y0, z0⟩ : T_State) = fz xs ⟨j0, k0, m0, n0, r0, t0, u0, v0, x0, y0, z0⟩ := rfl
    simp only [pz, G_r5_issue_b2, e, do_map h, bind_of_map, cut_bind, map_cond, map_bind, Option.map_some, Option.map_none, smap]
    simp only [show ∀ S, (fz xs S).PC = S.PC from fun _ => rfl, bind_of_map, cut_cond, cut_bind, cut_next, cut_done, cut_none, map_cond, map_bind, r5_issue_k1, r5_issue_k3, r5_issue_k4, r5_issue_k5, r5_issue_k7,  Option.map_some, Option.map_none, smap, pz, kz]
    simp only [fz]
    try rfl
  · rintro ⟨a, b, c, d, e, f, g, i, j, k, l, m⟩
    simp only [kz, r5_issue_k1, r5_issue_k3, r5_issue_k4, r5_issue_k5, r5_issue_k7,  cut_cond, cut_bind, cut_next, cut_done, cut_none, map_cond, map_bind, Option.map_some, Option.map_none, fz]
    unfold r5_issue_b6
    simp only [loop_unit, r5_issue_k1, r5_issue_k3, r5_issue_k4, r5_issue_k5, r5_issue_k7,  cut_cond, cut_bind, cut_next, cut_done, cut_none, map_cond, map_bind, Option.map_some, Option.map_none, fz]
    try rfl
end
end Go.Proofs.YtgakgpbmcbegbaaGreatDoor
namespace Go.Proofs.YtgakgpbmcbegbaaGreatDoor
open Go Go.RowKit Fr
set_option linter.unusedVariables false
set_option maxRecDepth 20000
/-- A state that begins. -/
def st0 (data : List Int) (pc : Int) (xs : List Int) : T_State := ⟨List.replicate 16 0, cop (List.replicate 256 0) data, xs, 0, [], pc, [], 0, [], 0, 0⟩
theorem wakes_ok : l23_wakes = some true := by kernel_rfl
theorem upto_ok {xs : List Int} : seq_upto (xs.length : Int) [0] = some true := by kernel_rfl
theorem upto_n {n : Nat} (h : n ≤ 200) : seq_upto 20000 [(n : Int)] = some true := by
  have e1 : decide ((n : Int) < 0) = false := decide_eq_false (by omega)
  have e2 : decide ((20000 : Int) < (n : Int)) = false := decide_eq_false (by omega)
  have e3 : seq_upto_1 (n : Int) 20000 = some false := by
    rw [seq_upto_1, e1, cond_false, e2]
  have b0 : slices_IndexFunc_int_int_seq_upto_1_b1 [(n : Int)] 20000 0 = some (.next 1) := by
    have a0 : at' [(n : Int)] 0 = some (n : Int) := rfl
    have c0 : decide ((0 : Int) < (([(n : Int)] : List Int).length : Int)) = true := rfl
    rw [slices_IndexFunc_int_int_seq_upto_1_b1, c0, cond_true, a0, Option.bind_some, e3]
    rfl
  have b1 : slices_IndexFunc_int_int_seq_upto_1_b1 [(n : Int)] 20000 1 = some (.done (-1)) := rfl
  rw [seq_upto, slices_ContainsFunc_int_int_seq_upto_1, slices_IndexFunc_int_int_seq_upto_1, loop_next b0, loop_done b1]
  rfl
section
variable {xs : List Int} (h : xs.length ≤ 100)
include h
theorem h100 : decide (100 < (xs.length : Int)) = false := decide_eq_false (by omega)
theorem clone_ok : slices_Clone_uint32 xs = some xs := app'_le (by simp only [List.length_nil]; omega)
theorem words_ok : r0_CopyWords xs = some xs := loop_copied (by omega) fun _ _ => rfl
theorem new_ok : seq_New xs = some (⟨List.replicate 16 0, List.replicate 256 0, xs, 0, [], 0, [], 0, [], 0, 0⟩, 0) := by
  rw [seq_New, h100 h, clone_ok h]; kernel_rfl
theorem loaded_ok (data : List Int) (pc : Int) : image_loaded data pc xs = some (st0 data pc xs, 0) := by rw [image_loaded, new_ok h]; rfl
theorem rnew_ok : r5_New xs = some (⟨List.replicate 16 0, List.replicate 256 0, xs, 0, [], 0, [], 0, [], 0, 0⟩) := by
  rw [r5_New, words_ok h]; kernel_rfl
end
def Fine (X : T_Image) (F : T_Flat) (n : Int) (xs : List Int) : Prop := ∃ v, bench_Compare X F n xs = some (v, 0) ∧ r19_Compare X F n xs = some v ∧ v.Same = true ∧ v.Begins = true
theorem alike_next {X : T_Image} {F : T_Flat} {xs : List Int} {n m : Int} (hn : decide (n < 200) = true) (H : Fine X F n xs) (hq : (quo' .i64 n 3).bind (fun q => some (IntKind.i64.wrap ((IntKind.i64.wrap (n + 1)) + q))) = some m) : l23_alike_b1 (X, ⟨0, 0, 0⟩) (F, ⟨0, 0, 0⟩) xs n = some (.next m) := by
  obtain ⟨v, h1, h2, h3, h4⟩ := H
  obtain ⟨q, hq1, hq2⟩ := ob hq
  obtain rfl := Option.some.inj hq2
  have hv : eqb_Verdict v v = true := eqb_Verdict_iff.2 rfl
  rw [l23_alike_b1, hn, cond_true]
  simp only [h1, h2, h3, h4, hv, hq1, l23_num, Option.bind_some, ne_eq, not_true_eq_false, decide_false, cond_false, Bool.not_true]
theorem traj_seg {σ : Type} {b : σ → Option σ} {s t : σ} {c : Nat} (h : traj b s c = some t) (m : Nat) : traj b s (c + m) = traj b t m := by rw [traj_add, h]; rfl
theorem e' {α : Type} {x y : α} (h : x = y) : x = y := h
def tx0 : ByteArray := ByteArray.mk #[46, 103, 108, 111, 98, 97, 108, 32, 109, 97, 105, 110, 10, 109, 97, 105, 110, 58, 32, 108, 105, 32, 114, 49, 44, 32, 51, 10, 108, 105, 32, 114, 57, 44, 32, 54, 53, 53, 51, 54, 10, 108, 105, 32, 114, 50, 44, 32, 53, 10, 108, 111, 111, 112, 58, 32, 105, 110, 32, 114, 51, 10, 99, 97, 100, 100, 32, 114, 52, 44, 32, 114, 52, 44, 32, 114, 51, 10, 99, 109, 117, 108, 32, 114, 52, 44, 32, 114, 52, 44, 32, 114, 49, 10, 99, 111, 110, 106, 32, 114, 53, 44, 32, 114, 52, 10, 99, 115, 117, 98, 32, 114, 54, 44, 32, 114, 52, 44, 32, 114, 53, 10, 111, 117, 116, 32, 114, 54, 10, 97, 100, 100, 105, 32, 114, 50, 44, 32, 114, 50, 44, 32, 45, 49, 10, 98, 110, 122, 32, 114, 50, 44, 32, 108, 111, 111, 112, 10, 104, 97, 108, 116]
def imx0 : T_Image := ⟨[⟨⟨23, 1, 0, 0, 3, ByteArray.empty⟩, ⟨23, 9, 0, 0, 65536, ByteArray.empty⟩, ⟨0, 0, 0, 0, 0, ByteArray.empty⟩, ⟨0, 0, 0, 0, 0, ByteArray.empty⟩⟩, ⟨⟨23, 2, 0, 0, 5, ByteArray.empty⟩, ⟨0, 0, 0, 0, 0, ByteArray.empty⟩, ⟨0, 0, 0, 0, 0, ByteArray.empty⟩, ⟨0, 0, 0, 0, 0, ByteArray.empty⟩⟩, ⟨⟨22, 2, 2, 0, -1, ByteArray.empty⟩, ⟨0, 0, 0, 0, 0, ByteArray.empty⟩, ⟨26, 3, 0, 0, 0, ByteArray.empty⟩, ⟨0, 0, 0, 0, 0, ByteArray.empty⟩⟩, ⟨⟨0, 0, 0, 0, 0, ByteArray.empty⟩, ⟨0, 0, 0, 0, 0, ByteArray.empty⟩, ⟨0, 0, 0, 0, 0, ByteArray.empty⟩, ⟨0, 0, 0, 0, 0, ByteArray.empty⟩⟩, ⟨⟨0, 0, 0, 0, 0, ByteArray.empty⟩, ⟨18, 4, 4, 3, 0, ByteArray.empty⟩, ⟨0, 0, 0, 0, 0, ByteArray.empty⟩, ⟨0, 0, 0, 0, 0, ByteArray.empty⟩⟩, ⟨⟨0, 0, 0, 0, 0, ByteArray.empty⟩, ⟨0, 0, 0, 0, 0, ByteArray.empty⟩, ⟨0, 0, 0, 0, 0, ByteArray.empty⟩, ⟨20, 4, 4, 1, 0, ByteArray.empty⟩⟩, ⟨⟨0, 0, 0, 0, 0, ByteArray.empty⟩, ⟨0, 0, 0, 0, 0, ByteArray.empty⟩, ⟨0, 0, 0, 0, 0, ByteArray.empty⟩, ⟨0, 0, 0, 0, 0, ByteArray.empty⟩⟩, ⟨⟨0, 0, 0, 0, 0, ByteArray.empty⟩, ⟨0, 0, 0, 0, 0, ByteArray.empty⟩, ⟨0, 0, 0, 0, 0, ByteArray.empty⟩, ⟨0, 0, 0, 0, 0, ByteArray.empty⟩⟩, ⟨⟨30, 0, 2, 0, 2, ByteArray.empty⟩, ⟨21, 5, 4, 0, 0, ByteArray.empty⟩, ⟨0, 0, 0, 0, 0, ByteArray.empty⟩, ⟨0, 0, 0, 0, 0, ByteArray.empty⟩⟩, ⟨⟨0, 0, 0, 0, 0, ByteArray.empty⟩, ⟨19, 6, 4, 5, 0, ByteArray.empty⟩, ⟨0, 0, 0, 0, 0, ByteArray.empty⟩, ⟨0, 0, 0, 0, 0, ByteArray.empty⟩⟩, ⟨⟨0, 0, 0, 0, 0, ByteArray.empty⟩, ⟨0, 0, 0, 0, 0, ByteArray.empty⟩, ⟨27, 0, 6, 0, 0, ByteArray.empty⟩, ⟨0, 0, 0, 0, 0, ByteArray.empty⟩⟩, ⟨⟨33, 0, 0, 0, 0, ByteArray.empty⟩, ⟨0, 0, 0, 0, 0, ByteArray.empty⟩, ⟨0, 0, 0, 0, 0, ByteArray.empty⟩, ⟨0, 0, 0, 0, 0, ByteArray.empty⟩⟩], [], 0⟩
def flx0 : T_Flat := ⟨[⟨23, 1, 0, 0, 3, ByteArray.empty⟩, ⟨23, 9, 0, 0, 65536, ByteArray.empty⟩, ⟨23, 2, 0, 0, 5, ByteArray.empty⟩, ⟨26, 3, 0, 0, 0, ByteArray.empty⟩, ⟨18, 4, 4, 3, 0, ByteArray.empty⟩, ⟨20, 4, 4, 1, 0, ByteArray.empty⟩, ⟨21, 5, 4, 0, 0, ByteArray.empty⟩, ⟨19, 6, 4, 5, 0, ByteArray.empty⟩, ⟨27, 0, 6, 0, 0, ByteArray.empty⟩, ⟨22, 2, 2, 0, -1, ByteArray.empty⟩, ⟨30, 0, 2, 0, 3, ByteArray.empty⟩, ⟨33, 0, 0, 0, 0, ByteArray.empty⟩], [], 0⟩
theorem build0 : r19_Build [⟨false, [tx0]⟩] = some (imx0, ⟨0, 0, 0⟩) := by kernel_rfl
theorem model0 : r19_Model [⟨false, [tx0]⟩] = some (flx0, ⟨0, 0, 0⟩) := by kernel_rfl
theorem mayX0 : link_May imx0 = some true := by kernel_rfl
theorem mayF0 : image_May flx0 = some true := by kernel_rfl
theorem codeX0 : pipe_Code imx0.Code = some true := by kernel_rfl
theorem progF0 : seq_Program flx0.Code = some true := by kernel_rfl
abbrev sX0 (xs : List Int) : T_State := st0 imx0.Data imx0.Entry xs
abbrev sF0 (xs : List Int) : T_State := st0 flx0.Data flx0.Entry xs
noncomputable abbrev PA0 (s : T_State) (m : Nat) : Option T_State := traj (stp live (seq_step flx0.Code)) s m
noncomputable abbrev PB0 (s : T_State) (m : Nat) : Option T_State := traj (stp live (hazard_Go imx0.Code)) s m
noncomputable abbrev RA0 (s : T_State) (m : Nat) : Option T_State := traj (stp live (r5_step flx0.Code)) s m
noncomputable abbrev RB0 (s : T_State) (m : Nat) : Option T_State := traj (stp live (rcy imx0.Code)) s m
def txt0 : ByteArray := ByteArray.mk #[109, 97, 105, 110, 58, 32, 108, 105, 32, 114, 49, 44, 32, 51, 10, 108, 105, 32, 114, 57, 44, 32, 54, 53, 53, 51, 54, 10, 108, 105, 32, 114, 50, 44, 32, 53, 10, 108, 111, 111, 112, 58, 32, 105, 110, 32, 114, 51, 10, 99, 97, 100, 100, 32, 114, 52, 44, 32, 114, 52, 44, 32, 114, 51, 10, 99, 109, 117, 108, 32, 114, 52, 44, 32, 114, 52, 44, 32, 114, 49, 10, 99, 111, 110, 106, 32, 114, 53, 44, 32, 114, 52, 10, 99, 115, 117, 98, 32, 114, 54, 44, 32, 114, 52, 44, 32, 114, 53, 10, 111, 117, 116, 32, 114, 54, 10, 97, 100, 100, 105, 32, 114, 50, 44, 32, 114, 50, 44, 32, 45, 49, 10, 98, 110, 122, 32, 114, 50, 44, 32, 108, 111, 111, 112, 10, 104, 97, 108, 116]
section
variable {xs : List Int} (h : xs.length ≤ 100)
include h
theorem loadX0 : image_Load imx0 xs = some (sX0 xs, 0) := by rw [image_Load, mayX0, loaded_ok h]; rfl
theorem loadF0 : image_Flat flx0 xs = some (sF0 xs, 0) := by rw [image_Flat, mayF0, loaded_ok h]; rfl
theorem coreX0 : seq_Core (sX0 xs) = some true := by
  unfold seq_Core
  rw [show (sX0 xs).In_ = xs from rfl, show (sX0 xs).Taken = 0 from rfl, h100 h, upto_ok]; kernel_rfl
theorem coreF0 : seq_Core (sF0 xs) = some true := by
  unfold seq_Core
  rw [show (sF0 xs).In_ = xs from rfl, show (sF0 xs).Taken = 0 from rfl, h100 h, upto_ok]; kernel_rfl
theorem pmayX0 : pipe_May (sX0 xs) = some true := by rw [pipe_May, coreX0 h]; kernel_rfl
theorem smayF0 : seq_May (sF0 xs) = some true := by rw [seq_May, coreF0 h]; kernel_rfl
theorem ownX0 : seq_Own (sX0 xs) = some (sX0 xs) := by
  unfold seq_Own
  rw [show (sX0 xs).In_ = xs from rfl, clone_ok h]; kernel_rfl
theorem ownF0 : seq_Own (sF0 xs) = some (sF0 xs) := by
  unfold seq_Own
  rw [show (sF0 xs).In_ = xs from rfl, clone_ok h]; kernel_rfl
theorem rloadX0 : r19_Load imx0.Data imx0.Entry xs = some (sX0 xs) := by rw [r19_Load, rnew_ok h]; kernel_rfl
theorem rloadF0 : r19_Load flx0.Data flx0.Entry xs = some (sF0 xs) := by rw [r19_Load, rnew_ok h]; kernel_rfl
theorem copyX0 : r0_CopyState (sX0 xs) = some (sX0 xs) := by
  unfold r0_CopyState
  rw [show (sX0 xs).In_ = xs from rfl, words_ok h]; kernel_rfl
theorem copyF0 : r0_CopyState (sF0 xs) = some (sF0 xs) := by
  unfold r0_CopyState
  rw [show (sF0 xs).In_ = xs from rfl, words_ok h]; kernel_rfl
theorem cmpP0 {n ma mb : Nat} {sa sb : Int} (hn : n ≤ 200) (ea : ma ≤ n) (eb : mb ≤ 4 * n + 8) (fa : ma = n ∨ sa ≠ 0) (fb : mb = 4 * n + 8 ∨ sb ≠ 0)
    (H : Agree (traj (stp live (seq_step flx0.Code)) (sF0 xs) ma) (traj (stp live (hazard_Go imx0.Code)) (sX0 xs) mb) sa sb) : bench_Compare imx0 flx0 (n : Int) xs = some (⟨ma, mb, sa, sb, true, true⟩, 0) := by
  obtain ⟨a, b, hA, hB, q⟩ := H
  have hs := same_of q
  obtain ⟨q1, q2, q3, q4, _⟩ := q
  have w : IntKind.i64.wrap ((IntKind.i64.wrap (4 * (n : Int))) + 8) = ((4 * n + 8 : Nat) : Int) := by
    rw [wrap_i64 (n := 4 * (n : Int)) (by omega) (by omega), wrap_i64 (by omega) (by omega)]; omega
  have rA : seq_Run flx0.Code (sF0 xs) (n : Int) = some (a, (ma : Int), 0) := by
    have e := seq_run (n := (n : Int)) (c := flx0.Code) (by omega) (by omega) hA (fa.imp (fun h => by omega) (fun h => decide_eq_false (by rw [q1]; exact h)))
    rw [seq_Run, progF0, smayF0 h, ownF0 h, upto_n (by omega)]
    exact e
  have rB : hazard_Run imx0.Code (sX0 xs) (((4 * n + 8 : Nat) : Int)) = some (b, (mb : Int), 0) := by
    have e := haz_run (n := ((4 * n + 8 : Nat) : Int)) (c := imx0.Code) (by omega) (by omega) hB (fb.imp (fun h => by omega) (fun h => decide_eq_false (by rw [q2]; exact h)))
    rw [hazard_Run, pipe_By_hazard_Go, codeX0, pmayX0 h, ownX0 h]
    simp only [Option.bind_some, Bool.not_true, cond_false]
    rw [decide_eq_false (by omega), decide_eq_false (by omega), cond_false, cond_false]
    change (loop (pipe_By_hazard_Go_b1 _ imx0.Code) (mkT 0 (sX0 xs))).bind _ = _
    rw [e]
    rfl
  rw [bench_Compare, loadX0 h, loadF0 h]
  simp only [Option.bind_some, ne_eq, not_true_eq_false, decide_false, cond_false]
  rw [decide_eq_false (show ¬ (n : Int) < 0 by omega), decide_eq_false (show ¬ (4000 : Int) < n by omega), cond_false, cond_false, rA, Option.bind_some, w, rB, Option.bind_some, hs, Option.bind_some, begins_of q3 q4, Option.bind_some, q1, q2]
theorem cmpR0 {n ma mb : Nat} {sa sb : Int} (hn : n ≤ 200) (ea : ma ≤ n) (eb : mb ≤ 4 * n + 8) (fa : ma = n ∨ sa ≠ 0) (fb : mb = 4 * n + 8 ∨ sb ≠ 0)
    (H : Agree (traj (stp live (r5_step flx0.Code)) (sF0 xs) ma) (traj (stp live (rcy imx0.Code)) (sX0 xs) mb) sa sb) : r19_Compare imx0 flx0 (n : Int) xs = some ⟨ma, mb, sa, sb, true, true⟩ := by
  obtain ⟨a, b, hA, hB, q1, q2, q3, q4, q5⟩ := H
  have w : IntKind.i64.wrap ((IntKind.i64.wrap (4 * (n : Int))) + 8) = ((4 * n + 8 : Nat) : Int) := by
    rw [wrap_i64 (n := 4 * (n : Int)) (by omega) (by omega), wrap_i64 (by omega) (by omega)]; omega
  have rA : r5_Run flx0.Code (sF0 xs) (n : Int) = some (a, (ma : Int)) := by
    have e := rst_run (n := (n : Int)) (c := flx0.Code) (by omega) (by omega) hA (fa.imp (fun h => by omega) (fun h => decide_eq_false (by rw [q1]; exact h)))
    rw [r5_Run, copyF0 h]
    exact e
  have rB : r5_Cycles imx0.Code (sX0 xs) (((4 * n + 8 : Nat) : Int)) true = some (b, (mb : Int)) := by
    have e := rcy_run (n := ((4 * n + 8 : Nat) : Int)) (c := imx0.Code) (by omega) (by omega) hB (fb.imp (fun h => by omega) (fun h => decide_eq_false (by rw [q2]; exact h)))
    rw [r5_Cycles, copyX0 h]
    exact e
  rw [r19_Compare, rloadF0 h, Option.bind_some, rA, Option.bind_some]
  simp only [cut, r19_Compare_k1, rloadX0 h, Option.bind_some, w, rB, r19_Compare_k2]
  obtain ⟨k, hk, hk2⟩ := rbegins_of q3 q4
  obtain ⟨z, hz, hz2⟩ : ∃ z : Bool, z = true ∧ ((r0_Begins a.Out b.Out).bind fun G0 => bif G0 then some (Step.next true) else (r0_Begins b.Out a.Out).bind fun I0 => some (Step.next I0)) = some (Step.next (ρ := T_Verdict) z) := by
    rcases hk2 with rfl | hk2
    · exact ⟨true, rfl, by rw [hk]; rfl⟩
    · cases k with
      | true => exact ⟨true, rfl, by rw [hk]; rfl⟩
      | false => exact ⟨true, rfl, by rw [hk, Option.bind_some, cond_false, hk2]; rfl⟩
  subst hz
  rw [hz2]
  dsimp only
  rw [r19_Compare_k3, q1, q2]
  rcases q5 with ⟨rfl, h6⟩ | ⟨rfl, rfl, m, o, t, r, lm, lr⟩
  · simp [h6]
  · rw [m, o, t, r, words_self lm, words_self q4, words_self lr]; simp
theorem fine0 {n ma mb : Nat} {sa sb : Int} 
    (H1 : Agree (traj (stp live (seq_step flx0.Code)) (sF0 xs) ma) (traj (stp live (hazard_Go imx0.Code)) (sX0 xs) mb) sa sb)
    (H2 : Agree (traj (stp live (r5_step flx0.Code)) (sF0 xs) ma) (traj (stp live (rcy imx0.Code)) (sX0 xs) mb) sa sb)
    (hn : n ≤ 200 := by decide) (ea : ma ≤ n := by decide) (eb : mb ≤ 4 * n + 8 := by decide) (fa : ma = n ∨ sa ≠ 0 := by decide) (fb : mb = 4 * n + 8 ∨ sb ≠ 0 := by decide) : Fine imx0 flx0 (n : Int) xs :=
  ⟨_, cmpP0 h hn ea eb fa fb H1, cmpR0 h hn ea eb fa fb H2, rfl, rfl⟩
omit h in
theorem alike0 (H : Fine imx0 flx0 0 xs ∧ Fine imx0 flx0 1 xs ∧ Fine imx0 flx0 2 xs ∧ Fine imx0 flx0 3 xs ∧ Fine imx0 flx0 5 xs ∧ Fine imx0 flx0 7 xs ∧ Fine imx0 flx0 10 xs ∧ Fine imx0 flx0 14 xs ∧ Fine imx0 flx0 19 xs ∧ Fine imx0 flx0 26 xs ∧ Fine imx0 flx0 35 xs ∧ Fine imx0 flx0 47 xs ∧ Fine imx0 flx0 63 xs ∧ Fine imx0 flx0 85 xs ∧ Fine imx0 flx0 114 xs ∧ Fine imx0 flx0 153 xs) : l23_alike txt0 xs = some true := by
  obtain ⟨H0, H1, H2, H3, H5, H7, H10, H14, H19, H26, H35, H47, H63, H85, H114, H153⟩ := H
  rw [l23_alike, show cat' (ByteArray.mk #[46, 103, 108, 111, 98, 97, 108, 32, 109, 97, 105, 110, 10]) txt0 = some tx0 by kernel_rfl, Option.bind_some, build0, Option.bind_some, model0, Option.bind_some]
  change loop (l23_alike_b1 (imx0, ⟨0, 0, 0⟩) (flx0, ⟨0, 0, 0⟩) xs) 0 = some true
  rw [loop_next (alike_next rfl H0 (m := 1) rfl), loop_next (alike_next rfl H1 (m := 2) rfl), loop_next (alike_next rfl H2 (m := 3) rfl), loop_next (alike_next rfl H3 (m := 5) rfl), loop_next (alike_next rfl H5 (m := 7) rfl), loop_next (alike_next rfl H7 (m := 10) rfl), loop_next (alike_next rfl H10 (m := 14) rfl), loop_next (alike_next rfl H14 (m := 19) rfl), loop_next (alike_next rfl H19 (m := 26) rfl), loop_next (alike_next rfl H26 (m := 35) rfl), loop_next (alike_next rfl H35 (m := 47) rfl), loop_next (alike_next rfl H47 (m := 63) rfl), loop_next (alike_next rfl H63 (m := 85) rfl), loop_next (alike_next rfl H85 (m := 114) rfl), loop_next (alike_next rfl H114 (m := 153) rfl), loop_next (alike_next rfl H153 (m := 205) rfl)]
  exact loop_done (by rw [l23_alike_b1, wakes_ok]; rfl)
end
end Go.Proofs.YtgakgpbmcbegbaaGreatDoor
