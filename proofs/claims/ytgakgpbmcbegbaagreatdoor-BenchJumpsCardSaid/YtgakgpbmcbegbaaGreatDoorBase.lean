/- Runs told by what comes step by step: a loop that counts up to a number, or ends ahead of it. -/
import Derived.Test.YtgakgpbmcbegbaaGreatDoorLo
import Derived.KernelRfl
import Derived.Test.YtgakgpbmcbegbaaGreatDoorLBenchJumps
import Derived.Test.YtgakgpbmcbegbaaGreatDoorIn
namespace Go.Proofs.YtgakgpbmcbegbaaGreatDoor
open Go Go.RowKit Fr
set_option linter.unusedVariables false
/-- A list is longer than a number: told by the list's head alone. -/
def ltn {α : Type} : Nat → List α → Bool
  | _, [] => false
  | 0, _ :: _ => true
  | n + 1, _ :: l => ltn n l
theorem ltn_eq {α : Type} : ∀ (n : Nat) (l : List α), ltn n l = decide (n < l.length)
  | _, [] => by simp [ltn]
  | 0, _ :: _ => by simp [ltn]
  | n + 1, _ :: l => by rw [ltn, ltn_eq n l]; simp
def ltl {α : Type} (x : Int) (l : List α) : Bool := match x with
  | .ofNat n => ltn n l
  | .negSucc _ => true
theorem ltl_eq {α : Type} (x : Int) (l : List α) : decide (x < (l.length : Int)) = ltl x l := by
  cases x with
  | ofNat n => rw [ltl, ltn_eq]; simp
  | negSucc n => rw [ltl]; exact decide_eq_true (by omega)
noncomputable def traj {σ : Type} (b : σ → Option σ) (s : σ) (n : Nat) : Option σ := Nat.rec (some s) (fun _ r => r.bind b) n
theorem traj_s {σ : Type} (b : σ → Option σ) (s : σ) (n : Nat) : traj b s (n + 1) = (traj b s n).bind b := rfl
theorem traj_add {σ : Type} (b : σ → Option σ) (s : σ) (m : Nat) : ∀ n, traj b s (m + n) = (traj b s m).bind fun t => traj b t n
  | 0 => by
    rw [Nat.add_zero]
    cases traj b s m <;> rfl
  | n + 1 => by
    rw [show m + (n + 1) = (m + n) + 1 from rfl, traj_s, traj_add b s m n]
    cases traj b s m <;> rfl
theorem traj_pre {σ : Type} {b : σ → Option σ} {s : σ} {m n : Nat} {t : σ} (h : traj b s (m + n) = some t) : ∃ u, traj b s m = some u := by
  rw [traj_add] at h
  cases e : traj b s m with
  | none => rw [e] at h; cases h
  | some u => exact ⟨u, rfl⟩
/-- A step of what has not stopped. -/
def stp {σ : Type} (alive : σ → Bool) (step : σ → Option σ) (s : σ) : Option σ := bif alive s then step s else none
theorem run_of {σ ρ S : Type} {b : σ → Option (Step σ ρ)} (mk : Int → S → σ) (fin : Int → S → ρ) {alive : S → Bool} {step : S → Option S} {n : Nat}
    (hn : ∀ (i : Nat) s t, i < n → alive s = true → step s = some t → b (mk (i : Int) s) = some (.next (mk ((i + 1 : Nat) : Int) t)))
    {s0 s : S} {m : Nat} (hm : m ≤ n) (h : traj (stp alive step) s0 m = some s) (he : b (mk (m : Int) s) = some (.done (fin (m : Int) s))) : loop b (mk 0 s0) = some (fin (m : Int) s) := by
  have key : ∀ k, k ≤ m → ∀ u, traj (stp alive step) s0 k = some u → loop b (mk 0 s0) = loop b (mk (k : Int) u) := by
    intro k
    induction k with
    | zero => intro _ u hu; obtain rfl := Option.some.inj (show some s0 = some u from hu); rfl
    | succ k ih =>
      intro hk u hu
      rw [traj_s] at hu
      cases e : traj (stp alive step) s0 k with
      | none => rw [e] at hu; cases hu
      | some v =>
        rw [e, Option.bind_some] at hu
        rw [ih (by omega) v e]
        have ha : alive v = true := by
          cases q : alive v with
          | true => rfl
          | false => rw [stp, q] at hu; cases hu
        rw [stp, ha, cond_true] at hu
        exact loop_next (hn k v u (by omega) ha hu)
  rw [key m (Nat.le_refl _) s h]
  exact loop_done he
theorem eq_self {b : Int → Option (Step Int Bool)} {xs : List Int} (hl : xs.length ≤ 140737488351232)
    (h1 : ∀ i : Nat, i < xs.length → b (i : Int) = some (.next (IntKind.i64.wrap ((i : Int) + 1)))) (h2 : b (xs.length : Int) = some (.done true)) : loop b 0 = some true := by
  obtain ⟨r, h, rfl⟩ := loop_ex (b := b) (fun i => 0 ≤ i ∧ i ≤ xs.length) (fun i => (xs.length - i).toNat) (fun r => r = true) (fun i hi => by
    obtain ⟨n, rfl⟩ := Int.eq_ofNat_of_zero_le hi.1
    by_cases h3 : n < xs.length
    · refine .inl ⟨_, h1 n h3, ?_, ?_⟩
      · rw [wrap_nat (by omega)]; omega
      · rw [wrap_nat (by omega)]; omega
    · have e : n = xs.length := by omega
      subst e
      exact .inr ⟨_, h2, rfl⟩) (xs.length + 1) 0 (by omega) (by omega)
  exact h
end Go.Proofs.YtgakgpbmcbegbaaGreatDoor
namespace Go.Proofs.YtgakgpbmcbegbaaGreatDoor
open Go Go.RowKit Fr
set_option linter.unusedVariables false
set_option maxRecDepth 20000
abbrev Tup : Type := Int × List Int × List Int × List Int × Int × List Int × Int × List Int × Int × List T_Write × Int × Int
def mkT (i : Int) (s : T_State) : Tup := (i, s.Regs, s.Mem, s.In_, s.Taken, s.Out, s.PC, s.Stack, s.Stop, s.Fly, s.Jump, s.Delay)
def live (s : T_State) : Bool := decide (s.Stop = 0)
noncomputable def rcy (c : List (A4 T_Ins)) (s : T_State) : Option T_State := (r5_lands s).bind fun D0 => (r5_find c D0).bind fun Y0 => bif decide (0 ≤ Y0) then none else r5_issue c D0
section
variable {n : Int} {m : Nat} {s0 s t : T_State}
theorem seq_next {c : List T_Ins} {i : Nat} (hn : n ≤ 20000) (hi : (i : Int) < n) (ha : live s = true) (h : seq_step c s = some t) : seq_Run_b1 n c (mkT i s) = some (.next (mkT ((i + 1 : Nat) : Int) t)) := by
  have h' : seq_step c s = some t := h
  have e : seq_Run_b1 n c (mkT i s) = bif decide ((i : Int) < n) then bif decide (s.Stop = 0) then (seq_step c s).bind fun B0 => some (.next (mkT (IntKind.i64.wrap ((i : Int) + 1)) B0)) else some (.done (s, (i : Int), 0)) else some (.done (s, (i : Int), 0)) := rfl
  rw [e, decide_eq_true hi, show decide (s.Stop = 0) = true from ha, h', wrap_nat (by omega)]
  rfl
theorem seq_run {c : List T_Ins} (hn : n ≤ 20000) (hm : (m : Int) ≤ n) (h : traj (stp live (seq_step c)) s0 m = some s) (he : (m : Int) = n ∨ live s = false) : loop (seq_Run_b1 n c) (mkT 0 s0) = some (s, (m : Int), 0) := by
  obtain ⟨N, rfl⟩ := Int.eq_ofNat_of_zero_le (show 0 ≤ n by omega)
  refine run_of (n := N) mkT (fun i s => (s, i, 0)) (fun i s t hi ha hs => seq_next hn (by omega) ha hs) (by omega) h ?_
  have e : seq_Run_b1 (N : Int) c (mkT m s) = bif decide ((m : Int) < N) then bif decide (s.Stop = 0) then (seq_step c s).bind fun B0 => some (.next (mkT (IntKind.i64.wrap ((m : Int) + 1)) B0)) else some (.done (s, (m : Int), 0)) else some (.done (s, (m : Int), 0)) := rfl
  rw [e]
  rcases he with he | he
  · rw [decide_eq_false (by omega)]; rfl
  · rw [show decide (s.Stop = 0) = false from he]; cases decide ((m : Int) < N) <;> rfl
theorem haz_next {c : List (A4 T_Ins)} {i : Nat} (hn : n ≤ 20000) (hi : (i : Int) < n) (ha : live s = true) (h : hazard_Go c s = some t) : pipe_By_hazard_Go_b1 n c (mkT i s) = some (.next (mkT ((i + 1 : Nat) : Int) t)) := by
  have h' : hazard_Go c s = some t := h
  have e : pipe_By_hazard_Go_b1 n c (mkT i s) = bif decide ((i : Int) < n) then bif decide (s.Stop = 0) then (hazard_Go c s).bind fun B0 => some (.next (mkT (IntKind.i64.wrap ((i : Int) + 1)) B0)) else some (.done (s, (i : Int), 0)) else some (.done (s, (i : Int), 0)) := rfl
  rw [e, decide_eq_true hi, show decide (s.Stop = 0) = true from ha, h', wrap_nat (by omega)]
  rfl
theorem haz_run {c : List (A4 T_Ins)} (hn : n ≤ 20000) (hm : (m : Int) ≤ n) (h : traj (stp live (hazard_Go c)) s0 m = some s) (he : (m : Int) = n ∨ live s = false) : loop (pipe_By_hazard_Go_b1 n c) (mkT 0 s0) = some (s, (m : Int), 0) := by
  obtain ⟨N, rfl⟩ := Int.eq_ofNat_of_zero_le (show 0 ≤ n by omega)
  refine run_of (n := N) mkT (fun i s => (s, i, 0)) (fun i s t hi ha hs => haz_next hn (by omega) ha hs) (by omega) h ?_
  have e : pipe_By_hazard_Go_b1 (N : Int) c (mkT m s) = bif decide ((m : Int) < N) then bif decide (s.Stop = 0) then (hazard_Go c s).bind fun B0 => some (.next (mkT (IntKind.i64.wrap ((m : Int) + 1)) B0)) else some (.done (s, (m : Int), 0)) else some (.done (s, (m : Int), 0)) := rfl
  rw [e]
  rcases he with he | he
  · rw [decide_eq_false (by omega)]; rfl
  · rw [show decide (s.Stop = 0) = false from he]; cases decide ((m : Int) < N) <;> rfl
theorem rst_next {c : List T_Ins} {i : Nat} (hn : n ≤ 20000) (hi : (i : Int) < n) (ha : live s = true) (h : r5_step c s = some t) : r5_Run_b1 n c (mkT i s) = some (.next (mkT ((i + 1 : Nat) : Int) t)) := by
  have h' : r5_step c s = some t := h
  have e : r5_Run_b1 n c (mkT i s) = bif decide ((i : Int) < n) then bif decide (s.Stop = 0) then (r5_step c s).bind fun B0 => some (.next (mkT (IntKind.i64.wrap ((i : Int) + 1)) B0)) else some (.done (s, (i : Int))) else some (.done (s, (i : Int))) := rfl
  rw [e, decide_eq_true hi, show decide (s.Stop = 0) = true from ha, h', wrap_nat (by omega)]
  rfl
theorem rst_run {c : List T_Ins} (hn : n ≤ 20000) (hm : (m : Int) ≤ n) (h : traj (stp live (r5_step c)) s0 m = some s) (he : (m : Int) = n ∨ live s = false) : loop (r5_Run_b1 n c) (mkT 0 s0) = some (s, (m : Int)) := by
  obtain ⟨N, rfl⟩ := Int.eq_ofNat_of_zero_le (show 0 ≤ n by omega)
  refine run_of (n := N) mkT (fun i s => (s, i)) (fun i s t hi ha hs => rst_next hn (by omega) ha hs) (by omega) h ?_
  have e : r5_Run_b1 (N : Int) c (mkT m s) = bif decide ((m : Int) < N) then bif decide (s.Stop = 0) then (r5_step c s).bind fun B0 => some (.next (mkT (IntKind.i64.wrap ((m : Int) + 1)) B0)) else some (.done (s, (m : Int))) else some (.done (s, (m : Int))) := rfl
  rw [e]
  rcases he with he | he
  · rw [decide_eq_false (by omega)]; rfl
  · rw [show decide (s.Stop = 0) = false from he]; cases decide ((m : Int) < N) <;> rfl
theorem rcy_next {c : List (A4 T_Ins)} {i : Nat} (hn : n ≤ 20000) (hi : (i : Int) < n) (ha : live s = true) (h : rcy c s = some t) : r5_Cycles_b1 n true c (mkT i s) = some (.next (mkT ((i + 1 : Nat) : Int) t)) := by
  have e : r5_Cycles_b1 n true c (mkT i s) = cut (bif decide ((i : Int) < n) then bif decide (s.Stop = 0) then some (.next ()) else some (.done (.done (s, (i : Int)))) else some (.done (.done (s, (i : Int))))) (r5_Cycles_k2 s.Regs s.Mem s.In_ s.Taken s.Out s.PC s.Stack s.Stop s.Fly s.Jump s.Delay true c (i : Int)) := rfl
  rw [e, decide_eq_true hi, show decide (s.Stop = 0) = true from ha]
  have k : r5_Cycles_k2 s.Regs s.Mem s.In_ s.Taken s.Out s.PC s.Stack s.Stop s.Fly s.Jump s.Delay true c (i : Int) () = (r5_lands s).bind fun D0 => (r5_find c D0).bind fun Y0 => bif decide (0 ≤ Y0) then none else (r5_issue c D0).bind fun B0 => some (.next (mkT (IntKind.i64.wrap ((i : Int) + 1)) B0)) := by
    unfold r5_Cycles_k2
    rfl
  show r5_Cycles_k2 s.Regs s.Mem s.In_ s.Taken s.Out s.PC s.Stack s.Stop s.Fly s.Jump s.Delay true c (i : Int) () = _
  rw [k, wrap_nat (by omega)]
  unfold rcy at h
  obtain ⟨d, hd, h⟩ := ob h
  obtain ⟨y, hy, h⟩ := ob h
  rw [hd, Option.bind_some, hy, Option.bind_some]
  cases q : decide (0 ≤ y) with
  | true => rw [q] at h; cases h
  | false => rw [q, cond_false] at h; rw [cond_false, h]; rfl
theorem rcy_run {c : List (A4 T_Ins)} (hn : n ≤ 20000) (hm : (m : Int) ≤ n) (h : traj (stp live (rcy c)) s0 m = some s) (he : (m : Int) = n ∨ live s = false) : loop (r5_Cycles_b1 n true c) (mkT 0 s0) = some (s, (m : Int)) := by
  obtain ⟨N, rfl⟩ := Int.eq_ofNat_of_zero_le (show 0 ≤ n by omega)
  refine run_of (n := N) mkT (fun i s => (s, i)) (fun i s t hi ha hs => rcy_next hn (by omega) ha hs) (by omega) h ?_
  have e : r5_Cycles_b1 (N : Int) true c (mkT m s) = cut (bif decide ((m : Int) < N) then bif decide (s.Stop = 0) then some (.next ()) else some (.done (.done (s, (m : Int)))) else some (.done (.done (s, (m : Int))))) (r5_Cycles_k2 s.Regs s.Mem s.In_ s.Taken s.Out s.PC s.Stack s.Stop s.Fly s.Jump s.Delay true c (m : Int)) := rfl
  rw [e]
  rcases he with he | he
  · rw [decide_eq_false (by omega)]; rfl
  · rw [show decide (s.Stop = 0) = false from he]; cases decide ((m : Int) < N) <;> rfl
end
theorem equal_self {a : List Int} (h : a.length ≤ 1000) : slices_Equal_uint32_uint32 a a = some true := by
  simp only [slices_Equal_uint32_uint32, ne_eq, not_true_eq_false, decide_false, cond_false]
  exact eq_self (xs := a) (by omega) (fun i h => by
    have e : decide ((i : Int) < (a.length : Int)) = true := decide_eq_true (by omega)
    simp only [slices_Equal_uint32_uint32_b1, e, cond_true, at'_nat h, Option.bind_some, ne_eq, not_true_eq_false, decide_false, cond_false]) (by simp [slices_Equal_uint32_uint32_b1])
theorem words_self {a : List Int} (h : a.length ≤ 1000) : r0_EqWords a a = some true := by
  simp only [r0_EqWords, ne_eq, not_true_eq_false, decide_false, cond_false]
  exact eq_self (xs := a) (by omega) (fun i h => by
    have e : decide ((i : Int) < (a.length : Int)) = true := decide_eq_true (by omega)
    simp only [r0_EqWords_b1, e, cond_true, at'_nat h, Option.bind_some, ne_eq, not_true_eq_false, decide_false, cond_false]) (by simp [r0_EqWords_b1])
theorem sub_take {a : List Int} {k : Nat} (h : k ≤ a.length) : sub' a 0 (k : Int) = some (a.take k) := by
  rw [sub', if_pos ⟨by omega, by omega, by omega⟩]
  simp
/-- What one has put out is the head of what the other has. -/
theorem begins_of {a b : List Int} (h : a = b.take a.length) (hl : a.length ≤ 1000) : bench_begins a b = some true := by
  have hle : a.length ≤ b.length := by
    have := congrArg List.length h
    rw [List.length_take] at this
    omega
  have e : imin (a.length : Int) (b.length : Int) = (a.length : Int) := by
    unfold imin
    rw [if_neg (by omega)]
  rw [bench_begins, e, sub_take (Nat.le_refl _), sub_take hle, Option.bind_some, Option.bind_some, ← h, List.take_length, equal_self hl]
  rfl
/-- Two runs' ends that agree. -/
def Agr (a b : T_State) : Prop := a.Out = b.Out.take a.Out.length ∧ a.Out.length ≤ 1000 ∧
  (a.Stop = 0 ∧ b.Stop ≠ 6 ∨ a.Stop ≠ 0 ∧ b.Stop = a.Stop ∧ b.Mem = a.Mem ∧ b.Out = a.Out ∧ b.Taken = a.Taken ∧ a.Mem.length ≤ 1000 ∧ (a.Stop = 1 → b.Regs = a.Regs ∧ a.Regs.length ≤ 1000))
theorem same_of {a b : T_State} (h : Agr a b) : bench_same a b = some true := by
  obtain ⟨h3, h4, h5⟩ := h
  rcases h5 with ⟨h1, h6⟩ | ⟨h1, h2, m, o, t, lm, lr⟩
  · rw [bench_same, decide_eq_true h1, cond_true, decide_eq_true h6, cond_true, begins_of h3 h4]
    rfl
  · rw [bench_same, decide_eq_false h1, cond_false, h2, t, m, o, equal_self lm, equal_self h4]
    simp only [ne_eq, not_true_eq_false, decide_false, cond_false, Option.bind_some, Bool.not_true]
    by_cases q : a.Stop = 1
    · obtain ⟨r, lr2⟩ := lr q
      rw [r, equal_self lr2]
      simp [q]
    · simp [q]
theorem rbegins_of {a b : List Int} (h : a = b.take a.length) (hl : a.length ≤ 1000) : ∃ k, r0_Begins a b = some k ∧ (k = true ∨ r0_Begins b a = some true) := by
  have hle : a.length ≤ b.length := by
    have := congrArg List.length h
    rw [List.length_take] at this
    omega
  have h2 : r0_Begins b a = some true := by
    rw [r0_Begins, decide_eq_true (show (a.length : Int) ≤ (b.length : Int) by omega), cond_true, sub_take hle, Option.bind_some, ← h, words_self hl]
    rfl
  by_cases e : b.length ≤ a.length
  · have q : a = b := by
      rw [h, List.take_of_length_le (by omega)]
    subst q
    exact ⟨true, h2, .inl rfl⟩
  · exact ⟨false, by rw [r0_Begins, decide_eq_false (by omega)]; rfl, .inr h2⟩
end Go.Proofs.YtgakgpbmcbegbaaGreatDoor
namespace Go.Proofs.YtgakgpbmcbegbaaGreatDoor
open Go Go.RowKit Fr
set_option linter.unusedVariables false
set_option linter.unusedSimpArgs false
/-- A step's two ends, mapped. -/
def smap {σ σ' ρ ρ' : Type} (ψ : σ → σ') (φ : ρ → ρ') : Step σ ρ → Step σ' ρ'
  | .next s => .next (ψ s)
  | .done r => .done (φ r)
section
variable {σ σ' τ τ' ρ ρ' α β : Type}
theorem cut_cond (c : Bool) (a b : Option (Step σ ρ)) (k : σ → Option ρ) : cut (bif c then a else b) k = bif c then cut a k else cut b k := by cases c <;> rfl
theorem cut_next (s : σ) (k : σ → Option ρ) : cut (some (.next s)) k = k s := rfl
theorem cut_done (r : ρ) (k : σ → Option ρ) : cut (some (.done r)) k = some r := rfl
theorem cut_none (k : σ → Option ρ) : cut (none : Option (Step σ ρ)) k = none := rfl
theorem cut_bind (x : Option α) (g : α → Option (Step σ ρ)) (k : σ → Option ρ) : cut (x.bind g) k = x.bind fun a => cut (g a) k := by cases x <;> rfl
theorem map_cond (c : Bool) (a b : Option ρ) (φ : ρ → ρ') : (bif c then a else b).map φ = bif c then a.map φ else b.map φ := by cases c <;> rfl
theorem map_bind (x : Option α) (g : α → Option ρ) (φ : ρ → ρ') : (x.bind g).map φ = x.bind fun a => (g a).map φ := by cases x <;> rfl
theorem bind_of_map (x : Option α) (φ : α → τ) (g : τ → Option ρ) : (x.map φ).bind g = x.bind fun a => g (φ a) := by cases x <;> rfl
theorem cut_map {x : Option (Step σ ρ)} {x' : Option (Step σ' ρ')} {k : σ → Option ρ} {k' : σ' → Option ρ'} (ψ : σ' → σ) (φ : ρ' → ρ) (hx : x = x'.map (smap ψ φ)) (hk : ∀ s, k (ψ s) = (k' s).map φ) : cut x k = (cut x' k').map φ := by
  subst hx
  rcases x' with _ | (s | r)
  · rfl
  · exact hk s
  · rfl
theorem iter_map {b : σ → Option (Step σ ρ)} {b' : σ' → Option (Step σ' ρ')} (ψ : σ' → σ) (φ : ρ' → ρ) (h : ∀ s, b (ψ s) = (b' s).map (smap ψ φ)) : ∀ n s, iter b n (ψ s) = (iter b' n s).map φ
  | 0, s => rfl
  | n + 1, s => by
    rw [iter_s, iter_s, h]
    rcases b' s with _ | (t | r)
    · rfl
    · exact iter_map ψ φ h n t
    · rfl
theorem loop_map {b : σ → Option (Step σ ρ)} {b' : σ' → Option (Step σ' ρ')} (ψ : σ' → σ) (φ : ρ' → ρ) (h : ∀ s, b (ψ s) = (b' s).map (smap ψ φ)) (s : σ') : loop b (ψ s) = (loop b' s).map φ := by
  cases e : loop b' s with
  | some r =>
    obtain ⟨n, hn⟩ := loop_iff.1 e
    exact loop_iff.2 ⟨n, by rw [iter_map ψ φ h, hn]; rfl⟩
  | none =>
    cases e2 : loop b (ψ s) with
    | none => rfl
    | some r =>
      obtain ⟨n, hn⟩ := loop_iff.1 e2
      rw [iter_map ψ φ h] at hn
      cases q : iter b' n s with
      | none => rw [q] at hn; cases hn
      | some r' => rw [loop_iff.2 ⟨n, q⟩] at e; cases e
/-- Where the second is told, the first is it, mapped. -/
def Le (f : α → β) (x : Option β) (y : Option α) : Prop := ∀ a, y = some a → x = some (f a)
theorem Le.of_eq {f : α → β} {x : Option β} {y : Option α} (h : x = y.map f) : Le f x y := by rintro a rfl; exact h
theorem Le.no {f : α → β} {x : Option β} : Le f x none := nofun
theorem Le.so {f : α → β} {x : β} {y : α} (h : x = f y) : Le f (some x) (some y) := by rintro a e; cases e; rw [h]
theorem Le.co {f : α → β} {c : Bool} {x x' : Option β} {y y' : Option α} (h1 : c = true → Le f x y) (h2 : c = false → Le f x' y') : Le f (bif c then x else x') (bif c then y else y') := by
  cases c
  · exact h2 rfl
  · exact h1 rfl
theorem Le.bi {f : α → β} (g : τ → τ') {x : Option τ'} {y : Option τ} {k : τ' → Option β} {l : τ → Option α} (h : Le g x y) (hk : ∀ a, Le f (k (g a)) (l a)) : Le f (x.bind k) (y.bind l) := by
  intro a e
  obtain ⟨t, e1, e2⟩ := ob e
  rw [h t e1]
  exact hk t a e2
theorem Le.sa {f : α → β} {x : Option τ} {k : τ → Option β} {l : τ → Option α} (hk : ∀ a, Le f (k a) (l a)) : Le f (x.bind k) (x.bind l) := Le.bi id (Le.of_eq (by cases x <;> rfl)) hk
theorem Le.ma {f : α → β} {g : τ → τ'} {x : Option τ} {k : τ' → Option β} {l : τ → Option α} (hk : ∀ a, Le f (k (g a)) (l a)) : Le f ((x.map g).bind k) (x.bind l) := Le.bi g (Le.of_eq rfl) hk
theorem Le.cu (ψ : σ' → σ) {φ : ρ' → ρ} {x : Option (Step σ ρ)} {y : Option (Step σ' ρ')} {k : σ → Option ρ} {k' : σ' → Option ρ'} (hx : Le (smap ψ φ) x y) (hk : ∀ s, Le φ (k (ψ s)) (k' s)) : Le φ (cut x k) (cut y k') := by
  intro a e
  rcases y with _ | (s | r)
  · cases e
  · rw [hx _ rfl]; exact hk s a e
  · rw [hx _ rfl]; cases e; rfl
theorem Le.it {b : σ → Option (Step σ ρ)} {b' : σ' → Option (Step σ' ρ')} (ψ : σ' → σ) {φ : ρ' → ρ} (h : ∀ s, Le (smap ψ φ) (b (ψ s)) (b' s)) : ∀ n s, Le φ (iter b n (ψ s)) (iter b' n s)
  | 0, s => Le.no
  | n + 1, s => by
    intro a e
    rw [iter_s] at e ⊢
    rcases q : b' s with _ | (t | r)
    · rw [q] at e; cases e
    · rw [q] at e; rw [h s _ q]; exact Le.it ψ h n t a e
    · rw [q] at e; rw [h s _ q]; cases e; rfl
theorem Le.lo {b : σ → Option (Step σ ρ)} {b' : σ' → Option (Step σ' ρ')} (ψ : σ' → σ) {φ : ρ' → ρ} (h : ∀ s, Le (smap ψ φ) (b (ψ s)) (b' s)) (s : σ') : Le φ (loop b (ψ s)) (loop b' s) := by
  intro a e
  obtain ⟨n, hn⟩ := loop_iff.1 e
  exact loop_iff.2 ⟨n, Le.it ψ h n s a hn⟩
end
theorem at'_mp {α β : Type} (f : α → β) (l : List α) (i : Int) : at' (l.map f) i = (at' l i).map f := by
  unfold at'
  split
  · rw [List.getElem?_map]
  · rfl
theorem set'_mp {α β : Type} (f : α → β) (l : List α) (i : Int) (x : α) : set' (l.map f) i (f x) = (set' l i x).map (List.map f) := by
  unfold set'
  rw [List.length_map]
  split
  · rw [Option.map_some, List.map_set]
  · rfl
theorem app'_mp {α β : Type} (f : α → β) (l m : List α) : app' (l.map f) (m.map f) = (app' l m).map (List.map f) := by
  unfold app'
  rw [List.length_map, List.length_map]
  split
  · rw [Option.map_some, List.map_append]
  · rfl
theorem app'_mp1 {α β : Type} (f : α → β) (l : List α) (x : α) : app' (l.map f) [f x] = (app' l [x]).map (List.map f) := app'_mp f l [x]
end Go.Proofs.YtgakgpbmcbegbaaGreatDoor
namespace Go.Proofs.YtgakgpbmcbegbaaGreatDoor
open Go Go.RowKit Fr
set_option linter.unusedVariables false
set_option linter.unusedSimpArgs false
set_option maxRecDepth 20000
noncomputable section
def G_seq_step (A_ : T_State → T_Ins → Int → Int → Option (T_State × Int × Int)) (B_ : T_State → T_Ins → Int → Int → Option (T_State × Int × Bool × Int)) (a0 : (List T_Ins)) (a1 : T_State) : Option T_State :=
  bif decide ((a0.length : Int) ≤ a1.PC) then some (⟨a1.Regs, a1.Mem, a1.In_, a1.Taken, a1.Out, a1.PC, a1.Stack, 5, a1.Fly, a1.Jump, a1.Delay⟩ : T_State) else (at' a0 a1.PC).bind fun x2 => (at' a1.Regs x2.A).bind fun x15 => (at' a1.Regs x2.B).bind fun x24 => (A_ a1 x2 x15 x24).bind fun r33 => cut (σ := (Int × Int × (List Int) × (List Int) × (List Int) × Int × (List Int) × Int × (List Int) × Int × (List T_Write) × Int × Int)) (bif decide (r33.2.2 = 0) then (B_ r33.1 x2 x15 (IntKind.i64.wrap (r33.1.PC + 1))).bind fun B0 => bif B0.2.2.1 then some (.next (B0.2.2.2, B0.2.1, B0.1.Regs, B0.1.Mem, B0.1.In_, B0.1.Taken, B0.1.Out, B0.1.PC, B0.1.Stack, B0.1.Stop, B0.1.Fly, B0.1.Jump, B0.1.Delay)) else some (.next (B0.2.2.2, IntKind.i64.wrap (r33.1.PC + 1), B0.1.Regs, B0.1.Mem, B0.1.In_, B0.1.Taken, B0.1.Out, B0.1.PC, B0.1.Stack, B0.1.Stop, B0.1.Fly, B0.1.Jump, B0.1.Delay)) else some (.next (r33.2.2, IntKind.i64.wrap (r33.1.PC + 1), r33.1.Regs, r33.1.Mem, r33.1.In_, r33.1.Taken, r33.1.Out, r33.1.PC, r33.1.Stack, r33.1.Stop, r33.1.Fly, r33.1.Jump, r33.1.Delay))) (seq_step_k1 x2 r33)
def G_pipe_issue_b1 (A_ : T_State → T_Ins → Int → Int → Option (T_State × Int × Int)) (B_ : T_State → T_Ins → Int → Int → Option (T_State × Int × Bool × Int)) (a1 : (A4 T_Ins)) (r2 : (List Int)) : (Bool × Int × (List Int) × (List Int) × (List Int) × Int × (List Int) × Int × (List Int) × Int × (List T_Write) × Int × Int) → Option (Step (Bool × Int × (List Int) × (List Int) × (List Int) × Int × (List Int) × Int × (List Int) × Int × (List T_Write) × Int × Int) (T_State × Bool)) := fun (G0, I0, J0, K0, M0, N0, R0, T0, U0, V0, X0, Y0, Z0) => bif decide (I0 < 4) then (at' [a1.x0, a1.x1, a1.x2, a1.x3] I0).bind fun E0 => (at' r2 E0.A).bind fun B1 => (at' r2 E0.B).bind fun D1 => (A_ (⟨J0, K0, M0, N0, R0, T0, U0, V0, X0, Y0, Z0⟩ : T_State) E0 B1 D1).bind fun D0 => cut (σ := (Bool × Int × (List Int) × (List Int) × (List Int) × Int × (List Int) × Int × (List Int) × Int × (List T_Write) × Int × Int)) (bif decide (D0.2.2 = 0) then (B_ D0.1 E0 B1 (imin (IntKind.i64.wrap ((IntKind.i64.wrap (D0.1.PC + 1)) + 2)) 1024)).bind fun B0 => bif B0.2.2.1 then some (.next (true, B0.2.2.2, B0.1.Regs, B0.1.Mem, B0.1.In_, B0.1.Taken, B0.1.Out, B0.1.PC, B0.1.Stack, B0.1.Stop, B0.1.Fly, B0.2.1, 2)) else some (.next (G0, B0.2.2.2, B0.1.Regs, B0.1.Mem, B0.1.In_, B0.1.Taken, B0.1.Out, B0.1.PC, B0.1.Stack, B0.1.Stop, B0.1.Fly, B0.1.Jump, B0.1.Delay)) else some (.next (G0, D0.2.2, D0.1.Regs, D0.1.Mem, D0.1.In_, D0.1.Taken, D0.1.Out, D0.1.PC, D0.1.Stack, D0.1.Stop, D0.1.Fly, D0.1.Jump, D0.1.Delay))) (pipe_issue_k2 E0 D0 I0) else some (.done (((⟨J0, K0, M0, N0, R0, T0, U0, V0, X0, Y0, Z0⟩ : T_State), G0)))
def G_pipe_issue (A_ : T_State → T_Ins → Int → Int → Option (T_State × Int × Int)) (B_ : T_State → T_Ins → Int → Int → Option (T_State × Int × Bool × Int)) (a0 : T_State) (a1 : (A4 T_Ins)) : Option (T_State × Bool) :=
  (slices_Clone_uint32 a0.Regs).bind fun r2 => loop (σ := (Bool × Int × (List Int) × (List Int) × (List Int) × Int × (List Int) × Int × (List Int) × Int × (List T_Write) × Int × Int)) (G_pipe_issue_b1 A_ B_ a1 r2) (false, 0, a0.Regs, a0.Mem, a0.In_, a0.Taken, a0.Out, a0.PC, a0.Stack, a0.Stop, a0.Fly, a0.Jump, a0.Delay)
def G_pipe_Go (A_ : T_State → T_Ins → Int → Int → Option (T_State × Int × Int)) (B_ : T_State → T_Ins → Int → Int → Option (T_State × Int × Bool × Int)) (a0 : (List (A4 T_Ins))) (a1 : T_State) : Option T_State :=
  bif decide ((a0.length : Int) ≤ a1.PC) then some (⟨a1.Regs, a1.Mem, a1.In_, a1.Taken, a1.Out, a1.PC, a1.Stack, 5, a1.Fly, a1.Jump, a1.Delay⟩ : T_State) else (at' a0 a1.PC).bind fun x2 => (G_pipe_issue A_ B_ a1 x2).bind fun r14 => bif decide (r14.1.Stop = 1) then (pipe_settle r14.1).bind fun r45 => some (r45) else bif decide (r14.1.Stop ≠ 0) then some (r14.1) else cut (σ := Bool) (bif !r14.2 then some (.next (decide (0 < r14.1.Delay))) else some (.next false)) (pipe_Go_k1 r14)
def G_hazard_Go (A_ : T_State → T_Ins → Int → Int → Option (T_State × Int × Int)) (B_ : T_State → T_Ins → Int → Int → Option (T_State × Int × Bool × Int)) (a0 : (List (A4 T_Ins))) (a1 : T_State) : Option T_State :=
  (pipe_Land a1).bind fun r1 => (hazard_first a0 r1).bind fun r31 => bif decide (0 ≤ r31) then none else (G_pipe_Go A_ B_ a0 r1).bind fun r33 => some (r33)
def G_r5_step (A_ : T_State → T_Ins → Int → Int → Int → Option (T_State × T_deed)) (a0 : (List T_Ins)) (a1 : T_State) : Option T_State :=
  bif decide ((a0.length : Int) ≤ a1.PC) then some (⟨a1.Regs, a1.Mem, a1.In_, a1.Taken, a1.Out, a1.PC, a1.Stack, 5, a1.Fly, a1.Jump, a1.Delay⟩ : T_State) else (at' a0 a1.PC).bind fun x2 => cut (σ := ((List Int) × (List Int) × (List Int) × Int × (List Int) × Int × (List Int) × Int × (List T_Write) × Int × Int × Bool × Int × Bool × Int × Int)) ((at' a1.Regs x2.A).bind fun D0 => (at' a1.Regs x2.B).bind fun E0 => (A_ a1 x2 D0 E0 (IntKind.i64.wrap (a1.PC + 1))).bind fun B0 => some (.next (B0.1.Regs, B0.1.Mem, B0.1.In_, B0.1.Taken, B0.1.Out, B0.1.PC, B0.1.Stack, B0.1.Stop, B0.1.Fly, B0.1.Jump, B0.1.Delay, B0.2.has, B0.2.result, B0.2.jumps, B0.2.to, B0.2.stop))) (r5_step_k1 x2)
def G_r5_issue_b2 (A_ : T_State → T_Ins → Int → Int → Int → Option (T_State × T_deed)) (x2 : (A4 T_Ins)) (r15 : (List Int)) : (Bool × Int × (List Int) × (List Int) × (List Int) × Int × (List Int) × Int × (List Int) × Int × (List T_Write) × Int × Int) → Option (Step (Bool × Int × (List Int) × (List Int) × (List Int) × Int × (List Int) × Int × (List Int) × Int × (List T_Write) × Int × Int) (Step (Bool × (List Int) × (List Int) × (List Int) × Int × (List Int) × Int × (List Int) × Int × (List T_Write) × Int × Int) T_State)) := fun (I0, E0, J0, K0, M0, N0, R0, G0, T0, U0, V0, X0, Y0) => bif decide (E0 < 4) then (at' [x2.x0, x2.x1, x2.x2, x2.x3] E0).bind fun D0 => cut (σ := ((List Int) × (List Int) × (List Int) × Int × (List Int) × Int × (List Int) × Int × (List T_Write) × Int × Int × Bool × Int × Bool × Int × Int)) ((at' r15 D0.A).bind fun Z0 => (at' r15 D0.B).bind fun B1 => (A_ (⟨J0, K0, M0, N0, R0, G0, T0, U0, V0, X0, Y0⟩ : T_State) D0 Z0 B1 (imin (IntKind.i64.wrap ((IntKind.i64.wrap (G0 + 1)) + 2)) 1024)).bind fun B0 => some (.next (B0.1.Regs, B0.1.Mem, B0.1.In_, B0.1.Taken, B0.1.Out, B0.1.PC, B0.1.Stack, B0.1.Stop, B0.1.Fly, B0.1.Jump, B0.1.Delay, B0.2.has, B0.2.result, B0.2.jumps, B0.2.to, B0.2.stop))) (r5_issue_k3 I0 D0 E0) else some (.done (.next (I0, J0, K0, M0, N0, R0, G0, T0, U0, V0, X0, Y0)))
def G_r5_issue (A_ : T_State → T_Ins → Int → Int → Int → Option (T_State × T_deed)) (a0 : (List (A4 T_Ins))) (a1 : T_State) : Option T_State :=
  bif decide ((a0.length : Int) ≤ a1.PC) then some (⟨a1.Regs, a1.Mem, a1.In_, a1.Taken, a1.Out, a1.PC, a1.Stack, 5, a1.Fly, a1.Jump, a1.Delay⟩ : T_State) else (at' a0 a1.PC).bind fun x2 => (r0_CopyWords a1.Regs).bind fun r15 => cut (σ := (Bool × (List Int) × (List Int) × (List Int) × Int × (List Int) × Int × (List Int) × Int × (List T_Write) × Int × Int)) (loop (σ := (Bool × Int × (List Int) × (List Int) × (List Int) × Int × (List Int) × Int × (List Int) × Int × (List T_Write) × Int × Int)) (G_r5_issue_b2 A_ x2 r15) (false, 0, a1.Regs, a1.Mem, a1.In_, a1.Taken, a1.Out, a1.PC, a1.Stack, a1.Stop, a1.Fly, a1.Jump, a1.Delay)) (r5_issue_k1)

end
section
variable (d : Int → Int) (dm : List Int → List Int) (xs : List Int)
def fw (w : T_Write) : T_Write := ⟨w.Reg, d w.Value, w.Left⟩
def fa (S : T_State) : T_State := ⟨S.Regs.map d, dm S.Mem, xs, min S.Taken (xs.length : Int), S.Out.map d, S.PC, S.Stack, S.Stop, S.Fly.map (fw d), S.Jump, S.Delay⟩
theorem fa_PC (S : T_State) : (fa d dm xs S).PC = S.PC := rfl
theorem fa_Fly (S : T_State) : (fa d dm xs S).Fly = S.Fly.map (fw d) := rfl
theorem fa_Stop (S : T_State) : (fa d dm xs S).Stop = S.Stop := rfl
theorem fa_Delay (S : T_State) : (fa d dm xs S).Delay = S.Delay := rfl
theorem fa_Jump (S : T_State) : (fa d dm xs S).Jump = S.Jump := rfl
theorem fa_Regs (S : T_State) : (fa d dm xs S).Regs = S.Regs.map d := rfl
theorem fw_Reg (w : T_Write) : (fw d w).Reg = w.Reg := rfl
theorem fw_Left (w : T_Write) : (fw d w).Left = w.Left := rfl
theorem app'_fw (l : List T_Write) (r v t : Int) : app' (l.map (fw d)) [⟨r, d v, t⟩] = (app' l [⟨r, v, t⟩]).map (List.map (fw d)) := app'_mp1 (fw d) l ⟨r, v, t⟩
theorem m0 (a0 : (List T_Write)) : slices_IndexFunc_api_Write_api_Write_hazard_first_1_1_b1 (List.map (fw d) a0) = slices_IndexFunc_api_Write_api_Write_hazard_first_1_1_b1 a0 := by
  funext q
  simp only [slices_IndexFunc_api_Write_api_Write_hazard_first_1_1_b1, fa_PC, fa_Fly, fa_Stop, fa_Delay, fa_Jump, fw_Reg, fw_Left, List.length_map, at'_mp, bind_of_map]
  try rfl
theorem m1 (a0 : (List T_Write)) (B0 : Int) : slices_IndexFunc_api_Write_api_Write_hazard_first_1_1 (List.map (fw d) a0) B0 = slices_IndexFunc_api_Write_api_Write_hazard_first_1_1 a0 B0 := by
  simp only [slices_IndexFunc_api_Write_api_Write_hazard_first_1_1, fa_PC, fa_Fly, fa_Stop, fa_Delay, fa_Jump, fw_Reg, fw_Left, List.length_map, at'_mp, bind_of_map, m0]
  try rfl
theorem m2 (a0 : (List T_Write)) (B0 : Int) : slices_ContainsFunc_api_Write_api_Write_hazard_first_1_1 (List.map (fw d) a0) B0 = slices_ContainsFunc_api_Write_api_Write_hazard_first_1_1 a0 B0 := by
  simp only [slices_ContainsFunc_api_Write_api_Write_hazard_first_1_1, fa_PC, fa_Fly, fa_Stop, fa_Delay, fa_Jump, fw_Reg, fw_Left, List.length_map, at'_mp, bind_of_map, m1]
  try rfl
theorem m3 (a0 : Int) (a1 : T_State) : hazard_first_1 a0 (fa d dm xs a1) = hazard_first_1 a0 a1 := by
  simp only [hazard_first_1, fa_PC, fa_Fly, fa_Stop, fa_Delay, fa_Jump, fw_Reg, fw_Left, List.length_map, at'_mp, bind_of_map, m2]
  try rfl
theorem m4 (a0 : (List Int)) (B0 : T_State) : slices_IndexFunc_int_int_hazard_first_1_b1 a0 (fa d dm xs B0) = slices_IndexFunc_int_int_hazard_first_1_b1 a0 B0 := by
  funext q
  simp only [slices_IndexFunc_int_int_hazard_first_1_b1, fa_PC, fa_Fly, fa_Stop, fa_Delay, fa_Jump, fw_Reg, fw_Left, List.length_map, at'_mp, bind_of_map, m3]
  try rfl
theorem m5 (a0 : (List Int)) (B0 : T_State) : slices_IndexFunc_int_int_hazard_first_1 a0 (fa d dm xs B0) = slices_IndexFunc_int_int_hazard_first_1 a0 B0 := by
  simp only [slices_IndexFunc_int_int_hazard_first_1, fa_PC, fa_Fly, fa_Stop, fa_Delay, fa_Jump, fw_Reg, fw_Left, List.length_map, at'_mp, bind_of_map, m4]
  try rfl
theorem m6 (a0 : (List Int)) (B0 : T_State) : slices_ContainsFunc_int_int_hazard_first_1 a0 (fa d dm xs B0) = slices_ContainsFunc_int_int_hazard_first_1 a0 B0 := by
  simp only [slices_ContainsFunc_int_int_hazard_first_1, fa_PC, fa_Fly, fa_Stop, fa_Delay, fa_Jump, fw_Reg, fw_Left, List.length_map, at'_mp, bind_of_map, m5]
  try rfl
theorem m7 (B0 : T_Ins) (x66 : (List Int)) (x71 : Int) (a1 : T_State) : hazard_first_k2 B0 x66 x71 (fa d dm xs a1) = hazard_first_k2 B0 x66 x71 a1 := by
  funext q
  simp only [hazard_first_k2, fa_PC, fa_Fly, fa_Stop, fa_Delay, fa_Jump, fw_Reg, fw_Left, List.length_map, at'_mp, bind_of_map, m3]
  try rfl
theorem m8 (x4 : (A4 T_Ins)) (a1 : T_State) : hazard_first_b1 x4 (fa d dm xs a1) = hazard_first_b1 x4 a1 := by
  funext q
  simp only [hazard_first_b1, fa_PC, fa_Fly, fa_Stop, fa_Delay, fa_Jump, fw_Reg, fw_Left, List.length_map, at'_mp, bind_of_map, m6, m7]
  try rfl
theorem m_hazard_first (a0 : (List (A4 T_Ins))) (a1 : T_State) : hazard_first a0 (fa d dm xs a1) = hazard_first a0 a1 := by
  simp only [hazard_first, fa_PC, fa_Fly, fa_Stop, fa_Delay, fa_Jump, fw_Reg, fw_Left, List.length_map, at'_mp, bind_of_map, m8]
  try rfl
theorem m10 (a1 : T_State) : r5_find_b2 (fa d dm xs a1) = r5_find_b2 a1 := by
  funext q
  simp only [r5_find_b2, fa_PC, fa_Fly, fa_Stop, fa_Delay, fa_Jump, fw_Reg, fw_Left, List.length_map, at'_mp, bind_of_map]
  try rfl
theorem m11 (B0 : (A4 T_Ins)) (D0 : Int) (a1 : T_State) : r5_find_k6 B0 D0 (fa d dm xs a1) = r5_find_k6 B0 D0 a1 := by
  funext q
  simp only [r5_find_k6, fa_PC, fa_Fly, fa_Stop, fa_Delay, fa_Jump, fw_Reg, fw_Left, List.length_map, at'_mp, bind_of_map]
  try rfl
theorem m12 (B0 : (A4 T_Ins)) (G0 : Int) (x78 : (List Int)) (E0 : (List Int)) (a1 : T_State) : r5_find_k4 B0 G0 x78 E0 (fa d dm xs a1) = r5_find_k4 B0 G0 x78 E0 a1 := by
  funext q
  simp only [r5_find_k4, fa_PC, fa_Fly, fa_Stop, fa_Delay, fa_Jump, fw_Reg, fw_Left, List.length_map, at'_mp, bind_of_map, m11]
  try rfl
theorem m13 (B0 : (A4 T_Ins)) (x78 : (List Int)) (a1 : T_State) : r5_find_b3 B0 x78 (fa d dm xs a1) = r5_find_b3 B0 x78 a1 := by
  funext q
  simp only [r5_find_b3, fa_PC, fa_Fly, fa_Stop, fa_Delay, fa_Jump, fw_Reg, fw_Left, List.length_map, at'_mp, bind_of_map, m12]
  try rfl
theorem m14 (a0 : (List (A4 T_Ins))) (a1 : T_State) : r5_find_k1 a0 (fa d dm xs a1) = r5_find_k1 a0 a1 := by
  funext q
  simp only [r5_find_k1, fa_PC, fa_Fly, fa_Stop, fa_Delay, fa_Jump, fw_Reg, fw_Left, List.length_map, at'_mp, bind_of_map, m13]
  try rfl
theorem m_r5_find (a0 : (List (A4 T_Ins))) (a1 : T_State) : r5_find a0 (fa d dm xs a1) = r5_find a0 a1 := by
  simp only [r5_find, fa_PC, fa_Fly, fa_Stop, fa_Delay, fa_Jump, fw_Reg, fw_Left, List.length_map, at'_mp, bind_of_map, m10, m14]
  try rfl
theorem land_map (S : T_State) : pipe_Land (fa d dm xs S) = (pipe_Land S).map (fa d dm xs) := by
  unfold pipe_Land
  refine cut_map (fun q => (q.1.map (fw d), q.2.1.map d, dm q.2.2.1, xs, q.2.2.2.2.1.map d, q.2.2.2.2.2.1, q.2.2.2.2.2.2.map (fw d))) (fa d dm xs) ?_ ?_
  · refine loop_map (b := pipe_Land_b2 (fa d dm xs S)) (b' := pipe_Land_b2 S) (fun q => (q.1.map (fw d), q.2.1, q.2.2.map d)) (smap (fun q => (q.1.map (fw d), q.2.1.map d, dm q.2.2.1, xs, q.2.2.2.2.1.map d, q.2.2.2.2.2.1, q.2.2.2.2.2.2.map (fw d))) (fa d dm xs)) ?_ ([], 0, S.Regs)
    rintro ⟨a, b, c⟩
    simp only [pipe_Land_b2, fa, List.length_map, at'_mp, bind_of_map, fw, set'_mp, map_cond, map_bind, Option.map_some, Option.map_none, smap]
    simp only [app'_fw, bind_of_map, set'_mp]
    rfl
  · rintro ⟨a, b, c, e, f, g, h⟩
    simp only [pipe_Land_k1, fa, Option.map_some]
theorem rlands_map (S : T_State) : r5_lands (fa d dm xs S) = (r5_lands S).map (fa d dm xs) := by
  unfold r5_lands
  refine cut_map (fun q => (q.1.map (fw d), q.2.1.map d, dm q.2.2.1, xs, q.2.2.2.2.1.map d, q.2.2.2.2.2.1, q.2.2.2.2.2.2.map (fw d))) (fa d dm xs) ?_ ?_
  · refine loop_map (b := r5_lands_b2 (fa d dm xs S)) (b' := r5_lands_b2 S) (fun q => (q.1.map (fw d), q.2.1, q.2.2.map d)) (smap (fun q => (q.1.map (fw d), q.2.1.map d, dm q.2.2.1, xs, q.2.2.2.2.1.map d, q.2.2.2.2.2.1, q.2.2.2.2.2.2.map (fw d))) (fa d dm xs)) ?_ ([], 0, S.Regs)
    rintro ⟨a, b, c⟩
    simp only [r5_lands_b2, fa, List.length_map, at'_mp, bind_of_map, fw, set'_mp, map_cond, map_bind, Option.map_some, Option.map_none, smap]
    simp only [app'_fw, bind_of_map, set'_mp]
    rfl
  · rintro ⟨a, b, c, e, f, g, h⟩
    simp only [r5_lands_k1, fa, Option.map_some]
theorem loop_unit {ρ : Type} (c : Bool) (v : ρ) : loop (fun _ : Unit => bif c then (none : Option (Step Unit ρ)) else some (.done v)) () = bif c then none else some v := by
  cases c
  · exact loop_done rfl
  · cases h : loop (fun _ : Unit => bif true then (none : Option (Step Unit ρ)) else some (.done v)) () with
    | none => rfl
    | some r =>
      obtain ⟨n, hn⟩ := loop_iff.1 h
      cases n <;> cases hn
theorem settle_nil {T t : T_State} (h : pipe_settle T = some t) : T.Fly = [] := by
  unfold pipe_settle at h
  obtain ⟨l, h1, h2⟩ := ob h
  have e : l = T.Fly := by
    unfold slices_SortStableFunc_api_Write_api_Write_pipe_settle_1 slices_stableCmpFunc_api_Write_pipe_settle_1 slices_stableCmpFunc_api_Write_pipe_settle_1_k1 slices_stableCmpFunc_api_Write_pipe_settle_1_b3 slices_insertionSortCmpFunc_api_Write_pipe_settle_1 slices_insertionSortCmpFunc_api_Write_pipe_settle_1_b1 slices_stableCmpFunc_api_Write_pipe_settle_1_b2 at h1
    simp only [loop_unit, cut_cond, cut_next, cut_done, cut_none] at h1
    revert h1
    generalize T.Fly = m
    generalize decide (20 ≤ (m.length : Int)) = c1
    generalize decide (20 < (m.length : Int)) = c2
    generalize decide (IntKind.i64.wrap (0 + 1) < (m.length : Int)) = c3
    intro h1
    cases c1 <;> cases c2 <;> cases c3 <;> first | (cases h1; done) | (exact (Option.some.inj h1).symm) | (simp_all; done)
  subst e
  unfold pipe_settle_b2 at h2
  simp only [loop_unit, cut_cond, cut_none] at h2
  cases q : T.Fly with
  | nil => rfl
  | cons w l =>
    rw [q, decide_eq_true (by simp only [List.length_cons]; omega)] at h2
    cases h2
theorem settle_le (S : T_State) : Le (fa d dm xs) (pipe_settle (fa d dm xs S)) (pipe_settle S) := by
  intro t h
  have e := settle_nil h
  obtain ⟨a1, a2, a3, a4, a5, a6, a7, a8, a9, b1, b2⟩ := S
  simp only at e
  subst e
  have k : ∀ x1 x2 x3 x4 x5 x6 x7 x8 y1 y2, pipe_settle ⟨x1, x2, x3, x4, x5, x6, x7, x8, [], y1, y2⟩ = some ⟨x1, x2, x3, x4, x5, x6, x7, x8, [], y1, y2⟩ := fun _ _ _ _ _ _ _ _ _ _ => by kernel_rfl
  rw [k] at h
  cases h
  exact k _ _ _ _ _ _ _ _ _ _
theorem copy_map (l : List Int) : r0_CopyWords (l.map d) = (r0_CopyWords l).map (List.map d) := by
  unfold r0_CopyWords
  refine loop_map (b := r0_CopyWords_b1 (l.map d)) (b' := r0_CopyWords_b1 l) (fun q => (q.1.map d, q.2)) (List.map d) ?_ ([], 0)
  rintro ⟨m, i⟩
  simp only [r0_CopyWords_b1, List.length_map, at'_mp, bind_of_map, app'_mp1, map_cond, map_bind, Option.map_some, smap]
/-- Deeds of codes that are deeds of what they stand for. -/
structure Deeds (A : T_State → T_Ins → Int → Int → Option (T_State × Int × Int)) (B : T_State → T_Ins → Int → Int → Option (T_State × Int × Bool × Int)) (D : T_State → T_Ins → Int → Int → Int → Option (T_State × T_deed)) : Prop where
  hA : ∀ S i a b, Le (fun r : T_State × Int × Int => (fa d dm xs r.1, d r.2.1, r.2.2)) (seq_Act (fa d dm xs S) i (d a) (d b)) (A S i a b)
  hB : ∀ S i a b, Le (fun r : T_State × Int × Bool × Int => (fa d dm xs r.1, r.2)) (seq_Turn (fa d dm xs S) i (d a) b) (B S i a b)
  hD : ∀ S i a b c, Le (fun r : T_State × T_deed => (fa d dm xs r.1, (⟨r.2.has, d r.2.result, r.2.jumps, r.2.to, r.2.stop⟩ : T_deed))) (r5_do (fa d dm xs S) i (d a) (d b) c) (D S i a b c)
abbrev IT2 : Type := Int × Int × List Int × List Int × List Int × Int × List Int × Int × List Int × Int × List T_Write × Int × Int
abbrev ITB : Type := Bool × Int × List Int × List Int × List Int × Int × List Int × Int × List Int × Int × List T_Write × Int × Int
abbrev KTB : Type := Bool × List Int × List Int × List Int × Int × List Int × Int × List Int × Int × List T_Write × Int × Int
def z2 (q : IT2) : IT2 := (q.1, q.2.1, q.2.2.1.map d, dm q.2.2.2.1, xs, min q.2.2.2.2.2.1 (xs.length : Int), q.2.2.2.2.2.2.1.map d, q.2.2.2.2.2.2.2.1, q.2.2.2.2.2.2.2.2.1, q.2.2.2.2.2.2.2.2.2.1, q.2.2.2.2.2.2.2.2.2.2.1.map (fw d), q.2.2.2.2.2.2.2.2.2.2.2)
def zb (q : ITB) : ITB := (q.1, q.2.1, q.2.2.1.map d, dm q.2.2.2.1, xs, min q.2.2.2.2.2.1 (xs.length : Int), q.2.2.2.2.2.2.1.map d, q.2.2.2.2.2.2.2.1, q.2.2.2.2.2.2.2.2.1, q.2.2.2.2.2.2.2.2.2.1, q.2.2.2.2.2.2.2.2.2.2.1.map (fw d), q.2.2.2.2.2.2.2.2.2.2.2)
def kb (q : KTB) : KTB := (q.1, q.2.1.map d, dm q.2.2.1, xs, min q.2.2.2.2.1 (xs.length : Int), q.2.2.2.2.2.1.map d, q.2.2.2.2.2.2.1, q.2.2.2.2.2.2.2.1, q.2.2.2.2.2.2.2.2.1, q.2.2.2.2.2.2.2.2.2.1.map (fw d), q.2.2.2.2.2.2.2.2.2.2)
variable {d dm xs} {A : T_State → T_Ins → Int → Int → Option (T_State × Int × Int)} {B : T_State → T_Ins → Int → Int → Option (T_State × Int × Bool × Int)} {D : T_State → T_Ins → Int → Int → Int → Option (T_State × T_deed)} (H : Deeds d dm xs A B D)
include H
theorem step_le (c : List T_Ins) (S : T_State) : Le (fa d dm xs) (seq_step c (fa d dm xs S)) (G_seq_step A B c S) := by
  rw [seq_step, G_seq_step]
  simp only [show (fa d dm xs S).PC = S.PC from rfl, show (fa d dm xs S).Regs = S.Regs.map d from rfl, at'_mp, bind_of_map]
  refine Le.co (fun _ => ?_) fun _ => Le.sa fun x2 => Le.sa fun x3 => Le.sa fun x4 => Le.bi _ (H.hA S x2 x3 x4) fun r => Le.cu (z2 d dm xs) ?_ ?_
  · first | exact Le.no | exact Le.so rfl
  · refine Le.co (fun _ => ?_) fun _ => Le.so rfl
    refine Le.bi _ (H.hB r.1 x2 x3 _) fun t => ?_
    refine Le.co (fun _ => Le.so rfl) fun _ => Le.so rfl
  · rintro ⟨q1, q2, q3, q4, q5, q6, q7, q8, q9, q10, q11, q12, q13⟩
    simp only [seq_step_k1, z2, set'_mp, bind_of_map]
    refine Le.co (fun _ => Le.so rfl) fun _ => Le.sa fun u => Le.co (fun _ => ?_) fun _ => Le.so rfl
    exact Le.sa fun v => Le.so rfl
theorem issue_le (S : T_State) (b : A4 T_Ins) : Le (fun r : T_State × Bool => (fa d dm xs r.1, r.2)) (pipe_issue (fa d dm xs S) b) (G_pipe_issue A B S b) := by
  rw [pipe_issue, G_pipe_issue]
  have hc : slices_Clone_uint32 (fa d dm xs S).Regs = (slices_Clone_uint32 S.Regs).map (List.map d) := app'_mp d [] S.Regs
  rw [hc]
  refine Le.ma fun r2 => ?_
  refine Le.lo (b := pipe_issue_b1 b (r2.map d)) (b' := G_pipe_issue_b1 A B b r2) (zb d dm xs) ?_ (false, 0, S.Regs, S.Mem, S.In_, S.Taken, S.Out, S.PC, S.Stack, S.Stop, S.Fly, S.Jump, S.Delay)
  rintro ⟨g0, i0, j0, k0, m0, n0, r0, t0, u0, v0, x0, y0, w0⟩
  simp only [zb, pipe_issue_b1, G_pipe_issue_b1, at'_mp, bind_of_map]
  refine Le.co (fun _ => ?_) fun _ => Le.so rfl
  refine Le.sa fun i => Le.sa fun a1 => Le.sa fun a2 => Le.bi _ (H.hA ⟨j0, k0, m0, n0, r0, t0, u0, v0, x0, y0, w0⟩ i a1 a2) fun r => Le.cu (zb d dm xs) ?_ ?_
  · refine Le.co (fun _ => ?_) fun _ => Le.so rfl
    refine Le.bi _ (H.hB r.1 i a1 _) fun t => ?_
    refine Le.co (fun _ => Le.so rfl) fun _ => Le.so rfl
  · rintro ⟨q1, q2, q3, q4, q5, q6, q7, q8, q9, q10, q11, q12, q13⟩
    simp only [pipe_issue_k2, zb]
    refine Le.co (fun _ => Le.so rfl) fun _ => Le.sa fun u => Le.co (fun _ => ?_) fun _ => Le.so rfl
    refine Le.sa fun v => ?_
    simp only [app'_fw, bind_of_map]
    exact Le.sa fun w => Le.so rfl
theorem go_le (c : List (A4 T_Ins)) (S : T_State) : Le (fa d dm xs) (pipe_Go c (fa d dm xs S)) (G_pipe_Go A B c S) := by
  rw [pipe_Go, G_pipe_Go]
  simp only [show (fa d dm xs S).PC = S.PC from rfl]
  refine Le.co (fun _ => by first | exact Le.no | exact Le.so rfl) fun _ => Le.sa fun x2 => Le.bi _ (issue_le H S x2) fun r => ?_
  refine Le.co (fun _ => ?_) fun _ => Le.co (fun _ => by first | exact Le.no | exact Le.so rfl) fun _ => Le.cu id ?_ ?_
  · exact Le.bi _ (settle_le d dm xs r.1) fun v => Le.so rfl
  · refine Le.co (fun _ => Le.so rfl) fun _ => Le.so rfl
  · intro q
    simp only [pipe_Go_k1, id]
    refine Le.co (fun _ => Le.co (fun _ => Le.so rfl) fun _ => Le.so rfl) fun _ => Le.so rfl
theorem haz_le (c : List (A4 T_Ins)) (S : T_State) : Le (fa d dm xs) (hazard_Go c (fa d dm xs S)) (G_hazard_Go A B c S) := by
  rw [hazard_Go, G_hazard_Go]
  simp only [land_map, m_hazard_first, bind_of_map]
  refine Le.sa fun r1 => Le.sa fun r2 => Le.co (fun _ => Le.no) fun _ => Le.bi _ (go_le H c r1) fun r => Le.so rfl
abbrev RT : Type := List Int × List Int × List Int × Int × List Int × Int × List Int × Int × List T_Write × Int × Int × Bool × Int × Bool × Int × Int
omit H in
def zr (d : Int → Int) (dm : List Int → List Int) (xs : List Int) (q : RT) : RT := (q.1.map d, dm q.2.1, xs, min q.2.2.2.1 (xs.length : Int), q.2.2.2.2.1.map d, q.2.2.2.2.2.1, q.2.2.2.2.2.2.1, q.2.2.2.2.2.2.2.1, q.2.2.2.2.2.2.2.2.1.map (fw d), q.2.2.2.2.2.2.2.2.2.1, q.2.2.2.2.2.2.2.2.2.2.1, q.2.2.2.2.2.2.2.2.2.2.2.1, d q.2.2.2.2.2.2.2.2.2.2.2.2.1, q.2.2.2.2.2.2.2.2.2.2.2.2.2)
theorem rstep_le (c : List T_Ins) (S : T_State) : Le (fa d dm xs) (r5_step c (fa d dm xs S)) (G_r5_step D c S) := by
  rw [r5_step, G_r5_step]
  simp only [show (fa d dm xs S).PC = S.PC from rfl, show (fa d dm xs S).Regs = S.Regs.map d from rfl, at'_mp, bind_of_map]
  refine Le.co (fun _ => by first | exact Le.no | exact Le.so rfl) fun _ => Le.sa fun x2 => Le.cu (zr d dm xs) ?_ ?_
  · exact Le.sa fun x3 => Le.sa fun x4 => Le.bi _ (H.hD S x2 x3 x4 _) fun r => Le.so rfl
  · rintro ⟨q1, q2, q3, q4, q5, q6, q7, q8, q9, q10, q11, q12, q13, q14, q15, q16⟩
    simp only [r5_step_k1, zr]
    refine Le.co (fun _ => Le.so rfl) fun _ => Le.cu (List.map d) ?_ ?_
    · refine Le.co (fun _ => ?_) fun _ => Le.so rfl
      simp only [set'_mp, bind_of_map]
      exact Le.sa fun v => Le.so rfl
    · intro q
      simp only [r5_step_k2,  Bool.cond_self]
      refine Le.co (fun _ => Le.so rfl) fun _ => Le.so rfl
theorem rissue_le (c : List (A4 T_Ins)) (S : T_State) : Le (fa d dm xs) (r5_issue c (fa d dm xs S)) (G_r5_issue D c S) := by
  rw [r5_issue, G_r5_issue]
  simp only [show (fa d dm xs S).PC = S.PC from rfl, show (fa d dm xs S).Regs = S.Regs.map d from rfl]
  refine Le.co (fun _ => by first | exact Le.no | exact Le.so rfl) fun _ => Le.sa fun x2 => ?_
  rw [copy_map]
  refine Le.ma fun r15 => Le.cu (kb d dm xs) ?_ ?_
  · refine Le.lo (b := r5_issue_b2 x2 (r15.map d)) (b' := G_r5_issue_b2 D x2 r15) (zb d dm xs) ?_ (false, 0, S.Regs, S.Mem, S.In_, S.Taken, S.Out, S.PC, S.Stack, S.Stop, S.Fly, S.Jump, S.Delay)
    rintro ⟨g0, i0, j0, k0, m0, n0, r0, t0, u0, v0, x0, y0, w0⟩
    simp only [zb, r5_issue_b2, G_r5_issue_b2, at'_mp, bind_of_map]
    refine Le.co (fun _ => ?_) fun _ => Le.so rfl
    refine Le.sa fun i => Le.cu (zr d dm xs) ?_ ?_
    · exact Le.sa fun a1 => Le.sa fun a2 => Le.bi _ (H.hD ⟨j0, k0, m0, n0, r0, t0, u0, v0, x0, y0, w0⟩ i a1 a2 _) fun r => Le.so rfl
    · rintro ⟨q1, q2, q3, q4, q5, q6, q7, q8, q9, q10, q11, q12, q13, q14, q15, q16⟩
      simp only [r5_issue_k3, zr]
      refine Le.co (fun _ => Le.so rfl) fun _ => Le.cu (List.map (fw d)) ?_ ?_
      · refine Le.co (fun _ => ?_) fun _ => Le.so rfl
        refine Le.sa fun l => ?_
        simp only [app'_fw, bind_of_map]
        exact Le.sa fun v => Le.so rfl
      · intro q
        simp only [r5_issue_k4]
        refine Le.co (fun _ => Le.so rfl) fun _ => Le.so rfl
  · rintro ⟨a, b, e, f, g, h, i, j, k, l, m, n⟩
    simp only [r5_issue_k1, kb]
    refine Le.cu id ?_ ?_
    · first
        | exact Le.co (fun _ => Le.no) fun _ => Le.so rfl
        | ( refine Le.co (fun _ => ?_) fun _ => Le.so rfl
            unfold r5_issue_b6
            simp only [loop_unit, List.length_map]
            exact Le.co (fun _ => Le.no) fun _ => Le.so rfl)
    · intro q
      simp only [r5_issue_k5, r5_issue_k7,  id]
      refine Le.co (fun _ => by first | exact Le.no | exact Le.so rfl) fun _ => Le.cu id ?_ ?_
      · exact Le.co (fun _ => Le.so rfl) fun _ => Le.so rfl
      · intro q
        simp only [r5_issue_k5, r5_issue_k7,  id]
        exact Le.co (fun _ => Le.co (fun _ => Le.so rfl) fun _ => Le.so rfl) fun _ => Le.so rfl
end
end Go.Proofs.YtgakgpbmcbegbaaGreatDoor
namespace Go.Proofs.YtgakgpbmcbegbaaGreatDoor
open Go Go.RowKit Fr
set_option linter.unusedVariables false
set_option linter.unusedSimpArgs false
set_option maxRecDepth 20000
def gOf (xs : List Int) (t : Int) : Int := (at' xs t).getD 0
def inS (S : T_State) : T_State := ⟨S.Regs, S.Mem, S.In_, S.Taken + 1, S.Out, S.PC, S.Stack, S.Stop, S.Fly, S.Jump, S.Delay⟩
def outS (S : T_State) (o : List Int) : T_State := ⟨S.Regs, S.Mem, S.In_, S.Taken, o, S.PC, S.Stack, S.Stop, S.Fly, S.Jump, S.Delay⟩
def memS (S : T_State) (m : List Int) : T_State := ⟨S.Regs, m, S.In_, S.Taken, S.Out, S.PC, S.Stack, S.Stop, S.Fly, S.Jump, S.Delay⟩
def still (op : Int) : Bool := bif decide (op = 0) then true else decide (28 ≤ op)
noncomputable section
variable (inc : Int → Int) (tz : Int → Option Bool) (tld : Int → Int → Int → Int → List Int → Option (List Int × Int × Int))
def aA (S : T_State) (i : T_Ins) (a b : Int) : Option (T_State × Int × Int) :=
  bif decide (i.Op = 26) then bif decide (0 ≤ S.Taken) then some (inS S, inc S.Taken, 0) else none
  else bif decide (i.Op = 27) then (app' S.Out [a]).bind fun o => some (outS S o, 0, 0)
  else bif still i.Op then seq_Act S i 0 0
  else (tld i.Op i.Imm a b S.Mem).bind fun r => some (memS S r.1, r.2.1, r.2.2)
def aB (S : T_State) (i : T_Ins) (a b : Int) : Option (T_State × Int × Bool × Int) :=
  bif decide (i.Op = 29) then (tz a).bind fun z => seq_Turn S i (bif z then 0 else 1) b
  else bif decide (i.Op = 30) then (tz a).bind fun z => seq_Turn S i (bif z then 0 else 1) b
  else seq_Turn S i 0 b
def aD (S : T_State) (i : T_Ins) (a b c : Int) : Option (T_State × T_deed) :=
  bif decide (i.Op = 26) then bif decide (0 ≤ S.Taken) then some (inS S, ⟨true, inc S.Taken, false, 0, 0⟩) else none
  else bif decide (i.Op = 27) then (app' S.Out [a]).bind fun o => some (outS S o, ⟨false, 0, false, 0, 0⟩)
  else bif decide (i.Op = 29) then (tz a).bind fun z => r5_do S i (bif z then 0 else 1) 0 c
  else bif decide (i.Op = 30) then (tz a).bind fun z => r5_do S i (bif z then 0 else 1) 0 c
  else bif still i.Op then r5_do S i 0 0 c
  else (tld i.Op i.Imm a b S.Mem).bind fun r => some (memS S r.1, bif decide (r.2.2 = 0) then (bif decide (i.Op = 25) then ⟨false, 0, false, 0, 0⟩ else ⟨true, r.2.1, false, 0, 0⟩) else ⟨false, 0, false, 0, r.2.2⟩)
end
structure Told (d : Int → Int) (xs : List Int) (inc : Int → Int) (tz : Int → Option Bool) : Prop where
  hl : xs.length ≤ 100
  h0 : d 0 = 0
  hin : ∀ t, 0 ≤ t → d (inc t) = gOf xs t
  hz : ∀ a z, tz a = some z → decide (d a = 0) = z
/-- What the tables tell is what the program's deeds tell; the page's. -/
def ToldA (d : Int → Int) (dm : List Int → List Int) (xs : List Int) (tld : Int → Int → Int → Int → List Int → Option (List Int × Int × Int)) : Prop :=
  ∀ S i a b r, tld i.Op i.Imm a b S.Mem = some r → seq_Act (fa d dm xs S) i (d a) (d b) = some (fa d dm xs (memS S r.1), d r.2.1, r.2.2)
def ToldD (d : Int → Int) (dm : List Int → List Int) (xs : List Int) (tld : Int → Int → Int → Int → List Int → Option (List Int × Int × Int)) : Prop :=
  ∀ S i a b c r, tld i.Op i.Imm a b S.Mem = some r → r5_do (fa d dm xs S) i (d a) (d b) c = some (fa d dm xs (memS S r.1), bif decide (r.2.2 = 0) then (bif decide (i.Op = 25) then ⟨false, 0, false, 0, 0⟩ else ⟨true, d r.2.1, false, 0, 0⟩) else ⟨false, 0, false, 0, r.2.2⟩)
section
variable {d : Int → Int} {dm : List Int → List Int} {xs : List Int} {inc : Int → Int} {tz : Int → Option Bool} {tld : Int → Int → Int → Int → List Int → Option (List Int × Int × Int)} (T : Told d xs inc tz)
include T
theorem act_in (S : T_State) (i : T_Ins) (a b : Int) (e : i.Op = 26) (t0 : 0 ≤ S.Taken) : seq_Act (fa d dm xs S) i a b = some (fa d dm xs (inS S), gOf xs S.Taken, 0) := by
  have h := T.hl
  have w : pair_Has 26 = false := rfl
  have w2 : word_Has 26 = false := rfl
  by_cases t1 : S.Taken < (xs.length : Int)
  · obtain ⟨hl, ha⟩ := at'_int (xs := xs) t0 t1
    have m1 : min S.Taken (xs.length : Int) = S.Taken := by omega
    have m2 : min (S.Taken + 1) (xs.length : Int) = S.Taken + 1 := by omega
    have hw : IntKind.i64.wrap (S.Taken + 1) = S.Taken + 1 := wrap_i64 (by omega) (by omega)
    simp [seq_Act, seq_Act_k1, seq_Act_k2,  w, w2, e, fa, inS, cut, m1, m2, t1, ha, hw, gOf]
  · have m1 : min S.Taken (xs.length : Int) = (xs.length : Int) := by omega
    have m2 : min (S.Taken + 1) (xs.length : Int) = (xs.length : Int) := by omega
    have ha : at' xs S.Taken = none := by
      rw [at', if_pos t0]
      exact List.getElem?_eq_none (by omega)
    simp [seq_Act, seq_Act_k1, seq_Act_k2,  w, w2, e, fa, inS, cut, m1, m2, ha, gOf]
theorem do_in (S : T_State) (i : T_Ins) (a b c : Int) (e : i.Op = 26) (t0 : 0 ≤ S.Taken) : r5_do (fa d dm xs S) i a b c = some (fa d dm xs (inS S), ⟨true, gOf xs S.Taken, false, 0, 0⟩) := by
  have h := T.hl
  have w : r1_Has 26 = false := rfl
  have w2 : r1_Paired 26 = false := rfl
  by_cases t1 : S.Taken < (xs.length : Int)
  · obtain ⟨hl, ha⟩ := at'_int (xs := xs) t0 t1
    have m1 : min S.Taken (xs.length : Int) = S.Taken := by omega
    have m2 : min (S.Taken + 1) (xs.length : Int) = S.Taken + 1 := by omega
    have hw : IntKind.i64.wrap (S.Taken + 1) = S.Taken + 1 := wrap_i64 (by omega) (by omega)
    simp [r5_do,  w, w2, e, fa, inS, cut, m1, m2, t1, ha, hw, gOf]
  · have m1 : min S.Taken (xs.length : Int) = (xs.length : Int) := by omega
    have m2 : min (S.Taken + 1) (xs.length : Int) = (xs.length : Int) := by omega
    have ha : at' xs S.Taken = none := by
      rw [at', if_pos t0]
      exact List.getElem?_eq_none (by omega)
    simp [r5_do,  w, w2, e, fa, inS, cut, m1, m2, ha, gOf]
omit T in
theorem still_of {op : Int} (h : still op = true) : pair_Has op = false ∧ word_Has op = false ∧ r1_Has op = false ∧ r1_Paired op = false ∧ op ≠ 22 ∧ op ≠ 23 ∧ op ≠ 24 ∧ op ≠ 25 ∧ op ≠ 26 ∧ op ≠ 27 := by
  have q : op = 0 ∨ 28 ≤ op := by
    unfold still at h
    by_cases e : op = 0
    · exact .inl e
    · rw [decide_eq_false e, cond_false] at h; exact .inr (of_decide_eq_true h)
  refine ⟨?_, ?_, ?_, ?_, by omega, by omega, by omega, by omega, by omega, by omega⟩
  · rcases q with rfl | q
    · rfl
    · unfold pair_Has; rw [decide_eq_true (show 18 ≤ op by omega), cond_true, decide_eq_false (by omega)]
  · rcases q with rfl | q
    · rfl
    · unfold word_Has; rw [decide_eq_true (show 1 ≤ op by omega), cond_true, decide_eq_false (by omega)]
  · rcases q with rfl | q
    · rfl
    · unfold r1_Has r0_Between; rw [decide_eq_true (show 1 ≤ op by omega), cond_true, decide_eq_false (by omega)]
  · rcases q with rfl | q
    · rfl
    · unfold r1_Paired r0_Between; rw [decide_eq_true (show 18 ≤ op by omega), cond_true, decide_eq_false (by omega)]
theorem act_still (S : T_State) (i : T_Ins) (a b : Int) (e : still i.Op = true) : seq_Act (fa d dm xs S) i a b = (seq_Act S i 0 0).map (fun r : T_State × Int × Int => (fa d dm xs r.1, d r.2.1, r.2.2)) := by
  obtain ⟨e1, e2, e3, e4, n22, n23, n24, n25, n26, n27⟩ := still_of e
  by_cases n33 : i.Op = 33
  · simp [seq_Act, seq_Act_k1, seq_Act_k2,  e1, e2, n22, n23, n24, n25, n26, n27, n33, fa, cut, T.h0, show pair_Has 33 = false from rfl, show word_Has 33 = false from rfl]
  · simp [seq_Act, seq_Act_k1, seq_Act_k2,  e1, e2, n22, n23, n24, n25, n26, n27, n33, fa, cut, T.h0]
omit T in
theorem turn_same (S : T_State) (i : T_Ins) (a a' b : Int) (e : i.Op = 29 ∨ i.Op = 30 → decide (a = 0) = decide (a' = 0)) : seq_Turn (fa d dm xs S) i a b = (seq_Turn S i a' b).map (fun r : T_State × Int × Bool × Int => (fa d dm xs r.1, r.2)) := by
  by_cases e1 : i.Op = 29
  · have q : (a = 0) = (a' = 0) := by simpa using e (.inl e1)
    simp only [seq_Turn, seq_Turn_k1, seq_Turn_k2,  fa, e1, q, ne_eq, cut_cond, cut_next, cut_done, cut_none, cut_bind, map_cond, map_bind, Option.map_some, Option.map_none]
    try rfl
  · by_cases e2 : i.Op = 30
    · have q : (a = 0) = (a' = 0) := by simpa using e (.inr e2)
      simp only [seq_Turn, seq_Turn_k1, seq_Turn_k2,  fa, e2, q, ne_eq, cut_cond, cut_next, cut_done, cut_none, cut_bind, map_cond, map_bind, Option.map_some, Option.map_none]
      try rfl
    · simp only [seq_Turn, seq_Turn_k1, seq_Turn_k2,  fa, e1, e2, decide_false, cond_false, cut_cond, cut_next, cut_done, cut_none, cut_bind, map_cond, map_bind, Option.map_some, Option.map_none]
      try rfl
theorem do_still (S : T_State) (i : T_Ins) (a a' b c : Int) (e : still i.Op = true) (e' : i.Op = 29 ∨ i.Op = 30 → decide (a = 0) = decide (a' = 0)) : r5_do (fa d dm xs S) i a b c = (r5_do S i a' 0 c).map (fun r : T_State × T_deed => (fa d dm xs r.1, (⟨r.2.has, d r.2.result, r.2.jumps, r.2.to, r.2.stop⟩ : T_deed))) := by
  obtain ⟨e1, e2, e3, e4, n22, n23, n24, n25, n26, n27⟩ := still_of e
  by_cases q29 : i.Op = 29
  · have q : (a = 0) = (a' = 0) := by simpa using e' (.inl q29)
    simp only [r5_do,  e3, e4, n22, n23, n24, n25, n26, n27, fa, decide_false, cond_false, q, ne_eq, cut_cond, cut_next, cut_done, cut_none, cut_bind, map_cond, map_bind, Option.map_some, Option.map_none, T.h0]
    try rfl
  · by_cases q30 : i.Op = 30
    · have q : (a = 0) = (a' = 0) := by simpa using e' (.inr q30)
      simp only [r5_do,  e3, e4, n22, n23, n24, n25, n26, n27, fa, decide_false, cond_false, q, ne_eq, cut_cond, cut_next, cut_done, cut_none, cut_bind, map_cond, map_bind, Option.map_some, Option.map_none, T.h0]
      try rfl
    · simp only [r5_do,  e3, e4, n22, n23, n24, n25, n26, n27, q29, q30, fa, decide_false, cond_false, cut_cond, cut_next, cut_done, cut_none, cut_bind, map_cond, map_bind, Option.map_some, Option.map_none, T.h0]
      try rfl
theorem deedsP (tA : ToldA d dm xs tld) : Deeds d dm xs (aA inc tld) (aB tz) (fun _ _ _ _ _ => none) where
  hD S i a b c := Le.no
  hA S i a b := by
    unfold aA
    by_cases e26 : i.Op = 26
    · rw [decide_eq_true e26, cond_true]
      by_cases t0 : 0 ≤ S.Taken
      · rw [decide_eq_true t0, cond_true, act_in T S i _ _ e26 t0]
        exact Le.so (by rw [T.hin _ t0])
      · rw [decide_eq_false t0]; exact Le.no
    · rw [decide_eq_false e26, cond_false]
      by_cases e27 : i.Op = 27
      · rw [decide_eq_true e27, cond_true]
        have w : pair_Has 27 = false := rfl
        have w2 : word_Has 27 = false := rfl
        have q : seq_Act (fa d dm xs S) i (d a) (d b) = (app' (S.Out.map d) [d a]).bind fun o => some (outS (fa d dm xs S) o, 0, 0) := by
          simp [seq_Act, seq_Act_k1, seq_Act_k2,  w, w2, e27, fa, outS, cut]
        rw [q, app'_mp1]
        exact Le.ma fun o => Le.so (by rw [T.h0]; rfl)
      · rw [decide_eq_false e27, cond_false]
        cases e : still i.Op with
        | true => rw [cond_true]; exact Le.of_eq (act_still T S i _ _ e)
        | false =>
          rw [cond_false]
          intro r h
          obtain ⟨q, h1, h2⟩ := ob h
          cases h2
          exact tA S i a b q h1
  hB S i a b := by
    unfold aB
    by_cases e1 : i.Op = 29
    · rw [decide_eq_true e1, cond_true]
      intro r h
      obtain ⟨z, h1, h2⟩ := ob h
      rw [turn_same S i (d a) (bif z then 0 else 1) b (fun _ => by rw [T.hz a z h1]; cases z <;> rfl), h2]; rfl
    · rw [decide_eq_false e1, cond_false]
      by_cases e2 : i.Op = 30
      · rw [decide_eq_true e2, cond_true]
        intro r h
        obtain ⟨z, h1, h2⟩ := ob h
        rw [turn_same S i (d a) (bif z then 0 else 1) b (fun _ => by rw [T.hz a z h1]; cases z <;> rfl), h2]; rfl
      · rw [decide_eq_false e2, cond_false]
        exact Le.of_eq (turn_same S i _ 0 b (fun h => by omega))
theorem deedsR (tD : ToldD d dm xs tld) : Deeds d dm xs (fun _ _ _ _ => none) (fun _ _ _ _ => none) (aD inc tz tld) where
  hA S i a b := Le.no
  hB S i a b := Le.no
  hD S i a b c := by
    unfold aD
    by_cases e26 : i.Op = 26
    · rw [decide_eq_true e26, cond_true]
      by_cases t0 : 0 ≤ S.Taken
      · rw [decide_eq_true t0, cond_true, do_in T S i _ _ _ e26 t0]
        exact Le.so (by rw [T.hin _ t0])
      · rw [decide_eq_false t0]; exact Le.no
    · rw [decide_eq_false e26, cond_false]
      by_cases e27 : i.Op = 27
      · rw [decide_eq_true e27, cond_true]
        have w : r1_Has 27 = false := rfl
        have w2 : r1_Paired 27 = false := rfl
        have q : r5_do (fa d dm xs S) i (d a) (d b) c = (app' (S.Out.map d) [d a]).bind fun o => some (outS (fa d dm xs S) o, ⟨false, 0, false, 0, 0⟩) := by
          simp [r5_do,  w, w2, e27, fa, outS, cut]
        rw [q, app'_mp1]
        exact Le.ma fun o => Le.so (by rw [T.h0]; rfl)
      · rw [decide_eq_false e27, cond_false]
        by_cases e1 : i.Op = 29
        · rw [decide_eq_true e1, cond_true]
          intro r h
          obtain ⟨z, h1, h2⟩ := ob h
          rw [do_still T S i (d a) (bif z then 0 else 1) (d b) c (by rw [e1]; rfl) (fun _ => by rw [T.hz a z h1]; cases z <;> rfl), h2]; rfl
        · rw [decide_eq_false e1, cond_false]
          by_cases e2 : i.Op = 30
          · rw [decide_eq_true e2, cond_true]
            intro r h
            obtain ⟨z, h1, h2⟩ := ob h
            rw [do_still T S i (d a) (bif z then 0 else 1) (d b) c (by rw [e2]; rfl) (fun _ => by rw [T.hz a z h1]; cases z <;> rfl), h2]; rfl
          · rw [decide_eq_false e2, cond_false]
            cases e : still i.Op with
            | true => rw [cond_true]; exact Le.of_eq (do_still T S i _ 0 _ c e (fun h => by omega))
            | false =>
              rw [cond_false]
              intro r h
              obtain ⟨q, h1, h2⟩ := ob h
              cases h2
              rw [tD S i a b c q h1]
              cases decide (q.2.2 = 0) <;> cases decide (i.Op = 25) <;> simp [T.h0]
end
end Go.Proofs.YtgakgpbmcbegbaaGreatDoor
namespace Go.Proofs.YtgakgpbmcbegbaaGreatDoor
open Go Go.RowKit Fr
set_option linter.unusedVariables false
set_option maxRecDepth 20000
/-- A state that begins. -/
def st0 (data : List Int) (pc : Int) (xs : List Int) : T_State := ⟨List.replicate 16 0, cop (List.replicate 256 0) data, xs, 0, [], pc, [], 0, [], 0, 0⟩
theorem wakes_ok : l23_wakes = some true := by kernel_rfl
theorem upto_ok {xs : List Int} : seq_upto (xs.length : Int) [0] = some true := by kernel_rfl
theorem upto_n {n : Nat} (h : n ≤ 200) : seq_upto 20000 [(n : Int)] = some true := by
  have e1 : decide ((n : Int) < 0) = false := decide_eq_false (by omega)
  have e2 : decide ((20000 : Int) < (n : Int)) = false := decide_eq_false (by omega)
  have e3 : seq_upto_1 (n : Int) 20000 = some false := by
    rw [seq_upto_1, e1, cond_false, e2]
  have b0 : slices_IndexFunc_int_int_seq_upto_1_b1 [(n : Int)] 20000 0 = some (.next 1) := by
    have a0 : at' [(n : Int)] 0 = some (n : Int) := rfl
    have c0 : decide ((0 : Int) < (([(n : Int)] : List Int).length : Int)) = true := rfl
    rw [slices_IndexFunc_int_int_seq_upto_1_b1, c0, cond_true, a0, Option.bind_some, e3]
    rfl
  have b1 : slices_IndexFunc_int_int_seq_upto_1_b1 [(n : Int)] 20000 1 = some (.done (-1)) := rfl
  rw [seq_upto, slices_ContainsFunc_int_int_seq_upto_1, slices_IndexFunc_int_int_seq_upto_1, loop_next b0, loop_done b1]
  rfl
section
variable {xs : List Int} (h : xs.length ≤ 100)
include h
theorem h100 : decide (100 < (xs.length : Int)) = false := decide_eq_false (by omega)
theorem clone_ok : slices_Clone_uint32 xs = some xs := app'_le (by simp only [List.length_nil]; omega)
theorem words_ok : r0_CopyWords xs = some xs := loop_copied (by omega) fun _ _ => rfl
theorem new_ok : seq_New xs = some (⟨List.replicate 16 0, List.replicate 256 0, xs, 0, [], 0, [], 0, [], 0, 0⟩, 0) := by
  rw [seq_New, h100 h, clone_ok h]; kernel_rfl
theorem loaded_ok (data : List Int) (pc : Int) : image_loaded data pc xs = some (st0 data pc xs, 0) := by rw [image_loaded, new_ok h]; rfl
theorem rnew_ok : r5_New xs = some (⟨List.replicate 16 0, List.replicate 256 0, xs, 0, [], 0, [], 0, [], 0, 0⟩) := by
  rw [r5_New, words_ok h]; kernel_rfl
end
def Fine (X : T_Image) (F : T_Flat) (n : Int) (xs : List Int) : Prop := ∃ v, bench_Compare X F n xs = some (v, 0) ∧ r19_Compare X F n xs = some v ∧ v.Same = true ∧ v.Begins = true
theorem alike_next {X : T_Image} {F : T_Flat} {xs : List Int} {n m : Int} (hn : decide (n < 200) = true) (H : Fine X F n xs) (hq : (quo' .i64 n 3).bind (fun q => some (IntKind.i64.wrap ((IntKind.i64.wrap (n + 1)) + q))) = some m) : l23_alike_b1 (X, ⟨0, 0, 0⟩) (F, ⟨0, 0, 0⟩) xs n = some (.next m) := by
  obtain ⟨v, h1, h2, h3, h4⟩ := H
  obtain ⟨q, hq1, hq2⟩ := ob hq
  obtain rfl := Option.some.inj hq2
  have hv : eqb_Verdict v v = true := eqb_Verdict_iff.2 rfl
  rw [l23_alike_b1, hn, cond_true]
  simp only [h1, h2, h3, h4, hv, hq1, l23_num, Option.bind_some, ne_eq, not_true_eq_false, decide_false, cond_false, Bool.not_true]
theorem traj_seg {σ : Type} {b : σ → Option σ} {s t : σ} {c : Nat} (h : traj b s c = some t) (m : Nat) : traj b s (c + m) = traj b t m := by rw [traj_add, h]; rfl
theorem e' {α : Type} {x y : α} (h : x = y) : x = y := h
abbrev nI : T_Ins := ⟨0, 0, 0, 0, 0, ByteArray.empty⟩
abbrev eB : ByteArray := ByteArray.empty
/-- A program: its image and its flat form may be; they have no data, and begin at the first or the second place. -/
structure Prg (X : T_Image) (F : T_Flat) : Prop where
  dX : X.Data = []
  dF : F.Data = []
  eX : X.Entry = 0 ∨ X.Entry = 1
  eF : F.Entry = 0 ∨ F.Entry = 1
  mX : link_May X = some true
  mF : image_May F = some true
  cX : pipe_Code X.Code = some true
  cF : seq_Program F.Code = some true
abbrev sG (pc : Int) (xs : List Int) : T_State := st0 [] pc xs
section
variable {xs : List Int} (h : xs.length ≤ 100) {pc : Int}
include h
theorem coreG (hp : pc = 0 ∨ pc = 1) : seq_Core (sG pc xs) = some true := by
  unfold seq_Core
  rw [show (sG pc xs).In_ = xs from rfl, show (sG pc xs).Taken = 0 from rfl, h100 h, upto_ok]
  rcases hp with rfl | rfl <;> kernel_rfl
theorem pmayG (hp : pc = 0 ∨ pc = 1) : pipe_May (sG pc xs) = some true := by
  rw [pipe_May, coreG h hp]
  rcases hp with rfl | rfl <;> kernel_rfl
theorem smayG (hp : pc = 0 ∨ pc = 1) : seq_May (sG pc xs) = some true := by
  rw [seq_May, coreG h hp]
  rcases hp with rfl | rfl <;> kernel_rfl
theorem ownG : seq_Own (sG pc xs) = some (sG pc xs) := by
  unfold seq_Own
  rw [show (sG pc xs).In_ = xs from rfl, clone_ok h]; kernel_rfl
theorem rloadG : r19_Load [] pc xs = some (sG pc xs) := by rw [r19_Load, rnew_ok h]; kernel_rfl
theorem copyG : r0_CopyState (sG pc xs) = some (sG pc xs) := by
  unfold r0_CopyState
  rw [show (sG pc xs).In_ = xs from rfl, words_ok h]; kernel_rfl
end
section
variable {X : T_Image} {F : T_Flat} (p : Prg X F) {xs : List Int} (h : xs.length ≤ 100)
include p h
theorem loadXG : image_Load X xs = some (sG X.Entry xs, 0) := by rw [image_Load, p.mX, loaded_ok h, p.dX]; rfl
theorem loadFG : image_Flat F xs = some (sG F.Entry xs, 0) := by rw [image_Flat, p.mF, loaded_ok h, p.dF]; rfl
theorem cmpP {n ma mb : Nat} {a b : T_State} (hn : n ≤ 200) (ea : ma ≤ n) (eb : mb ≤ 4 * n + 8) (ga : ma = n ∨ live a = false) (gb : mb = 4 * n + 8 ∨ live b = false)
    (hA : traj (stp live (seq_step F.Code)) (sG F.Entry xs) ma = some a) (hB : traj (stp live (hazard_Go X.Code)) (sG X.Entry xs) mb = some b) (H : Agr a b) : bench_Compare X F (n : Int) xs = some (⟨ma, mb, a.Stop, b.Stop, true, true⟩, 0) := by
  have hs := same_of H
  obtain ⟨q3, q4, _⟩ := H
  have w : IntKind.i64.wrap ((IntKind.i64.wrap (4 * (n : Int))) + 8) = ((4 * n + 8 : Nat) : Int) := by
    rw [wrap_i64 (n := 4 * (n : Int)) (by omega) (by omega), wrap_i64 (by omega) (by omega)]; omega
  have rA : seq_Run F.Code (sG F.Entry xs) (n : Int) = some (a, (ma : Int), 0) := by
    have e := seq_run (n := (n : Int)) (c := F.Code) (by omega) (by omega) hA (ga.imp (fun h => by omega) id)
    rw [seq_Run, p.cF, smayG h p.eF, ownG h, upto_n (by omega)]
    exact e
  have rB : hazard_Run X.Code (sG X.Entry xs) (((4 * n + 8 : Nat) : Int)) = some (b, (mb : Int), 0) := by
    have e := haz_run (n := ((4 * n + 8 : Nat) : Int)) (c := X.Code) (by omega) (by omega) hB (gb.imp (fun h => by omega) id)
    rw [hazard_Run, pipe_By_hazard_Go, p.cX, pmayG h p.eX, ownG h]
    simp only [Option.bind_some, Bool.not_true, cond_false]
    rw [decide_eq_false (by omega), decide_eq_false (by omega), cond_false, cond_false]
    change (loop (pipe_By_hazard_Go_b1 _ X.Code) (mkT 0 (sG X.Entry xs))).bind _ = _
    rw [e]
    rfl
  rw [bench_Compare, loadXG p h, loadFG p h]
  simp only [Option.bind_some, ne_eq, not_true_eq_false, decide_false, cond_false]
  rw [decide_eq_false (show ¬ (n : Int) < 0 by omega), decide_eq_false (show ¬ (4000 : Int) < n by omega), cond_false, cond_false, rA, Option.bind_some, w, rB, Option.bind_some, hs, Option.bind_some, begins_of q3 q4, Option.bind_some]
theorem cmpR {n ma mb : Nat} {a b : T_State} (hn : n ≤ 200) (ea : ma ≤ n) (eb : mb ≤ 4 * n + 8) (ga : ma = n ∨ live a = false) (gb : mb = 4 * n + 8 ∨ live b = false)
    (hA : traj (stp live (r5_step F.Code)) (sG F.Entry xs) ma = some a) (hB : traj (stp live (rcy X.Code)) (sG X.Entry xs) mb = some b) (H : Agr a b) : r19_Compare X F (n : Int) xs = some ⟨ma, mb, a.Stop, b.Stop, true, true⟩ := by
  obtain ⟨q3, q4, q5⟩ := H
  have w : IntKind.i64.wrap ((IntKind.i64.wrap (4 * (n : Int))) + 8) = ((4 * n + 8 : Nat) : Int) := by
    rw [wrap_i64 (n := 4 * (n : Int)) (by omega) (by omega), wrap_i64 (by omega) (by omega)]; omega
  have rA : r5_Run F.Code (sG F.Entry xs) (n : Int) = some (a, (ma : Int)) := by
    have e := rst_run (n := (n : Int)) (c := F.Code) (by omega) (by omega) hA (ga.imp (fun h => by omega) id)
    rw [r5_Run, copyG h]
    exact e
  have rB : r5_Cycles X.Code (sG X.Entry xs) (((4 * n + 8 : Nat) : Int)) true = some (b, (mb : Int)) := by
    have e := rcy_run (n := ((4 * n + 8 : Nat) : Int)) (c := X.Code) (by omega) (by omega) hB (gb.imp (fun h => by omega) id)
    rw [r5_Cycles, copyG h]
    exact e
  rw [r19_Compare, p.dF, rloadG h, Option.bind_some, rA, Option.bind_some]
  simp only [cut, r19_Compare_k1, p.dX, rloadG h, Option.bind_some, w, rB, r19_Compare_k2]
  obtain ⟨k, hk, hk2⟩ := rbegins_of q3 q4
  obtain ⟨z, hz, hz2⟩ : ∃ z : Bool, z = true ∧ ((r0_Begins a.Out b.Out).bind fun G0 => bif G0 then some (Step.next true) else (r0_Begins b.Out a.Out).bind fun I0 => some (Step.next I0)) = some (Step.next (ρ := T_Verdict) z) := by
    rcases hk2 with rfl | hk2
    · exact ⟨true, rfl, by rw [hk]; rfl⟩
    · cases k with
      | true => exact ⟨true, rfl, by rw [hk]; rfl⟩
      | false => exact ⟨true, rfl, by rw [hk, Option.bind_some, cond_false, hk2]; rfl⟩
  subst hz
  rw [hz2]
  dsimp only
  rw [r19_Compare_k3]
  rcases q5 with ⟨e, h6⟩ | ⟨e, s, m, o, t, lm, lr⟩
  · simp [e, h6]
  · rw [s, m, o, t, words_self lm, words_self q4]
    by_cases q : a.Stop = 1
    · obtain ⟨r, lr2⟩ := lr q
      rw [r, words_self lr2]
      simp [q]
    · simp [e, q]
theorem fineG {n ma mb : Nat} {a b a' b' : T_State} (hn : n ≤ 200) (ea : ma ≤ n) (eb : mb ≤ 4 * n + 8) (ga : ma = n ∨ live a = false) (gb : mb = 4 * n + 8 ∨ live b = false) (ga' : ma = n ∨ live a' = false) (gb' : mb = 4 * n + 8 ∨ live b' = false)
    (hA : traj (stp live (seq_step F.Code)) (sG F.Entry xs) ma = some a) (hB : traj (stp live (hazard_Go X.Code)) (sG X.Entry xs) mb = some b) (H : Agr a b)
    (hA' : traj (stp live (r5_step F.Code)) (sG F.Entry xs) ma = some a') (hB' : traj (stp live (rcy X.Code)) (sG X.Entry xs) mb = some b') (H' : Agr a' b') (e1 : a'.Stop = a.Stop) (e2 : b'.Stop = b.Stop) : Fine X F (n : Int) xs :=
  ⟨_, cmpP p h hn ea eb ga gb hA hB H, by rw [← e1, ← e2]; exact cmpR p h hn ea eb ga' gb' hA' hB' H', rfl, rfl⟩
end
def tx0 : ByteArray := ByteArray.mk #[46, 103, 108, 111, 98, 97, 108, 32, 109, 97, 105, 110, 10, 109, 97, 105, 110, 58, 32, 106, 109, 112, 32, 97, 10, 97, 58, 32, 106, 109, 112, 32, 98, 10, 98, 58, 32, 98, 122, 32, 114, 49, 44, 32, 99, 10, 104, 97, 108, 116, 10, 99, 58, 32, 98, 110, 122, 32, 114, 49, 44, 32, 100, 10, 98, 122, 32, 114, 49, 44, 32, 101, 10, 100, 58, 32, 104, 97, 108, 116, 10, 101, 58, 32, 111, 117, 116, 32, 114, 49, 10, 105, 110, 32, 114, 49, 10, 98, 110, 122, 32, 114, 49, 44, 32, 98, 10]
def imx0 : T_Image := ⟨[⟨⟨28, 0, 0, 0, 3, eB⟩, nI, nI, nI⟩, ⟨nI, nI, nI, nI⟩, ⟨nI, nI, nI, nI⟩, ⟨⟨28, 0, 0, 0, 6, eB⟩, nI, nI, nI⟩, ⟨nI, nI, nI, nI⟩, ⟨nI, nI, nI, nI⟩, ⟨⟨29, 0, 1, 0, 10, eB⟩, nI, nI, nI⟩, ⟨nI, nI, nI, nI⟩, ⟨nI, nI, nI, nI⟩, ⟨⟨33, 0, 0, 0, 0, eB⟩, nI, nI, nI⟩, ⟨⟨30, 0, 1, 0, 16, eB⟩, nI, nI, nI⟩, ⟨nI, nI, nI, nI⟩, ⟨nI, nI, nI, nI⟩, ⟨⟨29, 0, 1, 0, 17, eB⟩, nI, nI, nI⟩, ⟨nI, nI, nI, nI⟩, ⟨nI, nI, nI, nI⟩, ⟨⟨33, 0, 0, 0, 0, eB⟩, nI, nI, nI⟩, ⟨nI, nI, ⟨27, 0, 1, 0, 0, eB⟩, nI⟩, ⟨nI, nI, ⟨26, 1, 0, 0, 0, eB⟩, nI⟩, ⟨nI, nI, nI, nI⟩, ⟨⟨30, 0, 1, 0, 6, eB⟩, nI, nI, nI⟩, ⟨nI, nI, nI, nI⟩, ⟨nI, nI, nI, nI⟩], [], 0⟩
def flx0 : T_Flat := ⟨[⟨28, 0, 0, 0, 1, eB⟩, ⟨28, 0, 0, 0, 2, eB⟩, ⟨29, 0, 1, 0, 4, eB⟩, ⟨33, 0, 0, 0, 0, eB⟩, ⟨30, 0, 1, 0, 6, eB⟩, ⟨29, 0, 1, 0, 7, eB⟩, ⟨33, 0, 0, 0, 0, eB⟩, ⟨27, 0, 1, 0, 0, eB⟩, ⟨26, 1, 0, 0, 0, eB⟩, ⟨30, 0, 1, 0, 2, eB⟩], [], 0⟩
theorem build0 : r19_Build [⟨false, [tx0]⟩] = some (imx0, ⟨0, 0, 0⟩) := by kernel_rfl
theorem model0 : r19_Model [⟨false, [tx0]⟩] = some (flx0, ⟨0, 0, 0⟩) := by kernel_rfl
theorem prg0 : Prg imx0 flx0 := ⟨rfl, rfl, by decide, by decide, by kernel_rfl, by kernel_rfl, by kernel_rfl, by kernel_rfl⟩
def txt0 : ByteArray := ByteArray.mk #[109, 97, 105, 110, 58, 32, 106, 109, 112, 32, 97, 10, 97, 58, 32, 106, 109, 112, 32, 98, 10, 98, 58, 32, 98, 122, 32, 114, 49, 44, 32, 99, 10, 104, 97, 108, 116, 10, 99, 58, 32, 98, 110, 122, 32, 114, 49, 44, 32, 100, 10, 98, 122, 32, 114, 49, 44, 32, 101, 10, 100, 58, 32, 104, 97, 108, 116, 10, 101, 58, 32, 111, 117, 116, 32, 114, 49, 10, 105, 110, 32, 114, 49, 10, 98, 110, 122, 32, 114, 49, 44, 32, 98, 10]
theorem alike0 {xs : List Int} (H : Fine imx0 flx0 0 xs ∧ Fine imx0 flx0 1 xs ∧ Fine imx0 flx0 2 xs ∧ Fine imx0 flx0 3 xs ∧ Fine imx0 flx0 5 xs ∧ Fine imx0 flx0 7 xs ∧ Fine imx0 flx0 10 xs ∧ Fine imx0 flx0 14 xs ∧ Fine imx0 flx0 19 xs ∧ Fine imx0 flx0 26 xs ∧ Fine imx0 flx0 35 xs ∧ Fine imx0 flx0 47 xs ∧ Fine imx0 flx0 63 xs ∧ Fine imx0 flx0 85 xs ∧ Fine imx0 flx0 114 xs ∧ Fine imx0 flx0 153 xs) : l23_alike txt0 xs = some true := by
  obtain ⟨H0, H1, H2, H3, H5, H7, H10, H14, H19, H26, H35, H47, H63, H85, H114, H153⟩ := H
  rw [l23_alike, show cat' (ByteArray.mk #[46, 103, 108, 111, 98, 97, 108, 32, 109, 97, 105, 110, 10]) txt0 = some tx0 by kernel_rfl, Option.bind_some, build0, Option.bind_some, model0, Option.bind_some]
  change loop (l23_alike_b1 (imx0, ⟨0, 0, 0⟩) (flx0, ⟨0, 0, 0⟩) xs) 0 = some true
  rw [loop_next (alike_next rfl H0 (m := 1) rfl), loop_next (alike_next rfl H1 (m := 2) rfl), loop_next (alike_next rfl H2 (m := 3) rfl), loop_next (alike_next rfl H3 (m := 5) rfl), loop_next (alike_next rfl H5 (m := 7) rfl), loop_next (alike_next rfl H7 (m := 10) rfl), loop_next (alike_next rfl H10 (m := 14) rfl), loop_next (alike_next rfl H14 (m := 19) rfl), loop_next (alike_next rfl H19 (m := 26) rfl), loop_next (alike_next rfl H26 (m := 35) rfl), loop_next (alike_next rfl H35 (m := 47) rfl), loop_next (alike_next rfl H47 (m := 63) rfl), loop_next (alike_next rfl H63 (m := 85) rfl), loop_next (alike_next rfl H85 (m := 114) rfl), loop_next (alike_next rfl H114 (m := 153) rfl), loop_next (alike_next rfl H153 (m := 205) rfl)]
  exact loop_done (by rw [l23_alike_b1, wakes_ok]; rfl)
def tx1 : ByteArray := ByteArray.mk #[46, 103, 108, 111, 98, 97, 108, 32, 109, 97, 105, 110, 10, 109, 97, 105, 110, 58, 32, 105, 110, 32, 114, 49, 10, 98, 122, 32, 114, 49, 44, 32, 101, 110, 100, 10, 111, 117, 116, 32, 114, 49, 10, 99, 97, 108, 108, 32, 102, 10, 106, 109, 112, 32, 109, 97, 105, 110, 10, 102, 58, 32, 98, 110, 122, 32, 114, 49, 44, 32, 103, 10, 114, 101, 116, 10, 103, 58, 32, 114, 101, 116, 10, 101, 110, 100, 58]
def imx1 : T_Image := ⟨[⟨nI, nI, ⟨26, 1, 0, 0, 0, eB⟩, nI⟩, ⟨nI, nI, nI, nI⟩, ⟨⟨29, 0, 1, 0, 21, eB⟩, nI, nI, nI⟩, ⟨nI, nI, nI, nI⟩, ⟨nI, nI, nI, nI⟩, ⟨nI, nI, ⟨27, 0, 1, 0, 0, eB⟩, nI⟩, ⟨⟨31, 0, 0, 0, 12, eB⟩, nI, nI, nI⟩, ⟨nI, nI, nI, nI⟩, ⟨nI, nI, nI, nI⟩, ⟨⟨28, 0, 0, 0, 0, eB⟩, nI, nI, nI⟩, ⟨nI, nI, nI, nI⟩, ⟨nI, nI, nI, nI⟩, ⟨⟨30, 0, 1, 0, 18, eB⟩, nI, nI, nI⟩, ⟨nI, nI, nI, nI⟩, ⟨nI, nI, nI, nI⟩, ⟨⟨32, 0, 0, 0, 0, eB⟩, nI, nI, nI⟩, ⟨nI, nI, nI, nI⟩, ⟨nI, nI, nI, nI⟩, ⟨⟨32, 0, 0, 0, 0, eB⟩, nI, nI, nI⟩, ⟨nI, nI, nI, nI⟩, ⟨nI, nI, nI, nI⟩], [], 0⟩
def flx1 : T_Flat := ⟨[⟨26, 1, 0, 0, 0, eB⟩, ⟨29, 0, 1, 0, 8, eB⟩, ⟨27, 0, 1, 0, 0, eB⟩, ⟨31, 0, 0, 0, 5, eB⟩, ⟨28, 0, 0, 0, 0, eB⟩, ⟨30, 0, 1, 0, 7, eB⟩, ⟨32, 0, 0, 0, 0, eB⟩, ⟨32, 0, 0, 0, 0, eB⟩], [], 0⟩
theorem build1 : r19_Build [⟨false, [tx1]⟩] = some (imx1, ⟨0, 0, 0⟩) := by kernel_rfl
theorem model1 : r19_Model [⟨false, [tx1]⟩] = some (flx1, ⟨0, 0, 0⟩) := by kernel_rfl
theorem prg1 : Prg imx1 flx1 := ⟨rfl, rfl, by decide, by decide, by kernel_rfl, by kernel_rfl, by kernel_rfl, by kernel_rfl⟩
def txt1 : ByteArray := ByteArray.mk #[109, 97, 105, 110, 58, 32, 105, 110, 32, 114, 49, 10, 98, 122, 32, 114, 49, 44, 32, 101, 110, 100, 10, 111, 117, 116, 32, 114, 49, 10, 99, 97, 108, 108, 32, 102, 10, 106, 109, 112, 32, 109, 97, 105, 110, 10, 102, 58, 32, 98, 110, 122, 32, 114, 49, 44, 32, 103, 10, 114, 101, 116, 10, 103, 58, 32, 114, 101, 116, 10, 101, 110, 100, 58]
theorem alike1 {xs : List Int} (H : Fine imx1 flx1 0 xs ∧ Fine imx1 flx1 1 xs ∧ Fine imx1 flx1 2 xs ∧ Fine imx1 flx1 3 xs ∧ Fine imx1 flx1 5 xs ∧ Fine imx1 flx1 7 xs ∧ Fine imx1 flx1 10 xs ∧ Fine imx1 flx1 14 xs ∧ Fine imx1 flx1 19 xs ∧ Fine imx1 flx1 26 xs ∧ Fine imx1 flx1 35 xs ∧ Fine imx1 flx1 47 xs ∧ Fine imx1 flx1 63 xs ∧ Fine imx1 flx1 85 xs ∧ Fine imx1 flx1 114 xs ∧ Fine imx1 flx1 153 xs) : l23_alike txt1 xs = some true := by
  obtain ⟨H0, H1, H2, H3, H5, H7, H10, H14, H19, H26, H35, H47, H63, H85, H114, H153⟩ := H
  rw [l23_alike, show cat' (ByteArray.mk #[46, 103, 108, 111, 98, 97, 108, 32, 109, 97, 105, 110, 10]) txt1 = some tx1 by kernel_rfl, Option.bind_some, build1, Option.bind_some, model1, Option.bind_some]
  change loop (l23_alike_b1 (imx1, ⟨0, 0, 0⟩) (flx1, ⟨0, 0, 0⟩) xs) 0 = some true
  rw [loop_next (alike_next rfl H0 (m := 1) rfl), loop_next (alike_next rfl H1 (m := 2) rfl), loop_next (alike_next rfl H2 (m := 3) rfl), loop_next (alike_next rfl H3 (m := 5) rfl), loop_next (alike_next rfl H5 (m := 7) rfl), loop_next (alike_next rfl H7 (m := 10) rfl), loop_next (alike_next rfl H10 (m := 14) rfl), loop_next (alike_next rfl H14 (m := 19) rfl), loop_next (alike_next rfl H19 (m := 26) rfl), loop_next (alike_next rfl H26 (m := 35) rfl), loop_next (alike_next rfl H35 (m := 47) rfl), loop_next (alike_next rfl H47 (m := 63) rfl), loop_next (alike_next rfl H63 (m := 85) rfl), loop_next (alike_next rfl H85 (m := 114) rfl), loop_next (alike_next rfl H114 (m := 153) rfl), loop_next (alike_next rfl H153 (m := 205) rfl)]
  exact loop_done (by rw [l23_alike_b1, wakes_ok]; rfl)
def tx2 : ByteArray := ByteArray.mk #[46, 103, 108, 111, 98, 97, 108, 32, 109, 97, 105, 110, 10, 109, 97, 105, 110, 58, 32, 99, 97, 108, 108, 32, 97, 10, 97, 58, 32, 99, 97, 108, 108, 32, 98, 10, 98, 58, 32, 111, 117, 116, 32, 114, 49, 10, 114, 101, 116]
def imx2 : T_Image := ⟨[⟨⟨31, 0, 0, 0, 3, eB⟩, nI, nI, nI⟩, ⟨nI, nI, nI, nI⟩, ⟨nI, nI, nI, nI⟩, ⟨⟨31, 0, 0, 0, 6, eB⟩, nI, nI, nI⟩, ⟨nI, nI, nI, nI⟩, ⟨nI, nI, nI, nI⟩, ⟨nI, nI, ⟨27, 0, 1, 0, 0, eB⟩, nI⟩, ⟨⟨32, 0, 0, 0, 0, eB⟩, nI, nI, nI⟩, ⟨nI, nI, nI, nI⟩, ⟨nI, nI, nI, nI⟩], [], 0⟩
def flx2 : T_Flat := ⟨[⟨31, 0, 0, 0, 1, eB⟩, ⟨31, 0, 0, 0, 2, eB⟩, ⟨27, 0, 1, 0, 0, eB⟩, ⟨32, 0, 0, 0, 0, eB⟩], [], 0⟩
theorem build2 : r19_Build [⟨false, [tx2]⟩] = some (imx2, ⟨0, 0, 0⟩) := by kernel_rfl
theorem model2 : r19_Model [⟨false, [tx2]⟩] = some (flx2, ⟨0, 0, 0⟩) := by kernel_rfl
theorem prg2 : Prg imx2 flx2 := ⟨rfl, rfl, by decide, by decide, by kernel_rfl, by kernel_rfl, by kernel_rfl, by kernel_rfl⟩
def txt2 : ByteArray := ByteArray.mk #[109, 97, 105, 110, 58, 32, 99, 97, 108, 108, 32, 97, 10, 97, 58, 32, 99, 97, 108, 108, 32, 98, 10, 98, 58, 32, 111, 117, 116, 32, 114, 49, 10, 114, 101, 116]
theorem alike2 {xs : List Int} (H : Fine imx2 flx2 0 xs ∧ Fine imx2 flx2 1 xs ∧ Fine imx2 flx2 2 xs ∧ Fine imx2 flx2 3 xs ∧ Fine imx2 flx2 5 xs ∧ Fine imx2 flx2 7 xs ∧ Fine imx2 flx2 10 xs ∧ Fine imx2 flx2 14 xs ∧ Fine imx2 flx2 19 xs ∧ Fine imx2 flx2 26 xs ∧ Fine imx2 flx2 35 xs ∧ Fine imx2 flx2 47 xs ∧ Fine imx2 flx2 63 xs ∧ Fine imx2 flx2 85 xs ∧ Fine imx2 flx2 114 xs ∧ Fine imx2 flx2 153 xs) : l23_alike txt2 xs = some true := by
  obtain ⟨H0, H1, H2, H3, H5, H7, H10, H14, H19, H26, H35, H47, H63, H85, H114, H153⟩ := H
  rw [l23_alike, show cat' (ByteArray.mk #[46, 103, 108, 111, 98, 97, 108, 32, 109, 97, 105, 110, 10]) txt2 = some tx2 by kernel_rfl, Option.bind_some, build2, Option.bind_some, model2, Option.bind_some]
  change loop (l23_alike_b1 (imx2, ⟨0, 0, 0⟩) (flx2, ⟨0, 0, 0⟩) xs) 0 = some true
  rw [loop_next (alike_next rfl H0 (m := 1) rfl), loop_next (alike_next rfl H1 (m := 2) rfl), loop_next (alike_next rfl H2 (m := 3) rfl), loop_next (alike_next rfl H3 (m := 5) rfl), loop_next (alike_next rfl H5 (m := 7) rfl), loop_next (alike_next rfl H7 (m := 10) rfl), loop_next (alike_next rfl H10 (m := 14) rfl), loop_next (alike_next rfl H14 (m := 19) rfl), loop_next (alike_next rfl H19 (m := 26) rfl), loop_next (alike_next rfl H26 (m := 35) rfl), loop_next (alike_next rfl H35 (m := 47) rfl), loop_next (alike_next rfl H47 (m := 63) rfl), loop_next (alike_next rfl H63 (m := 85) rfl), loop_next (alike_next rfl H85 (m := 114) rfl), loop_next (alike_next rfl H114 (m := 153) rfl), loop_next (alike_next rfl H153 (m := 205) rfl)]
  exact loop_done (by rw [l23_alike_b1, wakes_ok]; rfl)
def tx3 : ByteArray := ByteArray.mk #[46, 103, 108, 111, 98, 97, 108, 32, 109, 97, 105, 110, 10, 109, 97, 105, 110, 58, 32, 105, 110, 32, 114, 49, 10, 97, 58, 32, 97, 100, 100, 105, 32, 114, 49, 44, 32, 114, 49, 44, 32, 45, 49, 10, 98, 122, 32, 114, 49, 44, 32, 98, 10, 97, 100, 100, 32, 114, 50, 44, 32, 114, 50, 44, 32, 114, 49, 10, 106, 109, 112, 32, 97, 10, 98, 58, 32, 111, 117, 116, 32, 114, 50, 10, 104, 97, 108, 116]
def imx3 : T_Image := ⟨[⟨nI, nI, ⟨26, 1, 0, 0, 0, eB⟩, nI⟩, ⟨nI, nI, nI, nI⟩, ⟨⟨22, 1, 1, 0, -1, eB⟩, nI, nI, nI⟩, ⟨⟨29, 0, 1, 0, 10, eB⟩, nI, nI, nI⟩, ⟨nI, nI, nI, nI⟩, ⟨nI, nI, nI, nI⟩, ⟨⟨1, 2, 2, 1, 0, eB⟩, nI, nI, nI⟩, ⟨⟨28, 0, 0, 0, 2, eB⟩, nI, nI, nI⟩, ⟨nI, nI, nI, nI⟩, ⟨nI, nI, nI, nI⟩, ⟨nI, nI, ⟨27, 0, 2, 0, 0, eB⟩, nI⟩, ⟨⟨33, 0, 0, 0, 0, eB⟩, nI, nI, nI⟩], [], 0⟩
def flx3 : T_Flat := ⟨[⟨26, 1, 0, 0, 0, eB⟩, ⟨22, 1, 1, 0, -1, eB⟩, ⟨29, 0, 1, 0, 5, eB⟩, ⟨1, 2, 2, 1, 0, eB⟩, ⟨28, 0, 0, 0, 1, eB⟩, ⟨27, 0, 2, 0, 0, eB⟩, ⟨33, 0, 0, 0, 0, eB⟩], [], 0⟩
theorem build3 : r19_Build [⟨false, [tx3]⟩] = some (imx3, ⟨0, 0, 0⟩) := by kernel_rfl
theorem model3 : r19_Model [⟨false, [tx3]⟩] = some (flx3, ⟨0, 0, 0⟩) := by kernel_rfl
theorem prg3 : Prg imx3 flx3 := ⟨rfl, rfl, by decide, by decide, by kernel_rfl, by kernel_rfl, by kernel_rfl, by kernel_rfl⟩
def txt3 : ByteArray := ByteArray.mk #[109, 97, 105, 110, 58, 32, 105, 110, 32, 114, 49, 10, 97, 58, 32, 97, 100, 100, 105, 32, 114, 49, 44, 32, 114, 49, 44, 32, 45, 49, 10, 98, 122, 32, 114, 49, 44, 32, 98, 10, 97, 100, 100, 32, 114, 50, 44, 32, 114, 50, 44, 32, 114, 49, 10, 106, 109, 112, 32, 97, 10, 98, 58, 32, 111, 117, 116, 32, 114, 50, 10, 104, 97, 108, 116]
theorem alike3 {xs : List Int} (H : Fine imx3 flx3 0 xs ∧ Fine imx3 flx3 1 xs ∧ Fine imx3 flx3 2 xs ∧ Fine imx3 flx3 3 xs ∧ Fine imx3 flx3 5 xs ∧ Fine imx3 flx3 7 xs ∧ Fine imx3 flx3 10 xs ∧ Fine imx3 flx3 14 xs ∧ Fine imx3 flx3 19 xs ∧ Fine imx3 flx3 26 xs ∧ Fine imx3 flx3 35 xs ∧ Fine imx3 flx3 47 xs ∧ Fine imx3 flx3 63 xs ∧ Fine imx3 flx3 85 xs ∧ Fine imx3 flx3 114 xs ∧ Fine imx3 flx3 153 xs) : l23_alike txt3 xs = some true := by
  obtain ⟨H0, H1, H2, H3, H5, H7, H10, H14, H19, H26, H35, H47, H63, H85, H114, H153⟩ := H
  rw [l23_alike, show cat' (ByteArray.mk #[46, 103, 108, 111, 98, 97, 108, 32, 109, 97, 105, 110, 10]) txt3 = some tx3 by kernel_rfl, Option.bind_some, build3, Option.bind_some, model3, Option.bind_some]
  change loop (l23_alike_b1 (imx3, ⟨0, 0, 0⟩) (flx3, ⟨0, 0, 0⟩) xs) 0 = some true
  rw [loop_next (alike_next rfl H0 (m := 1) rfl), loop_next (alike_next rfl H1 (m := 2) rfl), loop_next (alike_next rfl H2 (m := 3) rfl), loop_next (alike_next rfl H3 (m := 5) rfl), loop_next (alike_next rfl H5 (m := 7) rfl), loop_next (alike_next rfl H7 (m := 10) rfl), loop_next (alike_next rfl H10 (m := 14) rfl), loop_next (alike_next rfl H14 (m := 19) rfl), loop_next (alike_next rfl H19 (m := 26) rfl), loop_next (alike_next rfl H26 (m := 35) rfl), loop_next (alike_next rfl H35 (m := 47) rfl), loop_next (alike_next rfl H47 (m := 63) rfl), loop_next (alike_next rfl H63 (m := 85) rfl), loop_next (alike_next rfl H85 (m := 114) rfl), loop_next (alike_next rfl H114 (m := 153) rfl), loop_next (alike_next rfl H153 (m := 205) rfl)]
  exact loop_done (by rw [l23_alike_b1, wakes_ok]; rfl)
def tx4 : ByteArray := ByteArray.mk #[46, 103, 108, 111, 98, 97, 108, 32, 109, 97, 105, 110, 10, 109, 97, 105, 110, 58]
def imx4 : T_Image := ⟨[], [], 0⟩
def flx4 : T_Flat := ⟨[], [], 0⟩
theorem build4 : r19_Build [⟨false, [tx4]⟩] = some (imx4, ⟨0, 0, 0⟩) := by kernel_rfl
theorem model4 : r19_Model [⟨false, [tx4]⟩] = some (flx4, ⟨0, 0, 0⟩) := by kernel_rfl
theorem prg4 : Prg imx4 flx4 := ⟨rfl, rfl, by decide, by decide, by kernel_rfl, by kernel_rfl, by kernel_rfl, by kernel_rfl⟩
def txt4 : ByteArray := ByteArray.mk #[109, 97, 105, 110, 58]
theorem alike4 {xs : List Int} (H : Fine imx4 flx4 0 xs ∧ Fine imx4 flx4 1 xs ∧ Fine imx4 flx4 2 xs ∧ Fine imx4 flx4 3 xs ∧ Fine imx4 flx4 5 xs ∧ Fine imx4 flx4 7 xs ∧ Fine imx4 flx4 10 xs ∧ Fine imx4 flx4 14 xs ∧ Fine imx4 flx4 19 xs ∧ Fine imx4 flx4 26 xs ∧ Fine imx4 flx4 35 xs ∧ Fine imx4 flx4 47 xs ∧ Fine imx4 flx4 63 xs ∧ Fine imx4 flx4 85 xs ∧ Fine imx4 flx4 114 xs ∧ Fine imx4 flx4 153 xs) : l23_alike txt4 xs = some true := by
  obtain ⟨H0, H1, H2, H3, H5, H7, H10, H14, H19, H26, H35, H47, H63, H85, H114, H153⟩ := H
  rw [l23_alike, show cat' (ByteArray.mk #[46, 103, 108, 111, 98, 97, 108, 32, 109, 97, 105, 110, 10]) txt4 = some tx4 by kernel_rfl, Option.bind_some, build4, Option.bind_some, model4, Option.bind_some]
  change loop (l23_alike_b1 (imx4, ⟨0, 0, 0⟩) (flx4, ⟨0, 0, 0⟩) xs) 0 = some true
  rw [loop_next (alike_next rfl H0 (m := 1) rfl), loop_next (alike_next rfl H1 (m := 2) rfl), loop_next (alike_next rfl H2 (m := 3) rfl), loop_next (alike_next rfl H3 (m := 5) rfl), loop_next (alike_next rfl H5 (m := 7) rfl), loop_next (alike_next rfl H7 (m := 10) rfl), loop_next (alike_next rfl H10 (m := 14) rfl), loop_next (alike_next rfl H14 (m := 19) rfl), loop_next (alike_next rfl H19 (m := 26) rfl), loop_next (alike_next rfl H26 (m := 35) rfl), loop_next (alike_next rfl H35 (m := 47) rfl), loop_next (alike_next rfl H47 (m := 63) rfl), loop_next (alike_next rfl H63 (m := 85) rfl), loop_next (alike_next rfl H85 (m := 114) rfl), loop_next (alike_next rfl H114 (m := 153) rfl), loop_next (alike_next rfl H153 (m := 205) rfl)]
  exact loop_done (by rw [l23_alike_b1, wakes_ok]; rfl)
def tx5 : ByteArray := ByteArray.mk #[46, 103, 108, 111, 98, 97, 108, 32, 109, 97, 105, 110, 10, 110, 111, 112, 10, 109, 97, 105, 110, 58, 32, 110, 111, 112, 10, 110, 111, 112]
def imx5 : T_Image := ⟨[], [], 0⟩
def flx5 : T_Flat := ⟨[nI, nI, nI], [], 1⟩
theorem build5 : r19_Build [⟨false, [tx5]⟩] = some (imx5, ⟨0, 0, 0⟩) := by kernel_rfl
theorem model5 : r19_Model [⟨false, [tx5]⟩] = some (flx5, ⟨0, 0, 0⟩) := by kernel_rfl
theorem prg5 : Prg imx5 flx5 := ⟨rfl, rfl, by decide, by decide, by kernel_rfl, by kernel_rfl, by kernel_rfl, by kernel_rfl⟩
def txt5 : ByteArray := ByteArray.mk #[110, 111, 112, 10, 109, 97, 105, 110, 58, 32, 110, 111, 112, 10, 110, 111, 112]
theorem alike5 {xs : List Int} (H : Fine imx5 flx5 0 xs ∧ Fine imx5 flx5 1 xs ∧ Fine imx5 flx5 2 xs ∧ Fine imx5 flx5 3 xs ∧ Fine imx5 flx5 5 xs ∧ Fine imx5 flx5 7 xs ∧ Fine imx5 flx5 10 xs ∧ Fine imx5 flx5 14 xs ∧ Fine imx5 flx5 19 xs ∧ Fine imx5 flx5 26 xs ∧ Fine imx5 flx5 35 xs ∧ Fine imx5 flx5 47 xs ∧ Fine imx5 flx5 63 xs ∧ Fine imx5 flx5 85 xs ∧ Fine imx5 flx5 114 xs ∧ Fine imx5 flx5 153 xs) : l23_alike txt5 xs = some true := by
  obtain ⟨H0, H1, H2, H3, H5, H7, H10, H14, H19, H26, H35, H47, H63, H85, H114, H153⟩ := H
  rw [l23_alike, show cat' (ByteArray.mk #[46, 103, 108, 111, 98, 97, 108, 32, 109, 97, 105, 110, 10]) txt5 = some tx5 by kernel_rfl, Option.bind_some, build5, Option.bind_some, model5, Option.bind_some]
  change loop (l23_alike_b1 (imx5, ⟨0, 0, 0⟩) (flx5, ⟨0, 0, 0⟩) xs) 0 = some true
  rw [loop_next (alike_next rfl H0 (m := 1) rfl), loop_next (alike_next rfl H1 (m := 2) rfl), loop_next (alike_next rfl H2 (m := 3) rfl), loop_next (alike_next rfl H3 (m := 5) rfl), loop_next (alike_next rfl H5 (m := 7) rfl), loop_next (alike_next rfl H7 (m := 10) rfl), loop_next (alike_next rfl H10 (m := 14) rfl), loop_next (alike_next rfl H14 (m := 19) rfl), loop_next (alike_next rfl H19 (m := 26) rfl), loop_next (alike_next rfl H26 (m := 35) rfl), loop_next (alike_next rfl H35 (m := 47) rfl), loop_next (alike_next rfl H47 (m := 63) rfl), loop_next (alike_next rfl H63 (m := 85) rfl), loop_next (alike_next rfl H85 (m := 114) rfl), loop_next (alike_next rfl H114 (m := 153) rfl), loop_next (alike_next rfl H153 (m := 205) rfl)]
  exact loop_done (by rw [l23_alike_b1, wakes_ok]; rfl)
end Go.Proofs.YtgakgpbmcbegbaaGreatDoor
namespace Go.Proofs.YtgakgpbmcbegbaaGreatDoor
open Go Go.RowKit Fr
set_option linter.unusedVariables false
set_option linter.unusedSimpArgs false
set_option maxRecDepth 20000
/-- At most m steps; how many. -/
noncomputable def rn (b : T_State → Option T_State) (s : T_State) (m : Nat) : Option (T_State × Nat) := Nat.rec (some (s, 0)) (fun _ r => r.bind fun q => bif live q.1 then (b q.1).map fun t => (t, q.2 + 1) else some q) m
theorem rn_s (b : T_State → Option T_State) (s : T_State) (m : Nat) : rn b s (m + 1) = (rn b s m).bind fun q => bif live q.1 then (b q.1).map fun t => (t, q.2 + 1) else some q := rfl
theorem rn_traj {b : T_State → Option T_State} {s : T_State} : ∀ (m : Nat) {t : T_State} {k : Nat}, rn b s m = some (t, k) → k ≤ m ∧ traj (stp live b) s k = some t ∧ (k = m ∨ live t = false)
  | 0, t, k, h => by
    cases (show some (s, 0) = some (t, k) from h)
    exact ⟨Nat.le_refl _, rfl, .inl rfl⟩
  | m + 1, t, k, h => by
    rw [rn_s] at h
    obtain ⟨⟨u, j⟩, h1, h2⟩ := ob h
    obtain ⟨l1, l2, l3⟩ := rn_traj m h1
    dsimp only at h2
    cases hl : live u with
    | false =>
      rw [hl, cond_false] at h2
      cases h2
      exact ⟨by omega, l2, .inr hl⟩
    | true =>
      rw [hl, cond_true] at h2
      obtain ⟨v, hv, e⟩ := Option.map_eq_some_iff.1 h2
      cases e
      have hj : j = m := by
        rcases l3 with l3 | l3
        · exact l3
        · rw [hl] at l3; cases l3
      subst hj
      refine ⟨Nat.le_refl _, ?_, .inl rfl⟩
      rw [traj_s, l2, Option.bind_some, stp, hl, cond_true, hv]
theorem traj_le {F : T_State → T_State} {b b' : T_State → Option T_State} (hf : ∀ S, live (F S) = live S) (h : ∀ S, Le F (b (F S)) (b' S)) {s : T_State} : ∀ (m : Nat) {t : T_State}, traj (stp live b') s m = some t → traj (stp live b) (F s) m = some (F t)
  | 0, t, e => by cases (show some s = some t from e); rfl
  | m + 1, t, e => by
    rw [traj_s] at e ⊢
    obtain ⟨u, h1, h2⟩ := ob e
    rw [traj_le hf h m h1, Option.bind_some]
    unfold stp at h2 ⊢
    rw [hf]
    cases hl : live u with
    | true => rw [hl, cond_true] at h2; exact h u t h2
    | false => rw [hl, cond_false] at h2; cases h2
noncomputable def rcyG (D : T_State → T_Ins → Int → Int → Int → Option (T_State × T_deed)) (c : List (A4 T_Ins)) (s : T_State) : Option T_State := (r5_lands s).bind fun D0 => (r5_find c D0).bind fun Y0 => bif decide (0 ≤ Y0) then none else G_r5_issue D c D0
theorem rcy_le {d : Int → Int} {dm : List Int → List Int} {xs : List Int} {A : T_State → T_Ins → Int → Int → Option (T_State × Int × Int)} {B : T_State → T_Ins → Int → Int → Option (T_State × Int × Bool × Int)} {D : T_State → T_Ins → Int → Int → Int → Option (T_State × T_deed)} (H : Deeds d dm xs A B D) (c : List (A4 T_Ins)) (S : T_State) : Le (fa d dm xs) (rcy c (fa d dm xs S)) (rcyG D c S) := by
  unfold rcy rcyG
  simp only [rlands_map, m_r5_find, bind_of_map]
  exact Le.sa fun r1 => Le.sa fun r2 => Le.co (fun _ => Le.no) fun _ => rissue_le H c r1
/-- Do two ends agree? -/
def okv (a b : T_State) : Bool := decide (a.Out = b.Out.take a.Out.length) && (decide (a.Out.length ≤ 1000) && (bif decide (a.Stop = 0) then decide (b.Stop ≠ 6) else (decide (b.Stop = a.Stop) && (decide (b.Mem = a.Mem) && (decide (b.Out = a.Out) && (decide (b.Taken = a.Taken) && (bif decide (a.Stop = 1) then decide (b.Regs = a.Regs) && decide (a.Regs.length ≤ 1000) else true)))))))
theorem okv_agr {d : Int → Int} {dm : List Int → List Int} {xs : List Int} {a b : T_State} (hm : ∀ m, (dm m).length ≤ 1000) (h : okv a b = true) : Agr (fa d dm xs a) (fa d dm xs b) := by
  simp only [okv, Bool.and_eq_true, decide_eq_true_eq] at h
  obtain ⟨h1, h2, h3⟩ := h
  refine ⟨?_, ?_, ?_⟩
  · show a.Out.map d = (b.Out.map d).take (a.Out.map d).length
    rw [List.length_map, ← List.map_take, ← h1]
  · show (a.Out.map d).length ≤ 1000
    rw [List.length_map]; exact h2
  · by_cases e : a.Stop = 0
    · rw [decide_eq_true e, cond_true] at h3
      exact .inl ⟨e, of_decide_eq_true h3⟩
    · rw [decide_eq_false e, cond_false] at h3
      simp only [Bool.and_eq_true, decide_eq_true_eq] at h3
      obtain ⟨q1, q2, q3, q4, q5⟩ := h3
      refine .inr ⟨e, q1, congrArg dm q2, congrArg (List.map d) q3, congrArg (fun z => min z (xs.length : Int)) q4, hm _, ?_⟩
      intro e1
      rw [decide_eq_true (show a.Stop = 1 from e1), cond_true] at q5
      simp only [Bool.and_eq_true, decide_eq_true_eq] at q5
      exact ⟨congrArg (List.map d) q5.1, by show (a.Regs.map d).length ≤ 1000; rw [List.length_map]; exact q5.2⟩
noncomputable def chk (pa pb ra rb : T_State → Option T_State) (sF sX : T_State) (n : Nat) : Bool :=
  match rn pa sF n, rn pb sX (4 * n + 8), rn ra sF n, rn rb sX (4 * n + 8) with
  | some (a, m), some (b, k), some (a', m'), some (b', k') => decide (m' = m) && (decide (k' = k) && (decide (a'.Stop = a.Stop) && (decide (b'.Stop = b.Stop) && (okv a b && okv a' b'))))
  | _, _, _, _ => false
theorem chk_of {pa pb ra rb : T_State → Option T_State} {sF sX : T_State} {n : Nat} (h : chk pa pb ra rb sF sX n = true) : ∃ a b a' b' m k, rn pa sF n = some (a, m) ∧ rn pb sX (4 * n + 8) = some (b, k) ∧ rn ra sF n = some (a', m) ∧ rn rb sX (4 * n + 8) = some (b', k) ∧ a'.Stop = a.Stop ∧ b'.Stop = b.Stop ∧ okv a b = true ∧ okv a' b' = true := by
  unfold chk at h
  split at h
  · rename_i a m b k a' m' b' k' h1 h2 h3 h4
    simp only [Bool.and_eq_true, decide_eq_true_eq] at h
    obtain ⟨rfl, rfl, q1, q2, q3, q4⟩ := h
    exact ⟨a, b, a', b', m', k', h1, h2, h3, h4, q1, q2, q3, q4⟩
  · cases h
/-- A state of codes that begins. -/
def ab (pc : Int) : T_State := ⟨List.replicate 16 0, [0], [], 0, [], pc, [], 0, [], 0, 0⟩
theorem fa_ab {d : Int → Int} {dm : List Int → List Int} {xs data : List Int} {pc : Int} (h0 : d 0 = 0) (hd : dm [0] = cop (List.replicate 256 0) data) : fa d dm xs (ab pc) = st0 data pc xs := by
  unfold fa ab st0
  rw [List.map_replicate, h0, hd, show min (0 : Int) (xs.length : Int) = 0 by omega]
  rfl
noncomputable section
variable (inc : Int → Int) (tz : Int → Option Bool) (tld : Int → Int → Int → Int → List Int → Option (List Int × Int × Int))
def chkG (X : T_Image) (F : T_Flat) (n : Nat) : Bool := chk (G_seq_step (aA inc tld) (aB tz) F.Code) (G_hazard_Go (aA inc tld) (aB tz) X.Code) (G_r5_step (aD inc tz tld) F.Code) (rcyG (aD inc tz tld) X.Code) (ab F.Entry) (ab X.Entry) n

end
section
variable {dP dR : Int → Int} {mP mR : List Int → List Int} {xs : List Int} {inc : Int → Int} {tz : Int → Option Bool} {tld : Int → Int → Int → Int → List Int → Option (List Int × Int × Int)}
  (TP : Told dP xs inc tz) (TR : Told dR xs inc tz) (tA : ToldA dP mP xs tld) (tD : ToldD dR mR xs tld) (lP : ∀ m, (mP m).length ≤ 1000) (lR : ∀ m, (mR m).length ≤ 1000)
include TP TR tA tD lP lR
theorem fcG {X : T_Image} {F : T_Flat} (p : Prg X F) {n : Nat} (hn : n ≤ 200) (hM : mP [0] = cop (List.replicate 256 0) []) (hM' : mR [0] = cop (List.replicate 256 0) []) (c : chkG inc tz tld X F n = true) : Fine X F (n : Int) xs := by
  obtain ⟨a, b, a', b', m, k, h1, h2, h3, h4, e1, e2, o1, o2⟩ := chk_of c
  obtain ⟨l1, t1, g1⟩ := rn_traj _ h1
  obtain ⟨l2, t2, g2⟩ := rn_traj _ h2
  obtain ⟨_, t3, g3⟩ := rn_traj _ h3
  obtain ⟨_, t4, g4⟩ := rn_traj _ h4
  have HP := deedsP (inc := inc) (tz := tz) TP tA
  have HR := deedsR (inc := inc) (tz := tz) TR tD
  have u1 := traj_le (F := fa dP mP xs) (fun _ => rfl) (step_le HP F.Code) m t1
  have u2 := traj_le (F := fa dP mP xs) (fun _ => rfl) (haz_le HP X.Code) k t2
  have u3 := traj_le (F := fa dR mR xs) (fun _ => rfl) (rstep_le HR F.Code) m t3
  have u4 := traj_le (F := fa dR mR xs) (fun _ => rfl) (rcy_le HR X.Code) k t4
  rw [fa_ab TP.h0 hM] at u1
  rw [fa_ab TP.h0 hM] at u2
  rw [fa_ab TR.h0 hM'] at u3
  rw [fa_ab TR.h0 hM'] at u4
  exact fineG p (a := fa dP mP xs a) (b := fa dP mP xs b) (a' := fa dR mR xs a') (b' := fa dR mR xs b') TP.hl hn l1 l2 g1 g2 g3 g4 u1 u2 (okv_agr lP o1) u3 u4 (okv_agr lR o2) e1 e2

end
end Go.Proofs.YtgakgpbmcbegbaaGreatDoor
