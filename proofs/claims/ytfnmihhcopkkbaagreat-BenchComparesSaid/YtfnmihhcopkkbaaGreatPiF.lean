/- The doors of the machine with bundles: runs, copies, comparisons, closed runs. -/
import Derived.Test.YtfnmihhcopkkbaaGreatPiE
import Derived.KernelRfl
namespace Go.Proofs.YtfnmihhcopkkbaaGreat
open Go Fr
set_option linter.unusedVariables false
set_option linter.unusedSimpArgs false
set_option maxRecDepth 20000
theorem copyNumbers {xs : List Int} (h : xs.length ≤ 4294967296) : r0_CopyNumbers xs = some xs := loop_copied h fun _ _ => rfl
theorem copyFlies {xs : List T_Write} (h : xs.length ≤ 4294967296) : r0_CopyFlies xs = some xs := loop_copied h fun _ _ => rfl
theorem loop_refl {α : Type} {b : Int → Option (Step Int Bool)} {xs : List α} {t : α → α → Bool} (ht : ∀ x, t x x = false) (hl : xs.length ≤ 140737488351232)
    (hb : ∀ i, b i = bif decide (i < (xs.length : Int)) then (at' xs i).bind fun x => (at' xs i).bind fun y => bif t x y then some (.done false) else some (.next (IntKind.i64.wrap (i + 1))) else some (.done true)) :
    loop b 0 = some true := by
  have h := loop_list (b := b) (xs := xs) (q := fun _ => true) (no := false) (yes := true) (fun i h => ?_) ?_
  · rw [h]; simp
  · rw [hb]
    have h1 : decide ((i : Int) < xs.length) = true := by simpa using h
    rw [h1, at'_nat h]
    simp only [cond_true, Option.bind_some, ht, cond_false]
    rw [wrap_nat (by omega)]
  · rw [hb]; simp
theorem eqNumbers {xs : List Int} (hl : xs.length ≤ 140737488351232) : r0_EqNumbers xs xs = some true := by
  simp only [r0_EqNumbers, ne_eq, not_true_eq_false, decide_false, cond_false]
  exact loop_refl (t := fun x y => decide (x ≠ y)) (fun x => by simp) hl fun _ => rfl
structure Short (n : Nat) (s : T_State) : Prop where
  regs : s.Regs.length ≤ n
  mem : s.Mem.length ≤ n
  inn : s.In_.length ≤ n
  out : s.Out.length ≤ n
  stack : s.Stack.length ≤ n
  fly : s.Fly.length ≤ n
theorem copyState {s : T_State} (h : Short 4294967296 s) : r0_CopyState s = some s := by
  simp [r0_CopyState, copyWords h.regs, copyWords h.mem, copyWords h.inn, copyWords h.out, copyNumbers h.stack, copyFlies h.fly]
theorem own {s : T_State} (h : Short 4294967296 s) : seq_Own s = some s := by
  have hc : ∀ xs : List Int, xs.length ≤ 4294967296 → app' [] xs = some xs := fun xs h => by rw [app'_le (by simpa using h)]; rfl
  have hc2 : ∀ xs : List T_Write, xs.length ≤ 4294967296 → app' [] xs = some xs := fun xs h => by rw [app'_le (by simpa using h)]; rfl
  simp [seq_Own, slices_Clone_uint32, slices_Clone_int, slices_Clone_Write, hc _ h.regs, hc _ h.mem, hc _ h.inn, hc _ h.out, hc _ h.stack, hc2 _ h.fly]
theorem inv_short {s : T_State} (h : PInv s) {n : Nat} (hn : 256 ≤ n) (ho : s.Out.length ≤ n) : Short n s :=
  ⟨by have := h.inv.regs; omega, by have := h.inv.mem; omega, by have := h.inv.inl; omega, ho, by have := h.inv.stack; omega, by have := h.fly.len; omega⟩
def none' : T_State := ⟨[], [], [], 0, [], 0, [], 0, [], 0, 0⟩
theorem pinv_may {s : T_State} (h : PInv s) : pipe_May s = some true := by
  rw [pipe_may_b (by have := h.inv.stack; omega) (by have := h.fly.len; omega), inv_pp h]
theorem r5_cycles {c : List (A4 T_Ins)} {s : T_State} {n : Nat} (hc : pcodB c = true) (hP : PInv s) (hn : n ≤ 20000) (hO : s.Out.length + 4 * n < 4294967296) :
    r5_Cycles c s (n : Int) false = some ((runf (cyc c) n s).1, ((runf (cyc c) n s).2 : Int)) := by
  have h5 := copyState (inv_short hP (n := 4294967296) (by omega) (by omega))
  have h6 := cycles_loop hc (n := (n : Int)) (by omega) n s rfl hP hO
  simp only [tupS] at h6
  simp only [r5_Cycles, h5, Option.bind_some, h6]
def fresh (xs : List Int) : T_State := ⟨List.replicate 16 0, List.replicate 256 0, xs, 0, [], 0, [], 0, [], 0, 0⟩
theorem make16 : make' 16 (0 : Int) = some (List.replicate 16 0) := rfl
theorem make256 : make' 256 (0 : Int) = some (List.replicate 256 0) := by simp only [make']; rw [if_pos (by decide)]; rfl
theorem r5_new {xs : List Int} (h : xs.length ≤ 4294967296) : r5_New xs = some (fresh xs) := by
  simp only [r5_New, make16, make256, copyWords h, Option.bind_some, fresh]
theorem fresh_inv {xs : List Int} (h : xs.length ≤ 100) (hu : ∀ z ∈ xs, U z) : PInv (fresh xs) where
  inv := {
    regs := by simp [fresh]
    regsU := fun z hz => by simp [fresh] at hz; subst hz; exact ⟨by decide, by decide⟩
    mem := by simp [fresh]
    memU := fun z hz => by simp [fresh] at hz; subst hz; exact ⟨by decide, by decide⟩
    inl := h
    inU := hu
    taken := ⟨by simp [fresh], by simp [fresh]⟩
    outU := by simp [fresh]
    pc := by simp [fresh]
    stack := by simp [fresh]
    stackN := by simp [fresh] }
  stop := by simp [fresh]
  jump := by simp [fresh]
  delay := by simp [fresh]
  ok := by simp [fresh]
  u := by simp [fresh]
  l0 := by simp [fresh, late]
  l1 := by simp [fresh, late]
  l2 := by simp [fresh, late]
  l3 := by simp [fresh, late]
  l4 := by simp [fresh, late]
noncomputable def goC (c : List (A4 T_Ins)) (s : T_State) : Option T_State :=
  bif decide ((c.length : Int) ≤ s.PC) then some { s with Stop := 5 } else (at' c s.PC).bind fun b => (iter (pipe_issue_b1 b s.Regs) 5 (tupP false 0 s)).bind fun r =>
    bif decide (r.1.Stop = 1) then some { r.1 with Regs := wrs r.1.Regs (cat 5 r.1.Fly), Fly := [] } else bif decide (r.1.Stop ≠ 0) then some r.1
      else bif !r.2 && decide (0 < r.1.Delay) then bif decide (r.1.Delay - 1 = 0) then some { r.1 with PC := r.1.Jump, Jump := 0, Delay := 0 } else some { r.1 with PC := r.1.PC + 1, Delay := r.1.Delay - 1 } else some { r.1 with PC := r.1.PC + 1 }
theorem goC_eq {c : List (A4 T_Ins)} {s s' : T_State} (hc : pcodB c = true) (hP : PInv s) (hs : s.Stop = 0) (hO : s.Out.length + 4 < 4294967296) (h : goC c (landS s) = some s') : cyc c s = s' := by
  obtain ⟨h1, h2, h3, h4⟩ := cyc_of hc hP hs hO
  have hM := land_mid hP
  have hcd := hc
  simp only [pcodB, Bool.and_eq_true, decide_eq_true_eq, List.all_eq_true] at hcd
  obtain ⟨l1, l2⟩ := land_both hP.inv.regs hP.fly
  simp only [pipe_Run_1, l1, Option.bind_some] at h1
  obtain ⟨g, hg, hg2⟩ := ob h1
  obtain rfl := Option.some.inj hg2
  have hpc := hM.inv.pc
  by_cases hp : (c.length : Int) ≤ (landS s).PC
  · simp only [goC, hp, decide_true, cond_true] at h
    simp only [pipe_Go, hp, decide_true, cond_true] at hg
    exact (Option.some.inj hg).symm.trans (Option.some.inj h)
  obtain ⟨hi, hat⟩ := at'_int (xs := c) hpc.1 (by omega)
  have hb := hcd.2 _ (List.getElem_mem hi)
  generalize c[(landS s).PC.toNat] = b at hat hb
  obtain ⟨s2, t2, hM2, hst, e1, e2⟩ := slots_both (was := (landS s).Regs) (s0 := landS s) hb hM.inv.regs hM.inv.regsU hO 4 0 (landS s) false rfl hM hs
  have hpf : decide ((c.length : Int) ≤ (landS s).PC) = false := decide_eq_false hp
  simp only [goC, hpf, cond_false, hat, Option.bind_some] at h
  obtain ⟨r, hr, h⟩ := ob h
  have hr2 : r = (s2, t2) := by
    have := loop_of 5 hr
    have e1' : loop (pipe_issue_b1 b (landS s).Regs) (tupP false 0 (landS s)) = some (s2, t2) := e1
    rw [e1'] at this
    exact (Option.some.inj this).symm
  subst hr2
  have hrl := hM.inv.regs
  have hcl := clone_words (xs := (landS s).Regs) (by omega)
  have e3 : pipe_issue (landS s) b = some (s2, t2) := by
    simp only [pipe_issue, hcl, Option.bind_some]
    exact e1
  have hI2 := mid_inv hM2 ⟨hst.1, by omega⟩
  simp only [pipe_Go, hpf, cond_false, hat, Option.bind_some, e3] at hg
  simp only at h
  by_cases hh : s2.Stop = 1
  · simp only [hh, decide_true, cond_true] at h hg
    rw [settle_eq hM2.inv.regs hI2.fly] at hg
    simp only [Option.bind_some, Option.some.injEq] at h hg
    rw [← hg, ← h, hh]
  by_cases h0 : s2.Stop = 0
  · have hpc2 : s2.PC = (landS s).PC := hM2.pc
    have w1 : IntKind.i64.wrap (s2.PC + 1) = s2.PC + 1 := wrap_i64 (by omega) (by omega)
    have hdl := hM2.delay
    have w2 : IntKind.i64.wrap (s2.Delay - 1) = s2.Delay - 1 := wrap_i64 (by omega) (by omega)
    simp only [h0, show ¬ (0 : Int) = 1 by decide, decide_false, cond_false, ne_eq, not_true_eq_false, w1, w2] at h hg
    cases t2 with
    | true =>
      simp only [Bool.not_true, Bool.false_and, cond_false, Option.some.injEq] at h hg
      rw [← hg, ← h, ← h0]
    | false =>
      simp only [Bool.not_false, Bool.true_and, cond_true] at h hg
      by_cases hd : 0 < s2.Delay
      · simp only [hd, decide_true, cond_true] at h hg
        by_cases hd1 : s2.Delay - 1 = 0
        · simp only [hd1, decide_true, cond_true, Option.some.injEq] at h hg
          rw [← hg, ← h, ← h0]
        · simp only [hd1, decide_false, cond_false, Option.some.injEq] at h hg
          rw [← hg, ← h, ← h0]
      · simp only [hd, decide_false, cond_false, Option.some.injEq] at h hg
        rw [← hg, ← h, ← h0]
  · simp only [hh, h0, decide_false, cond_false, ne_eq, not_false_eq_true, decide_true, cond_true, Option.some.injEq] at h hg
    rw [← hg, ← h]
abbrev z0 : T_Ins := ⟨0, 0, 0, 0, 0, ByteArray.empty⟩
theorem wf_code {op d a b i : Int} (h : -9223372036854775808 ≤ op ∧ op ≤ 9223372036854775807) (h1 : -9223372036854775808 ≤ d ∧ d ≤ 9223372036854775807) (h2 : -9223372036854775808 ≤ a ∧ a ≤ 9223372036854775807)
    (h3 : -9223372036854775808 ≤ b ∧ b ≤ 9223372036854775807) (h4 : -9223372036854775808 ≤ i ∧ i ≤ 9223372036854775807) : Wf_Ins ⟨op, d, a, b, i, ByteArray.empty⟩ := ⟨h, h1, h2, h3, h4, by simp⟩
theorem wf0 : Wf_Ins z0 := wf_code (by decide) (by decide) (by decide) (by decide) (by decide)
end Go.Proofs.YtfnmihhcopkkbaaGreat
namespace Go.Proofs.YtfnmihhcopkkbaaGreat
open Go Fr
set_option linter.unusedVariables false
set_option linter.unusedSimpArgs false
set_option maxRecDepth 20000
end Go.Proofs.YtfnmihhcopkkbaaGreat
