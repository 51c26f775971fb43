/- The two machines' own doors: runs, steps, new states, copies, comparisons. -/
import Derived.Test.YtadajdcbeegabaaStE
import Derived.KernelRfl
namespace Go.Proofs.Ytadajdcbeegabaa
open Go Fr
set_option linter.unusedVariables false
set_option linter.unusedSimpArgs false
set_option maxRecDepth 20000

theorem copyWords {xs : List Int} (h : xs.length ≤ 4294967296) : r0_CopyWords xs = some xs := loop_copied h fun _ _ => rfl
theorem copyNumbers {xs : List Int} (h : xs.length ≤ 4294967296) : r0_CopyNumbers xs = some xs := loop_copied h fun _ _ => rfl
theorem copyFlies {xs : List T_Write} (h : xs.length ≤ 4294967296) : r0_CopyFlies xs = some xs := loop_copied h fun _ _ => rfl
theorem copyCodes {xs : List T_Ins} (h : xs.length ≤ 4294967296) : r0_CopyCodes xs = some xs := loop_copied h fun _ _ => rfl
theorem loop_refl {α : Type} {b : Int → Option (Step Int Bool)} {xs : List α} {t : α → α → Bool} (ht : ∀ x, t x x = false) (hl : xs.length ≤ 140737488351232)
    (hb : ∀ i, b i = bif decide (i < (xs.length : Int)) then (at' xs i).bind fun x => (at' xs i).bind fun y => bif t x y then some (.done false) else some (.next (IntKind.i64.wrap (i + 1))) else some (.done true)) :
    loop b 0 = some true := by
  have h := loop_list (b := b) (xs := xs) (q := fun _ => true) (no := false) (yes := true) (fun i h => ?_) ?_
  · rw [h]; simp
  · rw [hb]
    have h1 : decide ((i : Int) < xs.length) = true := by simpa using h
    rw [h1, at'_nat h]
    simp only [cond_true, Option.bind_some, ht, cond_false]
    rw [wrap_nat (by omega)]
  · rw [hb]; simp
theorem eqWords {xs : List Int} (hl : xs.length ≤ 140737488351232) : r0_EqWords xs xs = some true := by
  simp only [r0_EqWords, ne_eq, not_true_eq_false, decide_false, cond_false]
  exact loop_refl (t := fun x y => decide (x ≠ y)) (fun x => by simp) hl fun _ => rfl
theorem eqNumbers {xs : List Int} (hl : xs.length ≤ 140737488351232) : r0_EqNumbers xs xs = some true := by
  simp only [r0_EqNumbers, ne_eq, not_true_eq_false, decide_false, cond_false]
  exact loop_refl (t := fun x y => decide (x ≠ y)) (fun x => by simp) hl fun _ => rfl
theorem eqFlies {xs : List T_Write} (hl : xs.length ≤ 140737488351232) : r0_EqFlies xs xs = some true := by
  simp only [r0_EqFlies, ne_eq, not_true_eq_false, decide_false, cond_false]
  exact loop_refl (t := fun x y => !(eqb_Write x y)) (fun x => by simp [eqb_Write_iff.2 (Eq.refl x)]) hl fun _ => rfl
theorem eqCodes {xs : List T_Ins} (hl : xs.length ≤ 140737488351232) : r0_EqCodes xs xs = some true := by
  simp only [r0_EqCodes, ne_eq, not_true_eq_false, decide_false, cond_false]
  exact loop_refl (t := fun x y => !(eqb_Ins x y)) (fun x => by simp [eqb_Ins_iff.2 (Eq.refl x)]) hl fun _ => rfl
/-- Lists short enough to be copied. -/
structure Short (n : Nat) (s : T_State) : Prop where
  regs : s.Regs.length ≤ n
  mem : s.Mem.length ≤ n
  inn : s.In_.length ≤ n
  out : s.Out.length ≤ n
  stack : s.Stack.length ≤ n
  fly : s.Fly.length ≤ n
theorem eqState {s : T_State} (h : Short 140737488351232 s) : r0_EqState s s = some true := by
  simp [r0_EqState, eqWords h.regs, eqWords h.mem, eqWords h.inn, eqWords h.out, eqNumbers h.stack, eqFlies h.fly]
theorem copyState {s : T_State} (h : Short 4294967296 s) : r0_CopyState s = some s := by
  simp [r0_CopyState, copyWords h.regs, copyWords h.mem, copyWords h.inn, copyWords h.out, copyNumbers h.stack, copyFlies h.fly]
theorem own {s : T_State} (h : Short 4294967296 s) : seq_Own s = some s := by
  have hc : ∀ xs : List Int, xs.length ≤ 4294967296 → app' [] xs = some xs := fun xs h => by rw [app'_le (by simpa using h)]; rfl
  have hc2 : ∀ xs : List T_Write, xs.length ≤ 4294967296 → app' [] xs = some xs := fun xs h => by rw [app'_le (by simpa using h)]; rfl
  simp [seq_Own, slices_Clone_uint32, slices_Clone_int, slices_Clone_Write, hc _ h.regs, hc _ h.mem, hc _ h.inn, hc _ h.out, hc _ h.stack, hc2 _ h.fly]
theorem inv_short {s : T_State} (h : Inv s) {n : Nat} (hn : 256 ≤ n) (ho : s.Out.length ≤ n) : Short n s :=
  ⟨by have := h.regs; omega, by have := h.mem; omega, by have := h.inl; omega, ho, by have := h.stack; omega, by rw [h.fly]; simp⟩
theorem inv_st {s : T_State} (h : Inv s) : stB s = true := by
  simp only [stB, numB, Bool.and_eq_true, decide_eq_true_eq, List.all_eq_true]
  exact ⟨⟨⟨⟨⟨⟨⟨⟨⟨⟨h.regs, h.mem⟩, h.inl⟩, h.stack⟩, h.taken⟩, h.pc⟩, h.stackN⟩, h.stop⟩, h.fly⟩, h.jump⟩, h.delay⟩
theorem st_inv {s : T_State} (hw : Wf_State s) (h : stB s = true) : Inv s := by
  simp only [stB, numB, Bool.and_eq_true, decide_eq_true_eq, List.all_eq_true] at h
  obtain ⟨⟨⟨⟨⟨⟨⟨⟨⟨⟨h1, h2⟩, h3⟩, h4⟩, h5⟩, h6⟩, h7⟩, h8⟩, h9⟩, h10⟩, h11⟩ := h
  exact ⟨h1, hw.h1, h2, hw.h3, h3, hw.h5, h5, hw.h8, h6, h4, h7, h8, h9, h10, h11⟩
theorem r5_run {p : List T_Ins} {s : T_State} {n : Nat} (hp : progB p = true) (hI : Inv s) (hn : n ≤ 20000) (hO : s.Out.length + n < 4294967296) :
    r5_Run p s (n : Int) = some ((go p n s).1, ((go p n s).2 : Int)) := by
  simp only [r5_Run, copyState (inv_short hI (n := 4294967296) (by omega) (by omega)), Option.bind_some]
  have := r5_loop hp (n := n) (by omega) n 0 s (by omega) hI hO
  simpa using this
theorem seq_run {p : List T_Ins} {s : T_State} {n : Nat} (hw : ∀ z ∈ p, Wf_Ins z) (hp : progB p = true) (hI : Inv s) (hn : n ≤ 20000) (hO : s.Out.length + n < 4294967296) :
    seq_Run p s (n : Int) = some ((go p n s).1, ((go p n s).2 : Int), 0) := by
  have h1 := seq_prog_b hw
  have h2 := seq_may_b (s := s) (by have := hI.stack; omega)
  have h3 : seq_upto 20000 [(n : Int)] = some true := by
    rw [upto_eq (by simp)]; simp [numB]; omega
  rw [hp] at h1
  rw [inv_st hI] at h2
  simp only [seq_Run, h1, h2, h3, Option.bind_some, Bool.not_true, cond_false, cut, seq_Run_k1, own (inv_short hI (n := 4294967296) (by omega) (by omega))]
  have := seq_loop hp (n := n) (by omega) n 0 s (by omega) hI hO
  simpa using this
theorem seq_step1 {p : List T_Ins} {s : T_State} (hw : ∀ z ∈ p, Wf_Ins z) (hp : progB p = true) (hI : Inv s) (hO : s.Out.length + 1 < 4294967296) :
    seq_Step p s = some ((go p 1 s).1, 0) := by
  have := seq_run hw hp hI (n := 1) (by omega) hO
  simp only [seq_Step]
  rw [show ((1 : Int)) = ((1 : Nat) : Int) from rfl, this]; rfl
/-- A new state. -/
def fresh (xs : List Int) : T_State := ⟨List.replicate 16 0, List.replicate 256 0, xs, 0, [], 0, [], 0, [], 0, 0⟩
def none' : T_State := ⟨[], [], [], 0, [], 0, [], 0, [], 0, 0⟩
theorem make16 : make' 16 (0 : Int) = some (List.replicate 16 0) := rfl
theorem make256 : make' 256 (0 : Int) = some (List.replicate 256 0) := by simp only [make']; rw [if_pos (by decide)]; rfl
theorem seq_new {xs : List Int} (h : xs.length ≤ 100) : seq_New xs = some (fresh xs, 0) := by
  have h1 : decide (100 < (xs.length : Int)) = false := by simp; omega
  have h2 : app' [] xs = some xs := by rw [app'_le (by simp; omega)]; rfl
  simp only [seq_New, h1, cond_false, make16, make256, slices_Clone_uint32, h2, Option.bind_some, fresh]
theorem seq_new_no {xs : List Int} (h : ¬ xs.length ≤ 100) : seq_New xs = some (none', 1) := by
  have h1 : decide (100 < (xs.length : Int)) = true := by simp; omega
  simp only [seq_New, h1, cond_true, none']
theorem r5_new {xs : List Int} (h : xs.length ≤ 4294967296) : r5_New xs = some (fresh xs) := by
  simp only [r5_New, make16, make256, copyWords h, Option.bind_some, fresh]
theorem fresh_inv {xs : List Int} (h : xs.length ≤ 100) (hu : ∀ z ∈ xs, U z) : Inv (fresh xs) where
  regs := by simp [fresh]
  regsU := fun z hz => by simp [fresh] at hz; subst hz; exact ⟨by decide, by decide⟩
  mem := by simp [fresh]
  memU := fun z hz => by simp [fresh] at hz; subst hz; exact ⟨by decide, by decide⟩
  inl := h
  inU := hu
  taken := ⟨by simp [fresh], by simp [fresh]⟩
  outU := by simp [fresh]
  pc := by simp [fresh]
  stack := by simp [fresh]
  stackN := by simp [fresh]
  stop := by simp [fresh]
  fly := rfl
  jump := rfl
  delay := rfl
def wakeP : List T_Ins := [⟨26, 3, 0, 0, 0, ByteArray.empty⟩, ⟨27, 0, 3, 0, 0, ByteArray.empty⟩, ⟨33, 0, 0, 0, 0, ByteArray.empty⟩]
theorem wf_code {op d a b i : Int} (h : -9223372036854775808 ≤ op ∧ op ≤ 9223372036854775807) (h1 : -9223372036854775808 ≤ d ∧ d ≤ 9223372036854775807) (h2 : -9223372036854775808 ≤ a ∧ a ≤ 9223372036854775807)
    (h3 : -9223372036854775808 ≤ b ∧ b ≤ 9223372036854775807) (h4 : -9223372036854775808 ≤ i ∧ i ≤ 9223372036854775807) : Wf_Ins ⟨op, d, a, b, i, ByteArray.empty⟩ := ⟨h, h1, h2, h3, h4, by simp⟩
theorem wakeP_wf : ∀ z ∈ wakeP, Wf_Ins z := by
  intro z hz
  simp only [wakeP, List.mem_cons, List.not_mem_nil, or_false] at hz
  rcases hz with rfl | rfl | rfl <;> exact wf_code (by decide) (by decide) (by decide) (by decide) (by decide)
theorem empty_mk : ByteArray.empty = ByteArray.mk #[] := rfl
theorem wakeP_ok : progB wakeP = true := by
  simp [progB, wakeP, codeB, insB, empty_mk]
  decide
theorem wakes : l5_wakes = some true := by
  have h1 := seq_new (xs := [7]) (by simp)
  have hI := fresh_inv (xs := [7]) (by simp) (by simp [U])
  have h2 := seq_run wakeP_wf wakeP_ok hI (n := 9) (by omega) (by simp [fresh])
  have h3 : (go wakeP 9 (fresh [7])).2 = 3 := by kernel_rfl
  have h4 : (go wakeP 9 (fresh [7])).1.Stop = 1 := by kernel_rfl
  have h5 : (go wakeP 9 (fresh [7])).1.Out = [7] := by kernel_rfl
  simp only [wakeP] at h2 h3 h4 h5
  simp only [l5_wakes, h1, Option.bind_some]
  rw [show ((9 : Int)) = ((9 : Nat) : Int) from rfl, h2]
  simp [l5_num, h3, h4, h5, at']
end Go.Proofs.Ytadajdcbeegabaa
