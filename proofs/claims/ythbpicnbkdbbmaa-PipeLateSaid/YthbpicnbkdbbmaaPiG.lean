/- The laws' own helpers: heavy scripts, runs, bundles of one code. -/
import Derived.Test.YthbpicnbkdbbmaaPiF
namespace Go.Proofs.Ythbpicnbkdbbmaa
open Go Fr
set_option linter.unusedVariables false
set_option linter.unusedSimpArgs false
set_option maxRecDepth 20000

theorem remN {n : Nat} {k : Int} (hk : 0 < k) : rem' (n : Int) k = some ((n : Int) % k) := by
  simp only [rem']; rw [if_neg (by omega), Int.tmod_eq_emod_of_nonneg (by omega)]
/-- A loop of k rounds, all known. -/
theorem loop_count {ρ : Type} {b : Int → Option (Step Int ρ)} {r : ρ} (n : Nat) (hs : ∀ i : Nat, i < n → b (i : Int) = some (.next ((i + 1 : Nat) : Int))) (he : b (n : Int) = some (.done r)) : loop b 0 = some r := by
  have : ∀ m i : Nat, i + m = n → loop b (i : Int) = some r := by
    intro m
    induction m with
    | zero => intro i h; obtain rfl : i = n := by omega
              exact loop_done he
    | succ m ih => intro i h; rw [loop_next (hs i (by omega))]; exact ih (i + 1) (by omega)
  exact this n 0 (by omega)
theorem n_cases {n i : Nat} (h : i < n) {p : Nat → Prop} (hp : ∀ i, i < n → p i) : p i := hp i h
theorem all_range {n : Nat} {p : Nat → Bool} (h : (List.range n).all p = true) {k : Nat} (hk : k < n) : p k = true := List.all_eq_true.1 h k (List.mem_range.2 hk)
theorem goodC_nil : GoodC [] := fun b hb => by cases hb
theorem goodC_cons {b : A4 T_Ins} {c : List (A4 T_Ins)} (h : GoodB b) (hc : GoodC c) : GoodC (b :: c) := fun z hz => by
  rcases List.mem_cons.1 hz with rfl | hz
  · exact h
  · exact hc z hz
theorem sub_end {α : Type} {zs : List α} {j : Int} (h0 : 0 ≤ j) (h : j ≤ zs.length) : sub' zs j (zs.length : Int) = some (zs.drop j.toNat) := by
  simp only [sub']
  rw [if_pos ⟨h0, h, by omega⟩]
  simp
theorem modN (n : Nat) {k : Nat} (hk : 0 < k) : ∃ m : Nat, m < k ∧ rem' (n : Int) (k : Int) = some (m : Int) :=
  ⟨n % k, Nat.mod_lt _ hk, by rw [remN (by omega)]; simp⟩
/-- What a light script holds. -/
structure Light (x : T_Script) : Prop where
  c : x.C.length ≤ 1500
  regs : x.S.Regs.length ≤ 12000
  mem : x.S.Mem.length ≤ 48000
  inn : x.S.In_.length ≤ 1500
  out : x.S.Out.length ≤ 12000
  stack : x.S.Stack.length ≤ 1500
  fly : x.S.Fly.length ≤ 1500
  n : x.N.length ≤ 1500
theorem codesWeight {p : List T_Ins} (hl : p.length ≤ 1000) (hw : ∀ z ∈ p, Wf_Ins z) : ∃ r, l0_CodesWeight p = some r ∧ 0 ≤ r ∧ r ≤ 35184372088832 := by
  obtain ⟨r, h1, h2⟩ := loop_ex (b := l0_CodesWeight_b1 p) (fun s => (0 ≤ s.2 ∧ s.2 ≤ p.length) ∧ 0 ≤ s.1 ∧ s.1 ≤ 35184372088832) (fun s => (p.length - s.2).toNat) (fun r => 0 ≤ r ∧ r ≤ 35184372088832) (fun ⟨w, i⟩ ⟨hi, hw1⟩ => by
    simp only at hi hw1
    by_cases h1 : i < p.length
    · by_cases h2 : w < 1048576
      · obtain ⟨hx, hat⟩ := at'_int (xs := p) hi.1 h1
        have h5 := (hw _ (List.getElem_mem hx)).h5
        have hq : quo' .i64 (p[i.toNat].Sym.size : Int) 8 = some ((p[i.toNat].Sym.size : Int) / 8) := by
          simp only [quo']
          rw [if_neg (by decide), Int.tdiv_eq_ediv_of_nonneg (by omega), wrap_i64 (by omega) (by omega)]
        refine .inl ⟨(w + (p[i.toNat].Sym.size : Int) / 8, i + 1), ?_, ⟨by simp; omega, by simp; omega, by simp; omega⟩, by simp; omega⟩
        simp only [l0_CodesWeight_b1, h1, h2, decide_true, cond_true, hat, Option.bind_some, hq]
        rw [wrap_i64 (by omega) (by omega), wrap_i64 (by omega) (by omega)]
      · exact .inr ⟨w, by simp [l0_CodesWeight_b1, h1, h2], hw1⟩
    · exact .inr ⟨w, by simp [l0_CodesWeight_b1, h1], hw1⟩) (p.length + 1) ((p.length : Int), 0) (by simp) ⟨by simp, by simp, by simp; omega⟩
  exact ⟨r, h1, h2⟩
theorem quo_len {n : Nat} {k : Int} (hn : n ≤ 140737488351232) (hk : 0 < k) : quo' .i64 (n : Int) k = some ((n : Int) / k) := by
  simp only [quo']
  have h1 : (n : Int) / k ≤ n := Int.ediv_le_self _ (by omega)
  have h2 : 0 ≤ (n : Int) / k := Int.ediv_nonneg (by omega) (by omega)
  rw [if_neg (by omega), Int.tdiv_eq_ediv_of_nonneg (by omega), wrap_i64 (by omega) (by omega)]
theorem heavy {x : T_Script} (hx : Wf_Script x) : ∃ h, l6_Heavy x = some h ∧ (h = false → Light x) := by
  have hs := hx.h2
  have a0 := hs.h0; have a2 := hs.h2; have a4 := hs.h4; have a7 := hs.h7; have a10 := hs.h10; have a13 := hs.h13
  have b0 := hx.h0; have b3 := hx.h3
  let W : Int := (x.S.Regs.length : Int) / 4 + (x.S.Mem.length : Int) / 16 + x.S.In_.length + (x.S.Out.length : Int) / 4 + x.S.Stack.length + x.S.Fly.length
  have hW : l0_StateWeight x.S = some W := by
    simp only [l0_StateWeight, Option.bind_some, quo_len (show x.S.Regs.length ≤ 140737488351232 by omega) (show (0 : Int) < 4 by decide), quo_len (show x.S.Mem.length ≤ 140737488351232 by omega) (show (0 : Int) < 16 by decide), quo_len (show x.S.Out.length ≤ 140737488351232 by omega) (show (0 : Int) < 4 by decide)]
    simp (disch := omega) only [wrap_i64]
    rfl
  have hW0 : 0 ≤ W ∧ W ≤ 1000000000000000 := by simp only [W]; omega
  have hWn : IntKind.i64.wrap (W + (x.N.length : Int)) = W + x.N.length := wrap_i64 (by omega) (by omega)
  have hl := loop_ex (b := l6_Heavy_b1 x) (fun s => (0 ≤ s.2 ∧ s.2 ≤ x.C.length) ∧ W + x.N.length + 4 * s.2 ≤ s.1 ∧ s.1 ≤ 2000000000000000) (fun s => (x.C.length - s.2).toNat) (fun r => r = false → W + x.N.length + 4 * x.C.length ≤ 1500) (fun ⟨w, i⟩ ⟨hi, hw1⟩ => by
    simp only at hi hw1
    by_cases h1 : i < x.C.length
    · by_cases h2 : w < 1048576
      · obtain ⟨hx1, hat⟩ := at'_int (xs := x.C) hi.1 h1
        have hb := hx.h1 _ (List.getElem_mem hx1)
        generalize x.C[i.toNat] = b at hat hb
        obtain ⟨r, g1, g2, g3⟩ := codesWeight (p := [b.x0, b.x1, b.x2, b.x3]) (by simp) (fun z hz => by
          simp only [List.mem_cons, List.not_mem_nil, or_false] at hz
          rcases hz with rfl | rfl | rfl | rfl
          · exact hb.h0
          · exact hb.h1
          · exact hb.h2
          · exact hb.h3)
        refine .inl ⟨(w + 4 + r, i + 1), ?_, ⟨by simp; omega, by simp; omega, by simp; omega⟩, by simp; omega⟩
        simp only [l6_Heavy_b1, h1, h2, decide_true, cond_true, hat, Option.bind_some, g1]
        rw [wrap_i64 (n := w + 4) (by omega) (by omega), wrap_i64 (by omega) (by omega), wrap_i64 (by omega) (by omega)]
      · have h3 : 1500 < w := by omega
        exact .inr ⟨true, by simp [l6_Heavy_b1, h1, h2, h3], by simp⟩
    · exact .inr ⟨decide (1500 < w), by simp [l6_Heavy_b1, h1], fun h => by
        have := of_decide_eq_false h
        have : i = x.C.length := by omega
        subst this; omega⟩) (x.C.length + 1) (W + x.N.length, 0) (by simp) ⟨by simp, by simp, by simp; omega⟩
  obtain ⟨r, h1, h2⟩ := hl
  refine ⟨r, by simp only [l6_Heavy, hW, Option.bind_some, hWn, h1], fun h => ?_⟩
  have := h2 h
  simp only [W] at this
  exact ⟨by omega, by omega, by omega, by omega, by omega, by omega, by omega, by omega⟩
theorem may_b {x : T_Script} (hx : Wf_Script x) : l6_May x = some (pcodB x.C && ppB x.S) := by
  have h1 := r3_code_b hx.h1
  have h2 := r5_pipe_b (s := x.S) (by have := hx.h2.h10; omega) (by have := hx.h2.h13; omega)
  simp only [l6_May, h1, h2, Option.bind_some]
  cases pcodB x.C <;> rfl
theorem light_short {x : T_Script} (h : Light x) {n : Nat} (hn : 48000 ≤ n) : Short n x.S :=
  ⟨by have := h.regs; omega, by have := h.mem; omega, by have := h.inn; omega, by have := h.out; omega, by have := h.stack; omega, by have := h.fly; omega⟩
end Go.Proofs.Ythbpicnbkdbbmaa
