/- Hazards: code of the laws' own. -/
import Derived.Test.YthbpicnbkdbbmaaGreatPiH
import Derived.Test.YthbpicnbkdbbmaaGreatAllF
namespace Go.Proofs.YthbpicnbkdbbmaaGreat
open Go Fr
set_option linter.unusedVariables false
set_option linter.unusedSimpArgs false
set_option maxRecDepth 20000

/-- What the law of finds does with code of its own. -/
theorem found_loop {c : List (A4 T_Ins)} (hw : ∀ z ∈ c, Wf_Bundle z) (hc : pcodB c = true) : ∀ (m i : Nat) (s : T_State), i + m = 30 → PInv s → s.Out.length ≤ 4 * i → loop (l7_found_b1 c) (tupS (i : Int) s) = some true
  | 0, i, s, hi, hP, hO => by
    have : decide ((i : Int) < 30) = false := decide_eq_false (by omega)
    exact loop_done (by simp only [tupS, l7_found_b1, this, cond_false, hwakes, Option.bind_some])
  | m + 1, i, s, hi, hP, hO => by
    have h1 : decide ((i : Int) < 30) = true := decide_eq_true (by omega)
    have f1 := hazard_find hw hc hP (by omega)
    have f2 := r5_findS hc hP (by omega)
    have h2 := hazard_cycle hw hc hP (by omega)
    have h3 := r5_hcycles hc hP (n := 1) (by omega) (by omega)
    have h4 := r5_cycles hc hP (n := 1) (by omega) (by omega)
    have hr := runf_ran (fun s hP hs hO => (cyc_of hc hP hs hO).2.2.2) 1 s hP (by omega)
    have hr2 := runf_ran (hnxt hc) 1 s hP (by omega)
    have h4' : r5_Cycles c s 1 false = some ((runf (cyc c) 1 s).1, ((runf (cyc c) 1 s).2 : Int)) := h4
    have h3' : r5_Cycles c s 1 true = some ((runf (hcyc c) 1 s).1, ((runf (hcyc c) 1 s).2 : Int)) := h3
    generalize (runf (cyc c) 1 s).1 = s1 at h4' hr
    generalize (runf (hcyc c) 1 s).1 = s2 at h2 h3' hr2
    obtain ⟨o, ho, hol⟩ := hr.out
    obtain ⟨o2, ho2, hol2⟩ := hr2.out
    have hO1 : s1.Out.length ≤ 4 * (i + 1) := by rw [ho]; simp; omega
    have he := eqState (s := s2) (inv_short hr2.inv (by omega) (by rw [ho2]; simp; omega))
    rw [loop_next (s' := tupS ((i + 1 : Nat) : Int) s1)]
    · exact found_loop hw hc m (i + 1) s1 (by omega) hr.inv hO1
    · simp only [tupS, l7_found_b1, h1, cond_true, f1, f2, h2, h3', h4', Option.bind_some, l7_num, ne_eq, not_true_eq_false, decide_false, cond_false, he, Bool.not_true]
      rw [wrap_nat (by omega)]
theorem found_good {c : List (A4 T_Ins)} (h : GoodC c) (hl : c.length ≤ 1024) : l7_found c = some true := by
  obtain ⟨hw, hc⟩ := good_cod h hl
  have h1 := r3_code_b hw
  rw [hc] at h1
  have h2 := found_loop hw hc 30 0 (fresh []) (by omega) (fresh_inv (by simp) (by simp)) (by simp [fresh])
  have h2' : loop (l7_found_b1 c) (0, (fresh []).Regs, (fresh []).Mem, (fresh []).In_, (fresh []).Taken, (fresh []).Out, (fresh []).PC, (fresh []).Stack, (fresh []).Stop, (fresh []).Fly, (fresh []).Jump, (fresh []).Delay) = some true := h2
  simp only [l7_found, h1, Option.bind_some, Bool.not_true, cond_false, r5_new (xs := []) (by simp), h2']
abbrev zB : A4 T_Ins := ⟨z0, z0, z0, z0⟩
/-- Empty bundles put behind one. -/
theorem pad_loop {ρ : Type} {b : (List (A4 T_Ins) × Int) → Option (Step (List (A4 T_Ins) × Int) (Step (List (A4 T_Ins)) ρ))} {k : Nat} (hk : k ≤ 10) {z : A4 T_Ins}
    (hs : ∀ (xs : List (A4 T_Ins)) (i : Nat), i < k → b (xs, (i : Int)) = (app' xs [zB]).bind fun zs => some (.next (zs, IntKind.i64.wrap ((i : Int) + 1))))
    (he : ∀ xs, b (xs, (k : Int)) = some (.done (.next xs))) : loop b ([z], 0) = some (.next (z :: List.replicate k zB)) := by
  have : ∀ m i : Nat, i + m = k → loop b (z :: List.replicate i zB, (i : Int)) = some (.next (z :: List.replicate k zB)) := by
    intro m
    induction m with
    | zero => intro i h; obtain rfl : i = k := by omega
              exact loop_done (he _)
    | succ m ih =>
      intro i h
      rw [← ih (i + 1) (by omega)]
      refine loop_next ?_
      rw [hs _ i (by omega), app'_le (by simp; omega)]
      simp only [Option.bind_some]
      rw [wrap_nat (by omega)]
      have : z :: List.replicate i zB ++ [zB] = z :: List.replicate (i + 1) zB := by rw [List.replicate_succ']; rfl
      rw [this]
  exact this k 0 (by omega)
theorem loop_from {ρ : Type} {b : Int → Option (Step Int ρ)} {r : ρ} (a n : Nat) (hs : ∀ i : Nat, a ≤ i → i < a + n → b (i : Int) = some (.next ((i + 1 : Nat) : Int))) (he : b ((a + n : Nat) : Int) = some (.done r)) : loop b (a : Int) = some r := by
  have : ∀ m i : Nat, a ≤ i → i + m = a + n → loop b (i : Int) = some r := by
    intro m
    induction m with
    | zero => intro i _ h; obtain rfl : i = a + n := by omega
              exact loop_done he
    | succ m ih => intro i h0 h; rw [loop_next (hs i h0 (by omega))]; exact ih (i + 1) (by omega) (by omega)
  exact this n a (Nat.le_refl _) rfl
theorem found_then {β : Type} {c : List (A4 T_Ins)} {F : Bool → Option β} {r : Option β} (h : GoodC c) (hl : c.length ≤ 1024) (hF : F true = r) : (l7_found c).bind F = r := by
  rw [found_good h hl]; exact hF
theorem good_pad {z : A4 T_Ins} {k : Nat} {ys : List (A4 T_Ins)} (hz : GoodB z) (hy : GoodC ys) : GoodC (z :: List.replicate k zB ++ ys) := by
  intro b hb
  rcases List.mem_append.1 hb with hb | hb
  · rcases List.mem_cons.1 hb with rfl | hb
    · exact hz
    · rw [(List.mem_replicate.1 hb).2]; exact goodBB_of (by kernel_rfl)
  · exact hy b hb
end Go.Proofs.YthbpicnbkdbbmaaGreat
