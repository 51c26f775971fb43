/- The law BenchCompares, as a plain statement: proved. -/
import Derived.Test.YtfnmihhcopkkbaaGreatLBenchCompares
import Derived.Test.YtfnmihhcopkkbaaGreatBcA
namespace Go.Proofs.YtfnmihhcopkkbaaGreat
open Go Go.RowKit Fr
set_option linter.unusedVariables false
set_option linter.unusedSimpArgs false
set_option maxRecDepth 20000
def wkX : T_Image := ⟨[⟨⟨33, 0, 0, 0, 0, ByteArray.empty⟩, z0, z0, z0⟩], [], 0⟩
def wkF : T_Flat := ⟨[⟨33, 0, 0, 0, 0, ByteArray.empty⟩], [], 0⟩
theorem wkX_wf : Wf_Image wkX := ⟨by simp [wkX], fun z hz => by
  simp only [wkX, List.mem_singleton] at hz; subst hz
  exact ⟨wf_code (by decide) (by decide) (by decide) (by decide) (by decide), wf0, wf0, wf0⟩, by simp [wkX], by simp [wkX], by simp [wkX]⟩
theorem wkF_wf : Wf_Flat wkF := ⟨by simp [wkF], fun z hz => by
  simp only [wkF, List.mem_singleton] at hz; subst hz
  exact wf_code (by decide) (by decide) (by decide) (by decide) (by decide), by simp [wkF], by simp [wkF], by simp [wkF]⟩
theorem bwakes : l23_wakes = some true := by
  have iX : imgB wkX = true := by kernel_rfl
  have iF : flatB wkF = true := by kernel_rfl
  obtain ⟨a, b, c, d⟩ := img_facts iX
  have hP := ld_inv (xs := []) (entry := wkX.Entry) b wkX_wf.h3 (by simp) (by simp) ⟨c, d⟩
  have h1 := (compare_ok (xs := []) (n := 5) wkX_wf iX wkF_wf iF (by simp) (by simp) (by omega)).1
  have kg : ((go wkF.Code 5 (ld wkF.Data wkF.Entry [])).2, (go wkF.Code 5 (ld wkF.Data wkF.Entry [])).1.Stop) = (1, 1) := by kernel_rfl
  have k5 : (hrunC wkX.Code 28 (ld wkX.Data wkX.Entry [])).map (fun r => (r.2, sameF (go wkF.Code 5 (ld wkF.Data wkF.Entry [])).1 r.1)) = some (1, true) := by kernel_rfl
  obtain ⟨r, q, p⟩ := Option.map_eq_some_iff.1 k5
  have e := hrunC_eq a 28 hP (by simp [ld, fresh]) q
  have e2 : runf (hcyc wkX.Code) (4 * 5 + 8) (ld wkX.Data wkX.Entry []) = r := e
  rw [e2] at h1
  simp only [Prod.mk.injEq] at p kg
  obtain ⟨p1, p2⟩ := p
  -- the trace
  obtain ⟨g1, _, _, g4⟩ := cyc_of a hP (by rfl) (by simp [ld, fresh])
  simp only [pipe_Run_1] at g1
  obtain ⟨s1, e1, g2⟩ := ob g1
  obtain ⟨s2, e3, g3⟩ := ob g2
  obtain rfl := Option.some.inj g3
  have kc : (goC wkX.Code (landS (ld wkX.Data wkX.Entry []))).map (fun s => s.Stop) = some 1 := by kernel_rfl
  obtain ⟨s3, q3, p3⟩ := Option.map_eq_some_iff.1 kc
  have e4 := goC_eq a hP (by rfl) (by simp [ld, fresh]) q3
  have ht : bench_Trace wkX 5 [] = some ([0], 0) := by
    simp only [bench_Trace, load_ok (xs := []) wkX_wf iX (by simp), Option.bind_some, ne_eq, not_true_eq_false, decide_false, cond_false, show decide ((5 : Int) < 0) = false from rfl, show decide ((4000 : Int) < 5) = false from rfl, cut, bench_Trace_k1]
    have n1 : bench_Trace_b2 5 wkX ([], tupS 0 (ld wkX.Data wkX.Entry [])) = some (.next ([0], tupS 1 (cyc wkX.Code (ld wkX.Data wkX.Entry [])))) := by
      have e1' : pipe_Land (ld wkX.Data wkX.Entry []) = some s1 := e1
      have ha : app' ([] : List Int) [0] = some [0] := rfl
      have hd : bench_Trace_b2 5 wkX ([], tupS 0 (ld wkX.Data wkX.Entry [])) = (app' ([] : List Int) [0]).bind fun zs247 => (pipe_Land (ld wkX.Data wkX.Entry [])).bind fun r248 => (pipe_Go wkX.Code r248).bind fun r278 => some (.next (zs247, IntKind.i64.wrap (0 + 1), r278.Regs, r278.Mem, r278.In_, r278.Taken, r278.Out, r278.PC, r278.Stack, r278.Stop, r278.Fly, r278.Jump, r278.Delay)) := rfl
      rw [hd, ha, Option.bind_some, e1', Option.bind_some, e3, Option.bind_some]
      rfl
    have n2 : bench_Trace_b2 5 wkX ([0], tupS 1 (cyc wkX.Code (ld wkX.Data wkX.Entry []))) = some (.done ([0], 0)) := by
      rw [e4]
      simp only [tupS, bench_Trace_b2, p3, show decide ((1 : Int) < 5) = true from rfl, show decide ((1 : Int) ≠ 0) = true from rfl, cond_true]
    have n3 : loop (bench_Trace_b2 5 wkX) ([], tupS 0 (ld wkX.Data wkX.Entry [])) = some ([0], 0) := by
      rw [loop_next n1, loop_done n2]
    exact n3
  simp only [wkX, wkF, z0] at h1 ht
  have h1' : bench_Compare _ _ 5 _ = _ := h1
  rw [l23_wakes, h1', Option.bind_some, ht, Option.bind_some]
  simp only [verd]
  have kg1 : (go wkF.Code 5 (ld wkF.Data wkF.Entry [])).2 = 1 := kg.1
  simp only [wkF] at kg1 p2
  simp only [l23_num, decide_true, cond_true, p2, kg1, p1]
  rfl
theorem k9_ok {x : T_Ask23} (hx : Wf_Ask23 x) {X : T_Image} (hX : Wf_Image X) {n k j : Int} (hk : 0 ≤ k ∧ k ≤ 1000) (hj : 0 ≤ j ∧ j < x.I.F.length) {bad : Int} (hbad : bad = if (imgB X = true ∧ x.I.In_.length ≤ 100) ∧ 0 ≤ n ∧ n ≤ 4000 then 0 else 1) :
    l23_BenchCompares_k8 x j X X.Data n bad () = some (.next (j + 1)) := by
  have hI := hx.h0
  have a3 := hI.h3
  obtain ⟨hl, hat⟩ := at'_int (xs := x.I.F) hj.1 hj.2
  have hf := hI.h4 _ (List.getElem_mem hl)
  generalize x.I.F[j.toNat] = f at hat hf
  have hw : IntKind.i64.wrap (j + 1) = j + 1 := wrap_i64 (by omega) (by omega)
  by_cases hg : (imgB X = true ∧ x.I.In_.length ≤ 100) ∧ 0 ≤ n ∧ n ≤ 4000
  · have hb : bad = 0 := by rw [hbad, if_pos hg]
    subst hb
    by_cases hfB : flatB f = true
    · obtain ⟨m, rfl⟩ := Int.eq_ofNat_of_zero_le hg.2.1
      obtain ⟨c1, c2⟩ := compare_ok (xs := x.I.In_) (n := m) hX hg.1.1 hf hfB hg.1.2 hI.h6 (by omega)
      simp only [l23_BenchCompares_k8, hat, Option.bind_some]
      have c1' : bench_Compare ⟨X.Code, X.Data, X.Entry⟩ f (m : Int) x.I.In_ = _ := c1
      have c2' : r19_Compare ⟨X.Code, X.Data, X.Entry⟩ f (m : Int) x.I.In_ = _ := c2
      rw [c1']
      simp only [Option.bind_some, cut, l23_BenchCompares_k9, decide_true, cond_true, hat, r19_flat_b hf.h1, hfB, l23_BenchCompares_k11]
      rw [c2']
      simp only [Option.bind_some, l23_BenchCompares_k10, l23_num, ne_eq, not_true_eq_false, decide_false, cond_false, eqb_Verdict_iff.2 rfl, Bool.not_true, hw]
    · have c1 := compare_no (x := X) (f := f) (xs := x.I.In_) (n := n) hX hf (fun h => hfB h.2.2)
      have hfB2 : flatB f = false := by cases h : flatB f with
        | true => exact absurd h hfB
        | false => rfl
      have c1' : bench_Compare ⟨X.Code, X.Data, X.Entry⟩ f n x.I.In_ = _ := c1
      simp only [l23_BenchCompares_k8, hat, Option.bind_some]
      rw [c1']
      simp only [Option.bind_some, cut, l23_BenchCompares_k9, decide_true, cond_true, hat, r19_flat_b hf.h1, hfB2, l23_BenchCompares_k11, cond_false, l23_BenchCompares_k10, l23_num, ne_eq, not_true_eq_false, decide_false, eqb_Verdict_iff.2 rfl, Bool.not_true, hw]
  · have hb : bad = 1 := by rw [hbad, if_neg hg]
    subst hb
    have c1 := compare_no (x := X) (f := f) (xs := x.I.In_) (n := n) hX hf (fun h => hg ⟨h.1, h.2.1⟩)
    have c1' : bench_Compare ⟨X.Code, X.Data, X.Entry⟩ f n x.I.In_ = _ := c1
    simp only [l23_BenchCompares_k8, hat, Option.bind_some]
    rw [c1']
    simp only [Option.bind_some, cut, l23_BenchCompares_k9, show decide ((1 : Int) = 0) = false from rfl, cond_false, l23_BenchCompares_k11, l23_BenchCompares_k10, l23_num, ne_eq, not_true_eq_false, decide_false, eqb_Verdict_iff.2 rfl, Bool.not_true, hw]
theorem k6_ok {x : T_Ask23} (hx : Wf_Ask23 x) {X : T_Image} (hX : Wf_Image X) {n k : Int} (hk : 0 ≤ k ∧ k ≤ 1000) {bad : Int} (hbad : bad = if (imgB X = true ∧ x.I.In_.length ≤ 100) ∧ 0 ≤ n ∧ n ≤ 4000 then 0 else 1) :
    l23_BenchCompares_k6 x k X X.Data n bad () = some (.next (k + 1)) := by
  have hw : IntKind.i64.wrap (k + 1) = k + 1 := wrap_i64 (by omega) (by omega)
  obtain ⟨r, h, rfl⟩ := loop_ex (b := l23_BenchCompares_b7 x k X X.Data n bad) (fun j => 0 ≤ j ∧ j ≤ 5) (fun j => (5 - j).toNat) (fun r => r = .next (k + 1)) (fun j hj => by
    by_cases h1 : j < x.I.F.length
    · by_cases h2 : j < 5
      · exact .inl ⟨j + 1, by simp only [l23_BenchCompares_b7, h1, h2, decide_true, cond_true, cut]; exact k9_ok hx hX hk ⟨hj.1, h1⟩ hbad, by omega, by omega⟩
      · exact .inr ⟨_, by simp only [l23_BenchCompares_b7, h1, h2, decide_true, decide_false, cond_true, cond_false, cut, hw], rfl⟩
    · exact .inr ⟨_, by simp only [l23_BenchCompares_b7, h1, decide_false, cond_false, cut, hw], rfl⟩) 6 0 (by decide) (by decide)
  exact h
theorem k4_ok {x : T_Ask23} (hx : Wf_Ask23 x) {i k n : Int} (hi : 0 ≤ i ∧ i < x.I.X.length) (hk : 0 ≤ k ∧ k ≤ 1000) : l23_BenchCompares_k4 x i k n = some (.next (k + 1)) := by
  have hI := hx.h0
  obtain ⟨hl, hat⟩ := at'_int (xs := x.I.X) hi.1 hi.2
  have hX := hI.h2 _ (List.getElem_mem hl)
  generalize x.I.X[i.toNat] = X at hat hX
  have hin : decide ((x.I.In_.length : Int) ≤ 100) = decide (x.I.In_.length ≤ 100) := len_le (k := 100)
  simp only [l23_BenchCompares_k4, hat, Option.bind_some]
  by_cases hg : (imgB X = true ∧ x.I.In_.length ≤ 100) ∧ 0 ≤ n ∧ n ≤ 4000
  · obtain ⟨l, hl, t1, t2⟩ := trace_ok (xs := x.I.In_) (n := n) hX hg.1.1 hg.1.2 hI.h6 hg.2.1 hg.2.2
    have hn : r0_Num n 4000 = true := by rw [num_eq]; exact numB_iff.2 ⟨hg.2.1, hg.2.2⟩
    have k6 := k6_ok (n := n) hx hX hk (bad := 0) (by rw [if_pos hg])
    simp only [t1, Option.bind_some, cut, r19_image_b hX.h1, hg.1.1, cond_true, hin, hg.1.2, decide_true, hn, t2, l23_BenchCompares_k5, l23_num, ne_eq, not_true_eq_false, decide_false, cond_false, eqNumbers (xs := l) (by omega), Bool.not_true, k6]
  · have t1 := trace_no (xs := x.I.In_) (n := n) hX hg
    have k6 := k6_ok (n := n) hx hX hk (bad := 1) (by rw [if_neg hg])
    have e0 : r0_EqNumbers [] [] = some true := eqNumbers (xs := []) (by simp)
    have hm : ((r19_Image X).bind fun r5286 => bif r5286 then bif decide ((x.I.In_.length : Int) ≤ 100) then bif (r0_Num n 4000) then (r19_Trace X n x.I.In_).bind fun r5290 => some (Step.next (ρ := Step Int (Step Int Bool)) ((0 : Int), r5290, X.Data)) else some (.next (1, [], X.Data)) else some (.next (1, [], X.Data)) else some (.next (1, [], X.Data))) = some (.next (1, [], X.Data)) := by
      rw [r19_image_b hX.h1, Option.bind_some, hin]
      cases hi : imgB X with
      | false => rfl
      | true =>
        by_cases hl : x.I.In_.length ≤ 100
        · have hn : r0_Num n 4000 = false := by
            rw [num_eq]; simp only [numB, decide_eq_false_iff_not]; exact fun h => hg ⟨⟨hi, hl⟩, h⟩
          simp [hl, hn]
        · simp [hl]
    simp only [t1, Option.bind_some]
    rw [hm]
    simp only [cut, l23_BenchCompares_k5, l23_num, ne_eq, not_true_eq_false, decide_false, cond_false, e0, Option.bind_some, Bool.not_true, k6]
theorem k2_ok {x : T_Ask23} (hx : Wf_Ask23 x) {i : Int} (hi : 0 ≤ i ∧ i < x.I.X.length) (hi5 : i < 5) : l23_BenchCompares_k2 x i () = some (.next (i + 1)) := by
  have hw : IntKind.i64.wrap (i + 1) = i + 1 := wrap_i64 (by omega) (by omega)
  obtain ⟨r, h, rfl⟩ := loop_ex (b := l23_BenchCompares_b3 x i) (fun k => 0 ≤ k ∧ k ≤ 6) (fun k => (6 - k).toNat) (fun r => r = .next (i + 1)) (fun k hk => by
    by_cases h1 : k < 6
    · have hd : decide (k < (([0, 1, 40, x.N, (-1), 4001] : List Int).length : Int)) = true := decide_eq_true (by simpa using h1)
      obtain ⟨hl, hat⟩ := at'_int (xs := [0, 1, 40, x.N, (-1), 4001]) hk.1 (by simpa using h1)
      refine .inl ⟨k + 1, ?_, by omega, by omega⟩
      generalize ([0, 1, 40, x.N, (-1), 4001] : List Int)[k.toNat] = n at hat
      simp only [l23_BenchCompares_b3, hd, cond_true, hat, Option.bind_some]
      by_cases h3 : 60 < n
      · by_cases h4 : n ≤ 4000
        · simp only [h3, h4, decide_true, cond_true, cut]; exact k4_ok hx hi (by omega)
        · simp only [h3, h4, decide_true, decide_false, cond_true, cond_false, cut]; exact k4_ok hx hi (by omega)
      · simp only [h3, decide_false, cond_false, cut]; exact k4_ok hx hi (by omega)
    · have hd : decide (k < (([0, 1, 40, x.N, (-1), 4001] : List Int).length : Int)) = false := decide_eq_false (by simpa using h1)
      exact .inr ⟨_, by simp only [l23_BenchCompares_b3, hd, cond_false, hw], rfl⟩) 7 0 (by decide) (by decide)
  exact h
theorem pure_BenchCompares (x : T_Ask23) (hx : Wf_Ask23 x) : l23_BenchCompares x = some true := by
  obtain ⟨h, h1⟩ := heavy20 hx.h0
  simp only [l23_BenchCompares, l23_Heavy, h1, Option.bind_some]
  cases h with
  | true => rfl
  | false =>
    simp only [cond_false]
    obtain ⟨r, h, rfl⟩ := loop_ex (b := l23_BenchCompares_b1 x) (fun i => 0 ≤ i ∧ i ≤ 5) (fun i => (5 - i).toNat) (fun r => r = true) (fun i hi => by
      by_cases h1 : i < x.I.X.length
      · by_cases h2 : i < 5
        · exact .inl ⟨i + 1, by simp only [l23_BenchCompares_b1, h1, h2, decide_true, cond_true, cut]; exact k2_ok hx ⟨hi.1, h1⟩ h2, by omega, by omega⟩
        · exact .inr ⟨true, by simp only [l23_BenchCompares_b1, h1, h2, decide_true, decide_false, cond_true, cond_false, cut, bwakes, Option.bind_some], rfl⟩
      · exact .inr ⟨true, by simp only [l23_BenchCompares_b1, h1, decide_false, cond_false, cut, bwakes, Option.bind_some], rfl⟩) 6 0 (by decide) (by decide)
    exact h
end Go.Proofs.YtfnmihhcopkkbaaGreat
