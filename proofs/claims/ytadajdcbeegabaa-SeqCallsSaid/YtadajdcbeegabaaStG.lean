/- The laws' own helpers: heavy scripts, runs, kinds. -/
import Derived.Test.YtadajdcbeegabaaStF
namespace Go.Proofs.Ytadajdcbeegabaa
open Go Fr
set_option linter.unusedVariables false
set_option linter.unusedSimpArgs false
set_option maxRecDepth 20000

theorem codesWeight {p : List T_Ins} (hl : p.length * 56 ≤ 140737488351232) (hw : ∀ z ∈ p, Wf_Ins z) : ∃ r, l0_CodesWeight p = some r ∧ (p.length : Int) ≤ r ∧ r ≤ 35184372088832 := by
  obtain ⟨r, h1, h2⟩ := loop_ex (b := l0_CodesWeight_b1 p) (fun s => (0 ≤ s.2 ∧ s.2 ≤ p.length) ∧ (p.length : Int) ≤ s.1 ∧ s.1 ≤ 35184372088832) (fun s => (p.length - s.2).toNat) (fun r => (p.length : Int) ≤ r ∧ r ≤ 35184372088832) (fun ⟨w, i⟩ ⟨hi, hw1⟩ => by
    simp only at hi hw1
    by_cases h1 : i < p.length
    · by_cases h2 : w < 1048576
      · obtain ⟨hx, hat⟩ := at'_int (xs := p) hi.1 h1
        have h5 := (hw _ (List.getElem_mem hx)).h5
        have hq : quo' .i64 (p[i.toNat].Sym.size : Int) 8 = some ((p[i.toNat].Sym.size : Int) / 8) := by
          simp only [quo']
          rw [if_neg (by decide), Int.tdiv_eq_ediv_of_nonneg (by omega), wrap_i64 (by omega) (by omega)]
        refine .inl ⟨(w + (p[i.toNat].Sym.size : Int) / 8, i + 1), ?_, ⟨by simp; omega, by simp; omega, by simp; omega⟩, by simp; omega⟩
        simp only [l0_CodesWeight_b1, h1, h2, decide_true, cond_true, hat, Option.bind_some, hq]
        rw [wrap_i64 (by omega) (by omega), wrap_i64 (by omega) (by omega)]
      · exact .inr ⟨w, by simp [l0_CodesWeight_b1, h1, h2], hw1⟩
    · exact .inr ⟨w, by simp [l0_CodesWeight_b1, h1], hw1⟩) (p.length + 1) ((p.length : Int), 0) (by simp) ⟨by simp, by simp, by simp; omega⟩
  exact ⟨r, h1, h2⟩
/-- What a light script holds. -/
structure Light (x : T_Script) : Prop where
  p : x.P.length ≤ 700
  regs : x.S.Regs.length ≤ 3000
  mem : x.S.Mem.length ≤ 12000
  inn : x.S.In_.length ≤ 700
  out : x.S.Out.length ≤ 3000
  stack : x.S.Stack.length ≤ 700
  fly : x.S.Fly.length ≤ 700
  inx : x.In_.length ≤ 700
  n : x.N.length ≤ 700
theorem quo_len {n : Nat} {k : Int} (hn : n ≤ 140737488351232) (hk : 0 < k) : quo' .i64 (n : Int) k = some ((n : Int) / k) := by
  simp only [quo']
  have h1 : (n : Int) / k ≤ n := Int.ediv_le_self _ (by omega)
  have h2 : 0 ≤ (n : Int) / k := Int.ediv_nonneg (by omega) (by omega)
  rw [if_neg (by omega), Int.tdiv_eq_ediv_of_nonneg (by omega), wrap_i64 (by omega) (by omega)]
theorem heavy {x : T_Script} (hx : Wf_Script x) : ∃ h, l5_Heavy x = some h ∧ (h = false → Light x) := by
  obtain ⟨r, h1, h2, h3⟩ := codesWeight hx.h0 hx.h1
  have hs := hx.h2
  have a0 := hs.h0; have a2 := hs.h2; have a4 := hs.h4; have a7 := hs.h7; have a10 := hs.h10; have a13 := hs.h13
  have b3 := hx.h3; have b5 := hx.h5
  refine ⟨_, by simp only [l5_Heavy, h1, Option.bind_some, l0_StateWeight, quo_len (show x.S.Regs.length ≤ 140737488351232 by omega) (show (0 : Int) < 4 by decide), quo_len (show x.S.Mem.length ≤ 140737488351232 by omega) (show (0 : Int) < 16 by decide), quo_len (show x.S.Out.length ≤ 140737488351232 by omega) (show (0 : Int) < 4 by decide)]; rfl, fun h => ?_⟩
  simp only [decide_eq_false_iff_not] at h
  simp (disch := omega) only [wrap_i64] at h
  exact ⟨by omega, by omega, by omega, by omega, by omega, by omega, by omega, by omega, by omega⟩
abbrev tup (s : T_State) : (List Int) × (List Int) × (List Int) × Int × (List Int) × Int × (List Int) × Int × (List T_Write) × Int × Int := (s.Regs, s.Mem, s.In_, s.Taken, s.Out, s.PC, s.Stack, s.Stop, s.Fly, s.Jump, s.Delay)
theorem runs_loop {p : List T_Ins} (hw : ∀ z ∈ p, Wf_Ins z) (hp : progB p = true) : ∀ (m i : Nat) (s : T_State), i + m = 60 → Inv s → s.Out.length ≤ i →
    ∃ s', loop (l5_runs_b4 p) ((i : Int), s.Regs, s.Mem, s.In_, s.Taken, s.Out, s.PC, s.Stack, s.Stop, s.Fly, s.Jump, s.Delay) = some (.next (tup s')) ∧ Inv s' ∧ s'.Out.length ≤ 60
  | 0, i, s, hi, hI, hO => by
    have : decide ((i : Int) < 60) = false := by simp; omega
    exact ⟨s, loop_done (by simp only [l5_runs_b4, this, cond_false]), hI, by omega⟩
  | m + 1, i, s, hi, hI, hO => by
    have h1 : decide ((i : Int) < 60) = true := by simp; omega
    have h2 := seq_step1 hw hp hI (by omega)
    have h3 := r5_run hp hI (n := 1) (by omega) (by omega)
    have hr := go_ran hp 1 s hI (by omega)
    generalize (go p 1 s).1 = s1 at h2 h3 hr
    obtain ⟨o, ho, hol⟩ := hr.out
    have hO1 : s1.Out.length ≤ i + 1 := by rw [ho]; simp; omega
    have he := eqState (s := s1) (inv_short hr.inv (by omega) (by omega))
    obtain ⟨s', h4, h5, h6⟩ := runs_loop hw hp m (i + 1) s1 (by omega) hr.inv (by omega)
    refine ⟨s', ?_, h5, h6⟩
    rw [loop_next (s' := (((i + 1 : Nat) : Int), s1.Regs, s1.Mem, s1.In_, s1.Taken, s1.Out, s1.PC, s1.Stack, s1.Stop, s1.Fly, s1.Jump, s1.Delay)), h4]
    simp only [l5_runs_b4, h1, cond_true, h2, Option.bind_some]
    rw [show ((1 : Int)) = ((1 : Nat) : Int) from rfl, h3]
    simp only [Option.bind_some, l5_num, he, ne_eq, not_true_eq_false, decide_false, cond_false, Bool.not_true]
    rw [show (i : Int) + ((1 : Nat) : Int) = (i : Int) + 1 from rfl, wrap_nat (by omega)]
theorem runs_ok {x : T_Script} {p : List T_Ins} (hx : Wf_Script x) (hw : ∀ z ∈ p, Wf_Ins z) (hp : progB p = true) : l5_runs x p = some true := by
  obtain ⟨h, h1, _⟩ := heavy hx
  simp only [l5_runs, h1, Option.bind_some]
  cases h with
  | true => rfl
  | false =>
    by_cases hl : x.In_.length ≤ 100
    · have h2 : decide (100 < (x.In_.length : Int)) = false := by simp; omega
      have h3 := r3_prog_b hw
      rw [hp] at h3
      have hI := fresh_inv hl (fun z hz => (hx.h4 z hz))
      obtain ⟨s', h4, h5, h6⟩ := runs_loop hw hp 60 0 (fresh x.In_) (by omega) hI (by simp [fresh])
      have h7 := seq_run hw hp h5 (n := 100) (by omega) (by omega)
      have h8 := r5_run hp h5 (n := 100) (by omega) (by omega)
      have hr := go_ran hp 100 s' h5 (by omega)
      obtain ⟨o, ho, hol⟩ := hr.out
      have he := eqState (s := (go p 100 s').1) (inv_short hr.inv (by omega) (by rw [ho]; simp; omega))
      have h7' : seq_Run p s' 100 = some ((go p 100 s').1, ((go p 100 s').2 : Int), 0) := h7
      have h8' : r5_Run p s' 100 = some ((go p 100 s').1, ((go p 100 s').2 : Int)) := h8
      have h4' : loop (l5_runs_b4 p) (0, (fresh x.In_).Regs, (fresh x.In_).Mem, (fresh x.In_).In_, (fresh x.In_).Taken, (fresh x.In_).Out, (fresh x.In_).PC, (fresh x.In_).Stack, (fresh x.In_).Stop, (fresh x.In_).Fly, (fresh x.In_).Jump, (fresh x.In_).Delay) = some (.next (tup s')) := h4
      simp only [h2, cond_false, cut, l5_runs_k1, wakes, Option.bind_some, Bool.not_true, h3, l5_runs_k2, seq_new hl, l5_num, ne_eq, not_true_eq_false, decide_false, h4', l5_runs_k3, h7', h8', decide_true, cond_true, he]
    · have h2 : decide (100 < (x.In_.length : Int)) = true := by simp; omega
      simp only [cond_false, h2, cond_true]; rfl
/-- A list of good codes. -/
def Good (p : List T_Ins) : Prop := ∀ z ∈ p, Wf_Ins z ∧ codeB z = true
theorem good_prog {p : List T_Ins} (h : Good p) (hl : p.length ≤ 1024) : progB p = true := by
  simp only [progB, Bool.and_eq_true, decide_eq_true_eq, List.all_eq_true]
  exact ⟨hl, fun z hz => (h z hz).2⟩
theorem good_app {p q : List T_Ins} (h : Good p) (h2 : Good q) : Good (p ++ q) := fun z hz => (List.mem_append.1 hz).elim (h z) (h2 z)
theorem good_nil : Good [] := by simp [Good]
theorem good_cons {x : T_Ins} {p : List T_Ins} (h1 : Wf_Ins x) (h2 : codeB x = true) (h : Good p) : Good (x :: p) := fun z hz => by
  rcases List.mem_cons.1 hz with rfl | hz
  · exact ⟨h1, h2⟩
  · exact h z hz
theorem shape1 {op : Int} (h : 1 ≤ op ∧ op ≤ 20) : r3_Form op = some 1 := by
  rcases (show op = 1 ∨ op = 2 ∨ op = 3 ∨ op = 4 ∨ op = 5 ∨ op = 6 ∨ op = 7 ∨ op = 8 ∨ op = 9 ∨ op = 10 ∨ op = 11 ∨ op = 12 ∨ op = 13 ∨ op = 14 ∨ op = 15 ∨ op = 16 ∨ op = 17 ∨ op = 18 ∨ op = 19 ∨ op = 20 by omega) with rfl | rfl | rfl | rfl | rfl | rfl | rfl | rfl | rfl | rfl | rfl | rfl | rfl | rfl | rfl | rfl | rfl | rfl | rfl | rfl <;> rfl
theorem kinds_ok {x : T_Script} (hx : Wf_Script x) {lo hi : Int} (h1 : 1 ≤ lo) (h2 : lo ≤ hi) (h3 : hi ≤ 20) : ∃ p, l5_kinds x lo hi = some p ∧ Good p ∧ p.length ≤ 1024 := by
  have hP := hx.h0
  obtain ⟨r, hr, zs, rfl, hg, hl⟩ := loop_ex (b := l5_kinds_b2 x hi lo) (fun s => (0 ≤ s.2 ∧ s.2 ≤ x.P.length) ∧ Good s.1 ∧ s.1.length ≤ 50) (fun s => (x.P.length - s.2).toNat) (fun r => ∃ zs, r = .next zs ∧ Good zs ∧ zs.length ≤ 50) (fun ⟨zs, i⟩ ⟨hi1, hg, hl⟩ => by
    simp only at hi1 hg hl
    by_cases c1 : i < x.P.length
    · by_cases c2 : (zs.length : Int) < 50
      · obtain ⟨hxx, hat⟩ := at'_int (xs := x.P) hi1.1 c1
        have hW := hx.h1 _ (List.getElem_mem hxx)
        generalize x.P[i.toNat] = c at hat hW
        have w1 : IntKind.i64.wrap (IntKind.i64.wrap (hi - lo) + 1) = hi - lo + 1 := by rw [wrap_i64 (n := hi - lo) (by omega) (by omega), wrap_i64 (by omega) (by omega)]
        have hm : rem' i (hi - lo + 1) = some (i % (hi - lo + 1)) := by
          simp only [rem']; rw [if_neg (by omega), Int.tmod_eq_emod_of_nonneg hi1.1]
        have m0 := Int.emod_nonneg i (show hi - lo + 1 ≠ 0 by omega)
        have m1 := Int.emod_lt_of_pos i (show 0 < hi - lo + 1 by omega)
        generalize i % (hi - lo + 1) = k at hm m0 m1
        have w2 : IntKind.i64.wrap (lo + k) = lo + k := wrap_i64 (by omega) (by omega)
        have w3 : IntKind.i64.wrap (i + 1) = i + 1 := wrap_i64 (by omega) (by omega)
        have hf := shape1 (op := lo + k) (by omega)
        have hn := r3_ins0 (x := ⟨lo + k, c.D, c.A, c.B, 0, ByteArray.mk #[]⟩) rfl
        have hap : app' zs [(⟨lo + k, c.D, c.A, c.B, 0, ByteArray.mk #[]⟩ : T_Ins)] = some (zs ++ [⟨lo + k, c.D, c.A, c.B, 0, ByteArray.mk #[]⟩]) := app'_le (by simp; omega)
        cases hb : insB ⟨lo + k, c.D, c.A, c.B, 0, ByteArray.mk #[]⟩ with
        | true =>
          rw [hb] at hn
          refine .inl ⟨(zs ++ [⟨lo + k, c.D, c.A, c.B, 0, ByteArray.mk #[]⟩], i + 1), ?_, ⟨by simp; omega, good_app hg (good_cons ⟨by simp; omega, hW.h1, hW.h2, hW.h3, by simp, show (ByteArray.mk #[]).size ≤ 140737488351232 by decide⟩ (by simp [codeB, hb]) good_nil), by simp; omega⟩, by simp; omega⟩
          simp only [l5_kinds_b2, c1, c2, decide_true, cond_true, cut, l5_kinds_k3, hat, Option.bind_some, w1, hm, w2, hf, ne_eq, not_true_eq_false, decide_false, cond_false, hn, hap, w3]
        | false =>
          rw [hb] at hn
          refine .inl ⟨(zs, i + 1), ?_, ⟨by simp; omega, hg, hl⟩, by simp; omega⟩
          simp only [l5_kinds_b2, c1, c2, decide_true, cond_true, cut, l5_kinds_k3, hat, Option.bind_some, w1, hm, w2, hf, ne_eq, not_true_eq_false, decide_false, cond_false, hn, hap, w3]
      · exact .inr ⟨_, by simp [l5_kinds_b2, c1, c2, cut], zs, rfl, hg, hl⟩
    · exact .inr ⟨_, by simp [l5_kinds_b2, c1, cut], zs, rfl, hg, hl⟩) (x.P.length + 1) ([⟨26, 1, 0, 0, 0, ByteArray.empty⟩, ⟨26, 2, 0, 0, 0, ByteArray.empty⟩, ⟨23, 3, 0, 0, (-5), ByteArray.empty⟩, ⟨23, 4, 0, 0, 77, ByteArray.empty⟩], 0) (by simp)
    ⟨by simp, by
      refine good_cons (wf_code (by decide) (by decide) (by decide) (by decide) (by decide)) (by decide) (good_cons (wf_code (by decide) (by decide) (by decide) (by decide) (by decide)) (by decide) (good_cons (wf_code (by decide) (by decide) (by decide) (by decide) (by decide)) (by decide) (good_cons (wf_code (by decide) (by decide) (by decide) (by decide) (by decide)) (by decide) good_nil))), by simp⟩
  have hap : app' zs [(⟨27, 0, 3, 0, 0, ByteArray.empty⟩ : T_Ins), (⟨33, 0, 0, 0, 0, ByteArray.empty⟩ : T_Ins)] = some (zs ++ [⟨27, 0, 3, 0, 0, ByteArray.empty⟩, ⟨33, 0, 0, 0, 0, ByteArray.empty⟩]) := app'_le (by simp; omega)
  refine ⟨zs ++ [⟨27, 0, 3, 0, 0, ByteArray.empty⟩, ⟨33, 0, 0, 0, 0, ByteArray.empty⟩], by simp only [l5_kinds, hr, cut, l5_kinds_k1, hap, Option.bind_some], good_app hg (good_cons (wf_code (by decide) (by decide) (by decide) (by decide) (by decide)) (by decide) (good_cons (wf_code (by decide) (by decide) (by decide) (by decide) (by decide)) (by decide) good_nil)), by simp; omega⟩
theorem runs_good {x : T_Script} {p : List T_Ins} (hx : Wf_Script x) (h : Good p) (hl : p.length ≤ 1024) : l5_runs x p = some true := runs_ok hx (fun z hz => (h z hz).1) (good_prog h hl)
theorem remN {n : Nat} {k : Int} (hk : 0 < k) : rem' (n : Int) k = some ((n : Int) % k) := by
  simp only [rem']; rw [if_neg (by omega), Int.tmod_eq_emod_of_nonneg (by omega)]
end Go.Proofs.Ytadajdcbeegabaa
