/- The law HazardReads, as a plain statement: proved. -/
import Derived.Test.YthbpicnbkdbbmaaGreatLHazardReads
import Derived.Test.YthbpicnbkdbbmaaGreatPiI
namespace Go.Proofs.YthbpicnbkdbbmaaGreat
open Go Go.RowKit Fr
set_option linter.unusedVariables false
set_option linter.unusedSimpArgs false
set_option maxRecDepth 20000
def rdZ (op : Int) : A4 T_Ins := ((at' (r3_Slots op) 0).bind fun s => A4.put zB s ⟨op, 3, 0, 0, 0, ByteArray.empty⟩).getD zB
abbrev rdE (p : Nat) : A4 T_Ins := ⟨⟨1, 4, IntKind.i64.wrap (1 + (IntKind.i64.wrap (2 * (p : Int)))), 3, 0, ByteArray.empty⟩, z0, z0, z0⟩
abbrev rdC (op : Int) (k p : Nat) : List (A4 T_Ins) := rdZ op :: List.replicate k zB ++ [rdE p]
noncomputable def rdOk (op : Int) (k p : Nat) : Bool := (rdC op k p).all goodBB && ((hrunC (rdC op k p) (k + 2) (fresh [])).map fun r => (decide (r.1.Stop = 6)) == (decide ((k : Int) + 1 < r3_Latency op))).getD false
noncomputable def skips (op : Int) : Bool := !(r3_HasD ((r3_Form op).getD 0)) || r0_Between op 16 17
theorem rd_all : (List.range 13).all (fun j => skips (14 + (j : Int)) || (List.range 5).all fun k => rdOk (14 + (j : Int)) k 0 && rdOk (14 + (j : Int)) k 1) = true := by kernel_rfl
theorem rd_z : (List.range 13).all (fun j => decide (((at' (r3_Slots (14 + (j : Int))) 0).bind fun s => A4.put zB s ⟨14 + (j : Int), 3, 0, 0, 0, ByteArray.empty⟩).isSome ∧ ((at' (r3_Slots (14 + (j : Int))) 0).bind fun s => at' [z0, z0, z0, z0] s).isSome ∧ (r3_Form (14 + (j : Int))).isSome)) = true := by kernel_rfl
theorem hr_round {x : T_Script} (hx : Wf_Script x) {op : Int} {k : Nat} (hk : k < 5) (hok : ∀ p, p < 2 → rdOk op k p = true) : l7_HazardReads_b3 (rdZ op) x op (k : Int) = some (.next ((k + 1 : Nat) : Int)) := by
  have hd : decide ((k : Int) < 5) = true := decide_eq_true (by omega)
  have hl := hx.h3
  have hp := pad_loop (b := l7_HazardReads_b5 (k : Int)) (k := k) (by omega) (z := rdZ op) (fun xs i hi => by
      simp only [l7_HazardReads_b5, show decide ((i : Int) < (k : Int)) = true from decide_eq_true (by omega), cond_true]) (fun xs => by
      simp only [l7_HazardReads_b5, Int.lt_irrefl, decide_false, cond_false])
  obtain ⟨p, hp2, hm⟩ := modN x.N.length (k := 2) (by decide)
  have hm' : rem' (x.N.length : Int) 2 = some (p : Int) := hm
  have hok := hok p hp2
  simp only [rdOk, Bool.and_eq_true] at hok
  obtain ⟨h1, h2⟩ := hok
  have hg := goodC_of h1
  have hlen : (rdC op k p).length ≤ 1024 := by simp [rdC]; omega
  obtain ⟨gw, gc⟩ := good_cod hg hlen
  have hI := fresh_inv (xs := []) (by simp) (by simp)
  have hrun := hazard_run gw gc hI (n := k + 2) (by omega) (by simp [fresh]; omega)
  have w2 : IntKind.i64.wrap ((k : Int) + 2) = ((k + 2 : Nat) : Int) := by rw [wrap_i64 (by omega) (by omega)]; omega
  have w1 : IntKind.i64.wrap ((k : Int) + 1) = ((k + 1 : Nat) : Int) := wrap_nat (by omega)
  cases hc : hrunC (rdC op k p) (k + 2) (fresh []) with
  | none => rw [hc] at h2; cases h2
  | some r =>
    rw [hc] at h2
    simp only [Option.map_some, Option.getD_some, beq_iff_eq] at h2
    rw [hrunC_eq gc (k + 2) hI (by simp [fresh]; omega) hc] at hrun
    rw [l7_HazardReads_b3, hd, cond_true, hp, cut, l7_HazardReads_k4, hm', Option.bind_some, app'_le (by simp; omega), Option.bind_some]
    refine found_then hg hlen ?_
    rw [Bool.not_true, cond_false, r5_new (xs := []) (by simp), Option.bind_some, w2, w1]
    have hrun' : hazard_Run (rdZ op :: List.replicate k zB ++ [rdE p]) (fresh []) ((k + 2 : Nat) : Int) = some (r.1, (r.2 : Int), 0) := hrun
    rw [hrun', Option.bind_some]
    have h3 : decide (r.1.Stop = 6) = decide (((k + 1 : Nat) : Int) < r3_Latency op) := by rw [h2]; congr 1
    simp only [l7_num, ne_eq, not_true_eq_false, decide_false, cond_false, h3, bne_self_eq_false]
theorem pure_HazardReads (x : T_Script) (hx : Wf_Script x) : l7_HazardReads x = some true := by
  refine loop_from 14 13 (fun i h0 hi => ?_) ?_
  · obtain ⟨j, rfl⟩ : ∃ j, i = 14 + j := ⟨i - 14, by omega⟩
    have hj : j < 13 := by omega
    have ej : ((14 + j : Nat) : Int) = 14 + (j : Int) := by omega
    have hd : decide (((14 + j : Nat) : Int) ≤ 26) = true := decide_eq_true (by omega)
    have ha := all_range rd_all hj
    have hz := of_decide_eq_true (all_range rd_z hj)
    obtain ⟨z1, z2, z3⟩ := hz
    have wj : IntKind.i64.wrap (14 + (j : Int) + 1) = ((14 + j + 1 : Nat) : Int) := by rw [wrap_i64 (by omega) (by omega)]; omega
    rw [l7_HazardReads_b1, hd, cond_true, ej]
    generalize hop : (14 + (j : Int)) = op at *
    obtain ⟨f, hf⟩ := Option.isSome_iff_exists.1 z3
    rw [hf, Option.bind_some]
    simp only [skips, hf, Option.getD_some] at ha
    cases c1 : r3_HasD f with
    | false => simp only [Bool.not_false, cond_true, cut, wj]
    | true =>
      cases c2 : r0_Between op 16 17 with
      | true => simp only [Bool.not_true, cond_false, cond_true, cut, wj]
      | false =>
        rw [c1, c2] at ha
        simp only [Bool.not_true, Bool.false_or] at ha
        cases hs : at' (r3_Slots op) 0 with
        | none => rw [hs] at z1; cases z1
        | some s =>
          rw [hs, Option.bind_some] at z1 z2
          obtain ⟨z, hz⟩ := Option.isSome_iff_exists.1 z1
          obtain ⟨y, hy⟩ := Option.isSome_iff_exists.1 z2
          have ez : rdZ op = z := by simp only [rdZ, hs, Option.bind_some, hz, Option.getD_some]
          simp only [Bool.not_true, cond_false, cut, l7_HazardReads_k2, hs, Option.bind_some]
          rw [hy, Option.bind_some, hz, Option.bind_some, ← ez]
          refine loop_count 5 (fun k hk => hr_round hx hk fun p hp => ?_) ?_
          · have := all_range ha hk
            simp only [Bool.and_eq_true] at this
            rcases (show p = 0 ∨ p = 1 by omega) with rfl | rfl
            · exact this.1
            · exact this.2
          · simp only [l7_HazardReads_b3, show decide (((5 : Nat) : Int) < 5) = false from rfl, cond_false, wj]
  · simp [l7_HazardReads_b1, hwakes]
end Go.Proofs.YthbpicnbkdbbmaaGreat
