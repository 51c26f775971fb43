/- The law PipeLate, as a plain statement: proved. -/
import Derived.Test.YthbpicnbkdbbmaaLPipeLate
import Derived.Test.YthbpicnbkdbbmaaPiW
namespace Go.Proofs.Ythbpicnbkdbbmaa
open Go Go.RowKit Fr
set_option linter.unusedVariables false
set_option linter.unusedSimpArgs false
set_option maxRecDepth 20000
noncomputable def plA (op : Int) : Int := bif decide (op = 24) then 4 else bif r3_HasA ((r3_Form op).getD 0) then 2 else 0
def plI (op : Int) : Int := bif decide (op = 23) then 5 else bif decide (op = 22) then 5 else 0
noncomputable def plB (op : Int) : Int := bif decide (((r3_Form op).getD 0) = 1) then 2 else 0
noncomputable abbrev plX (op : Int) : T_Ins := ⟨op, 1, plA op, plB op, plI op, ByteArray.empty⟩
noncomputable abbrev plC (op : Int) : List (A4 T_Ins) := [(l6_at (plX op)).getD ⟨z0, z0, z0, z0⟩, ⟨z0, z0, z0, z0⟩, ⟨z0, z0, z0, z0⟩, ⟨z0, z0, z0, z0⟩, ⟨z0, z0, z0, z0⟩, ⟨z0, z0, z0, z0⟩]
def plS : T_State := { fresh [9] with Regs := ((List.replicate 16 (0 : Int)).set 1 11259375).set 2 3, Mem := (List.replicate 256 (0 : Int)).set 0 8 }
noncomputable def plOk (op : Int) (n : Nat) : Bool := ((runC (plC op) n plS).map fun r => decide (r.2 = n) && (at' r.1.Regs 1).isSome && (!decide ((n : Int) ≤ r3_Latency op) || decide (at' r.1.Regs 1 = some 11259375))).getD false
theorem pl_all : (List.range 26).all (fun j => !(r3_HasD ((r3_Form (1 + (j : Int))).getD 0)) || ((l6_at (plX (1 + (j : Int)))).isSome && (plC (1 + (j : Int))).all goodBB && (List.range 5).all fun n => plOk (1 + (j : Int)) (1 + n))) = true := by kernel_rfl
theorem pl_f : (List.range 26).all (fun j => (r3_Form (1 + (j : Int))).isSome) = true := by kernel_rfl
theorem plS_inv : PInv plS := by
  have h := fresh_inv (xs := [9]) (by simp) (by simp [U])
  exact { h with inv := { h.inv with
    regs := by simp [plS]
    regsU := fun z hz => by
      simp only [plS] at hz
      rcases List.mem_or_eq_of_mem_set hz with hz | rfl
      · rcases List.mem_or_eq_of_mem_set hz with hz | rfl
        · simp at hz; subst hz; exact ⟨by decide, by decide⟩
        · exact ⟨by decide, by decide⟩
      · exact ⟨by decide, by decide⟩
    mem := by simp [plS]
    memU := fun z hz => by
      rcases List.mem_or_eq_of_mem_set hz with hz | rfl
      · simp at hz; subst hz; exact ⟨by decide, by decide⟩
      · exact ⟨by decide, by decide⟩ } }
theorem pl_round {op : Int} {n : Nat} (hn : n < 5) (hg : (plC op).all goodBB = true) (hok : plOk op (1 + n) = true) {b : A4 T_Ins} (hb : l6_at (plX op) = some b) :
    l6_PipeLate_b7 b plS.Regs plS.Mem (fresh [9]) op ((1 + n : Nat) : Int) = some (.next ((1 + n + 1 : Nat) : Int)) := by
  have hd : decide (((1 + n : Nat) : Int) < 6) = true := decide_eq_true (by omega)
  have hw : IntKind.i64.wrap (((1 + n : Nat) : Int) + 1) = ((1 + n + 1 : Nat) : Int) := wrap_nat (by omega)
  have ec : plC op = [b, ⟨z0, z0, z0, z0⟩, ⟨z0, z0, z0, z0⟩, ⟨z0, z0, z0, z0⟩, ⟨z0, z0, z0, z0⟩, ⟨z0, z0, z0, z0⟩] := by simp only [plC, hb, Option.getD_some]
  obtain ⟨gw, gc⟩ := good_cod (goodC_of hg) (by simp [plC])
  simp only [plOk] at hok
  cases hc : runC (plC op) (1 + n) plS with
  | none => rw [hc] at hok; cases hok
  | some r =>
    rw [hc] at hok
    simp only [Option.map_some, Option.getD_some, Bool.and_eq_true, decide_eq_true_eq] at hok
    obtain ⟨⟨h1, h2⟩, h3⟩ := hok
    have hO : plS.Out.length + 4 * (1 + n) < 4294967296 := by simp [plS, fresh]; omega
    have e := runC_eq gc (1 + n) plS_inv hO hc
    have hr := pipe_run gw gc plS_inv (n := 1 + n) (by omega) hO
    have hq := r5_cycles gc plS_inv (n := 1 + n) (by omega) hO
    have hran := runf_ran (fun s hP hs hO => (cyc_of gc hP hs hO).2.2.2) (1 + n) plS plS_inv hO
    rw [e] at hr hq hran
    obtain ⟨o, o1, o2⟩ := hran.out
    have hs := eqState (s := r.1) (inv_short hran.inv (by omega) (by rw [o1]; simp [plS, fresh]; omega))
    have hl : r.1.Regs.length = 16 := hran.inv.inv.regs
    obtain ⟨v, hv⟩ := Option.isSome_iff_exists.1 h2
    rw [ec] at hr hq
    have hr' : pipe_Run [b, ⟨z0, z0, z0, z0⟩, ⟨z0, z0, z0, z0⟩, ⟨z0, z0, z0, z0⟩, ⟨z0, z0, z0, z0⟩, ⟨z0, z0, z0, z0⟩] ⟨plS.Regs, plS.Mem, (fresh [9]).In_, (fresh [9]).Taken, (fresh [9]).Out, (fresh [9]).PC, (fresh [9]).Stack, (fresh [9]).Stop, (fresh [9]).Fly, (fresh [9]).Jump, (fresh [9]).Delay⟩ ((1 + n : Nat) : Int) = some (r.1, (r.2 : Int), 0) := hr
    have hq' : r5_Cycles [b, ⟨z0, z0, z0, z0⟩, ⟨z0, z0, z0, z0⟩, ⟨z0, z0, z0, z0⟩, ⟨z0, z0, z0, z0⟩, ⟨z0, z0, z0, z0⟩] ⟨plS.Regs, plS.Mem, (fresh [9]).In_, (fresh [9]).Taken, (fresh [9]).Out, (fresh [9]).PC, (fresh [9]).Stack, (fresh [9]).Stop, (fresh [9]).Fly, (fresh [9]).Jump, (fresh [9]).Delay⟩ ((1 + n : Nat) : Int) false = some (r.1, (r.2 : Int)) := hq
    simp only [z0] at hr' hq'
    rw [l6_PipeLate_b7, hd, cond_true, hr', Option.bind_some, hq', Option.bind_some]
    have h16 : decide (((r.1.Regs.length : Nat) : Int) ≠ 16) = false := decide_eq_false (by omega)
    simp only [l6_num, ne_eq, not_true_eq_false, decide_false, cond_false, h1, hs, Option.bind_some, Bool.not_true, hl, cut]
    simp only [l6_PipeLate_k8, hv, Option.bind_some, ne_eq, not_true_eq_false, decide_false, cond_false, hw]
    by_cases hlt : ((1 + n : Nat) : Int) ≤ r3_Latency op
    · have hlt2 : ¬ r3_Latency op < ((1 + n : Nat) : Int) := by omega
      have h4 := h3
      rw [hv] at h4
      have hlt' : decide (((1 + n : Nat) : Int) ≤ r3_Latency op) = true := decide_eq_true hlt
      simp only [hlt', Bool.not_true, Bool.false_or, decide_eq_true_eq, Option.some.injEq] at h4
      simp [hlt, hlt2, h4]
    · have hlt2 : r3_Latency op < ((1 + n : Nat) : Int) := by omega
      simp only [hlt, hlt2, decide_true, decide_false, cond_true, cond_false]
      rfl
theorem loop_at {ρ : Type} {b : Int → Option (Step Int ρ)} {r : ρ} (a n : Nat) (hs : ∀ i : Nat, i < n → b ((a + i : Nat) : Int) = some (.next ((a + i + 1 : Nat) : Int))) (he : b ((a + n : Nat) : Int) = some (.done r)) : loop b (a : Int) = some r := by
  have : ∀ m i : Nat, i + m = n → loop b ((a + i : Nat) : Int) = some r := by
    intro m
    induction m with
    | zero => intro i h; obtain rfl : i = n := by omega
              exact loop_done he
    | succ m ih => intro i h; rw [loop_next (hs i (by omega))]; exact ih (i + 1) (by omega)
  exact this n 0 (by omega)
theorem pl_op {j : Nat} (hj : j < 26) : l6_PipeLate_b2 ((1 + j : Nat) : Int) = some (.next ((1 + j + 1 : Nat) : Int)) := by
  have ha := all_range pl_all hj
  have hf := all_range pl_f hj
  have ej : ((1 + j : Nat) : Int) = 1 + (j : Int) := by omega
  have hd : decide (((1 + j : Nat) : Int) ≤ 26) = true := decide_eq_true (by omega)
  have hw : IntKind.i64.wrap (((1 + j : Nat) : Int) + 1) = ((1 + j + 1 : Nat) : Int) := wrap_nat (by omega)
  rw [← ej] at ha hf
  rw [l6_PipeLate_b2, hd, cond_true, hw]
  generalize (((1 + j : Nat) : Int)) = op at *
  obtain ⟨f, hf⟩ := Option.isSome_iff_exists.1 hf
  rw [hf, Option.bind_some]
  rw [hf, Option.getD_some] at ha
  cases c1 : r3_HasD f with
  | false => rfl
  | true =>
    rw [c1] at ha
    simp only [Bool.not_true, Bool.false_or, Bool.and_eq_true] at ha
    obtain ⟨⟨h1, h2⟩, h3⟩ := ha
    obtain ⟨b, hb⟩ := Option.isSome_iff_exists.1 h1
    have s1 : set' (fresh [9]).Regs 1 11259375 = some ((List.replicate 16 (0 : Int)).set 1 11259375) := rfl
    have s2 : set' ((List.replicate 16 (0 : Int)).set 1 11259375) 2 3 = some plS.Regs := rfl
    have s3 : set' (fresh [9]).Mem 0 8 = some plS.Mem := by
      rw [set'_int (by decide) (by simp [fresh])]; rfl
    have fin : (l6_at (plX op)).bind (fun r2606 => loop (l6_PipeLate_b7 r2606 plS.Regs plS.Mem (fresh [9]) op) 1) = some (.next ((1 + j + 1 : Nat) : Int)) := by
      rw [hb, Option.bind_some]
      refine loop_at 1 5 (fun n hn => pl_round hn h2 (all_range h3 hn) hb) ?_
      simp only [l6_PipeLate_b7, show decide (((1 + 5 : Nat) : Int) < 6) = false from rfl, cond_false, hw]
    have eA : plA op = (bif decide (op = 24) then 4 else bif r3_HasA f then 2 else 0) := by simp only [plA, hf, Option.getD_some]
    have eB : plB op = (bif decide (f = 1) then 2 else 0) := by simp only [plB, hf, Option.getD_some]
    simp only [plX, eA, eB, plI] at fin
    rw [Bool.not_true, cond_false, Option.bind_some]
    have n9 := r5_new (xs := [9]) (by simp)
    cases cA : r3_HasA f <;> cases c3 : decide (op = 23) <;> cases c2 : decide (op = 22) <;> cases cB : decide (f = 1) <;> cases c4 : decide (op = 24) <;>
      simp only [cA, c3, c2, cB, c4, cond_true, cond_false] at fin ⊢ <;>
      (simp only [cut, l6_PipeLate_k3, l6_PipeLate_k4, l6_PipeLate_k5, l6_PipeLate_k6, hf, Option.bind_some, c3, c2, cB, c4, cond_true, cond_false, n9, s1, s2, s3]; exact fin)
theorem pure_PipeLate (x : T_Script) (hx : Wf_Script x) : l6_PipeLate x = some true := by
  have h : loop l6_PipeLate_b2 1 = some (.next ()) := loop_at 1 26 (fun j hj => pl_op hj) (by simp [l6_PipeLate_b2])
  have h0 : decide (0 ≤ (x.N.length : Int)) = true := decide_eq_true (by omega)
  simp only [l6_PipeLate, h, cut, l6_PipeLate_k1, h0, cond_true, wakes, Option.bind_some]
end Go.Proofs.Ythbpicnbkdbbmaa
