/- A bundle: both machines. -/
import Derived.Test.YtfnmihhcopkkbaaGreatPiC
namespace Go.Proofs.YtfnmihhcopkkbaaGreat
open Go Fr
set_option linter.unusedVariables false
set_option linter.unusedSimpArgs false
set_option maxRecDepth 20000
theorem turnk_stop {s : T_State} {x : T_Ins} {n : Int} {p : Bool × List Int × List Int × List Int × List Int × List T_Write} {s1 : T_State} {to e : Int} {j : Bool} (h : seq_Turn_k1 s x n p = some (s1, to, j, e)) (he : e ≠ 0) : j = false := by
  obtain ⟨c, m, i, o, st, f⟩ := p
  simp only [seq_Turn_k1] at h
  cases c with
  | true => simp at h; exact absurd h.2.2.2.symm he
  | false =>
    simp only [cond_false] at h
    by_cases h1 : x.Op = 31
    · simp only [h1, decide_true, cond_true] at h
      by_cases h2 : 16 ≤ (st.length : Int)
      · simp [h2] at h; exact h.2.2.1
      · simp only [h2, decide_false, cond_false] at h
        obtain ⟨z, _, h⟩ := ob h
        simp at h; exact absurd h.2.2.2.symm he
    · simp only [h1, decide_false, cond_false] at h
      by_cases h2 : x.Op = 32
      · simp only [h2, decide_true, cond_true] at h
        by_cases h3 : IntKind.i64.wrap ((st.length : Int) - 1) < 0
        · simp [h3] at h; exact h.2.2.1
        · simp only [h3, decide_false, cond_false] at h
          obtain ⟨z, _, h⟩ := ob h
          obtain ⟨z, _, h⟩ := ob h
          simp at h; exact absurd h.2.2.2.symm he
      · simp [h2] at h; exact absurd h.2.2.2.symm he
theorem turn_stop {s : T_State} {x : T_Ins} {a n : Int} {s1 : T_State} {to e : Int} {j : Bool} (h : seq_Turn s x a n = some (s1, to, j, e)) (he : e ≠ 0) : j = false := by
  simp only [seq_Turn] at h
  obtain ⟨z, hz, hc⟩ := cut_step h
  cases z with
  | next p => exact turnk_stop hc he
  | done r =>
    revert hz
    cases decide (x.Op = 28) <;> cases decide (x.Op = 29) <;> cases decide (x.Op = 30) <;> cases decide (a = 0) <;> simp
theorem lat_le (op : Int) : 0 ≤ r3_Latency op - 1 ∧ r3_Latency op - 1 ≤ 3 := by
  simp only [r3_Latency, cond_eq_ite]
  repeat' split
  all_goals omega
structure Mid (s0 : T_State) (k : Nat) (s : T_State) : Prop where
  inv : Inv s
  regs : s.Regs = s0.Regs
  pc : s.PC = s0.PC
  inn : s.In_ = s0.In_
  taken : s0.Taken ≤ s.Taken
  out : ∃ o, s.Out = s0.Out ++ o ∧ o.length ≤ k
  jump : 0 ≤ s.Jump ∧ s.Jump ≤ 1024
  delay : 0 ≤ s.Delay ∧ s.Delay ≤ 2
  ok : ∀ w ∈ s.Fly, okW w = true
  u : ∀ w ∈ s.Fly, U w.Value
  l0 : late 0 s.Fly ≤ 16 + k
  l1 : late 1 s.Fly ≤ 12 + k
  l2 : late 2 s.Fly ≤ 8 + k
  l3 : late 3 s.Fly ≤ 4 + k
  l4 : late 4 s.Fly ≤ 0
abbrev tupP (t : Bool) (k : Int) (s : T_State) : Bool × Int × List Int × List Int × List Int × Int × List Int × Int × List Int × Int × List T_Write × Int × Int := (t, k, s.Regs, s.Mem, s.In_, s.Taken, s.Out, s.PC, s.Stack, s.Stop, s.Fly, s.Jump, s.Delay)
abbrev tupR (t : Bool) (s : T_State) : Bool × List Int × List Int × List Int × Int × List Int × Int × List Int × Int × List T_Write × Int × Int := (t, s.Regs, s.Mem, s.In_, s.Taken, s.Out, s.PC, s.Stack, s.Stop, s.Fly, s.Jump, s.Delay)
theorem late_all {l : List T_Write} (h : ∀ w ∈ l, okW w = true) : late 0 l = (l.length : Int) := by
  simp only [late]
  have : l.countP (fun w => decide ((0 : Int) ≤ w.Left)) = l.length := by
    rw [List.countP_eq_length]
    intro w hw
    obtain ⟨_, q, _⟩ := okW_iff.1 (h w hw)
    simpa using q
  omega
theorem near_core {s s1 : T_State} (hI : Inv s) (hn : Near s s1) : Inv s1 where
  regs := by rw [hn.regs]; exact hI.regs
  regsU := by rw [hn.regs]; exact hI.regsU
  mem := by rw [hn.mem]; exact hI.mem
  memU := hn.memU
  inl := by rw [hn.inn]; exact hI.inl
  inU := by rw [hn.inn]; exact hI.inU
  taken := by rw [hn.inn]; have := hn.taken; have := hI.taken; omega
  outU := by
    obtain ⟨o, h1, h2, h3⟩ := hn.out
    rw [h1]; intro z hz
    rcases List.mem_append.1 hz with hz | hz
    · exact hI.outU z hz
    · exact h3 z hz
  pc := by rw [hn.pc]; exact hI.pc
  stack := hn.stack
  stackN := hn.stackN
theorem inv_of {s s' : T_State} (h : Inv s) (h1 : s'.Regs = s.Regs) (h2 : s'.Mem = s.Mem) (h3 : s'.In_ = s.In_) (h4 : s'.Taken = s.Taken) (h5 : s'.Out = s.Out) (h6 : s'.PC = s.PC) (h7 : s'.Stack = s.Stack) : Inv s' := by
  cases s; cases s'
  simp only at h1 h2 h3 h4 h5 h6 h7
  subst h1 h2 h3 h4 h5 h6 h7
  exact ⟨h.regs, h.regsU, h.mem, h.memU, h.inl, h.inU, h.taken, h.outU, h.pc, h.stack, h.stackN⟩
theorem slot_both {b : A4 T_Ins} {was : List Int} {s0 s : T_State} {k : Nat} {x : T_Ins} {t : Bool} (hk : k < 4) (hx : at' [b.x0, b.x1, b.x2, b.x3] (k : Int) = some x) (hc : codeB x = true) (hw : was.length = 16) (hwu : ∀ z ∈ was, U z)
    (hM : Mid s0 k s) (hs : s.Stop = 0) (hO : s.Out.length < 4294967296) :
    ∃ s2 t2, Mid s0 (k + 1) s2 ∧ (0 ≤ s2.Stop ∧ s2.Stop ≤ 5) ∧
      (s2.Stop = 0 → pipe_issue_b1 b was (tupP t k s) = some (.next (tupP t2 ((k + 1 : Nat) : Int) s2)) ∧ r5_issue_b2 b was (tupP t k s) = some (.next (tupP t2 ((k + 1 : Nat) : Int) s2))) ∧
      (s2.Stop ≠ 0 → pipe_issue_b1 b was (tupP t k s) = some (.done (s2, t2)) ∧ r5_issue_b2 b was (tupP t k s) = some (.done (.next (tupR t2 s2)))) := by
  obtain ⟨_, hD, hA, hB, _⟩ := code_facts hc
  have hd : decide ((k : Int) < 4) = true := decide_eq_true (by omega)
  obtain ⟨hla, hra⟩ := at'_int (xs := was) hA.1 (by omega)
  obtain ⟨hlb, hrb⟩ := at'_int (xs := was) hB.1 (by omega)
  have ua := hwu _ (List.getElem_mem hla)
  have ub := hwu _ (List.getElem_mem hlb)
  generalize was[x.A.toNat] = a at hra ua
  generalize was[x.B.toNat] = bb at hrb ub
  have hpc := hM.inv.pc
  have w1 := wrap_i64 (n := s.PC + 1) (by omega) (by omega)
  have w2 := wrap_i64 (n := s.PC + 1 + 2) (by omega) (by omega)
  have hnx : 0 ≤ imin (IntKind.i64.wrap (IntKind.i64.wrap (s.PC + 1) + 2)) 1024 ∧ imin (IntKind.i64.wrap (IntKind.i64.wrap (s.PC + 1) + 2)) 1024 ≤ 1024 := by
    rw [w1, w2]; simp only [imin]; split <;> omega
  obtain ⟨s1, d, h1, hN, hst, hres, hto, sa, v, e, ha, hpc0, hcase⟩ := do_both (nxt := imin (IntKind.i64.wrap (IntKind.i64.wrap (s.PC + 1) + 2)) 1024) hM.inv hO hc ua ub hnx
  have hI1 := near_core hM.inv hN
  have wk := wrap_nat (i := k) (by omega)
  have h1' : r5_do ⟨s.Regs, s.Mem, s.In_, s.Taken, s.Out, s.PC, s.Stack, s.Stop, s.Fly, s.Jump, s.Delay⟩ x a bb (imin (IntKind.i64.wrap (IntKind.i64.wrap (s.PC + 1) + 2)) 1024) = some (s1, d) := h1
  have ha' : seq_Act ⟨s.Regs, s.Mem, s.In_, s.Taken, s.Out, s.PC, s.Stack, s.Stop, s.Fly, s.Jump, s.Delay⟩ x a bb = some (sa, v, e) := ha
  have hout : ∃ o, s1.Out = s0.Out ++ o ∧ o.length ≤ k + 1 := by
    obtain ⟨o, q1, q2⟩ := hM.out
    obtain ⟨o2, p1, p2, _⟩ := hN.out
    exact ⟨o ++ o2, by rw [p1, q1, List.append_assoc], by simp; omega⟩
  have htk : s0.Taken ≤ s1.Taken := Int.le_trans hM.taken hN.taken.1
  by_cases hd0 : d.stop = 0
  · obtain ⟨rfl, to, j, h2, h3⟩ : e = 0 ∧ ∃ to j, seq_Turn sa x a (imin (IntKind.i64.wrap (IntKind.i64.wrap (s.PC + 1) + 2)) 1024) = some (s1, to, j, d.stop) ∧ (d.stop = 0 → d.has = isa_HasD (isa_Shape x.Op) ∧ (d.has = true → v = d.result) ∧ d.jumps = j ∧ (j = true → d.to = to)) := by
      rcases hcase with ⟨he, _, h2⟩ | ⟨he, to, j, h2, h3⟩
      · exact absurd (h2.symm.trans hd0) he
      · exact ⟨he, to, j, h2, h3⟩
    obtain ⟨h4, h5, h6, h7⟩ := h3 hd0
    rw [hd0] at h2
    have hlat := lat_le x.Op
    have hlw := wrap_i64 (n := r3_Latency x.Op - 1) (by omega) (by omega)
    let nw : List T_Write := bif d.has then [⟨x.D, d.result, r3_Latency x.Op - 1⟩] else []
    let s2 : T_State := { s1 with Fly := s1.Fly ++ nw, Jump := bif d.jumps then d.to else s1.Jump, Delay := bif d.jumps then 2 else s1.Delay }
    have hs2 : s2.Stop = 0 := hN.stop.trans hs
    have hfl : s1.Fly.length + 1 ≤ 4294967296 := by
      have := late_all (l := s.Fly) hM.ok
      have := hM.l0
      rw [hN.fly]; omega
    have hnl : ∀ q : Int, late q (s1.Fly ++ nw) ≤ late q s.Fly + 1 ∧ (3 < q → late q (s1.Fly ++ nw) = late q s.Fly) := fun q => by
      rw [hN.fly]
      cases hh : d.has with
      | false => simp [nw, hh]; omega
      | true =>
        simp only [nw, hh, cond_true, late_snoc]
        constructor
        · split <;> omega
        · intro hq; rw [if_neg (by omega)]; omega
    refine ⟨s2, bif d.jumps then true else t, ⟨inv_of hI1 rfl rfl rfl rfl rfl rfl rfl, ?_, ?_, ?_, htk, hout, ?_, ?_, ?_, ?_, ?_, ?_, ?_, ?_, ?_⟩, ⟨by rw [hs2]; decide, by rw [hs2]; decide⟩, fun _ => ?_, fun h => absurd hs2 h⟩
    · exact hN.regs.trans hM.regs
    · exact hN.pc.trans hM.pc
    · exact hN.inn.trans hM.inn
    · have h9 := hM.jump
      simp only [s2]
      cases hj : d.jumps with
      | false => simp only [cond_false]; rw [hN.jump]; exact h9
      | true => exact hto hj
    · have h9 := hM.delay
      simp only [s2]
      cases hj : d.jumps with
      | false => simp only [cond_false]; rw [hN.delay]; exact h9
      | true => simp
    · intro w hw
      rcases List.mem_append.1 hw with hw | hw
      · rw [hN.fly] at hw; exact hM.ok w hw
      · cases hh : d.has with
        | false => simp [nw, hh] at hw
        | true =>
          simp only [nw, hh, cond_true, List.mem_singleton] at hw
          subst hw
          exact okW_iff.2 ⟨⟨hD.1, hD.2⟩, by simp only; omega, by simp only; omega⟩
    · intro w hw
      rcases List.mem_append.1 hw with hw | hw
      · rw [hN.fly] at hw; exact hM.u w hw
      · cases hh : d.has with
        | false => simp [nw, hh] at hw
        | true =>
          simp only [nw, hh, cond_true, List.mem_singleton] at hw
          subst hw
          exact hres hh
    · have := (hnl 0).1; have := hM.l0; show late 0 (s1.Fly ++ nw) ≤ _; omega
    · have := (hnl 1).1; have := hM.l1; show late 1 (s1.Fly ++ nw) ≤ _; omega
    · have := (hnl 2).1; have := hM.l2; show late 2 (s1.Fly ++ nw) ≤ _; omega
    · have := (hnl 3).1; have := hM.l3; show late 3 (s1.Fly ++ nw) ≤ _; omega
    · have := (hnl 4).2 (by decide); have := hM.l4; show late 4 (s1.Fly ++ nw) ≤ _; omega
    · have hap : app' s1.Fly [(⟨x.D, d.result, r3_Latency x.Op - 1⟩ : T_Write)] = some (s1.Fly ++ [⟨x.D, d.result, r3_Latency x.Op - 1⟩]) := app'_le (by simpa using hfl)
      have hap0 : s1.Fly ++ ([] : List T_Write) = s1.Fly := List.append_nil _
      subst h6
      constructor
      · simp only [tupP, pipe_issue_b1, hd, cond_true, hx, hra, hrb, ha', Option.bind_some, decide_true, hpc0, h2]
        cases hj : d.jumps <;> cases hh : d.has <;> simp only [cond_true, cond_false, cut, pipe_issue_k2, ne_eq, not_true_eq_false, decide_false, ← h4, hh, show isa_Late x.Op = r3_Latency x.Op from rfl, hlw]
        · simp only [s2, nw, hj, hh, cond_false, hap0, wk]
        · rw [h5 hh, hap]; simp only [Option.bind_some, s2, nw, hj, hh, cond_true, cond_false, wk]
        · simp only [s2, nw, hj, hh, cond_true, cond_false, hap0, wk, h7 hj]
        · rw [h5 hh, hap]; simp only [Option.bind_some, s2, nw, hj, hh, cond_true, cond_false, wk, h7 hj]
      · simp only [tupP, r5_issue_b2, hd, cond_true, hx, hra, hrb, h1', Option.bind_some, cut, r5_issue_k3, hd0, ne_eq, not_true_eq_false, decide_false, cond_false, hlw]
        cases hj : d.jumps <;> cases hh : d.has <;> simp only [cond_true, cond_false]
        · simp only [s2, nw, hj, hh, cond_false, hap0, wk]
        · rw [hap]; simp only [Option.bind_some, s2, nw, hj, hh, cond_true, cond_false, wk]
        · simp only [s2, nw, hj, hh, cond_true, cond_false, hap0, wk]
        · rw [hap]; simp only [Option.bind_some, s2, nw, hj, hh, cond_true, cond_false, wk]
  · let s2 : T_State := { s1 with Stop := d.stop }
    have e1 : ∀ q : Int, late q s2.Fly = late q s.Fly := fun q => by show late q s1.Fly = _; rw [hN.fly]
    refine ⟨s2, t, ⟨inv_of hI1 rfl rfl rfl rfl rfl rfl rfl, hN.regs.trans hM.regs, hN.pc.trans hM.pc, hN.inn.trans hM.inn, htk, hout, ?_, ?_, ?_, ?_, ?_, ?_, ?_, ?_, ?_⟩, hst, fun h => absurd h hd0, fun _ => ?_⟩
    · show 0 ≤ s1.Jump ∧ _; rw [hN.jump]; exact hM.jump
    · show 0 ≤ s1.Delay ∧ _; rw [hN.delay]; exact hM.delay
    · intro w hw; exact hM.ok w (hN.fly ▸ hw)
    · intro w hw; exact hM.u w (hN.fly ▸ hw)
    · rw [e1]; have := hM.l0; omega
    · rw [e1]; have := hM.l1; omega
    · rw [e1]; have := hM.l2; omega
    · rw [e1]; have := hM.l3; omega
    · rw [e1]; exact hM.l4
    · constructor
      · rcases hcase with ⟨he, rfl, h2⟩ | ⟨rfl, to, j, h2, h3⟩
        · have he' : decide (e = 0) = false := decide_eq_false he
          simp only [tupP, pipe_issue_b1, hd, cond_true, hx, hra, hrb, ha', Option.bind_some, he', decide_false, cond_false, cut, pipe_issue_k2, ne_eq, he, not_false_eq_true, decide_true, cond_true, s2, h2]
        · have hj := turn_stop h2 hd0
          subst hj
          simp only [tupP, pipe_issue_b1, hd, cond_true, hx, hra, hrb, ha', Option.bind_some, decide_true, hpc0, h2, cond_false, cut, pipe_issue_k2, ne_eq, hd0, not_false_eq_true, s2]
      · simp only [tupP, tupR, r5_issue_b2, hd, cond_true, hx, hra, hrb, h1', Option.bind_some, cut, r5_issue_k3, ne_eq, hd0, not_false_eq_true, decide_true, s2]
theorem mid_out {s0 s : T_State} {k : Nat} (h : Mid s0 k s) (hO : s0.Out.length + 4 < 4294967296) (hk : k ≤ 4) : s.Out.length < 4294967296 := by
  obtain ⟨o, q1, q2⟩ := h.out
  rw [q1]; simp; omega
theorem at_slot {b : A4 T_Ins} (hb : bunB b = true) {k : Nat} (hk : k < 4) : ∃ x, at' [b.x0, b.x1, b.x2, b.x3] (k : Int) = some x ∧ codeB x = true := by
  simp only [bunB, slotB, Bool.and_eq_true] at hb
  rcases (show k = 0 ∨ k = 1 ∨ k = 2 ∨ k = 3 by omega) with rfl | rfl | rfl | rfl
  · exact ⟨_, rfl, hb.1.1.1.1⟩
  · exact ⟨_, rfl, hb.1.1.2.1⟩
  · exact ⟨_, rfl, hb.1.2.1⟩
  · exact ⟨_, rfl, hb.2.1⟩
theorem slots_both {b : A4 T_Ins} {was : List Int} {s0 : T_State} (hb : bunB b = true) (hw : was.length = 16) (hwu : ∀ z ∈ was, U z) (hO : s0.Out.length + 4 < 4294967296) : ∀ (m k : Nat) (s : T_State) (t : Bool), k + m = 4 → Mid s0 k s → s.Stop = 0 →
    ∃ s2 t2, Mid s0 4 s2 ∧ (0 ≤ s2.Stop ∧ s2.Stop ≤ 5) ∧ loop (pipe_issue_b1 b was) (tupP t k s) = some (s2, t2) ∧ loop (r5_issue_b2 b was) (tupP t k s) = some (.next (tupR t2 s2))
  | 0, k, s, t, hk, hM, hs => by
    obtain rfl : k = 4 := by omega
    exact ⟨s, t, hM, ⟨by omega, by omega⟩, loop_done (by simp [tupP, pipe_issue_b1]), loop_done (by simp [tupP, r5_issue_b2])⟩
  | m + 1, k, s, t, hk, hM, hs => by
    obtain ⟨x, hx, hc⟩ := at_slot hb (k := k) (by omega)
    obtain ⟨s2, t2, hM2, hst, h1, h2⟩ := slot_both (t := t) (by omega) hx hc hw hwu hM hs (mid_out hM hO (by omega))
    by_cases h0 : s2.Stop = 0
    · obtain ⟨s3, t3, hM3, hst3, g1, g2⟩ := slots_both hb hw hwu hO m (k + 1) s2 t2 (by omega) hM2 h0
      exact ⟨s3, t3, hM3, hst3, by rw [loop_next (h1 h0).1]; exact g1, by rw [loop_next (h1 h0).2]; exact g2⟩
    · have hM4 : Mid s0 4 s2 := by
        obtain ⟨o, q1, q2⟩ := hM2.out
        exact { hM2 with out := ⟨o, q1, by omega⟩, l0 := by have := hM2.l0; omega, l1 := by have := hM2.l1; omega, l2 := by have := hM2.l2; omega, l3 := by have := hM2.l3; omega }
      exact ⟨s2, t2, hM4, hst, loop_done (h2 h0).1, loop_done (h2 h0).2⟩
end Go.Proofs.YtfnmihhcopkkbaaGreat
