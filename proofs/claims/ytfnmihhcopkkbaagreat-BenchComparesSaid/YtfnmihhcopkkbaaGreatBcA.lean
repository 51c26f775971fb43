/- Images and flat programs: may they be, and the states in which they begin. -/
import Derived.Test.YtfnmihhcopkkbaaGreatSqA
import Derived.Test.YtfnmihhcopkkbaaGreatAll
namespace Go.Proofs.YtfnmihhcopkkbaaGreat
open Go Fr
set_option linter.unusedVariables false
set_option linter.unusedSimpArgs false
set_option maxRecDepth 20000
def imgB (x : T_Image) : Bool := pcodB x.Code && (decide (x.Data.length ≤ 256) && numB x.Code.length x.Entry)
def flatB (x : T_Flat) : Bool := progB x.Code && (decide (x.Data.length ≤ 256) && numB x.Code.length x.Entry)
theorem len_le {α : Type} {xs : List α} {k : Nat} : decide ((xs.length : Int) ≤ (k : Int)) = decide (xs.length ≤ k) := by
  by_cases h : xs.length ≤ k <;> simp [h]
theorem link_may_b {x : T_Image} (hw : ∀ z ∈ x.Code, Wf_Bundle z) : link_May x = some (imgB x) := by
  have h2 : decide ((x.Data.length : Int) ≤ 256) = decide (x.Data.length ≤ 256) := len_le (k := 256)
  simp only [link_May, pipe_code_b hw, Option.bind_some, imgB, h2, numB]
  cases pcodB x.Code <;> cases decide (x.Data.length ≤ 256) <;> by_cases h3 : 0 ≤ x.Entry <;> by_cases h4 : x.Entry ≤ x.Code.length <;> simp [h3, h4]
theorem r19_image_b {x : T_Image} (hw : ∀ z ∈ x.Code, Wf_Bundle z) : r19_Image x = some (imgB x) := by
  have h2 : decide ((x.Data.length : Int) ≤ 256) = decide (x.Data.length ≤ 256) := len_le (k := 256)
  simp only [r19_Image, r3_code_b hw, Option.bind_some, imgB, h2, num_eq]
  cases pcodB x.Code <;> cases decide (x.Data.length ≤ 256) <;> rfl
theorem image_may_b {x : T_Flat} (hw : ∀ z ∈ x.Code, Wf_Ins z) : image_May x = some (flatB x) := by
  have h2 : decide ((x.Data.length : Int) ≤ 256) = decide (x.Data.length ≤ 256) := len_le (k := 256)
  simp only [image_May, seq_prog_b hw, Option.bind_some, flatB, h2, numB]
  cases progB x.Code <;> cases decide (x.Data.length ≤ 256) <;> by_cases h3 : 0 ≤ x.Entry <;> by_cases h4 : x.Entry ≤ x.Code.length <;> simp [h3, h4]
theorem r19_flat_b {x : T_Flat} (hw : ∀ z ∈ x.Code, Wf_Ins z) : r19_FlatMay x = some (flatB x) := by
  have h2 : decide ((x.Data.length : Int) ≤ 256) = decide (x.Data.length ≤ 256) := len_le (k := 256)
  simp only [r19_FlatMay, r3_prog_b hw, Option.bind_some, flatB, h2, num_eq]
  cases progB x.Code <;> cases decide (x.Data.length ≤ 256) <;> rfl
theorem seq_new {xs : List Int} (h : xs.length ≤ 100) : seq_New xs = some (fresh xs, 0) := by
  have h1 : decide (100 < (xs.length : Int)) = false := by simp; omega
  have h2 : app' [] xs = some xs := by rw [app'_le (by simp; omega)]; rfl
  simp only [seq_New, h1, cond_false, make16, make256, slices_Clone_uint32, h2, Option.bind_some, fresh]
theorem seq_new_no {xs : List Int} (h : ¬ xs.length ≤ 100) : seq_New xs = some (none', 1) := by
  have h1 : decide (100 < (xs.length : Int)) = true := by simp; omega
  simp only [seq_New, h1, cond_true, none']
def ld (data : List Int) (entry : Int) (xs : List Int) : T_State := { fresh xs with Mem := data ++ (List.replicate 256 (0 : Int)).drop data.length, PC := entry }
theorem loaded_eq {data xs : List Int} {entry : Int} (hd : data.length ≤ 256) (hx : xs.length ≤ 100) : image_loaded data entry xs = some (ld data entry xs, 0) := by
  have h : cop (List.replicate 256 (0 : Int)) data = data ++ (List.replicate 256 (0 : Int)).drop data.length := by
    simp only [cop]; rw [List.take_of_length_le (by simpa using hd)]
  simp only [image_loaded, seq_new hx, Option.bind_some, ne_eq, not_true_eq_false, decide_false, cond_false, fresh, h, ld]
theorem loaded_no {data xs : List Int} {entry : Int} (hx : ¬ xs.length ≤ 100) : image_loaded data entry xs = some (none', 1) := by
  simp [image_loaded, seq_new_no hx, none']
theorem r19_load {data xs : List Int} {entry : Int} (hd : data.length ≤ 256) (hx : xs.length ≤ 4294967296) : r19_Load data entry xs = some (ld data entry xs) := by
  have key : ∀ m i : Nat, i + m = data.length → loop (r19_Load_b2 data) ((i : Int), data.take i ++ (List.replicate 256 (0 : Int)).drop i) = some (.next (data ++ (List.replicate 256 (0 : Int)).drop data.length)) := by
    intro m
    induction m with
    | zero =>
      intro i h
      obtain rfl : i = data.length := by omega
      refine loop_done ?_
      simp [r19_Load_b2]
    | succ m ih =>
      intro i h
      have hi : i < data.length := by omega
      have h1 : decide ((i : Int) < data.length) = true := by simpa using hi
      rw [← ih (i + 1) (by omega)]
      refine loop_next ?_
      have hl : (data.take i).length = i := by rw [List.length_take]; omega
      have hset : set' (data.take i ++ (List.replicate 256 (0 : Int)).drop i) (i : Int) data[i] = some (data.take (i + 1) ++ (List.replicate 256 (0 : Int)).drop (i + 1)) := by
        rw [set'_int (by omega) (by simp; omega)]
        have e1 : (List.replicate 256 (0 : Int)).drop i = 0 :: (List.replicate 256 (0 : Int)).drop (i + 1) := by
          rw [List.drop_eq_getElem_cons (by rw [List.length_replicate]; omega), List.getElem_replicate]
        rw [e1, Int.toNat_natCast, List.set_append_right _ _ (by omega), hl, Nat.sub_self, List.set_cons_zero, List.take_succ_eq_append_getElem hi, List.append_assoc]
        rfl
      simp only [r19_Load_b2, h1, cond_true, at'_nat hi, Option.bind_some, hset]
      rw [wrap_nat (by omega)]
  have k0 := key data.length 0 (by omega)
  have k0' : loop (r19_Load_b2 data) (0, List.replicate 256 (0 : Int)) = some (.next (data ++ (List.replicate 256 (0 : Int)).drop data.length)) := k0
  simp only [r19_Load, r5_new hx, Option.bind_some, fresh, k0', cut, r19_Load_k1, ld]
theorem ld_mem {data xs : List Int} {entry : Int} (hd : data.length ≤ 256) (hU : ∀ z ∈ data, U z) : (ld data entry xs).Mem.length = 256 ∧ ∀ z ∈ (ld data entry xs).Mem, U z := by
  constructor
  · simp [ld]; omega
  · intro z hz
    rcases List.mem_append.1 hz with hz | hz
    · exact hU z hz
    · have := List.mem_of_mem_drop hz
      simp at this; subst this; exact ⟨by decide, by decide⟩
theorem ld_inv {data xs : List Int} {entry : Int} (hd : data.length ≤ 256) (hU : ∀ z ∈ data, U z) (hx : xs.length ≤ 100) (hxU : ∀ z ∈ xs, U z) (he : 0 ≤ entry ∧ entry ≤ 1024) : PInv (ld data entry xs) := by
  have h := fresh_inv hx hxU
  obtain ⟨m1, m2⟩ := ld_mem (entry := entry) (xs := xs) hd hU
  exact { h with inv := { h.inv with mem := m1, memU := m2, pc := he } }
theorem ld_sinv {data xs : List Int} {entry : Int} (hd : data.length ≤ 256) (hU : ∀ z ∈ data, U z) (hx : xs.length ≤ 100) (hxU : ∀ z ∈ xs, U z) (he : 0 ≤ entry ∧ entry ≤ 1024) : SInv (ld data entry xs) :=
  ⟨(ld_inv hd hU hx hxU he).inv, ⟨by simp [ld, fresh], by simp [ld, fresh]⟩, rfl, rfl, rfl⟩
theorem eq_loop {b : Int → Option (Step Int Bool)} {xs ys : List Int} (hl : xs.length = ys.length) (hn : xs.length ≤ 140737488351232)
    (hb : ∀ i, b i = bif decide (i < (xs.length : Int)) then (at' xs i).bind fun x => (at' ys i).bind fun y => bif decide (x ≠ y) then some (.done false) else some (.next (IntKind.i64.wrap (i + 1))) else some (.done true)) :
    loop b 0 = some (decide (xs = ys)) := by
  have h := loop_list (b := b) (xs := xs.zip ys) (q := fun p => decide (p.1 = p.2)) (no := false) (yes := true) (fun i h => by
    have hi : i < xs.length := by simp at h; omega
    have hd : decide ((i : Int) < xs.length) = true := by simpa using hi
    rw [hb, hd, at'_nat hi, at'_nat (by omega : i < ys.length)]
    simp only [cond_true, Option.bind_some, List.getElem_zip]
    rw [wrap_nat (by omega)]
    by_cases hq : xs[i] = ys[i] <;> simp [hq]) (by rw [hb]; simp [hl])
  rw [h]
  congr 1
  clear h hb hn
  induction xs generalizing ys with
  | nil => cases ys with
    | nil => rfl
    | cons y ys => simp at hl
  | cons x xs ih => cases ys with
    | nil => simp at hl
    | cons y ys =>
      have := ih (ys := ys) (by simpa using hl)
      simp only [List.zip_cons_cons, List.all_cons, List.cons.injEq]
      by_cases hxy : x = y
      · subst hxy
        by_cases he : xs = ys
        · rw [decide_eq_true he] at this
          simp only [decide_true, Bool.true_and, he, and_self]
          cases hz : (xs.zip ys).all fun p => decide (p.1 = p.2) with
          | true => rw [he] at hz; simp [hz]
          | false => rw [hz] at this; cases this
        · rw [decide_eq_false he] at this
          cases hz : (xs.zip ys).all fun p => decide (p.1 = p.2) with
          | true => rw [hz] at this; cases this
          | false => simp [he]
      · simp [hxy]
theorem eqWordsB {xs ys : List Int} (hn : xs.length ≤ 140737488351232) : r0_EqWords xs ys = some (decide (xs = ys)) := by
  by_cases hl : xs.length = ys.length
  · have : decide ((xs.length : Int) ≠ ys.length) = false := decide_eq_false (by omega)
    simp only [r0_EqWords, this, cond_false]
    exact eq_loop hl hn fun _ => rfl
  · have : decide ((xs.length : Int) ≠ ys.length) = true := decide_eq_true (by omega)
    have h2 : ¬ xs = ys := fun h => hl (by rw [h])
    simp [r0_EqWords, this, h2]
theorem equalB {xs ys : List Int} (hn : xs.length ≤ 140737488351232) : slices_Equal_uint32_uint32 xs ys = some (decide (xs = ys)) := by
  by_cases hl : xs.length = ys.length
  · have : decide ((xs.length : Int) ≠ ys.length) = false := decide_eq_false (by omega)
    simp only [slices_Equal_uint32_uint32, this, cond_false]
    exact eq_loop hl hn fun _ => rfl
  · have : decide ((xs.length : Int) ≠ ys.length) = true := decide_eq_true (by omega)
    have h2 : ¬ xs = ys := fun h => hl (by rw [h])
    simp [slices_Equal_uint32_uint32, this, h2]
end Go.Proofs.YtfnmihhcopkkbaaGreat
namespace Go.Proofs.YtfnmihhcopkkbaaGreat
open Go Fr
set_option linter.unusedVariables false
set_option linter.unusedSimpArgs false
set_option maxRecDepth 20000
theorem trace_both {x : T_Image} (hc : pcodB x.Code = true) {n : Int} (hn : n ≤ 4000) : ∀ (m i : Nat) (l : List Int) (s : T_State), (i : Int) + m = n → l.length ≤ i → PInv s → s.Out.length + 4 * m < 4294967296 →
    ∃ l' : List Int, l'.length ≤ 4000 ∧ loop (bench_Trace_b2 n x) (l, tupS (i : Int) s) = some (l', 0) ∧ loop (r19_Trace_b1 n x) (l, tupS (i : Int) s) = some l'
  | 0, i, l, s, hi, hl, hP, hO => by
    have h1 : decide ((i : Int) < n) = false := decide_eq_false (by omega)
    exact ⟨l, by omega, loop_done (by simp only [tupS, bench_Trace_b2, h1, cond_false]), loop_done (by simp only [tupS, r19_Trace_b1, h1, cond_false])⟩
  | m + 1, i, l, s, hi, hl, hP, hO => by
    have h1 : decide ((i : Int) < n) = true := decide_eq_true (by omega)
    by_cases hs : s.Stop = 0
    · obtain ⟨g1, _, _, g4⟩ := cyc_of hc hP hs (by omega)
      simp only [pipe_Run_1] at g1
      obtain ⟨s1, e1, g2⟩ := ob g1
      obtain ⟨s2, e2, g3⟩ := ob g2
      obtain rfl := Option.some.inj g3
      have hq := r5_cycles hc hP (n := 1) (by omega) (by omega)
      have hq' : r5_Cycles x.Code s 1 false = some (cyc x.Code s, 1) := by
        have e : runf (cyc x.Code) 1 s = (cyc x.Code s, 1) := by simp [runf, hs]
        rw [e] at hq; exact hq
      have ha : app' l [s.PC] = some (l ++ [s.PC]) := app'_le (by simp; omega)
      obtain ⟨o, o1, o2⟩ := g4.out
      obtain ⟨l', k1, k2, k3⟩ := trace_both hc hn m (i + 1) (l ++ [s.PC]) (cyc x.Code s) (by omega) (by simp; omega) g4.inv (by rw [o1]; simp; omega)
      have hw : IntKind.i64.wrap ((i : Int) + 1) = ((i + 1 : Nat) : Int) := wrap_nat (by omega)
      have e1' : pipe_Land ⟨s.Regs, s.Mem, s.In_, s.Taken, s.Out, s.PC, s.Stack, 0, s.Fly, s.Jump, s.Delay⟩ = some s1 := by rw [← e1]; congr 1; rw [← hs]
      have hq'' : r5_Cycles x.Code ⟨s.Regs, s.Mem, s.In_, s.Taken, s.Out, s.PC, s.Stack, 0, s.Fly, s.Jump, s.Delay⟩ 1 false = some (cyc x.Code s, 1) := by rw [← hq']; congr 1; rw [← hs]
      refine ⟨l', k1, ?_, ?_⟩
      · rw [loop_next (s' := (l ++ [s.PC], tupS ((i + 1 : Nat) : Int) (cyc x.Code s)))]
        · exact k2
        · simp only [tupS, bench_Trace_b2, h1, cond_true, hs, ne_eq, not_true_eq_false, decide_false, cond_false, ha, Option.bind_some, e1', e2, hw]
      · rw [loop_next (s' := (l ++ [s.PC], tupS ((i + 1 : Nat) : Int) (cyc x.Code s)))]
        · exact k3
        · simp only [tupS, r19_Trace_b1, h1, cond_true, hs, decide_true, ha, Option.bind_some, hq'', hw]
    · exact ⟨l, by omega, loop_done (by simp only [tupS, bench_Trace_b2, h1, cond_true, ne_eq, hs, not_false_eq_true, decide_true]), loop_done (by simp only [tupS, r19_Trace_b1, h1, cond_true, hs, decide_false, cond_false])⟩
def begF (p q : List Int) : Bool := decide (p.take (min p.length q.length) = q.take (min p.length q.length))
theorem sub_take {p : List Int} {k : Nat} (h : k ≤ p.length) : sub' p 0 (k : Int) = some (p.take k) := by
  simp only [sub']; rw [if_pos ⟨by omega, by omega, by simpa using h⟩]; simp
theorem begins_eq {p q : List Int} (hp : p.length ≤ 140737488351232) : bench_begins p q = some (begF p q) := by
  have e : imin (p.length : Int) (q.length : Int) = ((min p.length q.length : Nat) : Int) := by simp only [imin]; split <;> omega
  simp only [bench_begins, e, sub_take (p := p) (k := min p.length q.length) (by omega), sub_take (p := q) (k := min p.length q.length) (by omega), Option.bind_some, equalB (xs := p.take (min p.length q.length)) (ys := q.take (min p.length q.length)) (by rw [List.length_take]; omega), begF]
def begG (p q : List Int) : Bool := decide (q.length ≤ p.length) && decide (p.take q.length = q)
theorem r0_begins_eq {p q : List Int} (hp : p.length ≤ 140737488351232) : r0_Begins p q = some (begG p q) := by
  have e : decide ((q.length : Int) ≤ (p.length : Int)) = decide (q.length ≤ p.length) := by by_cases h : q.length ≤ p.length <;> simp [h]
  simp only [r0_Begins, e, begG]
  cases h : decide (q.length ≤ p.length) with
  | false => rfl
  | true =>
    have h := of_decide_eq_true h
    simp only [cond_true, sub_take h, Option.bind_some, eqWordsB (xs := p.take q.length) (ys := q) (by rw [List.length_take]; omega), Bool.true_and]
theorem begFG (p q : List Int) : begF p q = (begG p q || begG q p) := by
  simp only [begF, begG]
  by_cases h : q.length ≤ p.length
  · rw [Nat.min_eq_right h, List.take_of_length_le (Nat.le_refl q.length), decide_eq_true h, Bool.true_and]
    by_cases h2 : p.take q.length = q
    · simp [h2]
    · have : (decide (p.length ≤ q.length) && decide (q.take p.length = p)) = false := by
        by_cases h3 : p.length ≤ q.length
        · have h4 : ¬ q.take p.length = p := fun h5 => h2 (by
            rw [List.take_of_length_le (by omega)] at h5
            rw [List.take_of_length_le (by omega), h5])
          simp [h4]
        · simp [h3]
      rw [this]; simp [h2]
  · have h1 : p.length ≤ q.length := by omega
    rw [Nat.min_eq_left h1, List.take_of_length_le (Nat.le_refl p.length), decide_eq_false h, decide_eq_true h1, Bool.false_and, Bool.false_or, Bool.true_and]
    by_cases h2 : p = q.take p.length
    · rw [decide_eq_true h2, decide_eq_true h2.symm]
    · rw [decide_eq_false h2, decide_eq_false (fun h => h2 h.symm)]
def sameF (a b : T_State) : Bool :=
  bif decide (a.Stop = 0) then (bif decide (b.Stop = 6) then false else begF a.Out b.Out) else
    decide (b.Stop = a.Stop) && (decide (b.Taken = a.Taken) && (decide (b.Mem = a.Mem) && (decide (b.Out = a.Out) && (!(decide (a.Stop = 1)) || decide (b.Regs = a.Regs)))))
theorem dne {α : Type} [DecidableEq α] (a b : α) : decide (a ≠ b) = !decide (a = b) := by by_cases h : a = b <;> simp [h]
theorem dsym {α : Type} [DecidableEq α] (a b : α) : decide (a = b) = decide (b = a) := by by_cases h : a = b <;> simp [h, eq_comm]
theorem same_eq {a b : T_State} (ha : a.Out.length ≤ 140737488351232) (hb : b.Out.length ≤ 140737488351232) (hm : b.Mem.length ≤ 140737488351232) (hr : b.Regs.length ≤ 140737488351232) : bench_same a b = some (sameF a b) := by
  have hk : bench_same_k1 a b = fun _ => some (!(decide (a.Stop = 1)) || decide (b.Regs = a.Regs)) := by
    funext u
    simp only [bench_same_k1, dne, equalB hr, Option.bind_some]
    cases decide (a.Stop = 1) <;> rfl
  simp only [bench_same, hk, sameF, dne, begins_eq ha, equalB hm, equalB hb, equalB hr, Option.bind_some]
  cases decide (a.Stop = 0) <;> cases decide (b.Stop = 6) <;> cases decide (b.Stop = a.Stop) <;> cases decide (b.Taken = a.Taken) <;> cases decide (b.Mem = a.Mem) <;> cases decide (b.Out = a.Out) <;> cases decide (a.Stop = 1) <;> rfl
def verd (a : T_State) (ka : Int) (b : T_State) (kb : Int) : T_Verdict := ⟨ka, kb, a.Stop, b.Stop, sameF a b, begF a.Out b.Out⟩
theorem k3_eq {a b : T_State} {ka kb : Int} (ha : a.Out.length ≤ 140737488351232) (hm : a.Mem.length ≤ 140737488351232) (hr : a.Regs.length ≤ 140737488351232) : r19_Compare_k3 a.Stop b.Stop ka kb a.Mem b.Mem a.Taken b.Taken a.Out b.Out a.Regs b.Regs (begF a.Out b.Out) = some (verd a ka b kb) := by
  simp only [r19_Compare_k3, verd, sameF, dne, eqWordsB hm, eqWordsB ha, eqWordsB hr, Option.bind_some, dsym a.Stop b.Stop, dsym a.Taken b.Taken, dsym a.Mem b.Mem, dsym a.Out b.Out, dsym a.Regs b.Regs]
  cases decide (a.Stop = 0) <;> cases decide (b.Stop = 6) <;> cases decide (b.Stop = a.Stop) <;> cases decide (b.Taken = a.Taken) <;> cases decide (b.Mem = a.Mem) <;> cases decide (b.Out = a.Out) <;> cases decide (a.Stop = 1) <;> rfl
theorem k2_eq {a b : T_State} {ka kb : Int} (ha : a.Out.length ≤ 140737488351232) (hb : b.Out.length ≤ 140737488351232) (hm : a.Mem.length ≤ 140737488351232) (hr : a.Regs.length ≤ 140737488351232) :
    r19_Compare_k2 a.Out a.Stop ka a.Mem a.Taken a.Regs (tupS kb b) = some (verd a ka b kb) := by
  have h : (cut (σ := Bool) ((r0_Begins a.Out b.Out).bind fun r343 => bif r343 then some (.next true) else (r0_Begins b.Out a.Out).bind fun r345 => some (.next r345)) (r19_Compare_k3 a.Stop b.Stop ka kb a.Mem b.Mem a.Taken b.Taken a.Out b.Out a.Regs b.Regs)) = some (verd a ka b kb) := by
    rw [← k3_eq (b := b) (ka := ka) (kb := kb) ha hm hr, begFG, r0_begins_eq ha, r0_begins_eq hb]
    cases begG a.Out b.Out <;> rfl
  exact h
theorem img_facts {x : T_Image} (h : imgB x = true) : pcodB x.Code = true ∧ x.Data.length ≤ 256 ∧ 0 ≤ x.Entry ∧ x.Entry ≤ 1024 := by
  simp only [imgB, numB, Bool.and_eq_true, decide_eq_true_eq] at h
  have h1 := h.1
  simp only [pcodB, Bool.and_eq_true, decide_eq_true_eq] at h1
  exact ⟨h.1, h.2.1, h.2.2.1, by omega⟩
theorem flat_facts {x : T_Flat} (h : flatB x = true) : progB x.Code = true ∧ x.Data.length ≤ 256 ∧ 0 ≤ x.Entry ∧ x.Entry ≤ 1024 := by
  simp only [flatB, numB, Bool.and_eq_true, decide_eq_true_eq] at h
  have := (prog_code h.1).1
  exact ⟨h.1, h.2.1, h.2.2.1, by omega⟩
theorem load_ok {x : T_Image} {xs : List Int} (hw : Wf_Image x) (hi : imgB x = true) (hl : xs.length ≤ 100) : image_Load x xs = some (ld x.Data x.Entry xs, 0) := by
  simp only [image_Load, link_may_b hw.h1, hi, Option.bind_some, Bool.not_true, cond_false, loaded_eq (img_facts hi).2.1 hl]
theorem load_no {x : T_Image} {xs : List Int} (hw : Wf_Image x) (h : ¬ (imgB x = true ∧ xs.length ≤ 100)) : image_Load x xs = some (none', 1) := by
  cases hi : imgB x with
  | false => simp [image_Load, link_may_b hw.h1, hi, none']
  | true => simp only [image_Load, link_may_b hw.h1, hi, Option.bind_some, Bool.not_true, cond_false, loaded_no (fun h2 => h ⟨hi, h2⟩)]
theorem flat_ok {x : T_Flat} {xs : List Int} (hw : Wf_Flat x) (hi : flatB x = true) (hl : xs.length ≤ 100) : image_Flat x xs = some (ld x.Data x.Entry xs, 0) := by
  simp only [image_Flat, image_may_b hw.h1, hi, Option.bind_some, Bool.not_true, cond_false, loaded_eq (flat_facts hi).2.1 hl]
theorem flat_no {x : T_Flat} {xs : List Int} (hw : Wf_Flat x) (h : ¬ (flatB x = true ∧ xs.length ≤ 100)) : image_Flat x xs = some (none', 1) := by
  cases hi : flatB x with
  | false => simp [image_Flat, image_may_b hw.h1, hi, none']
  | true => simp only [image_Flat, image_may_b hw.h1, hi, Option.bind_some, Bool.not_true, cond_false, loaded_no (fun h2 => h ⟨hi, h2⟩)]
theorem trace_ok {x : T_Image} {xs : List Int} {n : Int} (hw : Wf_Image x) (hi : imgB x = true) (hl : xs.length ≤ 100) (hu : ∀ z ∈ xs, U z) (h0 : 0 ≤ n) (h1 : n ≤ 4000) : ∃ l, l.length ≤ 4000 ∧ bench_Trace x n xs = some (l, 0) ∧ r19_Trace x n xs = some l := by
  obtain ⟨a, b, c, d⟩ := img_facts hi
  obtain ⟨m, rfl⟩ := Int.eq_ofNat_of_zero_le h0
  have hP := ld_inv (entry := x.Entry) b hw.h3 hl hu ⟨c, d⟩
  obtain ⟨l, k1, k2, k3⟩ := trace_both a h1 m 0 [] (ld x.Data x.Entry xs) (by omega) (by simp) hP (by simp [ld, fresh]; omega)
  have d1 : decide ((m : Int) < 0) = false := decide_eq_false (by omega)
  have d2 : decide (4000 < (m : Int)) = false := decide_eq_false (by omega)
  refine ⟨l, k1, ?_, ?_⟩
  · simp only [bench_Trace, load_ok hw hi hl, Option.bind_some, ne_eq, not_true_eq_false, decide_false, cond_false, d1, d2, cut, bench_Trace_k1]
    exact k2
  · simp only [r19_Trace, r19_load b (show xs.length ≤ 4294967296 by omega), Option.bind_some]
    exact k3
theorem trace_no {x : T_Image} {xs : List Int} {n : Int} (hw : Wf_Image x) (h : ¬ ((imgB x = true ∧ xs.length ≤ 100) ∧ 0 ≤ n ∧ n ≤ 4000)) : bench_Trace x n xs = some ([], 1) := by
  by_cases hi : imgB x = true ∧ xs.length ≤ 100
  · simp only [bench_Trace, load_ok hw hi.1 hi.2, Option.bind_some, ne_eq, not_true_eq_false, decide_false, cond_false]
    by_cases h1 : n < 0
    · simp [h1, cut]
    · have : 4000 < n := by
        refine Int.not_le.1 fun h2 => h ⟨hi, by omega, h2⟩
      simp [h1, this, cut]
  · simp [bench_Trace, load_no hw hi, cut]
theorem compare_ok {x : T_Image} {f : T_Flat} {xs : List Int} {n : Nat} (hw : Wf_Image x) (hi : imgB x = true) (hf : Wf_Flat f) (hfi : flatB f = true) (hl : xs.length ≤ 100) (hu : ∀ z ∈ xs, U z) (h1 : n ≤ 4000) :
    bench_Compare x f (n : Int) xs = some (verd (go f.Code n (ld f.Data f.Entry xs)).1 ((go f.Code n (ld f.Data f.Entry xs)).2 : Nat) (runf (hcyc x.Code) (4 * n + 8) (ld x.Data x.Entry xs)).1 ((runf (hcyc x.Code) (4 * n + 8) (ld x.Data x.Entry xs)).2 : Nat), 0) ∧
    r19_Compare x f (n : Int) xs = some (verd (go f.Code n (ld f.Data f.Entry xs)).1 ((go f.Code n (ld f.Data f.Entry xs)).2 : Nat) (runf (hcyc x.Code) (4 * n + 8) (ld x.Data x.Entry xs)).1 ((runf (hcyc x.Code) (4 * n + 8) (ld x.Data x.Entry xs)).2 : Nat)) := by
  obtain ⟨a, b, c, d⟩ := img_facts hi
  obtain ⟨a', b', c', d'⟩ := flat_facts hfi
  have hP := ld_inv (entry := x.Entry) b hw.h3 hl hu ⟨c, d⟩
  have hS := ld_sinv (entry := f.Entry) b' hf.h3 hl hu ⟨c', d'⟩
  have o1 : (ld x.Data x.Entry xs).Out.length = 0 := rfl
  have o2 : (ld f.Data f.Entry xs).Out.length = 0 := rfl
  have q1 := seq_run hf.h1 a' hS (n := n) (by omega) (by omega)
  have q2 := r5_run a' hS (n := n) (by omega) (by omega)
  have q3 := hazard_run hw.h1 a hP (n := 4 * n + 8) (by omega) (by omega)
  have q4 := r5_hcycles a hP (n := 4 * n + 8) (by omega) (by omega)
  have r1 := go_ran a' n _ hS (by omega)
  have r2 := runf_ran (hnxt a) (4 * n + 8) _ hP (by omega)
  have w1 : IntKind.i64.wrap ((IntKind.i64.wrap (4 * (n : Int))) + 8) = ((4 * n + 8 : Nat) : Int) := by
    rw [wrap_i64 (n := 4 * (n : Int)) (by omega) (by omega), wrap_i64 (by omega) (by omega)]; omega
  have l1 := load_ok hw hi hl
  have l2 := flat_ok hf hfi hl
  have l3 := r19_load (entry := x.Entry) b (show xs.length ≤ 4294967296 by omega)
  have l4 := r19_load (entry := f.Entry) b' (show xs.length ≤ 4294967296 by omega)
  generalize ld x.Data x.Entry xs = sx at *
  generalize ld f.Data f.Entry xs = sf at *
  generalize hA : go f.Code n sf = A at *
  generalize hB : runf (hcyc x.Code) (4 * n + 8) sx = B at *
  obtain ⟨oa, ea, la⟩ := r1.out
  obtain ⟨ob, eb, lb⟩ := r2.out
  have ha : A.1.Out.length ≤ 140737488351232 := by rw [ea]; simp; omega
  have hb : B.1.Out.length ≤ 140737488351232 := by rw [eb]; simp; omega
  have m1 := r1.inv.inv.mem; have m2 := r2.inv.inv.mem; have g1 := r1.inv.inv.regs; have g2 := r2.inv.inv.regs
  have d1 : decide ((n : Int) < 0) = false := decide_eq_false (by omega)
  have d2 : decide (4000 < (n : Int)) = false := decide_eq_false (by omega)
  constructor
  · simp only [bench_Compare, l1, l2, Option.bind_some, ne_eq, not_true_eq_false, decide_false, cond_false, d1, d2, cut, bench_Compare_k1, q1, w1, q3, same_eq ha hb (show B.1.Mem.length ≤ 140737488351232 by omega) (show B.1.Regs.length ≤ 140737488351232 by omega), begins_eq ha, verd]
  · have k := k2_eq (a := A.1) (b := B.1) (ka := (A.2 : Nat)) (kb := (B.2 : Nat)) ha hb (by omega) (by omega)
    simp only [r19_Compare, l4, Option.bind_some, q2, cut, r19_Compare_k1, l3, w1, q4]
    exact k
theorem compare_no {x : T_Image} {f : T_Flat} {xs : List Int} {n : Int} (hw : Wf_Image x) (hf : Wf_Flat f) (h : ¬ ((imgB x = true ∧ xs.length ≤ 100) ∧ (0 ≤ n ∧ n ≤ 4000) ∧ flatB f = true)) :
    bench_Compare x f n xs = some (⟨0, 0, 0, 0, false, false⟩, 1) := by
  by_cases hi : imgB x = true ∧ xs.length ≤ 100
  · by_cases hj : flatB f = true
    · have l1 := load_ok hw hi.1 hi.2
      have l2 := flat_ok hf hj hi.2
      simp only [bench_Compare, l1, l2, Option.bind_some, ne_eq, not_true_eq_false, decide_false, cond_false]
      by_cases h1 : n < 0
      · simp [h1, cut]
      · have : 4000 < n := by
          refine Int.not_le.1 fun h2 => h ⟨hi, ⟨by omega, h2⟩, hj⟩
        simp [h1, this, cut]
    · have l1 := load_ok hw hi.1 hi.2
      have l2 := flat_no (xs := xs) hf (fun h => hj h.1)
      simp [bench_Compare, l1, l2, cut]
  · have l1 := load_no hw hi
    by_cases hj : flatB f = true ∧ xs.length ≤ 100
    · simp [bench_Compare, l1, flat_ok hf hj.1 hj.2, cut]
    · simp [bench_Compare, l1, flat_no hf hj, cut]
end Go.Proofs.YtfnmihhcopkkbaaGreat
namespace Go.Proofs.YtfnmihhcopkkbaaGreat
open Go Fr
set_option linter.unusedVariables false
set_option linter.unusedSimpArgs false
set_option maxRecDepth 20000
theorem quo_tot {a k : Int} (hk : k ≠ 0) : ∃ x, quo' .i64 a k = some x := by simp only [quo', hk, if_false]; exact ⟨_, rfl⟩
theorem wloop {ρ : Type} {b : Int × Int → Option (Step (Int × Int) ρ)} {n : Nat} (hn : n ≤ 140737488351232) (Q : ρ → Prop)
    (h : ∀ w i : Int, 0 ≤ i → i < n → (∃ w', b (w, i) = some (.next (w', IntKind.i64.wrap (i + 1)))) ∨ ∃ r, b (w, i) = some (.done r) ∧ Q r)
    (he : ∀ w i : Int, ¬ i < n → ∃ r, b (w, i) = some (.done r) ∧ Q r) (w : Int) : ∃ r, loop b (w, 0) = some r ∧ Q r := by
  exact loop_ex (b := b) (fun s => 0 ≤ s.2 ∧ s.2 ≤ n) (fun s => (n - s.2).toNat) Q (fun ⟨w, i⟩ hi => by
    simp only at hi
    by_cases hlt : i < n
    · rcases h w i hi.1 hlt with ⟨w', h1⟩ | ⟨r, h1, h2⟩
      · rw [wrap_i64 (by omega) (by omega)] at h1
        exact .inl ⟨(w', i + 1), h1, by simp; omega, by simp; omega⟩
      · exact .inr ⟨r, h1, h2⟩
    · obtain ⟨r, h1, h2⟩ := he w i hlt
      exact .inr ⟨r, h1, h2⟩) (n + 1) (w, 0) (by simp) (by simp)
theorem texts_tot {xs : List ByteArray} (hn : xs.length ≤ 140737488351232) : ∃ r, l0_Texts xs = some r := by
  obtain ⟨r, h, _⟩ := wloop (b := l0_Texts_b1 xs) hn (fun _ => True) (fun w i h0 h1 => by
    by_cases h2 : w < 1048576
    · obtain ⟨_, hat⟩ := at'_int h0 h1
      exact .inl ⟨IntKind.i64.wrap (w + (xs[i.toNat].size : Int)), by simp only [l0_Texts_b1, h1, h2, decide_true, cond_true, hat, Option.bind_some]⟩
    · exact .inr ⟨w, by simp [l0_Texts_b1, h1, h2], trivial⟩) (fun w i h1 => ⟨w, by simp [l0_Texts_b1, h1], trivial⟩) (xs.length : Int)
  exact ⟨r, h⟩
theorem codes_tot {xs : List T_Ins} (hn : xs.length ≤ 140737488351232) : ∃ r, l0_CodesWeight xs = some r := by
  obtain ⟨r, h, _⟩ := wloop (b := l0_CodesWeight_b1 xs) hn (fun _ => True) (fun w i h0 h1 => by
    by_cases h2 : w < 1048576
    · obtain ⟨_, hat⟩ := at'_int h0 h1
      obtain ⟨q, hq⟩ := quo_tot (a := (xs[i.toNat].Sym.size : Int)) (k := 8) (by decide)
      exact .inl ⟨IntKind.i64.wrap (w + q), by simp only [l0_CodesWeight_b1, h1, h2, decide_true, cond_true, hat, Option.bind_some, hq]⟩
    · exact .inr ⟨w, by simp [l0_CodesWeight_b1, h1, h2], trivial⟩) (fun w i h1 => ⟨w, by simp [l0_CodesWeight_b1, h1], trivial⟩) (xs.length : Int)
  exact ⟨r, h⟩
theorem object_tot {x : T_Object} (h1 : x.Symbols.length ≤ 140737488351232) (h2 : x.Fixes.length ≤ 140737488351232) : ∃ r, l0_ObjectWeight x = some r := by
  obtain ⟨q0, hq0⟩ := quo_tot (a := (x.Data.length : Int)) (k := 4) (by decide)
  obtain ⟨r1, g1, v1, rfl⟩ := wloop (b := l0_ObjectWeight_b2 x) h1 (fun r => ∃ v, r = Step.next v) (fun w i h0 h1 => by
    by_cases h2 : w < 1048576
    · obtain ⟨_, hat⟩ := at'_int h0 h1
      obtain ⟨q, hq⟩ := quo_tot (a := (x.Symbols[i.toNat].Name.size : Int)) (k := 8) (by decide)
      exact .inl ⟨IntKind.i64.wrap (w + q), by simp only [l0_ObjectWeight_b2, h1, h2, decide_true, cond_true, hat, Option.bind_some, hq]⟩
    · exact .inr ⟨.next w, by simp [l0_ObjectWeight_b2, h1, h2], w, rfl⟩) (fun w i h1 => ⟨.next w, by simp [l0_ObjectWeight_b2, h1], w, rfl⟩) (IntKind.i64.wrap ((IntKind.i64.wrap ((IntKind.i64.wrap ((IntKind.i64.wrap (4 * (x.Code.length : Int))) + q0)) + (x.Symbols.length : Int))) + (x.Fixes.length : Int)))
  obtain ⟨r2, g2, _⟩ := wloop (b := l0_ObjectWeight_b3 x) h2 (fun _ => True) (fun w i h0 h1 => by
    by_cases h2 : w < 1048576
    · obtain ⟨_, hat⟩ := at'_int h0 h1
      obtain ⟨q, hq⟩ := quo_tot (a := (x.Fixes[i.toNat].Sym.size : Int)) (k := 8) (by decide)
      exact .inl ⟨IntKind.i64.wrap (w + q), by simp only [l0_ObjectWeight_b3, h1, h2, decide_true, cond_true, hat, Option.bind_some, hq]⟩
    · exact .inr ⟨w, by simp [l0_ObjectWeight_b3, h1, h2], trivial⟩) (fun w i h1 => ⟨w, by simp [l0_ObjectWeight_b3, h1], trivial⟩) v1
  exact ⟨r2, by simp only [l0_ObjectWeight, hq0, Option.bind_some, g1, cut, l0_ObjectWeight_k1, g2]⟩
theorem unit_tot {x : T_Unit} (h0 : x.Globals.length ≤ 140737488351232) (h1 : x.Code.length ≤ 140737488351232) (h2 : x.Data.length ≤ 140737488351232) (h3 : x.Labels.length ≤ 140737488351232) : ∃ r, l0_UnitWeight x = some r := by
  obtain ⟨t, ht⟩ := texts_tot h0
  obtain ⟨q0, hq0⟩ := quo_tot (a := t) (k := 8) (by decide)
  obtain ⟨r1, g1, v1, rfl⟩ := wloop (b := l0_UnitWeight_b2 x) h1 (fun r => ∃ v, r = Step.next v) (fun w i h0 h1 => by
    by_cases h2 : w < 1048576
    · obtain ⟨_, hat⟩ := at'_int h0 h1
      obtain ⟨q, hq⟩ := quo_tot (a := IntKind.i64.wrap ((x.Code[i.toNat].Label.size : Int) + (x.Code[i.toNat].Ins.Sym.size : Int))) (k := 8) (by decide)
      exact .inl ⟨IntKind.i64.wrap (w + q), by simp only [l0_UnitWeight_b2, h1, h2, decide_true, cond_true, cut, l0_UnitWeight_k3, hat, Option.bind_some, hq]⟩
    · exact .inr ⟨.next w, by simp [l0_UnitWeight_b2, h1, h2, cut], w, rfl⟩) (fun w i h1 => ⟨.next w, by simp [l0_UnitWeight_b2, h1, cut], w, rfl⟩)
    (IntKind.i64.wrap ((IntKind.i64.wrap ((IntKind.i64.wrap ((IntKind.i64.wrap ((x.Code.length : Int) + (x.Data.length : Int))) + (x.Labels.length : Int))) + (x.Globals.length : Int))) + q0))
  obtain ⟨r2, g2, v2, rfl⟩ := wloop (b := l0_UnitWeight_b5 x) h2 (fun r => ∃ v, r = Step.next v) (fun w i h0 h1 => by
    by_cases h2 : w < 1048576
    · obtain ⟨_, hat⟩ := at'_int h0 h1
      obtain ⟨q, hq⟩ := quo_tot (a := (x.Data[i.toNat].Sym.size : Int)) (k := 8) (by decide)
      exact .inl ⟨IntKind.i64.wrap (w + q), by simp only [l0_UnitWeight_b5, h1, h2, decide_true, cond_true, cut, l0_UnitWeight_k6, hat, Option.bind_some, hq]⟩
    · exact .inr ⟨.next w, by simp [l0_UnitWeight_b5, h1, h2, cut], w, rfl⟩) (fun w i h1 => ⟨.next w, by simp [l0_UnitWeight_b5, h1, cut], w, rfl⟩) v1
  obtain ⟨r3, g3, _⟩ := wloop (b := l0_UnitWeight_b7 x) h3 (fun _ => True) (fun w i h0 h1 => by
    by_cases h2 : w < 1048576
    · obtain ⟨_, hat⟩ := at'_int h0 h1
      obtain ⟨q, hq⟩ := quo_tot (a := (x.Labels[i.toNat].Name.size : Int)) (k := 8) (by decide)
      exact .inl ⟨IntKind.i64.wrap (w + q), by simp only [l0_UnitWeight_b7, h1, h2, decide_true, cond_true, cut, l0_UnitWeight_k8, hat, Option.bind_some, hq]⟩
    · exact .inr ⟨w, by simp [l0_UnitWeight_b7, h1, h2, cut], trivial⟩) (fun w i h1 => ⟨w, by simp [l0_UnitWeight_b7, h1, cut], trivial⟩) v2
  exact ⟨r3, by simp only [l0_UnitWeight, ht, hq0, Option.bind_some, g1, cut, l0_UnitWeight_k1, g2, l0_UnitWeight_k4, g3]⟩
theorem heavy12 {x : T_Ask} (hx : Wf_Ask x) : ∃ r, l12_Heavy x = some r := by
  have a0 := hx.h0; have a2 := hx.h2
  obtain ⟨t, ht⟩ := texts_tot (xs := x.S) (by omega)
  obtain ⟨q0, hq0⟩ := quo_tot (a := t) (k := 16) (by decide)
  obtain ⟨r, g, _⟩ := wloop (b := l12_Heavy_b1 x) (n := x.U.length) (by omega) (fun _ => True) (fun w i h0 h1 => by
    by_cases h2 : w < 1048576
    · obtain ⟨hl, hat⟩ := at'_int h0 h1
      have hu := hx.h3 _ (List.getElem_mem hl)
      have b0 := hu.h0; have b2 := hu.h2; have b4 := hu.h4; have b6 := hu.h6
      obtain ⟨q, hq⟩ := unit_tot (x := x.U[i.toNat]) (by omega) (by omega) (by omega) (by omega)
      exact .inl ⟨IntKind.i64.wrap (w + q), by simp only [l12_Heavy_b1, h1, h2, decide_true, cond_true, hat, Option.bind_some, hq]⟩
    · exact .inr ⟨decide (900 < w), by simp [l12_Heavy_b1, h1, h2], trivial⟩) (fun w i h1 => ⟨decide (900 < w), by simp [l12_Heavy_b1, h1], trivial⟩) (IntKind.i64.wrap ((x.U.length : Int) + q0))
  exact ⟨r, by simp only [l12_Heavy, ht, hq0, Option.bind_some, g]⟩
theorem heavy16 {x : T_Ask16} (hx : Wf_Ask16 x) : ∃ r, l16_Heavy x = some r := by
  have a1 := hx.h1
  obtain ⟨r, g, v, rfl⟩ := wloop (b := l16_Heavy_b2 x) (n := x.O.length) (by omega) (fun r => ∃ v, r = Step.next v) (fun w i h0 h1 => by
    by_cases h2 : w < 1048576
    · obtain ⟨hl, hat⟩ := at'_int h0 h1
      have hu := hx.h2 _ (List.getElem_mem hl)
      have b4 := hu.h4; have b6 := hu.h6
      obtain ⟨q, hq⟩ := object_tot (x := x.O[i.toNat]) (by omega) (by omega)
      exact .inl ⟨IntKind.i64.wrap (w + q), by simp only [l16_Heavy_b2, h1, h2, decide_true, cond_true, hat, Option.bind_some, hq]⟩
    · exact .inr ⟨.next w, by simp [l16_Heavy_b2, h1, h2], w, rfl⟩) (fun w i h1 => ⟨.next w, by simp [l16_Heavy_b2, h1], w, rfl⟩) (x.O.length : Int)
  obtain ⟨r2, g2⟩ := heavy12 hx.h0
  by_cases h9 : 900 < v
  · exact ⟨true, by simp only [l16_Heavy, g, cut, l16_Heavy_k1, h9, decide_true, cond_true]⟩
  · exact ⟨r2, by simp only [l16_Heavy, g, cut, l16_Heavy_k1, h9, decide_false, cond_false, g2, Option.bind_some]⟩
theorem heavy20 {x : T_Ask20} (hx : Wf_Ask20 x) : ∃ r, l20_Heavy x = some r := by
  have a1 := hx.h1; have a3 := hx.h3
  obtain ⟨r, g, v, rfl⟩ := wloop (b := l20_Heavy_b2 x) (n := x.X.length) (by omega) (fun r => ∃ v, r = Step.next v) (fun w i h0 h1 => by
    by_cases h2 : w < 1048576
    · obtain ⟨hl, hat⟩ := at'_int h0 h1
      obtain ⟨q, hq⟩ := quo_tot (a := (x.X[i.toNat].Data.length : Int)) (k := 4) (by decide)
      exact .inl ⟨IntKind.i64.wrap ((IntKind.i64.wrap (w + (IntKind.i64.wrap (4 * (x.X[i.toNat].Code.length : Int))))) + q), by simp only [l20_Heavy_b2, h1, h2, decide_true, cond_true, cut, l20_Heavy_k3, hat, Option.bind_some, hq]⟩
    · exact .inr ⟨.next w, by simp [l20_Heavy_b2, h1, h2, cut], w, rfl⟩) (fun w i h1 => ⟨.next w, by simp [l20_Heavy_b2, h1, cut], w, rfl⟩) (IntKind.i64.wrap ((IntKind.i64.wrap ((x.X.length : Int) + (x.F.length : Int))) + (x.In_.length : Int)))
  obtain ⟨r3, g3, v3, rfl⟩ := wloop (b := l20_Heavy_b5 x) (n := x.F.length) (by omega) (fun r => ∃ v, r = Step.next v) (fun w i h0 h1 => by
    by_cases h2 : w < 1048576
    · obtain ⟨hl, hat⟩ := at'_int h0 h1
      have hu := hx.h4 _ (List.getElem_mem hl)
      have b0 := hu.h0
      obtain ⟨c, hc⟩ := codes_tot (xs := x.F[i.toNat].Code) (by omega)
      obtain ⟨q, hq⟩ := quo_tot (a := (x.F[i.toNat].Data.length : Int)) (k := 4) (by decide)
      exact .inl ⟨IntKind.i64.wrap ((IntKind.i64.wrap (w + c)) + q), by simp only [l20_Heavy_b5, h1, h2, decide_true, cond_true, cut, l20_Heavy_k6, hat, Option.bind_some, hq, hc]⟩
    · exact .inr ⟨.next w, by simp [l20_Heavy_b5, h1, h2, cut], w, rfl⟩) (fun w i h1 => ⟨.next w, by simp [l20_Heavy_b5, h1, cut], w, rfl⟩) v
  obtain ⟨r2, g2⟩ := heavy16 hx.h0
  by_cases h9 : 900 < v3
  · exact ⟨true, by simp only [l20_Heavy, g, cut, l20_Heavy_k1, g3, l20_Heavy_k4, h9, decide_true, cond_true]⟩
  · exact ⟨r2, by simp only [l20_Heavy, g, cut, l20_Heavy_k1, g3, l20_Heavy_k4, h9, decide_false, cond_false, g2, Option.bind_some]⟩
end Go.Proofs.YtfnmihhcopkkbaaGreat
