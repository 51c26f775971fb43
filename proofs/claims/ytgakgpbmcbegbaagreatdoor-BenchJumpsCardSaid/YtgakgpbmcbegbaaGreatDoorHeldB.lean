/- Regions that draw their order, with operations that make or write something; what is read must stand until operation 'bar' comes up. -/
import Derived.Test.YtgakgpbmcbegbaaGreatDoorLift
namespace Go.Proofs.YtgakgpbmcbegbaaGreatDoor.Fr
open Go.RowKit
set_option linter.unusedVariables false
section
variable {P : Program} {ops : Array Oper} {Q : Exit → Act → World → Prop} {C : World → Prop}
def wpAnyB (P : Program) (ops : Array Oper) (Q : Exit → Act → World → Prop) (C : World → Prop) (bar : Nat) : Nat → Array Bool → Act → World → Prop
  | 0, listed, a, w => Region.ready .any ops listed = [] ∧ Q .normal a w
  | fuel + 1, listed, a, w =>
    (Region.ready .any ops listed = [] → Q .normal a w) ∧
    ∀ i ∈ Region.ready .any ops listed, wpOp P ops Q i (fun a' w' => ((listed.setIfInBounds i true).getD bar false = false → C w') ∧ wpAnyB P ops Q C bar fuel (listed.setIfInBounds i true) a' w') a w
theorem wpAny_of_B {bar : Nat} : ∀ (fuel : Nat) (listed : Array Bool) (a : Act) (w : World), wpAnyB P ops Q C bar fuel listed a w → wpAny P .any ops Q fuel listed a w
  | 0, _, _, _, h => h
  | fuel + 1, _, _, _, h => ⟨h.1, fun i hi => wpOp_mono (fun a' w' h' => wpAny_of_B fuel _ a' w' h'.2) (h.2 i hi)⟩
inductive Waits (ops : Array Oper) (i : Nat) : Nat → Prop where
  | one {k : Nat} {ok : Oper} {e : Edge} (h : ops[k]? = some ok) (he : e ∈ ok.after) (hb : Region.binds .any e = true) (hi : e.on = i) : Waits ops i k
  | more {k : Nat} {ok : Oper} {e : Edge} (h : ops[k]? = some ok) (he : e ∈ ok.after) (hb : Region.binds .any e = true) (hi : Waits ops i e.on) : Waits ops i k
def Closed (ops : Array Oper) (listed : Array Bool) : Prop := ∀ k ok, ops[k]? = some ok → listed.getD k false = true → ∀ e ∈ ok.after, Region.binds .any e = true → listed.getD e.on false = true
theorem Waits.not {i k : Nat} {listed : Array Bool} (h : Waits ops i k) (hc : Closed ops listed) (hi : listed.getD i false = false) : listed.getD k false = false ∧ k ∉ Region.ready .any ops listed := by
  have key : ∀ {k m : Nat} {ok : Oper} {e : Edge}, ops[k]? = some ok → e ∈ ok.after → Region.binds .any e = true → e.on = m → listed.getD m false = false → listed.getD k false = false ∧ k ∉ Region.ready .any ops listed := by
    intro k m ok e hk he hb hm hf
    constructor
    · cases hl : listed.getD k false with
      | false => rfl
      | true =>
        have := hc k ok hk hl e he hb
        rw [hm, hf] at this
        cases this
    · intro hr
      obtain ⟨_, oj, hoj, hall⟩ := mem_ready.1 hr
      rw [hk] at hoj
      obtain rfl := Option.some.inj hoj
      have := hall e he hb
      rw [hm, hf] at this
      cases this
  induction h with
  | one h he hb hi' => exact key h he hb hi' hi
  | more h he hb _ ih => exact key h he hb rfl ih.1
theorem Closed.set {listed : Array Bool} (hc : Closed ops listed) {j : Nat} (hj : j ∈ Region.ready .any ops listed) : Closed ops (listed.setIfInBounds j true) := by
  intro k ok hk hl e he hb
  have hup : ∀ m : Nat, listed.getD m false = true → (listed.setIfInBounds j true).getD m false = true := by
    intro m hm
    by_cases hjm : j = m
    · subst hjm
      have hlt : j < listed.size := by
        rcases Nat.lt_or_ge j listed.size with h | h
        · exact h
        · simp [Array.getElem?_eq_none h] at hm
      simp [hlt]
    · rw [Array.getD_eq_getD_getElem?, Array.getElem?_setIfInBounds_ne hjm, ← Array.getD_eq_getD_getElem?]
      exact hm
  by_cases hjk : j = k
  · subst hjk
    obtain ⟨_, oj, hoj, hall⟩ := mem_ready.1 hj
    rw [hk] at hoj
    obtain rfl := Option.some.inj hoj
    exact hup _ (hall e he hb)
  · rw [Array.getD_eq_getD_getElem?, Array.getElem?_setIfInBounds_ne hjk, ← Array.getD_eq_getD_getElem?] at hl
    exact hup _ (hc k ok hk hl e he hb)
theorem wpAnyB_first {bar i : Nat} {oi : Oper} {v : Value} (hi : ops[i]? = some oi) (hsel : ∀ (j : Nat) (o : Oper) cs b, ops[j]? = some o → o.op ≠ .select cs b)
    (hQ : ∀ c a w, Q (.panic c) (a.put oi.dst v) w → Q (.panic c) a w) (hbar : bar < ops.size → Waits ops i bar) (hne : bar ≠ i) :
    ∀ (fuel : Nat) (listed : Array Bool) (a : Act) (w : World),
      (∀ j oj, ops[j]? = some oj → j ≠ i → listed.getD j true = false → (∀ e ∈ oj.after, Region.binds .any e = true → e.on ≠ i) → oi.apart ops oj = true) →
      i ∈ Region.ready .any ops listed → Closed ops listed → listed.getD i false = false → listed.getD bar false = false → YieldsIf P ops C oi v a → C w →
      wpAnyB P ops Q C bar fuel (listed.setIfInBounds i true) (a.put oi.dst v) w → wpAnyB P ops Q C bar (fuel + 1) listed a w := by
  intro fuel
  induction fuel with
  | zero =>
    intro listed a w _ hr hcl hil hb hy hS H
    refine ⟨fun h => (by rw [h] at hr; cases hr), fun j hj => ?_⟩
    by_cases hji : j = i
    · subst hji; exact hy.wpOp hi hS ⟨fun _ => hS, H⟩
    · have := ready_mono hj hji
      rw [H.1] at this
      cases this
  | succ fuel ih =>
    intro listed a w hfree hr hcl hil hb hy hS H
    refine ⟨fun h => (by rw [h] at hr; cases hr), fun j hj => ?_⟩
    by_cases hji : j = i
    · subst hji; exact hy.wpOp hi hS ⟨fun _ => hS, H⟩
    · have h1 := H.2 j (ready_mono hj hji)
      obtain ⟨hjun, oj, hoj, hall⟩ := mem_ready.1 hj
      have hnot : ∀ e ∈ oj.after, Region.binds .any e = true → e.on ≠ i := fun e he hb heq => by
        have h1 := hall e he hb
        have h0 := (mem_ready.1 hr).1
        rw [heq] at h1
        rcases Nat.lt_or_ge i listed.size with h' | h'
        · simp [h'] at h0 h1; rw [h0] at h1; cases h1
        · simp [Array.getElem?_eq_none h'] at h1
      have hjb : j ≠ bar := by
        rintro rfl
        exact ((hbar (Array.getElem?_eq_some_iff.1 hoj).1).not hcl hil).2 hj
      have hb' : (listed.setIfInBounds j true).getD bar false = false := by
        rw [Array.getD_eq_getD_getElem?, Array.getElem?_setIfInBounds_ne hjb, ← Array.getD_eq_getD_getElem?]
        exact hb
      have hb2 : ((listed.setIfInBounds i true).setIfInBounds j true).getD bar false = false := by
        rw [Array.getD_eq_getD_getElem?, Array.getElem?_setIfInBounds_ne hjb, Array.getElem?_setIfInBounds_ne (Ne.symm hne), ← Array.getD_eq_getD_getElem?]
        exact hb
      have h2 := wpOp_putIf hoj (hfree j oj hoj hji hjun hnot) (fun cs b => hsel i oi cs b hi) (fun cs b => hsel j oj cs b hoj) hQ hy h1
      have hfree' : ∀ k ok, ops[k]? = some ok → k ≠ i → (listed.setIfInBounds j true).getD k true = false →
          (∀ e ∈ ok.after, Region.binds .any e = true → e.on ≠ i) → oi.apart ops ok = true := fun k ok hk hki hun hno => by
        refine hfree k ok hk hki ?_ hno
        by_cases hjk : j = k
        · subst hjk; exact hjun
        · rw [getD_set_ne true hjk] at hun; exact hun
      refine wpOp_mono (fun a' w' h3 => ⟨fun _ => h3.2.1 hb2, ih (listed.setIfInBounds j true) a' w' hfree' (ready_mono hr (Ne.symm hji)) (hcl.set hj) (by rw [Array.getD_eq_getD_getElem?, Array.getElem?_setIfInBounds_ne hji, ← Array.getD_eq_getD_getElem?]; exact hil) hb' h3.1 (h3.2.1 hb2) ?_⟩) h2
      rw [Array.setIfInBounds_comm _ _ hji]
      exact h3.2.2
theorem wpAnyB_first0 {bar i : Nat} {oi : Oper} {v : Value} (hi : ops[i]? = some oi) (hsel : ∀ (j : Nat) (o : Oper) cs b, ops[j]? = some o → o.op ≠ .select cs b)
    (hQ : ∀ c a w, Q (.panic c) (a.put oi.dst v) w → Q (.panic c) a w) (hne : bar ≠ i) :
    ∀ (fuel : Nat) (listed : Array Bool) (a : Act) (w : World),
      (∀ j oj, ops[j]? = some oj → j ≠ i → listed.getD j true = false → (∀ e ∈ oj.after, Region.binds .any e = true → e.on ≠ i) → oi.apart ops oj = true) →
      i ∈ Region.ready .any ops listed → (listed.getD bar false = false → C w) → YieldsIf P ops (fun _ => True) oi v a →
      wpAnyB P ops Q C bar fuel (listed.setIfInBounds i true) (a.put oi.dst v) w → wpAnyB P ops Q C bar (fuel + 1) listed a w := by
  have hsame : ∀ listed : Array Bool, (listed.setIfInBounds i true).getD bar false = listed.getD bar false := fun listed => by
    rw [Array.getD_eq_getD_getElem?, Array.getElem?_setIfInBounds_ne (Ne.symm hne), ← Array.getD_eq_getD_getElem?]
  intro fuel
  induction fuel with
  | zero =>
    intro listed a w _ hr hc hy H
    refine ⟨fun h => (by rw [h] at hr; cases hr), fun j hj => ?_⟩
    by_cases hji : j = i
    · subst hji; exact hy.wpOp hi trivial ⟨fun h => hc (by rw [hsame] at h; exact h), H⟩
    · have := ready_mono hj hji
      rw [H.1] at this
      cases this
  | succ fuel ih =>
    intro listed a w hfree hr hc hy H
    refine ⟨fun h => (by rw [h] at hr; cases hr), fun j hj => ?_⟩
    by_cases hji : j = i
    · subst hji; exact hy.wpOp hi trivial ⟨fun h => hc (by rw [hsame] at h; exact h), H⟩
    · have h1 := H.2 j (ready_mono hj hji)
      obtain ⟨hjun, oj, hoj, hall⟩ := mem_ready.1 hj
      have hnot : ∀ e ∈ oj.after, Region.binds .any e = true → e.on ≠ i := fun e he hb heq => by
        have h1 := hall e he hb
        have h0 := (mem_ready.1 hr).1
        rw [heq] at h1
        rcases Nat.lt_or_ge i listed.size with h' | h'
        · simp [h'] at h0 h1; rw [h0] at h1; cases h1
        · simp [Array.getElem?_eq_none h'] at h1
      have h2 := wpOp_putIf hoj (hfree j oj hoj hji hjun hnot) (fun cs b => hsel i oi cs b hi) (fun cs b => hsel j oj cs b hoj) hQ hy h1
      have hfree' : ∀ k ok, ops[k]? = some ok → k ≠ i → (listed.setIfInBounds j true).getD k true = false →
          (∀ e ∈ ok.after, Region.binds .any e = true → e.on ≠ i) → oi.apart ops ok = true := fun k ok hk hki hun hno => by
        refine hfree k ok hk hki ?_ hno
        by_cases hjk : j = k
        · subst hjk; exact hjun
        · rw [getD_set_ne true hjk] at hun; exact hun
      have hC : ∀ w', (((listed.setIfInBounds i true).setIfInBounds j true).getD bar false = false → C w') → (listed.setIfInBounds j true).getD bar false = false → C w' := fun w' h hb => h (by
        rw [Array.setIfInBounds_comm _ _ (Ne.symm hji), hsame]
        exact hb)
      refine wpOp_mono (fun a' w' h3 => ⟨hC w' h3.2.1, ih (listed.setIfInBounds j true) a' w' hfree' (ready_mono hr (Ne.symm hji)) (hC w' h3.2.1) h3.1 ?_⟩) h2
      rw [Array.setIfInBounds_comm _ _ hji]
      exact h3.2.2
end
structure WB (P : Program) (ops : Array Oper) (Q : Exit → Act → World → Prop) (C : World → Prop) (bar : Nat) (fuel : Nat) (listed : Array Bool) (a : Act) (w : World) : Prop where
  out : wpAnyB P ops Q C bar fuel listed a w
structure HB (P : Program) (ops : Array Oper) (Q : Exit → Act → World → Prop) (C : World → Prop) (bar : Nat) (fuel : Nat) (listed : Array Bool) (j : Nat) (a : Act) (w : World) : Prop where
  out : wpOp P ops Q j (fun a' w' => ((listed.setIfInBounds j true).getD bar false = false → C w') ∧ wpAnyB P ops Q C bar fuel (listed.setIfInBounds j true) a' w') a w
def reachB (ops : Array Oper) (i : Nat) : Nat → Nat → Bool
  | 0, _ => false
  | n + 1, k => match ops[k]? with
    | none => false
    | some ok => ok.after.any fun e => Region.binds .any e && (e.on == i || reachB ops i n e.on)
theorem reachB_waits {ops : Array Oper} {i : Nat} : ∀ {n k : Nat}, reachB ops i n k = true → Waits ops i k
  | 0, _, h => by cases h
  | n + 1, k, h => by
    rw [reachB] at h
    cases hk : ops[k]? with
    | none => simp [hk] at h
    | some ok =>
      simp only [hk] at h
      obtain ⟨e, he, h2⟩ := Array.any_eq_true'.1 h
      simp only [Bool.and_eq_true, Bool.or_eq_true, beq_iff_eq] at h2
      rcases h2.2 with h3 | h3
      · exact .one hk he h2.1 h3
      · exact .more hk he h2.1 (reachB_waits h3)
def closedB (ops : Array Oper) (listed : Array Bool) : Bool := (List.range ops.size).all fun k => !listed.getD k false || ((ops[k]?).map (·.after.all fun e => !Region.binds .any e || listed.getD e.on false)).getD true
theorem closedB_spec {ops : Array Oper} {listed : Array Bool} (h : closedB ops listed = true) : Closed ops listed := by
  intro k ok hk hl e he hb
  simp only [closedB, List.all_eq_true, List.mem_range] at h
  have h1 := h k (Array.getElem?_eq_some_iff.1 hk).1
  simp only [hl, hk, Bool.not_true, Bool.false_or, Option.map_some, Option.getD_some] at h1
  have h2 := Array.all_eq_true_iff_forall_mem.1 h1 e he
  simpa [hb] using h2
def waitsB (ops : Array Oper) (bar i : Nat) (listed : Array Bool) : Bool := bar != i && (ops.size ≤ bar || reachB ops i ops.size bar) && closedB ops listed && !listed.getD i false
def freeB (ops : Array Oper) (listed : Array Bool) (j : Nat) : Bool := Region.noSelect ops && Region.free .any ops listed j && (Region.ready .any ops listed).contains j
section
variable {P : Program} {ops : Array Oper} {Q : Exit → Act → World → Prop} {C : World → Prop} {l : Fm} {w : World} {listed : Array Bool} {bar fu j : Nat}
variable {W : World} {g : Frag} {L0 L : Own}
theorem c_heldB {id : Nat} (C : World → Prop) (bar n : Nat) (hm : P.follows .mixedOrders = true) (hn : ops.size = n) (hS : St W g L0 L w) (h : ∀ w', St W g L0 L w' → WB P ops Q C bar n (Array.replicate n false) (Ac l) w') : (Code.region id ops true).wp P Q (Ac l) w := by
  subst hn
  exact wp_region_any hm (wpAny_of_B _ _ _ _ (h _ hS.drew).out)
structure CB (g : Frag) (L : Own) (w : World) : Prop where
  own : ∀ {b : Nat} {o : Obj}, (b, o) ∈ L → w.heap[b]? = some o
  block : ∀ {b : Nat} {o : Obj}, g b = some o → w.heap[b]? = some o
theorem c_heldL {id : Nat} (bar n : Nat) (hm : P.follows .mixedOrders = true) (hn : ops.size = n) (hS : St W g L0 L w) (h : ∀ w', St W g L0 L w' → WB P ops Q (CB g L) bar n (Array.replicate n false) (Ac l) w') : (Code.region id ops true).wp P Q (Ac l) w := c_heldB (CB g L) bar n hm hn hS h
theorem CB.sub {L L' : Own} (h : CB g L w) (r : Re L L') : CB g L' w := by
  obtain ⟨D, hD⟩ := r.keep
  exact ⟨fun hm => h.own (hD.mem_iff.2 (List.mem_append_left _ hm)), fun hb => h.block hb⟩
def YV (P : Program) (C : World → Prop) (l : Fm) (o : Oper) (v : Value) : Prop := ∀ w, C w → (execOp (ev l) o).run P w = .ok (.value v) w
theorem St.cb (hS : St W g L0 L w) : CB g L w := ⟨fun h => hS.own h, fun h => hS.block h⟩
variable {rest : List Oper} {K : Act → Prop} {d : Nat} {op : Op} {ty : TypeId} {ps : String} {af : Array Edge} {v : Value} {gd : Option (Nat × Bool)}
theorem oy (hS : St W g L0 L w) (hy : YV P (St W g L0 L) l ⟨some d, op, ty, ps, af, none⟩ v) (h : WL P ops Q rest (Ac (l.upd d v)) w) : WL P ops Q (⟨some d, op, ty, ps, af, none⟩ :: rest) (Ac l) w := o_val (hy w hS) h
theorem qy (hy : YV P C l ⟨some d, op, ty, ps, af, none⟩ v) (h : WQ P ops C K rest (Ac (l.upd d v))) : WQ P ops C K (⟨some d, op, ty, ps, af, none⟩ :: rest) (Ac l) := q_val hy h
theorem wf {dst : Option Tmp} {i : Nat} {want b : Bool} {oi : Oper} {t : Tmp} (hj : ops[i]? = some oi) (hd : oi.dst = some t) (hl : nth l t = .bool b := by (conv => lhs; whnf) <;> exact rfl) (hb : b ≠ want := by decide) : Region.wanted ⟨dst, op, ty, ps, af, some (i, want)⟩ (yielded ops (Ac l).tmps) = false := by
  have hy : yielded ops (Ac l).tmps i = some b := by simp [yielded, hj, hd, nth_bool hl]
  simp [Region.wanted, hy, hb]
theorem hy (j : Nat) (hi : ops[j]? = some ⟨some d, op, ty, ps, af, gd⟩) (hg : Region.wanted ⟨some d, op, ty, ps, af, gd⟩ (yielded ops (Ac l).tmps) = true) (hf : (waitsB ops bar j listed && freeB ops listed j && !listed.getD bar false) = true) (hQ : ∀ c a w, ¬ Q (.panic c) a w) (hc : C w) (hy : YV P C l ⟨some d, op, ty, ps, af, none⟩ v)
    (h : WB P ops Q C bar fu (listed.setIfInBounds j true) (Ac (l.upd d v)) w) : WB P ops Q C bar (fu + 1) listed (Ac l) w := by
  simp only [Bool.and_eq_true, freeB, waitsB, Bool.not_eq_true', Bool.or_eq_true, decide_eq_true_eq] at hf
  obtain ⟨⟨⟨⟨⟨hne, hb⟩, hcl⟩, hij⟩, ⟨hs, hfr⟩, hr⟩, hlb⟩ := hf
  refine ⟨wpAnyB_first hi (Region.noSelect_spec hs) (fun c a w hq => absurd hq (hQ _ _ _)) (fun hlt => ?_) (by simpa using hne) fu listed (Ac l) w (Region.free_spec hi hfr) (by simpa using hr) (closedB_spec hcl) hij hlb (.inl ⟨hg, fun w hw => by rw [eval_ev]; exact hy w hw⟩) hc ?_⟩
  · rcases hb with hb | hb
    · omega
    · exact reachB_waits hb
  · rw [put_ac]
    exact h.out
theorem hy0 (j : Nat) (hi : ops[j]? = some ⟨some d, op, ty, ps, af, gd⟩) (hg : Region.wanted ⟨some d, op, ty, ps, af, gd⟩ (yielded ops (Ac l).tmps) = true) (hf : (bar != j && freeB ops listed j) = true) (hQ : ∀ c a w, ¬ Q (.panic c) a w) (hc : listed.getD bar false = false → C w) (hy : YV P (fun _ => True) l ⟨some d, op, ty, ps, af, none⟩ v)
    (h : WB P ops Q C bar fu (listed.setIfInBounds j true) (Ac (l.upd d v)) w) : WB P ops Q C bar (fu + 1) listed (Ac l) w := by
  simp only [Bool.and_eq_true, freeB] at hf
  obtain ⟨hne, ⟨hs, hfr⟩, hr⟩ := hf
  refine ⟨wpAnyB_first0 hi (Region.noSelect_spec hs) (fun c a w hq => absurd hq (hQ _ _ _)) (by simpa using hne) fu listed (Ac l) w (Region.free_spec hi hfr) (by simpa using hr) hc (.inl ⟨hg, fun w _ => by rw [eval_ev]; exact hy w trivial⟩) ?_⟩
  rw [put_ac]
  exact h.out
theorem hb_op {dst : Option Tmp} (hi : ops[j]? = some ⟨dst, op, ty, ps, af, gd⟩) (hg : Region.wanted ⟨dst, op, ty, ps, af, gd⟩ (yielded ops (Ac l).tmps) = true) (hL : ¬ LetsOut Q)
    (h : WL P ops (Exit.then (fun a' w' => ((listed.setIfInBounds j true).getD bar false = false → C w') ∧ WB P ops Q C bar fu (listed.setIfInBounds j true) a' w') Q) [⟨dst, op, ty, ps, af, none⟩] (Ac l) w) :
    HB P ops Q C bar fu listed j (Ac l) w := by
  refine ⟨?_⟩
  have h := h.out
  unfold wpList at h
  unfold wpOp
  simp only [hi]
  rw [if_pos (show Region.wanted ⟨dst, op, ty, ps, af, none⟩ _ = true from rfl)] at h
  rw [if_pos hg]
  rcases h with h | ⟨_, h⟩
  · left
    have he : (execOp (Ac l).eval ⟨dst, op, ty, ps, af, gd⟩) = (execOp (Ac l).eval ⟨dst, op, ty, ps, af, none⟩) := by cases op <;> rfl
    unfold Oper.wp at h ⊢
    rw [he]
    generalize (execOp (Ac l).eval ⟨dst, op, ty, ps, af, none⟩).run P w = r at h ⊢
    cases r with
    | ok n w' =>
      cases n <;> simp only [Oper.upon] at h ⊢
      case value v => exact ⟨h.1, h.2.out⟩
      case skip => exact ⟨h.1, h.2.out⟩
      case defer dd => exact ⟨h.1, h.2.out⟩
      case enter f args =>
        refine h.mono fun e w'' he => ?_
        cases e with
        | returned v => exact ⟨he.1, he.2.out⟩
        | panicked c => exact he
        | outgrown => exact absurd he hL
      case row row args =>
        refine Rows.mono h fun u w'' he => ?_
        exact ⟨he.1, he.2.out⟩
    | halt x w' => cases x <;> simp only [Oper.upon] at h ⊢ <;> exact h
  · exact absurd h hL
theorem hb1 (j : Nat) (hr : Region.ready .any ops listed = [j]) (h : HB P ops Q C bar fu listed j (Ac l) w) : WB P ops Q C bar (fu + 1) listed (Ac l) w :=
  ⟨fun h0 => absurd (hr ▸ h0) (by simp), fun i hi => by rw [hr] at hi; obtain rfl := List.mem_singleton.1 hi; exact h.out⟩
theorem hb2 (i j : Nat) (hr : Region.ready .any ops listed = [i, j]) (h1 : HB P ops Q C bar fu listed i (Ac l) w)
    (h2 : HB P ops Q C bar fu listed j (Ac l) w) : WB P ops Q C bar (fu + 1) listed (Ac l) w :=
  ⟨fun h0 => absurd (hr ▸ h0) (by simp), fun k hk => by
    rw [hr] at hk
    rcases List.mem_cons.1 hk with rfl | hk
    · exact h1.out
    · obtain rfl := List.mem_singleton.1 hk; exact h2.out⟩
theorem hb3 (i j m : Nat) (hr : Region.ready .any ops listed = [i, j, m]) (h1 : HB P ops Q C bar fu listed i (Ac l) w)
    (h2 : HB P ops Q C bar fu listed j (Ac l) w)
    (h3 : HB P ops Q C bar fu listed m (Ac l) w) : WB P ops Q C bar (fu + 1) listed (Ac l) w :=
  ⟨fun h0 => absurd (hr ▸ h0) (by simp), fun k hk => by
    rw [hr] at hk
    rcases List.mem_cons.1 hk with rfl | hk
    · exact h1.out
    · rcases List.mem_cons.1 hk with rfl | hk
      · exact h2.out
      · obtain rfl := List.mem_singleton.1 hk; exact h3.out⟩
theorem hb_done (hr : Region.ready .any ops listed = []) (h : Q .normal (Ac l) w) : WB P ops Q C bar fu listed (Ac l) w := by
  cases fu with
  | zero => exact ⟨hr, h⟩
  | succ n => exact ⟨fun _ => h, by rw [hr]; simp⟩
theorem hb_next {K : Act → World → Prop} {D : World → Prop} (hw : D w) (h : K (Ac l) w) : WL P ops (Exit.then (fun a' w' => D w' ∧ K a' w') Q) [] (Ac l) w := ⟨⟨hw, h⟩⟩
theorem nD {b : Bool} {p : Prop} (h : b = true := by rfl) : b = false → p := fun h' => by rw [h] at h'; cases h'
theorem zy (j : Nat) (hi : ops[j]? = some ⟨some d, op, ty, ps, af, none⟩) (hc : C w) (hy : YV P (fun _ => True) l ⟨some d, op, ty, ps, af, none⟩ v) (h : WB P ops Q C bar fu (listed.setIfInBounds j true) (Ac (l.upd d v)) w)
    (hf : (bar != j && freeB ops listed j) = true := by kernel_rfl) (hQ : ∀ c a w, ¬ Q (.panic c) a w := by rintro _ _ _ ⟨_, _, _, h, _⟩; cases h) : WB P ops Q C bar (fu + 1) listed (Ac l) w := hy0 j hi rfl hf hQ (fun _ => hc) hy h
theorem zx (j : Nat) (hi : ops[j]? = some ⟨some d, op, ty, ps, af, none⟩) (hy : YV P (fun _ => True) l ⟨some d, op, ty, ps, af, none⟩ v) (h : WB P ops Q C bar fu (listed.setIfInBounds j true) (Ac (l.upd d v)) w)
    (hf : (bar != j && freeB ops listed j) = true := by kernel_rfl) (hQ : ∀ c a w, ¬ Q (.panic c) a w := by rintro _ _ _ ⟨_, _, _, h, _⟩; cases h) (hb : listed.getD bar false = true := by rfl) : WB P ops Q C bar (fu + 1) listed (Ac l) w := hy0 j hi rfl hf hQ (nD hb) hy h
theorem zl (j : Nat) (hi : ops[j]? = some ⟨some d, op, ty, ps, af, none⟩) (hc : C w) (hv : YV P C l ⟨some d, op, ty, ps, af, none⟩ v) (h : WB P ops Q C bar fu (listed.setIfInBounds j true) (Ac (l.upd d v)) w)
    (hf : (waitsB ops bar j listed && freeB ops listed j && !listed.getD bar false) = true := by kernel_rfl) (hQ : ∀ c a w, ¬ Q (.panic c) a w := by rintro _ _ _ ⟨_, _, _, h, _⟩; cases h) : WB P ops Q C bar (fu + 1) listed (Ac l) w := Fr.hy j hi rfl hf hQ hc hv h
theorem zo {dst : Option Tmp} (hi : ops[j]? = some ⟨dst, op, ty, ps, af, none⟩)
    (h : WL P ops (Exit.then (fun a' w' => ((listed.setIfInBounds j true).getD bar false = false → C w') ∧ WB P ops Q C bar fu (listed.setIfInBounds j true) a' w') Q) [⟨dst, op, ty, ps, af, none⟩] (Ac l) w) (hL : ¬ LetsOut Q := by rintro ⟨_, _, _, _, h, _⟩; cases h) :
    HB P ops Q C bar fu listed j (Ac l) w := hb_op hi rfl hL h
theorem z1 {dst : Option Tmp} (i : Nat) (hi : ops[i]? = some ⟨dst, op, ty, ps, af, none⟩)
    (h : WL P ops (Exit.then (fun a' w' => ((listed.setIfInBounds i true).getD bar false = false → C w') ∧ WB P ops Q C bar fu (listed.setIfInBounds i true) a' w') Q) [⟨dst, op, ty, ps, af, none⟩] (Ac l) w) (hr : Region.ready .any ops listed = [i] := by kernel_rfl) (hL : ¬ LetsOut Q := by rintro ⟨_, _, _, _, h, _⟩; cases h) :
    WB P ops Q C bar (fu + 1) listed (Ac l) w := hb1 i hr (hb_op hi rfl hL h)
end
section
variable {P : Program} {ops : Array Oper} {Q : Exit → Act → World → Prop} {rest : List Oper} {l : Fm} {w : World} {d : Nat} {ty : TypeId} {ps : String} {af : Array Edge}
variable {W : World} {g : Frag} {L0 L : Own}
theorem o_call0 {f : FuncId} {fn : Func} {ao : Array Operand} {ts : Array TypeId} {args : Array Value} {R : Value → Own → Prop} (hS : St W g L0 L w) (hf : P.funcs[f]? = some fn) (hname : (fn.name == "runtime.NumGoroutine") = false) (hb : fn.body.isSome = true)
    (ha : ao.map (ev l) = args := by exact avs) (hc : LC P f args (g.plus L) [] R) (h : ∀ v L' w', St W g L0 (L' ++ L) w' → R v L' → WL P ops Q rest (Ac (l.upd d v)) w') :
    WL P ops Q (⟨some d, .call { callee := .value (.func f), args := ao, argTypes := ts }, ty, ps, af, none⟩ :: rest) (Ac l) w :=
  o_call (L1 := []) (L2 := L) hS hf hname hb ha hc h
end
end Go.Proofs.YtgakgpbmcbegbaaGreatDoor.Fr
