/- A layer over the walk's words: a state is told by the blocks that are read only, and by a list of blocks of the call's own. -/
import Derived.WalkKit
import Derived.Deep.Quiet
import Derived.OrdersHeld
import Derived.Laws.Rows
import Derived.Laws.AppendOwn
import Derived.Laws.MakeOwn
import Derived.Below
namespace Go.Proofs.YtgakgpbmcbegbaaGreatDoor.Fr
open Go.RowKit
abbrev Frag := Nat → Option Obj
def Frag.le (g h : Frag) : Prop := ∀ b o, g b = some o → h b = some o
theorem Frag.le_refl (g : Frag) : g.le g := fun _ _ h => h
theorem Frag.le_trans {a b c : Frag} (h : a.le b) (k : b.le c) : a.le c := fun _ _ x => k _ _ (h _ _ x)
abbrev Own := List (Nat × Obj)
def Own.look (L : Own) (b : Nat) : Option Obj := (L.find? (fun p => p.1 == b)).map (·.2)
def Frag.plus (g : Frag) (L : Own) : Frag := fun b => match g b with | some o => some o | none => Own.look L b
theorem Frag.le_plus (g : Frag) (L : Own) : g.le (g.plus L) := fun b o h => by simp [Frag.plus, h]
theorem Frag.plus_nil (g : Frag) : g.plus [] = g := by
  funext b
  simp only [Frag.plus, Own.look, List.find?_nil, Option.map_none]
  cases g b <;> rfl
structure St (W : World) (g : Frag) (L0 L : Own) (w : World) : Prop where
  os : w.os = W.os
  tape : w.tape = W.tape
  output : w.output = W.output
  size : W.heap.size ≤ w.heap.size
  keep : ∀ b, b < W.heap.size → b ∉ L0.map (·.1) → w.heap[b]? = W.heap[b]?
  ro : ∀ b o, g b = some o → w.heap[b]? = some o ∧ b ∉ L.map (·.1)
  loc : ∀ b o, (b, o) ∈ L → w.heap[b]? = some o ∧ (b < W.heap.size → b ∈ L0.map (·.1))
  nd : (L.map (·.1)).Nodup
theorem St.block {W w : World} {g : Frag} {L0 L : Own} (h : St W g L0 L w) {b : Nat} {o : Obj} (hb : g b = some o) : w.heap[b]? = some o := (h.ro b o hb).1
theorem St.ne {W w : World} {g : Frag} {L0 L : Own} (h : St W g L0 L w) {b c : Nat} {o o' : Obj} (hb : g b = some o) (hc : (c, o') ∈ L) : b ≠ c := by
  rintro rfl
  exact (h.ro b o hb).2 (List.mem_map.2 ⟨_, hc, rfl⟩)
theorem St.lt {W w : World} {g : Frag} {L0 L : Own} (h : St W g L0 L w) {b : Nat} {o : Obj} (hb : g b = some o) : b < w.heap.size := (Array.getElem?_eq_some_iff.1 (h.block hb)).1
theorem St.drew {W w : World} {g : Frag} {L0 L : Own} (h : St W g L0 L w) : St W g L0 L { w with drawn := w.drawn + 1 } :=
  ⟨h.os, h.tape, h.output, h.size, h.keep, h.ro, h.loc, h.nd⟩
theorem St.grow {W w w' : World} {g : Frag} {L0 L : Own} {b' : Nat} {o' : Obj} (hS : St W g L0 L w)
    (h1 : w'.os = w.os) (h2 : w'.tape = w.tape) (h3 : w'.output = w.output) (h4 : w.heap.size ≤ w'.heap.size) (h5 : ∀ k, k < w.heap.size → w'.heap[k]? = w.heap[k]?) (h6 : w'.heap[b']? = some o') (h7 : w.heap.size ≤ b') : St W g L0 ((b', o') :: L) w' := by
  refine ⟨h1.trans hS.os, h2.trans hS.tape, h3.trans hS.output, Nat.le_trans hS.size h4, fun k hk hn => (h5 k (Nat.lt_of_lt_of_le hk hS.size)).trans (hS.keep k hk hn), fun k ok hk => ?_, fun k ok hk => ?_, ?_⟩
  · have hl := hS.lt hk
    refine ⟨(h5 k hl).trans (hS.block hk), fun hm => ?_⟩
    rcases List.mem_cons.1 hm with hm | hm
    · simp only at hm
      omega
    · exact (hS.ro k ok hk).2 hm
  · rcases List.mem_cons.1 hk with hk | hk
    · obtain ⟨rfl, rfl⟩ := Prod.mk.inj hk
      exact ⟨h6, fun hl => absurd hS.size (by omega)⟩
    · obtain ⟨q1, q2⟩ := hS.loc k ok hk
      exact ⟨(h5 k (Array.getElem?_eq_some_iff.1 q1).1).trans q1, q2⟩
  · rw [List.map_cons, List.nodup_cons]
    refine ⟨fun hm => ?_, hS.nd⟩
    obtain ⟨p, hp, he⟩ := List.mem_map.1 hm
    have := (Array.getElem?_eq_some_iff.1 (hS.loc p.1 p.2 hp).1).1
    omega
theorem St.alloc {W w : World} {g : Frag} {L0 L : Own} (h : St W g L0 L w) (o : Obj) : St W g L0 ((w.heap.size, o) :: L) (w.alloc o) :=
  h.grow rfl rfl rfl (by simp) (fun k hk => Below.heap_alloc w o k hk) (by show (w.heap.push _)[w.heap.size]? = _; simp) (Nat.le_refl _)
theorem St.drop {W w : World} {g : Frag} {L0 L L' : Own} (h : St W g L0 L w) (hs : L'.Sublist L) : St W g L0 L' w :=
  ⟨h.os, h.tape, h.output, h.size, h.keep, fun b o hb => ⟨(h.ro b o hb).1, fun hm => (h.ro b o hb).2 ((hs.map _).subset hm)⟩, fun b o hb => h.loc b o (hs.subset hb), h.nd.sublist (hs.map _)⟩
theorem St.perm {W w : World} {g : Frag} {L0 L L' : Own} (h : St W g L0 L w) (hs : L.Perm L') : St W g L0 L' w :=
  ⟨h.os, h.tape, h.output, h.size, h.keep, fun b o hb => ⟨(h.ro b o hb).1, fun hm => (h.ro b o hb).2 ((hs.map _).mem_iff.2 hm)⟩, fun b o hb => h.loc b o (hs.mem_iff.2 hb), (hs.map _).nodup_iff.1 h.nd⟩
theorem St.less {W w : World} {g g' : Frag} {L0 L : Own} (h : St W g L0 L w) (hg : g'.le g) : St W g' L0 L w :=
  ⟨h.os, h.tape, h.output, h.size, h.keep, fun b o hb => h.ro b o (hg _ _ hb), h.loc, h.nd⟩
def Own.put (L : Own) (b : Nat) (o : Obj) : Own := L.map fun p => if p.1 = b then (b, o) else p
theorem Own.put_names (L : Own) (b : Nat) (o : Obj) : (L.put b o).map (·.1) = L.map (·.1) := by
  unfold Own.put
  rw [List.map_map]
  refine List.map_congr_left fun p _ => ?_
  simp only [Function.comp]
  split <;> simp_all
theorem St.write {W w w' : World} {g : Frag} {L0 L : Own} (h : St W g L0 L w) {b : Nat} {o o' : Obj} (hb : (b, o) ∈ L)
    (h1 : w'.os = w.os) (h2 : w'.tape = w.tape) (h3 : w'.output = w.output) (h4 : w.heap.size ≤ w'.heap.size)
    (h5 : ∀ k, k < w.heap.size → k ≠ b → w'.heap[k]? = w.heap[k]?) (h6 : w'.heap[b]? = some o') : St W g L0 (L.put b o') w' := by
  obtain ⟨hb1, hb2⟩ := h.loc b o hb
  have hlt := (Array.getElem?_eq_some_iff.1 hb1).1
  refine ⟨h1.trans h.os, h2.trans h.tape, h3.trans h.output, Nat.le_trans h.size h4, fun k hk hn => ?_, fun k o'' hk => ?_, fun k o'' hk => ?_, ?_⟩
  · rw [h5 k (Nat.lt_of_lt_of_le hk h.size) (fun e => hn (e ▸ hb2 (e ▸ hk)))]
    exact h.keep k hk hn
  · have hne : k ≠ b := h.ne hk hb
    refine ⟨(h5 k (h.lt hk) hne).trans (h.block hk), ?_⟩
    rw [Own.put_names]
    exact (h.ro k o'' hk).2
  · obtain ⟨p, hp, he⟩ := List.mem_map.1 hk
    obtain ⟨q1, q2⟩ := h.loc p.1 p.2 hp
    by_cases hpb : p.1 = b
    · rw [if_pos hpb] at he
      obtain ⟨rfl, rfl⟩ := Prod.mk.inj he
      exact ⟨h6, hb2⟩
    · rw [if_neg hpb] at he
      subst he
      exact ⟨(h5 _ (Array.getElem?_eq_some_iff.1 q1).1 hpb).trans q1, q2⟩
  · rw [Own.put_names]
    exact h.nd
theorem Own.mem_of_look' {L : Own} {b : Nat} {o : Obj} (h : Own.look L b = some o) : (b, o) ∈ L := by
  unfold Own.look at h
  obtain ⟨p, hp, rfl⟩ := Option.map_eq_some_iff.1 h
  have h1 := List.mem_of_find?_eq_some hp
  have h2 := List.find?_some hp
  simp only [beq_iff_eq] at h2
  subst h2
  exact h1
theorem St.freeze {W w : World} {g : Frag} {L0 L1 L2 : Own} (h : St W g L0 (L1 ++ L2) w) : St W (g.plus L1) L0 L2 w := by
  have nd := h.nd
  rw [List.map_append] at nd
  have nd' := List.nodup_append.1 nd
  refine ⟨h.os, h.tape, h.output, h.size, h.keep, fun b o hb => ?_, fun b o hb => h.loc b o (List.mem_append.2 (.inr hb)), nd'.2.1⟩
  unfold Frag.plus at hb
  cases hg : g b with
  | some o' =>
    simp only [hg, Option.some.injEq] at hb
    subst hb
    refine ⟨h.block hg, fun hm => (h.ro b o' hg).2 ?_⟩
    rw [List.map_append]
    exact List.mem_append.2 (.inr hm)
  | none =>
    simp only [hg] at hb
    have hm := Own.mem_of_look' hb
    exact ⟨(h.loc b o (List.mem_append.2 (.inl hm))).1, fun hm2 => nd'.2.2 b (List.mem_map.2 ⟨_, hm, rfl⟩) b hm2 rfl⟩
def LC (P : Program) (f : FuncId) (args : Array Value) (g : Frag) (L0 : Own) (R : Value → Own → Prop) : Prop :=
  ∀ w, St w g L0 L0 w → Calls P f args w fun e w' => ∃ v L', e = .returned v ∧ St w g L0 L' w' ∧ R v L'
theorem LC.mono {P : Program} {f : FuncId} {args : Array Value} {g : Frag} {L0 : Own} {R R' : Value → Own → Prop} (h : LC P f args g L0 R) (hr : ∀ v L, R v L → R' v L) : LC P f args g L0 R' :=
  fun w hw => (h w hw).mono fun _ _ ⟨v, L, he, hs, h⟩ => ⟨v, L, he, hs, hr _ _ h⟩
theorem Own.look_of_mem {L : Own} (nd : (L.map (·.1)).Nodup) {b : Nat} {o : Obj} (h : (b, o) ∈ L) : Own.look L b = some o := by
  induction L with
  | nil => cases h
  | cons p L ih =>
    rw [List.map_cons, List.nodup_cons] at nd
    unfold Own.look
    rw [List.find?_cons]
    rcases List.mem_cons.1 h with h | h
    · subst h; simp
    · have : (p.1 == b) = false := by
        simp only [beq_eq_false_iff_ne, ne_eq]
        rintro rfl
        exact nd.1 (List.mem_map.2 ⟨_, h, rfl⟩)
      rw [this]
      exact ih nd.2 h
theorem Own.mem_of_look {L : Own} {b : Nat} {o : Obj} (h : Own.look L b = some o) : (b, o) ∈ L := by
  unfold Own.look at h
  obtain ⟨p, hp, rfl⟩ := Option.map_eq_some_iff.1 h
  have h1 := List.mem_of_find?_eq_some hp
  have h2 := List.find?_some hp
  simp only [beq_iff_eq] at h2
  subst h2
  exact h1
theorem St.call {W w w' : World} {g : Frag} {L0 L1 L2 L' : Own} (h : St W g L0 (L1 ++ L2) w) (h' : St w (g.plus L2) L1 L' w') : St W g L0 (L' ++ L2) w' := by
  have nd := h.nd
  rw [List.map_append] at nd
  have nd' := List.nodup_append.1 nd
  have h2 : ∀ b o, (b, o) ∈ L2 → w'.heap[b]? = some o ∧ b ∉ L1.map (·.1) := by
    intro b o hb
    have hn : b ∉ L1.map (·.1) := fun hm => nd'.2.2 b hm b (List.mem_map.2 ⟨_, hb, rfl⟩) rfl
    obtain ⟨q1, _⟩ := h.loc b o (List.mem_append.2 (.inr hb))
    exact ⟨(h'.keep b (Array.getElem?_eq_some_iff.1 q1).1 hn).trans q1, hn⟩
  refine ⟨h'.os.trans h.os, h'.tape.trans h.tape, h'.output.trans h.output, Nat.le_trans h.size h'.size, fun b hb hn => ?_, fun b o hb => ?_, fun b o hb => ?_, ?_⟩
  · have hn1 : b ∉ L1.map (·.1) := fun hm => by
      obtain ⟨p, hp, rfl⟩ := List.mem_map.1 hm
      exact hn ((h.loc p.1 p.2 (List.mem_append.2 (.inl hp))).2 hb)
    rw [h'.keep b (Nat.lt_of_lt_of_le hb h.size) hn1]
    exact h.keep b hb hn
  · obtain ⟨q1, q2⟩ := h'.ro b o (Frag.le_plus g L2 _ _ hb)
    refine ⟨q1, fun hm => ?_⟩
    rw [List.map_append] at hm
    rcases List.mem_append.1 hm with hm | hm
    · exact q2 hm
    · exact (h.ro b o hb).2 (by rw [List.map_append]; exact List.mem_append.2 (.inr hm))
  · rcases List.mem_append.1 hb with hb | hb
    · obtain ⟨q1, q2⟩ := h'.loc b o hb
      refine ⟨q1, fun hl => ?_⟩
      obtain ⟨p, hp, rfl⟩ := List.mem_map.1 (q2 (Nat.lt_of_lt_of_le hl h.size))
      exact (h.loc p.1 p.2 (List.mem_append.2 (.inl hp))).2 hl
    · exact ⟨(h2 b o hb).1, (h.loc b o (List.mem_append.2 (.inr hb))).2⟩
  · rw [List.map_append, List.nodup_append]
    refine ⟨h'.nd, nd'.2.1, fun a ha b hb hab => ?_⟩
    subst hab
    obtain ⟨p, hp, rfl⟩ := List.mem_map.1 ha
    obtain ⟨q, hq, he⟩ := List.mem_map.1 hb
    obtain ⟨q1, q2⟩ := h2 q.1 q.2 hq
    obtain ⟨s1, _⟩ := h.loc q.1 q.2 (List.mem_append.2 (.inr hq))
    rw [he] at q2 s1
    exact q2 ((h'.loc p.1 p.2 hp).2 (Array.getElem?_eq_some_iff.1 s1).1)
theorem St.handed {W w : World} {g : Frag} {L0 L1 L2 : Own} (h : St W g L0 (L1 ++ L2) w) : St w (g.plus L2) L1 L1 w := by
  have nd := h.nd
  rw [List.map_append] at nd
  have nd' := List.nodup_append.1 nd
  refine ⟨rfl, rfl, rfl, Nat.le_refl _, fun _ _ _ => rfl, fun b o hb => ?_, fun b o hb => ⟨(h.loc b o (List.mem_append.2 (.inl hb))).1, fun _ => List.mem_map.2 ⟨_, hb, rfl⟩⟩, nd'.1⟩
  unfold Frag.plus at hb
  cases hg : g b with
  | some o' =>
    simp only [hg, Option.some.injEq] at hb
    subst hb
    refine ⟨h.block hg, fun hm => ?_⟩
    obtain ⟨p, hp, rfl⟩ := List.mem_map.1 hm
    exact h.ne hg (List.mem_append.2 (.inl hp)) rfl
  | none =>
    simp only [hg] at hb
    have hm := Own.mem_of_look hb
    exact ⟨(h.loc b o (List.mem_append.2 (.inr hm))).1, fun hm1 => nd'.2.2 b hm1 b (List.mem_map.2 ⟨_, hm, rfl⟩) rfl⟩
theorem LC.at {P : Program} {f : FuncId} {args : Array Value} {W w : World} {g : Frag} {L0 L1 L2 : Own} {R : Value → Own → Prop} (hS : St W g L0 (L1 ++ L2) w) (hc : LC P f args (g.plus L2) L1 R) :
    Calls P f args w fun e w' => ∃ v L', e = .returned v ∧ St W g L0 (L' ++ L2) w' ∧ R v L' :=
  (hc w hS.handed).mono fun _ _ ⟨v, L', he, hs, hr⟩ => ⟨v, L', he, hS.call hs, hr⟩
end Go.Proofs.YtgakgpbmcbegbaaGreatDoor.Fr
