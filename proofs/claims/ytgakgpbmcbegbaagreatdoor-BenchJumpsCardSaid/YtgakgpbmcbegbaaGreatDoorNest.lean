/- Slices of things that hold slices themselves: read. -/
import Derived.Test.YtgakgpbmcbegbaaGreatDoorArr
namespace Go.Proofs.YtgakgpbmcbegbaaGreatDoor
open Go Fr
set_option linter.unusedVariables false
structure Nst (α : Type) (sz : Nat) where
  val : α
  enc : List Value
  len : enc.length = sz
  one : ∀ u ∈ enc, u.oneCell' = true
theorem Nst.enc_len {α : Type} {sz : Nat} : ∀ z : Nst α sz, z.enc.length = sz := fun z => z.len
def Mono {α : Type} (R : Frag → α → List Value → Prop) : Prop := ∀ {g g' : Frag} {x : α} {cs : List Value}, g.le g' → R g x cs → R g' x cs
def SlN {α : Type} (g : Frag) (R : Frag → α → List Value → Prop) (sz : Nat) (xs : List α) (v : Value) : Prop :=
  ∃ zs : List (Nst α sz), zs.map Nst.val = xs ∧ SlT g Nst.enc sz zs v ∧ ∀ z ∈ zs, R g z.val z.enc
theorem SlN.mono {α : Type} {g g' : Frag} {R : Frag → α → List Value → Prop} {sz : Nat} {xs : List α} {v : Value} (hR : Mono R) (h : SlN g R sz xs v) (hg : g.le g') : SlN g' R sz xs v := by
  obtain ⟨zs, h1, h2, h3⟩ := h
  exact ⟨zs, h1, h2.mono hg, fun z hz => hR hg (h3 z hz)⟩
theorem SlN.plus {α : Type} {g : Frag} {R : Frag → α → List Value → Prop} {sz : Nat} {xs : List α} {v : Value} {L : Own} (hR : Mono R) (h : SlN g R sz xs v) : SlN (g.plus L) R sz xs v := h.mono hR (Frag.le_plus g L)
theorem SlN.nil {α : Type} (g : Frag) (R : Frag → α → List Value → Prop) (sz : Nat) : SlN g R sz [] (.slice none 0 0) := ⟨[], rfl, SlR.nil _ _, by simp⟩
theorem SlN.cell {α : Type} {g : Frag} {R : Frag → α → List Value → Prop} {sz : Nat} {xs : List α} {v : Value} (h : SlN g R sz xs v) : v.cells = #[v] := by obtain ⟨zs, _, h, _⟩ := h; exact h.cell
theorem SlN.one {α : Type} {g : Frag} {R : Frag → α → List Value → Prop} {sz : Nat} {xs : List α} {v : Value} (h : SlN g R sz xs v) : v.oneCell' = true := by obtain ⟨zs, _, h, _⟩ := h; exact h.one
theorem at'_map {α β : Type} {f : α → β} {zs : List α} {i : Int} {x : β} (h : at' (zs.map f) i = some x) : ∃ z, at' zs i = some z ∧ f z = x := by
  unfold at' at h ⊢
  split at h
  · rename_i h0
    rw [List.getElem?_map] at h
    obtain ⟨z, h1, h2⟩ := Option.map_eq_some_iff.1 h
    exact ⟨z, by rw [if_pos h0]; exact h1, h2⟩
  · cases h
theorem at'_mem {α : Type} {zs : List α} {i : Int} {z : α} (h : at' zs i = some z) : z ∈ zs := List.mem_of_getElem? (at'_some h).2
theorem sub'_map {α β : Type} {f : α → β} {zs : List α} {lo hi : Int} {ys : List β} (h : sub' (zs.map f) lo hi = some ys) : ∃ zs', sub' zs lo hi = some zs' ∧ zs'.map f = ys ∧ ∀ z ∈ zs', z ∈ zs := by
  obtain ⟨h0, h1, h2, rfl⟩ := sub'_some h
  refine ⟨(zs.take hi.toNat).drop lo.toNat, ?_, by rw [List.map_drop, List.map_take], fun z hz => List.mem_of_mem_take (List.mem_of_mem_drop hz)⟩
  simp only [sub']
  rw [if_pos ⟨h0, h1, by simpa using h2⟩]
theorem SlN.at {α : Type} {g : Frag} {R : Frag → α → List Value → Prop} {sz : Nat} {xs : List α} {v : Value} {i : Int} {x : α} (hi : at' xs i = some x) (hr : SlN g R sz xs v) :
    ∃ b o c cs e fz cl, v = .slice (some ⟨b, o, none⟩) xs.length c ∧ 0 ≤ i ∧ i < xs.length ∧ g b = some (.cells cs e fz) ∧ (∀ j u, cl[j]? = some u → cs[o + i.toNat * sz + j]? = some u) ∧ R g x cl := by
  obtain ⟨zs, rfl, h2, h3⟩ := hr
  obtain ⟨z, hz, rfl⟩ := at'_map hi
  obtain ⟨b, o, c, cs, e, fz, q1, q2, q3, q4, q5⟩ := SlT.at hz h2 Nst.enc_len
  exact ⟨b, o, c, cs, e, fz, z.enc, by rw [List.length_map]; exact q1, q2, by rw [List.length_map]; exact q3, q4, q5, h3 z (at'_mem hz)⟩
theorem SlN.sub {α : Type} {g : Frag} {R : Frag → α → List Value → Prop} {sz : Nat} {xs xs' : List α} {v : Value} {lo hi : Int} (hs : sub' xs lo hi = some xs') (hr : SlN g R sz xs v) : SlN g R sz xs' (slV sz lo.toNat hi.toNat v) := by
  obtain ⟨zs, rfl, h2, h3⟩ := hr
  obtain ⟨zs', h4, h5, h6⟩ := sub'_map hs
  exact ⟨zs', h5, SlT.sub h4 h2 Nst.enc_len, fun z hz => h3 z (h6 z hz)⟩
section
variable {P : Program} {C : World → Prop} {l : Fm} {d : Nat} {ty : TypeId} {ps : String} {af : Array Edge}
variable {α : Type} {g : Frag} {R : Frag → α → List Value → Prop} {sz : Nat} {xs : List α} {v : Value}
theorem y_lenN {x : Operand} {t e : TypeId} (hr : SlN g R sz xs v) (ht : P.underlying t = some (.slice e)) (hx : ev l x = v := by (conv => lhs; whnf) <;> exact rfl) : YV P C l ⟨some d, .call { callee := .builtin .len, args := #[x], argTypes := #[t] }, ty, ps, af, none⟩ (.int .i64 xs.length) := by
  obtain ⟨zs, rfl, h2, h3⟩ := hr
  rw [List.length_map]; exact y_len h2 ht hx
end
end Go.Proofs.YtgakgpbmcbegbaaGreatDoor
