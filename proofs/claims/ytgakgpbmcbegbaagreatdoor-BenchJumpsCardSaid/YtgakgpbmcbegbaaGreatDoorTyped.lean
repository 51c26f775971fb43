/- Slices of things: read, owned, appended to. -/
import Derived.Test.YtgakgpbmcbegbaaGreatDoorQuiet
namespace Go.Proofs.YtgakgpbmcbegbaaGreatDoor.Fr
open Go.RowKit
set_option linter.unusedVariables false
def SlT {α : Type} (g : Frag) (enc : α → List Value) (sz : Nat) (zs : List α) (v : Value) : Prop := SlR g sz zs.length (zs.flatMap enc) v
def OwT {α : Type} (e : Nat) (enc : α → List Value) (sz : Nat) (zs : List α) (v : Value) (LX : Own) : Prop := SlO e sz zs.length (zs.flatMap enc) v LX
theorem SlT.mono {α : Type} {g g' : Frag} {enc : α → List Value} {sz : Nat} {zs : List α} {v : Value} (h : SlT g enc sz zs v) (hg : g.le g') : SlT g' enc sz zs v := SlR.mono h hg
theorem SlT.plus {α : Type} {g : Frag} {L : Own} {enc : α → List Value} {sz : Nat} {zs : List α} {v : Value} (h : SlT g enc sz zs v) : SlT (g.plus L) enc sz zs v := h.mono (Frag.le_plus g L)
theorem SlT.len {α : Type} {g : Frag} {enc : α → List Value} {sz : Nat} {zs : List α} {v : Value} (h : SlT g enc sz zs v) : ∃ A c, v = .slice A zs.length c ∧ zs.length ≤ c := by
  obtain ⟨A, c, h1, h2, _⟩ := h
  exact ⟨A, c, h1, h2.1⟩
theorem OwT.nil {α : Type} (e : Nat) (enc : α → List Value) (sz : Nat) : OwT e enc sz [] (.slice none 0 0) [] := SlO.nil e sz
theorem OwT.read {α : Type} {g : Frag} {e : Nat} {enc : α → List Value} {sz : Nat} {zs : List α} {v : Value} {LX : Own} (h : OwT e enc sz zs v LX) (hL : ∀ b o, (b, o) ∈ LX → g b = some o) : SlT g enc sz zs v := SlO.read h hL
theorem OwT.plus {α : Type} {W w : World} {g : Frag} {L0 L : Own} {e : Nat} {enc : α → List Value} {sz : Nat} {zs : List α} {v : Value} {LX : Own} (h : OwT e enc sz zs v LX) (hS : St W g L0 L w) (hL : ∀ p ∈ LX, p ∈ L) : SlT (g.plus L) enc sz zs v :=
  h.read fun b o hb => hS.plus (hL _ hb)
theorem mk_exF {l : Fm} {mk : (Nat → Value) → Fm} (h : l.toList = (mk (nth l)).toList := by kernel_rfl) : ∃ s, Ac l = Ac (mk s) := ⟨nth l, by show (⟨l.toList.toArray, []⟩ : Act) = ⟨(mk (nth l)).toList.toArray, []⟩; rw [← h]⟩
theorem flat_at {α : Type} (enc : α → List Value) (sz : Nat) (he : ∀ z, (enc z).length = sz) : ∀ (zs : List α) (i : Nat) (hi : i < zs.length) (j : Nat), j < sz → (zs.flatMap enc)[i * sz + j]? = (enc zs[i])[j]?
  | [], i, hi, _, _ => by simp at hi
  | z :: zs, 0, _, j, hj => by
    rw [List.flatMap_cons, List.getElem?_append_left (by rw [he]; omega)]
    simp
  | z :: zs, i + 1, hi, j, hj => by
    rw [List.flatMap_cons, List.getElem?_append_right (by rw [he, Nat.succ_mul]; omega), he]
    have := flat_at enc sz he zs i (by simpa using hi) j hj
    rw [show (i + 1) * sz + j - sz = i * sz + j by rw [Nat.succ_mul]; omega, this]
    simp
theorem flat_len {α : Type} (enc : α → List Value) (sz : Nat) (he : ∀ z, (enc z).length = sz) : ∀ (zs : List α), (zs.flatMap enc).length = zs.length * sz
  | [] => by simp
  | z :: zs => by rw [List.flatMap_cons, List.length_append, he, flat_len enc sz he zs, List.length_cons, Nat.succ_mul]; omega
section
variable {P : Program} {ops : Array Oper} {Q : Exit → Act → World → Prop} {C : World → Prop} {K : Act → Prop} {rest : List Oper} {l : Fm} {w : World} {d : Nat} {ty : TypeId} {ps : String} {af : Array Edge}
variable {W : World} {g : Frag} {L0 L : Own} {α : Type} {enc : α → List Value} {sz : Nat} {zs : List α} {v : Value}
theorem elem_cells (he : ∀ z, (enc z).length = sz) {i : Nat} (hi : i < zs.length) {b o : Nat} {cs : Array Value} (hc : ∀ j u, (zs.flatMap enc)[i * sz + j]? = some u → cs[o + j]? = some u) (j : Nat) (u : Value) (hj : (enc zs[i])[j]? = some u) : cs[o + j]? = some u := by
  refine hc j u ?_
  have hlt : j < sz := by
    have := (List.getElem?_eq_some_iff.1 hj).1
    rwa [he] at this
  rw [flat_at enc sz he zs i hi j hlt, hj]
theorem wr_all : ∀ (vs pre cl post : List Value), cl.length = vs.length → wr (pre ++ cl ++ post) pre.length vs = pre ++ vs ++ post
  | [], pre, cl, post, h => by
    have : cl = [] := List.eq_nil_of_length_eq_zero (by simpa using h)
    subst this
    simp [wr]
  | v :: r, pre, c :: cl, post, h => by
    have := wr_all r (pre ++ [v]) cl post (by simpa using h)
    rw [wr]
    simp only [List.length_append, List.length_cons, List.length_nil, List.append_assoc, List.cons_append, List.nil_append] at this ⊢
    rw [← this]
    congr 1
    simp
theorem o_appT3 {t e by_ n : Nat} {s x : Operand} {bt et : Nat} {ys : List α} {LX Lr : Own} (hS : St W g L0 ((bt, blk (ys.flatMap enc) et) :: (LX ++ Lr)) w) (he : El P t e sz by_) (hv : OwT e enc sz zs v LX)
    (hs : ev l s = v := by (conv => lhs; whnf) <;> exact rfl) (hx : ev l x = .slice (some ⟨bt, 0, none⟩) n n := by (conv => lhs; whnf) <;> exact rfl) (hn : ys.length = n := by rfl) (hen : (ys.flatMap enc).length = n * sz) (h1 : ∀ u ∈ ys.flatMap enc, u.oneCell' = true)
    (hb : (zs.length + n) * by_ ≤ 140737488355328) (h63 : zs.length + n ≤ maxLen)
    (h : ∀ v' LX' w', OwT e enc sz (zs ++ ys) v' LX' → St W g L0 (LX' ++ Lr) w' → WL P ops Q rest (Ac (l.upd d v')) w') :
    WL P ops Q (⟨some d, .call { callee := .builtin .append, args := #[s, x], argTypes := #[t, t] }, ty, ps, af, none⟩ :: rest) (Ac l) w := by
  refine o_appT (ct := ys.flatMap enc) (news := ys.flatMap enc) hS he hs hx hv hen (fun j u hj => by rw [Nat.zero_add]; exact hj) h1 hb h63 fun v' LX' w' h2 h3 => h v' LX' w' ?_ h3
  unfold OwT
  rw [List.length_append, List.flatMap_append, hn]
  exact h2
theorem o_appAll {t e by_ : Nat} {s x : Operand} {u : Value} {ys : List α} {LX Lr : Own} (hS : St W g L0 (LX ++ Lr) w) (he : El P t e sz by_) (hv : OwT e enc sz zs v LX) (hu : SlT (g.plus Lr) enc sz ys u) (hu0 : ∀ c, u = .slice none ys.length c → c = 0 ∧ ys.length = 0)
    (hs : ev l s = v := by (conv => lhs; whnf) <;> exact rfl) (hx : ev l x = u := by (conv => lhs; whnf) <;> exact rfl) (h1 : ∀ u ∈ ys.flatMap enc, u.oneCell' = true)
    (hb : (zs.length + ys.length) * by_ ≤ 140737488355328) (h63 : zs.length + ys.length ≤ maxLen)
    (h : ∀ v' LX' w', OwT e enc sz (zs ++ ys) v' LX' → St W g L0 (LX' ++ Lr) w' → WL P ops Q rest (Ac (l.upd d v')) w') :
    WL P ops Q (⟨some d, .call { callee := .builtin .append, args := #[s, x], argTypes := #[t, t] }, ty, ps, af, none⟩ :: rest) (Ac l) w := by
  refine o_appR hS he hs hx hv hu hu0 h1 hb h63 fun v' LX' w' h2 h3 => h v' LX' w' ?_ h3
  unfold OwT
  rw [List.length_append, List.flatMap_append]
  exact h2
theorem o_skipU {op : Op} {j : Nat} {want : Bool} {oj : Oper} {t : Tmp} (hj : ops[j]? = some oj) (hd : oj.dst = some t) (hl : nth l t = undef := by (conv => lhs; whnf) <;> exact rfl) (h : WL P ops Q rest (Ac (l.upd d undef)) w) :
    WL P ops Q (⟨some d, op, ty, ps, af, some (j, want)⟩ :: rest) (Ac l) w := by
  have hy : yielded ops (Ac l).tmps j = none := nth_undef hj hd hl
  refine ⟨?_⟩
  unfold wpList
  rw [if_neg (by simp [Region.wanted, hy]), put_ac]
  exact h.out
theorem q_skipU {op : Op} {j : Nat} {want : Bool} {oj : Oper} {t : Tmp} (hj : ops[j]? = some oj) (hd : oj.dst = some t) (hl : nth l t = undef := by (conv => lhs; whnf) <;> exact rfl) (h : WQ P ops C K rest (Ac (l.upd d undef))) :
    WQ P ops C K (⟨some d, op, ty, ps, af, some (j, want)⟩ :: rest) (Ac l) := by
  have hy : yielded ops (Ac l).tmps j = none := nth_undef hj hd hl
  refine ⟨?_⟩
  unfold wpQuiet
  rw [if_neg (by simp [Region.wanted, hy]), put_ac]
  exact h.out
end
section
variable {P : Program} {fn : Func} {W w : World} {g : Frag} {L0 L : Own} {R : Value → Own → Prop} {l : Fm}
end
end Go.Proofs.YtgakgpbmcbegbaaGreatDoor.Fr
