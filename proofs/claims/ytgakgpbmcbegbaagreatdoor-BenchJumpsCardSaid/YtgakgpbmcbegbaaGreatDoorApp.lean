/- Slices of the call's own: built, appended to; results; the body; loops. -/
import Derived.Test.YtgakgpbmcbegbaaGreatDoorMem
import Derived.LoopTactic
namespace Go.Proofs.YtgakgpbmcbegbaaGreatDoor.Fr
open Go.RowKit
structure El (P : Program) (t e sz by_ : Nat) : Prop where
  und : P.underlying t = some (.slice e)
  inf : ∃ i z, P.info? e = some i ∧ i.zero = some z ∧ i.size = sz ∧ i.bytes = by_ ∧ z.cells.size = sz
theorem El.of {P : Program} {t e sz by_ : Nat} {i : TypeInfo} {z : Value} (h : P.underlying t = some (.slice e)) (h1 : P.info? e = some i) (h2 : i.zero = some z) (h3 : i.size = sz) (h4 : i.bytes = by_) (h5 : z.cells.size = sz) : El P t e sz by_ := ⟨h, i, z, h1, h2, h3, h4, h5⟩
theorem El.mk' {P : Program} {t e sz by_ : Nat} {z : Value} (h : P.underlying t = some (.slice e)) (h1 : (P.info? e).map (fun i => (i.zero, i.size, i.bytes)) = some (some z, sz, by_)) (h5 : z.cells.size = sz) : El P t e sz by_ := by
  cases hq : P.info? e with
  | none => simp [hq] at h1
  | some i =>
    simp only [hq, Option.map_some, Option.some.injEq, Prod.mk.injEq] at h1
    exact ⟨h, i, z, hq, h1.1, h1.2.1, h1.2.2, h5⟩
theorem El.size {P : Program} {t e sz by_ : Nat} (h : El P t e sz by_) : (P.info? e).map (·.size) = some sz := by
  obtain ⟨_, i, z, h1, _, h3, _⟩ := h
  simp [h1, h3]
def SlO (e sz n : Nat) (xs : List Value) (v : Value) (LX : Own) : Prop :=
  (v = .slice none 0 0 ∧ n = 0 ∧ xs = [] ∧ LX = []) ∨
  ∃ b c cl, v = .slice (some ⟨b, 0, none⟩) n c ∧ LX = [(b, blk cl e)] ∧ n ≤ c ∧ c ≤ maxLen ∧ cl.length = c * sz ∧ xs.length = n * sz ∧ cl.take (n * sz) = xs
theorem SlO.nil (e sz : Nat) : SlO e sz 0 [] (.slice none 0 0) [] := .inl ⟨rfl, rfl, rfl, rfl⟩
theorem SlO.len {e sz n : Nat} {xs : List Value} {v : Value} {LX : Own} (h : SlO e sz n xs v LX) : xs.length = n * sz := by
  rcases h with ⟨_, rfl, rfl, _⟩ | ⟨_, _, _, _, _, _, _, _, h, _⟩
  · simp
  · exact h
theorem SlO.slice {e sz n : Nat} {xs : List Value} {v : Value} {LX : Own} (h : SlO e sz n xs v LX) : ∃ A c, v = .slice A n c ∧ n ≤ c := by
  rcases h with ⟨rfl, rfl, _, _⟩ | ⟨b, c, _, rfl, _, h, _⟩
  · exact ⟨_, _, rfl, Nat.le_refl _⟩
  · exact ⟨_, _, rfl, h⟩
section
variable {P : Program} {ops : Array Oper} {Q : Exit → Act → World → Prop} {rest : List Oper} {l : Fm} {w : World} {d : Nat} {ty : TypeId} {ps : String} {af : Array Edge}
variable {W : World} {g : Frag} {L0 L : Own}
theorem St.swapHead {b b' : Nat} {o o' : Obj} {L : Own} {w' : World} (hS : St W g L0 ((b, o) :: L) w)
    (h1 : w'.os = w.os) (h2 : w'.tape = w.tape) (h3 : w'.output = w.output) (h4 : w.heap.size ≤ w'.heap.size) (h5 : ∀ k, k < w.heap.size → w'.heap[k]? = w.heap[k]?) (h6 : w'.heap[b']? = some o') (h7 : w.heap.size ≤ b') : St W g L0 ((b', o') :: L) w' :=
  (hS.drop (List.sublist_cons_self (b, o) L)).grow h1 h2 h3 h4 h5 h6 h7
theorem zeroCells_toList (z : Array Value) (n : Nat) : ∃ zl, Builtin.zeroCells z n = List.toArray zl ∧ zl.length = n * z.size :=
  ⟨(Builtin.zeroCells z n).toList, by simp, by simp [Builtin.zeroCells]⟩
theorem run_append {t e sz by_ ty : Nat} (he : El P t e sz by_) {n m c : Nat} {xs news : List Value} {v : Value} {LX Lr : Own} {A : Option Addr} (hv : SlO e sz n xs v LX) (hS : St W g L0 (LX ++ Lr) w)
    (hl : news.length = m * sz) (hnews : m = 0 ∨ ∃ b o, A = some ⟨b, o, none⟩ ∧ ∀ j u, news[j]? = some u → w.cell? ⟨b, o + j, none⟩ = some u) (hA : A = none → c = 0 ∧ m = 0) (h1 : ∀ u ∈ news, u.oneCell' = true)
    (hb : (n + m) * by_ ≤ 140737488355328) (h63 : n + m ≤ maxLen) :
    ∃ v' LX' w', (Builtin.append_ #[t, t] ty #[v, .slice A m c]).run P w = .ok v' w' ∧ SlO e sz (n + m) (xs ++ news) v' LX' ∧ St W g L0 (LX' ++ Lr) w' := by
  obtain ⟨hu, i, z, hi, hz, rfl, rfl, hzs⟩ := he
  have hsmall : n + m ≤ 9223372036854775807 := by simp only [maxLen] at h63; omega
  by_cases hm : m = 0
  · subst hm
    have hn : news = [] := List.eq_nil_of_length_eq_zero (by simpa using hl)
    subst hn
    refine ⟨v, LX, w, ?_, by simpa using hv, hS⟩
    have hf : (Builtin.firstCells i.size 0 (.slice A 0 c)).run P w = .ok #[] w := by
      cases A with
      | none => simp [Builtin.firstCells]
      | some a => simp [Builtin.firstCells, loadCells, loadCellsFrom]
    rcases hv with ⟨rfl, rfl, rfl, rfl⟩ | ⟨b, cp, cl, rfl, rfl, h2, h3, h4, h5, h6⟩
    · simp [Builtin.append_, run_underlying hu, sizeOf, typeInfo, hi, Builtin.lenOf, hf]
    · simp [Builtin.append_, run_underlying hu, sizeOf, typeInfo, hi, Builtin.lenOf, hf, h2, storeCells]
  · obtain ⟨b0, o0, rfl, hnw⟩ := hnews.resolve_left hm
    have hnews' : ∀ j u, news[j]? = some u → w.cell? ((⟨b0, o0, none⟩ : Addr).add j) = some u := fun j u hj => by rw [Addr.add_mid]; exact hnw j u hj
    rcases hv with ⟨rfl, rfl, rfl, rfl⟩ | ⟨b, cp, cl, rfl, rfl, h2, h3, h4, h5, h6⟩
    · have hr := run_append_nil (P := P) w t ty e i z hu hi hz ⟨b0, o0, none⟩ m c news hl hnews' (by omega) (by omega) (by have := hb; rw [Nat.zero_add] at this; omega)
      have hge := grownCap_ge w m 0 e
      have hcm := grownCap_le_maxLen w m 0 e (by rw [Nat.zero_add] at h63; exact h63)
      obtain ⟨zl, hzl, hzn⟩ := zeroCells_toList z.cells (grownCap w m 0 e - m)
      rw [hzl] at hr
      refine ⟨_, [(w.heap.size, blk (news ++ zl) e)], _, hr, .inr ⟨w.heap.size, grownCap w m 0 e, news ++ zl, by rw [Nat.zero_add], rfl, by omega, hcm, ?_, by simpa using hl, ?_⟩, ?_⟩
      · rw [List.length_append, hl, hzn, hzs, ← Nat.add_mul]
        congr 1
        omega
      · rw [Nat.zero_add, ← hl, List.nil_append]
        exact List.take_left
      · refine hS.grow rfl rfl rfl (by simp) (fun k hk => ?_) ?_ (Nat.le_refl _)
        · exact heap_alloc_old w.drew _ hk
        · have := heap_alloc_new w.drew (Obj.cells (news.toArray ++ zl.toArray) e)
          simpa using this
    · have hown := hS.own (List.mem_append_left Lr (List.mem_singleton.2 rfl) : (b, blk cl e) ∈ [(b, blk cl e)] ++ Lr)
      by_cases hroom : n + m ≤ cp
      · have hfit : n * i.size + news.length ≤ cl.toArray.size := by rw [hl, List.size_toArray, h4, ← Nat.add_mul]; exact Nat.mul_le_mul_right _ hroom
        have hr := run_append_room (P := P) w t ty e i hu hi b n cp cl.toArray hown ⟨b0, o0, none⟩ m c news hl hnews' h1 hroom hfit
        refine ⟨_, [(b, blk (cl.take (n * i.size) ++ news ++ cl.drop (n * i.size + news.length)) e)], _, hr, .inr ⟨b, cp, _, rfl, rfl, hroom, h3, ?_, by rw [List.length_append, h5, hl, Nat.add_mul], ?_⟩, ?_⟩
        · simp only [List.length_append, List.length_take, List.length_drop]
          simp only [List.size_toArray] at hfit
          omega
        · rw [h6]
          exact List.take_left' (by rw [List.length_append, h5, hl, Nat.add_mul])
        · have hu' : Upd b (blk cl e) (blk (cl.take (n * i.size) ++ news ++ cl.drop (n * i.size + news.length)) e) ([(b, blk cl e)] ++ Lr) ([(b, blk (cl.take (n * i.size) ++ news ++ cl.drop (n * i.size + news.length)) e)] ++ Lr) := Upd.here Lr
          have := hS.write (w' := w.setRow b (cl.take (n * i.size) ++ news ++ cl.drop (n * i.size + news.length)).toArray) hu'.mem rfl rfl rfl (by simp [World.setRow]) (fun k _ hk => setRow_other w b k _ hk) (setRow_heap w b _ _ e _ hown)
          rw [hu'.put hS.nd] at this
          simpa using this
      · have holds : ∀ j u, xs[j]? = some u → w.cell? ((⟨b, 0, none⟩ : Addr).add j) = some u := fun j u hj => by
          rw [Addr.add_mid, cell_of_row w b (0 + j) _ e _ hown]
          rw [← h6, List.getElem?_take] at hj
          split at hj
          · simpa using hj
          · cases hj
        have hr := run_append_grow (P := P) w t ty e i z hu hi hz ⟨b, 0, none⟩ n cp xs h5 holds ⟨b0, o0, none⟩ m c news hl hnews' (by omega) (by omega) (growslice_fits (by omega) hb)
        have hge := grownCap_ge w (n + m) cp e
        have hcm := grownCap_le_maxLen w (n + m) cp e h63
        obtain ⟨zl, hzl, hzn⟩ := zeroCells_toList z.cells (grownCap w (n + m) cp e - (n + m))
        rw [hzl] at hr
        refine ⟨_, [(w.heap.size, blk (xs ++ news ++ zl) e)], _, hr, .inr ⟨w.heap.size, _, xs ++ news ++ zl, rfl, rfl, hge, hcm, ?_, by rw [List.length_append, h5, hl, Nat.add_mul], ?_⟩, ?_⟩
        · rw [List.length_append, List.length_append, h5, hl, hzn, hzs, ← Nat.add_mul, ← Nat.add_mul]
          congr 1
          omega
        · exact List.take_left' (by rw [List.length_append, h5, hl, Nat.add_mul])
        · refine hS.swapHead rfl rfl rfl (by simp) (fun k hk => ?_) ?_ (Nat.le_refl _)
          · exact heap_alloc_old w.drew _ hk
          · have := heap_alloc_new w.drew (Obj.cells (xs.toArray ++ news.toArray ++ zl.toArray) e)
            simpa using this
end
end Go.Proofs.YtgakgpbmcbegbaaGreatDoor.Fr
