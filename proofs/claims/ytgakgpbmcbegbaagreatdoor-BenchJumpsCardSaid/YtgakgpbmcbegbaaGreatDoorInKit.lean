/- What comes in, opened: numbers, texts, slices of flat things. -/
import Derived.Test.YtgakgpbmcbegbaaGreatDoorRowKit
import Derived.Test.YtgakgpbmcbegbaaGreatDoorY
import Derived.Deep.Slices
import Derived.ChangeArms
namespace Go.Proofs.YtgakgpbmcbegbaaGreatDoor
open Go Go.RowKit Go.ChangeShapes Go.WideShapes Go.Deep Fr
set_option linter.unusedVariables false
theorem wf_i64 {z : Int} (h : (Lit.int .i64 z).wf = true) : -9223372036854775808 ≤ z ∧ z ≤ 9223372036854775807 := by
  have h1 : IntKind.i64.min = -9223372036854775808 := rfl
  have h2 : IntKind.i64.max = 9223372036854775807 := rfl
  simp only [Lit.wf, Bool.and_eq_true, decide_eq_true_eq] at h
  omega
theorem wf_u32 {z : Int} (h : (Lit.int .u32 z).wf = true) : 0 ≤ z ∧ z ≤ 4294967295 := by
  have h1 : IntKind.u32.min = 0 := rfl
  have h2 : IntKind.u32.max = 4294967295 := rfl
  simp only [Lit.wf, Bool.and_eq_true, decide_eq_true_eq] at h
  omega
section
variable {H : Type} {P : Program}
theorem str_reach {P : Program} {t : TypeId} {s : ByteArray} {y : DataW H × List MemPlace} (hy : y = (.lit (.string s.data.toList), [])) (hw : (y.1.weights P t).all (· ≤ reachBytes) = true) : s.size ≤ 140737488351232 := by
  subst hy
  have : s.data.toList.length ≤ reachBytes := by simpa [DataW.weights] using hw
  have h2 : reachBytes = 140737488351232 := by decide
  rw [h2] at this
  simpa using this
theorem weights_agg {t : TypeId} {fs : Array Field} {ds : List (DataW H)} {p : List MemPlace} (hu : P.underlying t = some (.struct fs)) (hw : (((DataW.agg ds, p) : DataW H × List MemPlace).1.weights P t).all (· ≤ reachBytes) = true) (j : Nat) (f : Field) (d : DataW H) (hf : fs.toList[j]? = some f) (hd : ds[j]? = some d) : (d.weights P f.type).all (· ≤ reachBytes) = true := by
  refine List.all_eq_true.2 fun n hn => ?_
  refine List.all_eq_true.1 hw n ?_
  simp only [DataW.weights, hu]
  exact DataW.weights_mem_each (j := j) (by simp [hf]) hd n hn
theorem weights_first {t : TypeId} {ts : List TypeId} {d : DataW H} {ds : List (DataW H)} (h : (DataW.weightsEach P (t :: ts) (d :: ds)).all (· ≤ reachBytes) = true) : (d.weights P t).all (· ≤ reachBytes) = true := by
  refine List.all_eq_true.2 fun n hn => List.all_eq_true.1 h n ?_
  simp only [DataW.weightsEach, List.mem_append]
  exact .inl hn
theorem weightsAll_mem {e : TypeId} : ∀ {ds : List (DataW H)} {d : DataW H}, d ∈ ds → ∀ n ∈ d.weights P e, n ∈ DataW.weightsAll P e ds
  | _ :: _, _, hd, n, hn => by
    rcases List.mem_cons.1 hd with rfl | hd
    · simp only [DataW.weightsAll, List.mem_append]; exact .inl hn
    · simp only [DataW.weightsAll, List.mem_append]; exact .inr (weightsAll_mem hd n hn)
theorem pick_list {α : Type} {p : Nat → α → Prop} : ∀ {n : Nat}, (∀ i, i < n → ∃ x, p i x) → ∃ xs : List α, xs.length = n ∧ ∀ i x, xs[i]? = some x → p i x
  | 0, _ => ⟨[], rfl, fun i x h => by simp at h⟩
  | n + 1, h => by
    obtain ⟨xs, h1, h2⟩ := pick_list (n := n) fun i hi => h i (by omega)
    obtain ⟨x, hx⟩ := h n (by omega)
    refine ⟨xs ++ [x], by simp [h1], fun i y hy => ?_⟩
    rcases Nat.lt_or_ge i n with hi | hi
    · rw [List.getElem?_append_left (by omega)] at hy
      exact h2 i y hy
    · rw [List.getElem?_append_right (by omega), h1] at hy
      have h3 : i - n = 0 := by
        rcases Nat.eq_zero_or_pos (i - n) with h | h
        · exact h
        · rw [List.getElem?_eq_none (by simp; omega)] at hy; cases hy
      rw [h3] at hy
      have : i = n := by omega
      subst this
      simp at hy
      subst hy
      exact hx
end
theorem slice_in {H : Type} {enc : TypeId × Value → H} {P : Program} {W : World} {held : Bool} {α : Type} {encα : α → List Value} {sz : Nat} {t e : TypeId} {Wf : α → Prop} (ht : P.underlying t = some (.slice e)) (hc : P.cellsOf e = sz) (hsz : 0 < sz) (hlen : ∀ z, (encα z).length = sz)
    (hel : ∀ (n : Nat) (cs : List Value) (y : DataW H × List MemPlace), DataW.trod enc P W 0 (fun _ => true) held n e cs = some y → (y.1.weights P e).all (· ≤ reachBytes) = true → ∃ x, cs = encα x ∧ Wf x)
    {n : Nat} {v : Value} {y : DataW H × List MemPlace} (h : DataW.trod enc P W 0 (fun _ => true) held n t [v] = some y) (hw : (y.1.weights P t).all (· ≤ reachBytes) = true) :
    ∃ xs : List α, SlT (all W) encα sz xs v ∧ xs.length * P.bytesOf e ≤ 140737488351232 ∧ ∀ x ∈ xs, Wf x := by
  rcases open_slice ht h with ⟨hcs, _⟩ | ⟨a, len, cap, m, k, D, Pl, hcs, _, hl, _, hm, rfl, hx⟩
  · obtain rfl : v = .slice none 0 0 := by simpa using hcs
    exact ⟨[], SlR.nil _ _, by simp, by simp⟩
  · obtain rfl : v = .slice (some a) len cap := by simpa using hcs
    simp only [if_true] at hm
    have hw1 : ∀ i, i < len → ((D i).weights P e).all (· ≤ reachBytes) = true := fun i hi => by
      refine List.all_eq_true.2 fun w hwm => List.all_eq_true.1 hw w ?_
      simp only [DataW.weights, ht]
      refine List.mem_cons_of_mem _ (List.mem_append_left _ (weightsAll_mem (List.mem_map.2 ⟨i, List.mem_range.2 hi, rfl⟩) w hwm))
    have hb : ((List.range len).map D).length * P.bytesOf e ≤ 140737488351232 := by
      have h2 := List.all_eq_true.1 hw ((((List.range len).map D).length + ((List.range (m - len)).map fun j => D (len + j)).length) * P.bytesOf e) (by simp only [DataW.weights, ht]; exact List.mem_cons_self)
      have h3 : reachBytes = 140737488351232 := by decide
      have h4 : (((List.range len).map D).length + ((List.range (m - len)).map fun j => D (len + j)).length) * P.bytesOf e ≤ reachBytes := by simpa using h2
      rw [h3] at h4
      exact Nat.le_trans (Nat.mul_le_mul_right _ (Nat.le_add_right _ _)) h4
    obtain ⟨xs, hxl, hxs⟩ := pick_list (n := len) (p := fun i x => W.cells? 0 (a.add (i * sz)) sz = some (encα x) ∧ Wf x) fun i hi => by
      obtain ⟨cs', h1, h2⟩ := hx i (by omega)
      obtain ⟨x, rfl, hwf⟩ := hel _ _ _ h2 (hw1 i hi)
      rw [hc] at h1
      exact ⟨x, h1, hwf⟩
    refine ⟨xs, ?_, by rw [hxl]; simpa using hb, fun x hx => ?_⟩
    · unfold SlT
      rw [hxl]
      refine SlR.of_cells (by rw [flat_len encα sz hlen, hxl]) hl hsz fun j u hj => ?_
      have hjl : j < xs.length * sz := by
        have := (List.getElem?_eq_some_iff.1 hj).1
        rwa [flat_len encα sz hlen] at this
      have hi : j / sz < xs.length := Nat.div_lt_of_lt_mul (by rw [Nat.mul_comm]; exact hjl)
      have hr : j % sz < sz := Nat.mod_lt _ hsz
      have hj2 : j = j / sz * sz + j % sz := (Nat.div_add_mod' j sz).symm
      have h1 := flat_at encα sz hlen xs (j / sz) hi (j % sz) hr
      rw [← hj2, hj] at h1
      obtain ⟨h2, _⟩ := hxs (j / sz) _ (List.getElem?_eq_getElem hi)
      obtain ⟨_, _, h3⟩ := World.cells?_some h2
      have h4 := h3 (j % sz) hr
      rw [← h1] at h4
      rw [hj2]
      have e1 : (a.add (j / sz * sz)).add (j % sz) = a.add (j / sz * sz + j % sz) := Addr.add_add a _ _
      rw [← e1]
      exact h4
    · obtain ⟨i, hi⟩ := List.mem_iff_getElem?.1 hx
      exact (hxs i x hi).2
end Go.Proofs.YtgakgpbmcbegbaaGreatDoor
