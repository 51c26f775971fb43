/- More operations: strings by order; bytes of what stands there. -/
import Derived.Test.YtgakgpbmcbegbaaGreatDoorOwnN
import Derived.Lib.SlBytesConst
namespace Go.Proofs.YtgakgpbmcbegbaaGreatDoor
open Go Fr
set_option linter.unusedVariables false
theorem subq {cl vs : List Value} {cs : Array Value} {o k : Nat} (hc : ∀ (j : Nat) (u : Value), cl[j]? = some u → cs[o + j]? = some u) (h : (cl.drop k).take vs.length = vs) (j : Nat) (u : Value) (hj : vs[j]? = some u) : cs[o + k + j]? = some u := by
  rw [Nat.add_assoc]
  refine hc _ _ ?_
  rw [← List.getElem?_drop]
  have hl := (List.getElem?_eq_some_iff.1 hj).1
  rw [← h, List.getElem?_take_of_lt hl] at hj
  exact hj
theorem inn_room {vs cl : List Value} {o : Nat} (h : ∀ (j : Nat) (u : Value), vs[j]? = some u → cl.toArray[o + j]? = some u) (hn : 0 < vs.length) : o + vs.length ≤ cl.length := by
  have h1 := h (vs.length - 1) vs[vs.length - 1] (List.getElem?_eq_getElem (by omega))
  rw [List.getElem?_toArray] at h1
  have := (List.getElem?_eq_some_iff.1 h1).1
  omega
theorem wr_get : ∀ (vs cl : List Value) (o j : Nat), o + vs.length ≤ cl.length → (wr cl o vs)[j]? = if o ≤ j ∧ j < o + vs.length then vs[j - o]? else cl[j]?
  | [], cl, o, j, _ => by rw [if_neg (by simp)]; rfl
  | v :: r, cl, o, j, h => by
    simp only [List.length_cons] at h
    have ih := wr_get r (cl.set o v) (o + 1) j (by rw [List.length_set]; omega)
    rw [wr, ih]
    by_cases h1 : j = o
    · subst h1
      rw [if_neg (by omega), if_pos (by simp), List.getElem?_set_self (by omega), Nat.sub_self]; rfl
    · by_cases h2 : o + 1 ≤ j ∧ j < o + 1 + r.length
      · rw [if_pos h2, if_pos (by simp only [List.length_cons]; omega), show j - o = (j - (o + 1)) + 1 by omega, List.getElem?_cons_succ]
      · rw [if_neg h2, if_neg (by simp only [List.length_cons]; omega), List.getElem?_set_ne (fun h => h1 h.symm)]
theorem inn_eq {vs cl : List Value} {o : Nat} (h : ∀ (j : Nat) (u : Value), vs[j]? = some u → cl.toArray[o + j]? = some u) : wr cl o vs = cl := by
  by_cases hn : 0 < vs.length
  · have hr := inn_room h hn
    refine List.ext_getElem? fun j => ?_
    rw [wr_get _ _ _ _ hr]
    split
    · rename_i hj
      have h1 := h (j - o) vs[j - o] (List.getElem?_eq_getElem (by omega))
      rw [List.getElem?_toArray, show o + (j - o) = j by omega] at h1
      rw [h1, List.getElem?_eq_getElem (by omega)]
    · rfl
  · have : vs = [] := List.eq_nil_of_length_eq_zero (by omega)
    subst this; rfl
theorem inn_at {vs vs0 cl : List Value} {o k : Nat} {u : Value} (h : o + vs0.length ≤ cl.length) (hk : vs[k]? = some u) (hl : vs.length = vs0.length := by rfl) : (wr cl o vs).toArray[o + k]? = some u := by
  have := (List.getElem?_eq_some_iff.1 hk).1
  rw [List.getElem?_toArray, wr_get _ _ _ _ (by omega), if_pos (by omega), Nat.add_sub_cancel_left, hk]
theorem inn_lt {vs vs0 cl : List Value} {o k : Nat} (h : o + vs0.length ≤ cl.length) (hk : k < vs.length) (hl : vs.length = vs0.length := by rfl) : o + k < (wr cl o vs).length := by rw [wr_length]; omega
theorem inn_set {vs vs0 cl : List Value} {o k : Nat} {u : Value} (h : o + vs0.length ≤ cl.length) (hk : k < vs.length) (hl : vs.length = vs0.length := by rfl) : (wr cl o vs).set (o + k) u = wr cl o (vs.set k u) := by
  refine List.ext_getElem? fun j => ?_
  rw [wr_get (vs.set k u) _ _ _ (by rw [List.length_set]; omega), List.length_set]
  by_cases h1 : j = o + k
  · subst h1
    rw [List.getElem?_set_self (by rw [wr_length]; omega), if_pos (by omega), Nat.add_sub_cancel_left, List.getElem?_set_self hk]
  · rw [List.getElem?_set_ne (fun h => h1 h.symm), wr_get _ _ _ _ (by omega)]
    split
    · rw [List.getElem?_set_ne (by omega)]
    · rfl
theorem Fr.OwT.inn {α : Type} {enc : α → List Value} {sz : Nat} {zs zs' : List α} {v : Value} {LX : Own} {e' b k : Nat} {cl vs : List Value} {i : Int} {z z' : α} (hz : at' zs i = some z) (hset : set' zs i z' = some zs') (hv : OwT e' enc sz zs v LX) (hb : LX = [(b, blk cl e')])
    (he : ∀ z, (enc z).length = sz) (hw : wr (enc z) k vs = enc z') (hk : Nat.ble (k + vs.length) sz = true) : ∃ LX', LX' = [(b, blk (wr cl (0 + i.toNat * sz + k) vs) e')] ∧ OwT e' enc sz zs' v LX' := by
  obtain ⟨h0, hl, rfl⟩ := set'_some hset
  obtain ⟨_, hzl⟩ := at'_lt hz
  subst hzl
  obtain ⟨b', c, cl', q1, q2, q3, r, q4⟩ := hv.block he (by omega)
  have hbb := q2.symm.trans hb
  simp only [List.cons.injEq, Prod.mk.injEq, and_true] at hbb
  obtain ⟨rfl, hcl⟩ := hbb
  have hcl' : cl' = cl := by simpa using hcl
  subst hcl'
  have hk := Nat.le_of_ble_eq_true hk
  have hw2 : wr cl' (0 + i.toNat * sz + k) vs = wr cl' (i.toNat * sz) (enc z') := by rw [q4]; exact OwT.part he hl hw hk
  exact ⟨_, rfl, by rw [hw2]; exact hv.set he hl z' hb⟩
section
variable {P : Program} {ops : Array Oper} {Q : Exit → Act → World → Prop} {C : World → Prop} {rest : List Oper} {l : Fm} {w : World} {d : Nat} {ty : TypeId} {ps : String} {af : Array Edge}
variable {W : World} {g : Frag} {L0 L : Own} {α : Type} {enc : α → List Value} {zs : List α} {v : Value}
theorem y_max3 {k : IntKind} {a b c : Int} {x y z : Operand} {ts : Array TypeId} (hx : ev l x = .int k a := by (conv => lhs; whnf) <;> exact rfl) (hy : ev l y = .int k b := by (conv => lhs; whnf) <;> exact rfl) (hz : ev l z = .int k c := by (conv => lhs; whnf) <;> exact rfl) : YV P C l ⟨some d, .call { callee := .builtin .max, args := #[x, y, z], argTypes := ts }, ty, ps, af, none⟩ (.int k (imax (imax a b) c)) := fun w hw => by
  simp only [execOp, resolve, invoke, builtin, List.map_toArray, List.map_cons, List.map_nil, hx, hy, hz, Sem.run_bind, Sem.run_pure, Result.andThen_ok]
  simp only [Builtin.max_, List.foldlM_cons, List.foldlM_nil, Builtin.max2, imax]
  by_cases hab : a < b
  · by_cases hbc : b < c <;> simp [hab, hbc]
  · by_cases hac : a < c <;> simp [hab, hac]
theorem o_convB {x : Operand} {t e : TypeId} {LX : Own} (hS : St W g L0 (LX ++ L) w) (hv : OwT e enc 1 zs v LX) (hz : 0 < zs.length) (hen : ∀ z, (enc z).length = 1) (ht : P.underlying t = some (.slice e)) (he : P.underlying e = some (.int .u8))
    (h : ∀ LY w', SlT (g.plus LY) enc 1 zs v → Fz W g L0 LY → St W (g.plus LY) L0 L w' → WL P ops Q rest (Ac (l.upd d v)) w') (hx : ev l x = v := by (conv => lhs; whnf) <;> exact rfl) :
    WL P ops Q (⟨some d, .convert t t x, ty, ps, af, none⟩ :: rest) (Ac l) w := by
  obtain ⟨b, c, cl, rfl, rfl, hc, r, hr⟩ := hv.block hen hz
  have hown := hS.own (List.mem_append_left L (List.mem_singleton.2 rfl) : (b, blk cl e) ∈ [(b, blk cl e)] ++ L)
  have hlt : b < w.heap.size := (Array.getElem?_eq_some_iff.1 hown).1
  have hsh : w.shape? b = some (e, cl.toArray.size) := by unfold World.shape?; rw [hown]
  have hrun : (execOp (ev l) ⟨some d, .convert t t x, ty, ps, af, none⟩).run P w = .ok (.value (.slice (some ⟨b, 0, none⟩) zs.length c)) (w.freeze ⟨b, cl.toArray.size, none⟩ 1) := by
    simp [execOp, hx, convert, run_underlying ht, run_underlying he, markStringish, hsh]
  refine ⟨wpList_plain rfl fun K hK => ?_⟩
  unfold Oper.wp
  rw [eval_ev, hrun, Oper.upon_value, put_ac]
  have hheap : (w.freeze ⟨b, cl.toArray.size, none⟩ 1).heap = w.heap.modify b (fun | .cells c elem (lo, hi) => .cells c elem (if lo == hi then (cl.toArray.size, cl.toArray.size + 1) else (min lo cl.toArray.size, max hi (cl.toArray.size + 1))) | o => o) := by
    unfold World.freeze; rw [if_neg (by decide)]; rfl
  have hb : (w.freeze ⟨b, cl.toArray.size, none⟩ 1).heap[b]? = some (.cells cl.toArray e (cl.toArray.size, cl.toArray.size + 1)) := by
    rw [hheap, Array.getElem?_modify, if_pos rfl, hown]; rfl
  have hu' : Upd b (blk cl e) (.cells cl.toArray e (cl.toArray.size, cl.toArray.size + 1)) ([(b, blk cl e)] ++ L) ([(b, .cells cl.toArray e (cl.toArray.size, cl.toArray.size + 1))] ++ L) := Upd.here L
  have hw := hS.write (w' := w.freeze ⟨b, cl.toArray.size, none⟩ 1) hu'.mem (by unfold World.freeze; rw [if_neg (by decide)]) (by unfold World.freeze; rw [if_neg (by decide)]) (by unfold World.freeze; rw [if_neg (by decide)]) (by rw [hheap, Array.size_modify]; exact Nat.le_refl _) (fun k _ hk => by rw [hheap, Array.getElem?_modify, if_neg (fun h => hk h.symm)]) hb
  rw [hu'.put hS.nd] at hw
  obtain ⟨hw2, hf⟩ := St.frzA hw
  refine hK _ _ (h [(b, .cells cl.toArray e (cl.toArray.size, cl.toArray.size + 1))] _ ?_ hf hw2).out
  have hg : Frag.plus g [(b, .cells cl.toArray e (cl.toArray.size, cl.toArray.size + 1))] b = some (.cells cl.toArray e (cl.toArray.size, cl.toArray.size + 1)) := by
    simp only [Frag.plus, hf.no b _ (List.mem_singleton.2 rfl)]
    simp [Own.look]
  refine ⟨some ⟨b, 0, none⟩, c, rfl, ⟨hc, fun h => by cases h⟩, flat_len enc 1 hen zs, .inr ⟨b, 0, cl.toArray, e, _, rfl, hg, fun j u hj => ?_⟩⟩
  rw [Nat.zero_add, List.getElem?_toArray, hr, List.getElem?_append_left (List.getElem?_eq_some_iff.1 hj).1, hj]
end
end Go.Proofs.YtgakgpbmcbegbaaGreatDoor
