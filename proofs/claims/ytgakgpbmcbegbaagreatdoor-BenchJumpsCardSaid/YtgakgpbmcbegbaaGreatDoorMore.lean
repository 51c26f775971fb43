/- More rules: least and greatest, parts of slices, slices that were just made. -/
import Derived.Test.YtgakgpbmcbegbaaGreatDoorTyped
import Derived.WalkLawsBesides
namespace Go.Proofs.YtgakgpbmcbegbaaGreatDoor.Fr
open Go.RowKit
set_option linter.unusedVariables false
theorem OwT.made {α : Type} {e n : Nat} {enc : α → List Value} {sz b : Nat} {zs : List α} {cl : List Value} (he : ∀ z, (enc z).length = sz) (hc : cl = zs.flatMap enc) (hn : n = zs.length) (hm : n ≤ maxLen) :
    OwT e enc sz zs (.slice (some ⟨b, 0, none⟩) n n) [(b, blk cl e)] := by
  have hl := flat_len enc sz he zs
  refine .inr ⟨b, n, cl, by rw [hn], rfl, by omega, hm, by rw [hc, hl, hn], hl, ?_⟩
  rw [hc, ← hl]
  exact List.take_length
theorem OwT.taken {α : Type} {e m : Nat} {enc : α → List Value} {sz : Nat} {zs : List α} {b c : Nat} {cl : List Value} (he : ∀ z, (enc z).length = sz) (h : OwT e enc sz zs (.slice (some ⟨b, 0, none⟩) zs.length c) [(b, blk cl e)]) (hm : m ≤ zs.length) :
    OwT e enc sz (zs.take m) (.slice (some ⟨b, 0, none⟩) m c) [(b, blk cl e)] := by
  rcases h with ⟨h, _⟩ | ⟨b', c', cl', h1, h2, h3, h4, h5, h6, h7⟩
  · cases h
  · simp only [Value.slice.injEq, Option.some.injEq, Addr.mk.injEq, and_true, true_and] at h1
    obtain ⟨rfl, rfl⟩ := h1
    have h2' : cl = cl' := by simpa using h2
    subst h2'
    have ht : (zs.take m).length = m := by rw [List.length_take]; omega
    refine .inr ⟨b, c, cl, by rw [ht], rfl, by omega, h4, h5, flat_len enc sz he _, ?_⟩
    rw [ht]
    have e1 : (zs.take m).flatMap enc = (zs.flatMap enc).take (m * sz) := by
      conv => rhs; rw [← List.take_append_drop m zs, List.flatMap_append]
      rw [List.take_left' (by rw [flat_len enc sz he, ht])]
    rw [e1, ← h7, List.take_take, Nat.min_eq_left (Nat.mul_le_mul_right _ hm)]
section
variable {P : Program} {ops : Array Oper} {Q : Exit → Act → World → Prop} {C : World → Prop} {K : Act → Prop} {rest : List Oper} {l : Fm} {w : World} {d : Nat} {ty : TypeId} {ps : String} {af : Array Edge}
variable {W : World} {g : Frag} {L0 L : Own} {α : Type} {enc : α → List Value} {sz : Nat} {zs : List α} {v : Value}
def imin (a b : Int) : Int := if b < a then b else a
def imax (a b : Int) : Int := if a < b then b else a
theorem parts_all (val : α → Value) (hval : ∀ z, (val z).cells = (enc z).toArray) (he : ∀ z, (enc z).length = sz) : ∀ (ys : List α) (k : Nat) (done rest : List Value), done.length = k * sz → rest.length = ys.length * sz →
    parts (fun i => i * sz) (done ++ rest) ((ys.zipIdx k).map fun p => (p.2, val p.1)) = done ++ ys.flatMap enc
  | [], k, done, rest, _, hr => by
    have : rest = [] := List.eq_nil_of_length_eq_zero (by simpa using hr)
    subst this
    simp [parts]
  | y :: ys, k, done, rest, hd, hr => by
    rw [List.zipIdx_cons, List.map_cons, parts]
    simp only [hval]
    have hw := wr_all (enc y) done (rest.take sz) (rest.drop sz) (by rw [List.length_take, he]; rw [hr, List.length_cons, Nat.succ_mul]; omega)
    rw [List.append_assoc, List.take_append_drop, hd] at hw
    rw [hw]
    have := parts_all val hval he ys (k + 1) (done ++ enc y) (rest.drop sz) (by rw [List.length_append, he, hd, Nat.succ_mul]) (by rw [List.length_drop, hr, List.length_cons, Nat.succ_mul]; omega)
    rw [this, List.flatMap_cons, List.append_assoc]
theorem o_buildT {t e by_ n : Nat} {ps' : Array (Nat × Operand)} (val : α → Value) (zs : List α) (hS : St W g L0 L w) (hel : El P t e sz by_) (hval : ∀ z, (val z).cells = (enc z).toArray) (he : ∀ z, (enc z).length = sz) (hn : n * sz ≤ 16777216) (hlen : zs.length = n) (hm : n ≤ maxLen)
    (hp : ps'.toList.map (fun p => (p.1, ev l p.2)) = (zs.zipIdx.map fun p => (p.2, val p.1)))
    (h : ∀ b w', St W g L0 ((b, blk (zs.flatMap enc) e) :: L) w' → OwT e enc sz zs (.slice (some ⟨b, 0, none⟩) n n) [(b, blk (zs.flatMap enc) e)] → WL P ops Q rest (Ac (l.upd d (.slice (some ⟨b, 0, none⟩) n n))) w') :
    WL P ops Q (⟨some d, .buildSlice t n ps', ty, ps, af, none⟩ :: rest) (Ac l) w := by
  obtain ⟨i, z, hi, hz, hs, hb, hzs⟩ := hel.inf
  refine o_buildSlice (pv := zs.zipIdx.map fun p => (p.2, val p.1)) (zl := ((Array.range (n * sz)).map (fun j => z.cells[j % z.cells.size]!)).toList) (cl := zs.flatMap enc) hS hel hn hp (fun i' hi' z' hz' => ?_) ?_ (fun p hp => ?_) (by simp) (fun b w' h' => h b w' h' (OwT.made he rfl hlen.symm hm))
  · rw [hi] at hi'
    obtain rfl := Option.some.inj hi'
    rw [hz] at hz'
    obtain rfl := Option.some.inj hz'
    exact Array.toArray_toList.symm
  · have := parts_all (enc := enc) val hval he zs 0 [] (((Array.range (n * sz)).map (fun j => z.cells[j % z.cells.size]!)).toList) (by simp) (by simp [hlen])
    simpa using this
  · obtain ⟨q, hq, rfl⟩ := List.mem_map.1 hp
    have h1 := List.mem_zipIdx hq
    refine ⟨by simp [hval, he], ?_⟩
    simp only
    omega
theorem o_upto {x y : Operand} {t e e' : TypeId} {k : IntKind} {m : Int} {LX : Own} (hv : OwT e' enc sz zs v LX) (he : ∀ z, (enc z).length = sz) (ht : P.underlying t = some (.slice e)) (hsz : (P.info? e).map (·.size) = some sz) (hm0 : 0 ≤ m) (hm1 : m.toNat ≤ zs.length)
    (hx : ev l x = v := by (conv => lhs; whnf) <;> exact rfl) (hy : ev l y = .int k m := by (conv => lhs; whnf) <;> exact rfl)
    (h : ∀ v', OwT e' enc sz (zs.take m.toNat) v' LX → WL P ops Q rest (Ac (l.upd d v')) w) : WL P ops Q (⟨some d, .slice t x none (some y) none, ty, ps, af, none⟩ :: rest) (Ac l) w := by
  obtain ⟨i, hi, hs⟩ : ∃ i, P.info? e = some i ∧ i.size = sz := by
    cases hq : P.info? e with
    | none => simp [hq] at hsz
    | some i => exact ⟨i, rfl, by simpa [hq] using hsz⟩
  have hcase := hv
  rcases hcase with ⟨rfl, h2, h3, rfl⟩ | ⟨b, c, cl, rfl, rfl, h2, h3, h4, h5, h6⟩
  · have hz : zs = [] := List.eq_nil_of_length_eq_zero h2
    subst hz
    have hm : m = 0 := by simp at hm1; omega
    subst hm
    refine o_val (v := .slice none 0 0) ?_ (h _ (by simpa using hv))
    simp [execOp, hx, hy, Instr.sliceAt, Instr.slice, Instr.sliceBounds, Instr.sliceBound, asIntOf, run_underlying ht, sizeOf, typeInfo, hi]
  · refine o_val (v := .slice (some ⟨b, 0, none⟩) m.toNat c) ?_ (h _ (OwT.taken he hv hm1))
    have hmc : m ≤ (c : Int) := by omega
    simp [execOp, hx, hy, Instr.sliceAt, Instr.slice, Instr.sliceBounds, Instr.sliceBound, asIntOf, run_underlying ht, sizeOf, typeInfo, hi, hm0, hmc, Addr.add]
end
end Go.Proofs.YtgakgpbmcbegbaaGreatDoor.Fr
