/- Arrays: places told by a number that is not known, values, literals, comparisons. -/
import Derived.Test.YtgakgpbmcbegbaaGreatDoorY
import Derived.ChangeKeysEq
namespace Go.Proofs.YtgakgpbmcbegbaaGreatDoor
open Go
structure A4 (α : Type) where
  x0 : α
  x1 : α
  x2 : α
  x3 : α
structure A5 (α : Type) where
  x0 : α
  x1 : α
  x2 : α
  x3 : α
  x4 : α
def A4.put {α : Type} (a : A4 α) (i : Int) (v : α) : Option (A4 α) :=
  if i = 0 then some ⟨v, a.x1, a.x2, a.x3⟩ else if i = 1 then some ⟨a.x0, v, a.x2, a.x3⟩ else if i = 2 then some ⟨a.x0, a.x1, v, a.x3⟩ else if i = 3 then some ⟨a.x0, a.x1, a.x2, v⟩ else none
theorem A4.put_cases {α : Type} {a b : A4 α} {i : Int} {v : α} (h : a.put i v = some b) :
    (i = 0 ∧ b = ⟨v, a.x1, a.x2, a.x3⟩) ∨ (i = 1 ∧ b = ⟨a.x0, v, a.x2, a.x3⟩) ∨ (i = 2 ∧ b = ⟨a.x0, a.x1, v, a.x3⟩) ∨ (i = 3 ∧ b = ⟨a.x0, a.x1, a.x2, v⟩) := by
  unfold A4.put at h
  split at h
  · rename_i hi; cases h; exact .inl ⟨hi, rfl⟩
  split at h
  · rename_i hi; cases h; exact .inr (.inl ⟨hi, rfl⟩)
  split at h
  · rename_i hi; cases h; exact .inr (.inr (.inl ⟨hi, rfl⟩))
  split at h
  · rename_i hi; cases h; exact .inr (.inr (.inr ⟨hi, rfl⟩))
  · cases h
def A5.put {α : Type} (a : A5 α) (i : Int) (v : α) : Option (A5 α) :=
  if i = 0 then some ⟨v, a.x1, a.x2, a.x3, a.x4⟩ else if i = 1 then some ⟨a.x0, v, a.x2, a.x3, a.x4⟩ else if i = 2 then some ⟨a.x0, a.x1, v, a.x3, a.x4⟩ else if i = 3 then some ⟨a.x0, a.x1, a.x2, v, a.x4⟩ else if i = 4 then some ⟨a.x0, a.x1, a.x2, a.x3, v⟩ else none
theorem A5.put_cases {α : Type} {a b : A5 α} {i : Int} {v : α} (h : a.put i v = some b) :
    (i = 0 ∧ b = ⟨v, a.x1, a.x2, a.x3, a.x4⟩) ∨ (i = 1 ∧ b = ⟨a.x0, v, a.x2, a.x3, a.x4⟩) ∨ (i = 2 ∧ b = ⟨a.x0, a.x1, v, a.x3, a.x4⟩) ∨ (i = 3 ∧ b = ⟨a.x0, a.x1, a.x2, v, a.x4⟩) ∨ (i = 4 ∧ b = ⟨a.x0, a.x1, a.x2, a.x3, v⟩) := by
  unfold A5.put at h
  split at h
  · rename_i hi; cases h; exact .inl ⟨hi, rfl⟩
  split at h
  · rename_i hi; cases h; exact .inr (.inl ⟨hi, rfl⟩)
  split at h
  · rename_i hi; cases h; exact .inr (.inr (.inl ⟨hi, rfl⟩))
  split at h
  · rename_i hi; cases h; exact .inr (.inr (.inr (.inl ⟨hi, rfl⟩)))
  split at h
  · rename_i hi; cases h; exact .inr (.inr (.inr (.inr ⟨hi, rfl⟩)))
  · cases h
theorem at'_bnd {α : Type} {xs : List α} {i : Int} {x : α} {n : Nat} (h : at' xs i = some x) (hn : xs.length = n) : 0 ≤ i ∧ i < n := by
  obtain ⟨hl, _⟩ := at'_lt h
  have := (at'_some h).1
  omega
end Go.Proofs.YtgakgpbmcbegbaaGreatDoor
namespace Go.Proofs.YtgakgpbmcbegbaaGreatDoor.Fr
open Go.RowKit Go.Proofs.YtgakgpbmcbegbaaGreatDoor
set_option linter.unusedVariables false
set_option linter.unusedSimpArgs false
theorem arr_in {α : Type} {enc : α → List Value} {sz : Nat} {xs : List α} {i : Int} {x : α} (hx : at' xs i = some x) (he : ∀ z, (enc z).length = sz) {cl pre post : List Value} {o : Nat} (h : cl = pre ++ (xs.flatMap enc ++ post)) (ho : pre.length = o)
    (j : Nat) (u : Value) (hj : (enc x)[j]? = some u) : cl[o + i.toNat * sz + j]? = some u := by
  subst h ho
  obtain ⟨hl, rfl⟩ := at'_lt hx
  have hjs : j < sz := by have := (List.getElem?_eq_some_iff.1 hj).1; rw [he] at this; exact this
  have hlen : i.toNat * sz + j < (xs.flatMap enc).length := by
    rw [flat_len enc sz he]
    have : (i.toNat + 1) * sz ≤ xs.length * sz := Nat.mul_le_mul_right _ hl
    rw [Nat.succ_mul] at this
    omega
  rw [Nat.add_assoc, List.getElem?_append_right (by omega), Nat.add_sub_cancel_left, List.getElem?_append_left hlen, flat_at enc sz he xs i.toNat hl j hjs]
  exact hj
theorem arr_box {α : Type} {enc : α → List Value} {sz : Nat} {xs : List α} {i : Int} {x : α} (hx : at' xs i = some x) (he : ∀ z, (enc z).length = sz) {cs : Array Value} {pre post : List Value} {o : Nat} (h : cs = (pre ++ (xs.flatMap enc ++ post)).toArray) (ho : pre.length = o)
    (j : Nat) (u : Value) (hj : (enc x)[j]? = some u) : cs[o + i.toNat * sz + j]? = some u := by
  subst h
  rw [List.getElem?_toArray]
  exact arr_in hx he rfl ho j u hj
theorem arr_elt {α : Type} {enc : α → List Value} {sz : Nat} {xs : List α} {i : Int} {x : α} (hx : at' xs i = some x) (he : ∀ z, (enc z).length = sz) {cs : Array Value} {cl pre post : List Value} {o q : Nat} (hc : ∀ j u, cl[j]? = some u → cs[q + j]? = some u) (h : cl = pre ++ (xs.flatMap enc ++ post)) (ho : pre.length = o)
    (j : Nat) (u : Value) (hj : (enc x)[j]? = some u) : cs[q + o + i.toNat * sz + j]? = some u := by
  have := hc _ u (arr_in hx he h ho j u hj)
  rw [← this]
  congr 1
  omega
section
variable {P : Program} {C : World → Prop} {l : Fm} {d : Nat} {ty : TypeId} {ps : String} {af : Array Edge}
theorem run_partA {w : World} {t : TypeId} {ds : TypeDesc} {cs : Array Value} {off : Nat} {pre vs post : List Value} (hu : P.underlying t = some ds) (hd : ds.isRow = true) (hi : (P.info? t).map (·.size) = some vs.length) (h : cs = (pre ++ (vs ++ post)).toArray) (ho : pre.length = off) : (part t cs off).run P w = .ok (.agg vs.toArray) w := by
  subst h ho
  have hagg : (isAgg t).run P w = .ok true w := by
    unfold isAgg
    rw [Sem.run_bind, run_underlying hu w]
    cases ds <;> simp_all [TypeDesc.isRow]
  cases hq : P.info? t with
  | none => simp [hq] at hi
  | some i =>
    have hs : i.size = vs.length := by simpa [hq] using hi
    have e : (pre ++ (vs ++ post)).toArray.extract pre.length (pre.length + vs.length) = vs.toArray := by
      rw [List.extract_toArray, List.extract_eq_take_drop, List.drop_left, Nat.add_sub_cancel_left, List.take_left]
    have hsz : (sizeOf t).run P w = .ok vs.length w := by simp [sizeOf, typeInfo, hq, hs]
    unfold part
    simp only [Sem.run_bind, hagg, Result.andThen_ok, if_true, hsz]
    show Result.ok (Value.agg ((pre ++ (vs ++ post)).toArray.extract pre.length (pre.length + vs.length))) w = _
    rw [e]
theorem y_ixS {α : Type} {enc : α → List Value} {xs : List α} {x y : Operand} {k : IntKind} {i : Int} {z : α} {u : Value} {t e : TypeId} {n : Nat} {ds : TypeDesc} (hz : at' xs i = some z) (he : ∀ z, (enc z).length = 1) (ht : P.underlying t = some (.array n e)) (hn : xs.length = n) (hu : P.underlying e = some ds) (hd : ds.isRow = false) (hi : (P.info? e).map (·.size) = some 1) (hu1 : (enc z)[0]? = some u)
    (hx : ev l x = .agg (xs.flatMap enc).toArray := by (conv => lhs; whnf) <;> exact rfl) (hy : ev l y = .int k i := by (conv => lhs; whnf) <;> exact rfl) : YV P C l ⟨some d, .index t x y, ty, ps, af, none⟩ u := fun w hw => by
  obtain ⟨h0, h1⟩ := at'_bnd hz hn
  cases hq : P.info? e with
  | none => simp [hq] at hi
  | some ti =>
    have hs : ti.size = 1 := by simpa [hq] using hi
    have hc := arr_box (cs := (xs.flatMap enc).toArray) (o := 0) (pre := []) (post := []) hz he (by simp) rfl 0 u hu1
    have hp := run_part1 (P := P) (w := w) (t := e) (cs := (xs.flatMap enc).toArray) (off := i.toNat * ti.size) hu hd (by rw [hs]; simpa using hc)
    have hsz : (sizeOf e).run P w = .ok ti.size w := by simp [sizeOf, typeInfo, hq]
    simp [execOp, hx, hy, Instr.index, asIntOf, run_underlying ht, show 0 ≤ i ∧ i < (n : Int) from ⟨h0, h1⟩, hsz, hp]
theorem y_ixA {α : Type} {enc : α → List Value} {sz : Nat} {xs : List α} {x y : Operand} {k : IntKind} {i : Int} {z : α} {t e : TypeId} {n : Nat} {ds : TypeDesc} (hz : at' xs i = some z) (he : ∀ z, (enc z).length = sz) (ht : P.underlying t = some (.array n e)) (hn : xs.length = n) (hu : P.underlying e = some ds) (hd : ds.isRow = true) (hi : (P.info? e).map (·.size) = some sz)
    (hx : ev l x = .agg (xs.flatMap enc).toArray := by (conv => lhs; whnf) <;> exact rfl) (hy : ev l y = .int k i := by (conv => lhs; whnf) <;> exact rfl) : YV P C l ⟨some d, .index t x y, ty, ps, af, none⟩ (.agg (enc z).toArray) := fun w hw => by
  obtain ⟨h0, h1⟩ := at'_bnd hz hn
  obtain ⟨hl, hzl⟩ := at'_lt hz
  cases hq : P.info? e with
  | none => simp [hq] at hi
  | some ti =>
    have hs : ti.size = sz := by simpa [hq] using hi
    have e1 : xs.flatMap enc = (xs.take i.toNat).flatMap enc ++ (enc z ++ (xs.drop (i.toNat + 1)).flatMap enc) := by
      conv => lhs; rw [← List.take_append_drop i.toNat xs, List.drop_eq_getElem_cons hl, List.flatMap_append, List.flatMap_cons, hzl]
    have hp := run_partA (P := P) (w := w) (t := e) (cs := (xs.flatMap enc).toArray) (off := i.toNat * ti.size) (vs := enc z) hu hd (by rw [he]; exact hi) (congrArg List.toArray e1) (by rw [flat_len enc sz he, List.length_take, Nat.min_eq_left (by omega), hs])
    have hsz : (sizeOf e).run P w = .ok ti.size w := by simp [sizeOf, typeInfo, hq]
    simp [execOp, hx, hy, Instr.index, asIntOf, run_underlying ht, show 0 ≤ i ∧ i < (n : Int) from ⟨h0, h1⟩, hsz, hp]
structure BTA (P : Program) (t : TypeId) (sz : Nat) (zl : List Value) : Prop where
  run : ∀ (parts : Array (Nat × Value)) (w : World), (Instr.build t parts).run P w = match Instr.fill (fun i => some (i * sz, sz)) zl.toArray parts.toList with
    | some cl => .ok (.agg cl) w
    | none => (Instr.build t parts).run P w
theorem BTA.of {t e : TypeId} {n sz : Nat} {zl : List Value} {z : Value} (hz : (P.info? t).map (·.zero) = some (some z)) (hzl : z.cells = zl.toArray) (hu : P.underlying t = some (.array n e)) (hi : (P.info? e).map (·.size) = some sz) : BTA P t sz zl := by
  refine ⟨fun parts w => ?_⟩
  split
  · rename_i cl hcl
    cases hq : P.info? t with
    | none => simp [hq] at hz
    | some i =>
      cases hq2 : P.info? e with
      | none => simp [hq2] at hi
      | some i2 =>
        have h1 : i.zero = some z := by simpa [hq] using hz
        have h2 : i2.size = sz := by simpa [hq2] using hi
        have hz2 : (zeroValue t).run P w = .ok z w := by simp [zeroValue, typeInfo, hq, h1]
        have hs2 : (sizeOf e).run P w = .ok sz w := by simp [sizeOf, typeInfo, hq2, h2]
        rw [Instr.build]
        simp only [Sem.run_bind, hz2, run_underlying hu, Result.andThen_ok, hs2, hzl, hcl, Sem.run_pure]
  · rfl
theorem y_buildA {t : TypeId} {sz : Nat} {zl cl : List Value} {parts : Array (Nat × Operand)} {pv : List (Nat × Value)} (hb : BTA P t sz zl) (hp : parts.toList.map (fun p => (p.1, ev l p.2)) = pv) (hc : Instr.fill (fun i => some (i * sz, sz)) zl.toArray pv = some cl.toArray) : YV P C l ⟨some d, .build t parts, ty, ps, af, none⟩ (.agg cl.toArray) := fun w hw => by
  have h1 := hb.run (parts.map fun p => (p.1, ev l p.2)) w
  have h2 : (parts.map fun p => (p.1, ev l p.2)).toList = pv := by rw [Array.toList_map]; exact hp
  rw [h2, hc] at h1
  simp only [execOp, h1, Sem.run_bind, Sem.run_pure, Result.andThen_ok]
end
section
variable {P : Program} {ops : Array Oper} {Q : Exit → Act → World → Prop} {rest : List Oper} {l : Fm} {w : World} {ty : TypeId} {ps : String} {af : Array Edge}
variable {W : World} {g : Frag} {L0 L : Own}
theorem o_storeAN {dst : Option Tmp} {x y : Operand} {t : TypeId} {b o : Nat} {cl cl' vs : List Value} {e : TypeId} {L' : Own} (hS : St W g L0 L w) (hw : wr cl o vs = cl') (ho : o + vs.length ≤ cl.length)
    (hm : Upd b (blk cl e) (blk cl' e) L L') (hi : (P.info? t).map (·.size) = some vs.length) (h1 : ∀ v ∈ vs, v.oneCell' = true)
    (h : ∀ w', St W g L0 L' w' → WL P ops Q rest ((Ac l).put dst undef) w') (hx : ev l x = .pointer (some ⟨b, o, none⟩) := by (conv => lhs; whnf) <;> exact rfl) (hy : ev l y = .agg vs.toArray := by (conv => lhs; whnf) <;> exact rfl) : WL P ops Q (⟨dst, .store t x y, ty, ps, af, none⟩ :: rest) (Ac l) w := by
  subst hw
  exact o_storeN hS hx hy hm hi h1 ho h
theorem o_storeW {dst : Option Tmp} {x y : Operand} {t : TypeId} {b : Nat} {cl vs : List Value} {e : TypeId} {L' : Own} (hS : St W g L0 L w) (hl : cl.length = vs.length)
    (hm : Upd b (blk cl e) (blk vs e) L L') (hi : (P.info? t).map (·.size) = some vs.length) (h1 : ∀ v ∈ vs, v.oneCell' = true)
    (h : ∀ w', St W g L0 L' w' → WL P ops Q rest ((Ac l).put dst undef) w') (hx : ev l x = .pointer (some ⟨b, 0, none⟩) := by (conv => lhs; whnf) <;> exact rfl) (hy : ev l y = .agg vs.toArray := by (conv => lhs; whnf) <;> exact rfl) : WL P ops Q (⟨dst, .store t x y, ty, ps, af, none⟩ :: rest) (Ac l) w := by
  have e1 : wr cl 0 vs = vs := by
    have := wr_all vs [] cl [] hl
    simpa using this
  exact o_storeN hS hx hy (by rw [e1]; exact hm) hi h1 (by omega) h
theorem o_storeA1 {dst : Option Tmp} {x y : Operand} {t : TypeId} {b o : Nat} {cl cl' : List Value} {v : Value} {e : TypeId} {L' : Own} (hS : St W g L0 L w) (hw : cl.set o v = cl') (ho : o < cl.length)
    (hm : Upd b (blk cl e) (blk cl' e) L L') (hi : (P.info? t).map (·.size) = some 1) (h1 : v.oneCell' = true) (hc : v.cells = #[v])
    (h : ∀ w', St W g L0 L' w' → WL P ops Q rest ((Ac l).put dst undef) w') (hx : ev l x = .pointer (some ⟨b, o, none⟩) := by (conv => lhs; whnf) <;> exact rfl) (hy : ev l y = v := by (conv => lhs; whnf) <;> exact rfl) : WL P ops Q (⟨dst, .store t x y, ty, ps, af, none⟩ :: rest) (Ac l) w := by
  subst hw
  exact o_store hS hx hy hm hi h1 hc ho h
end
end Go.Proofs.YtgakgpbmcbegbaaGreatDoor.Fr
