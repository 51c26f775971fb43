/- Rules for what is printed: what one owns is rearranged; elements of one's own slices; loops and cuts over plain states; results. -/
import Derived.Test.YtgakgpbmcbegbaaGreatDoorPure
namespace Go.Proofs.YtgakgpbmcbegbaaGreatDoor.Fr
open Go.RowKit
set_option linter.unusedVariables false
inductive Sp : Own → Own → Own → Prop where
  | here (X L : Own) : Sp (X ++ L) X L
  | hereb (p : Nat × Obj) (L : Own) : Sp (p :: L) [p] L
  | there {L X L1 : Own} (Y : Own) : Sp L X L1 → Sp (Y ++ L) X (Y ++ L1)
  | thereb {L X L1 : Own} (p : Nat × Obj) : Sp L X L1 → Sp (p :: L) X (p :: L1)
theorem Sp.d {L X L1 Y : Own} (h : Sp L X L1) : Sp (Y ++ L) X (Y ++ L1) := .there Y h
theorem Sp.e {L X L1 : Own} {p : Nat × Obj} (h : Sp L X L1) : Sp (p :: L) X (p :: L1) := .thereb p h
theorem Sp.perm {L X L1 : Own} (h : Sp L X L1) : L.Perm (X ++ L1) := by
  induction h with
  | here X L => exact List.Perm.refl _
  | hereb p L => exact List.Perm.refl _
  | there Y _ ih =>
    refine (ih.append_left Y).trans ?_
    rw [← List.append_assoc, ← List.append_assoc]
    exact List.perm_append_comm.append_right _
  | thereb p _ ih =>
    refine (ih.cons p).trans ?_
    exact List.perm_middle.symm
inductive Re : Own → Own → Prop where
  | nil (L : Own) : Re L []
  | same (L : Own) : Re L L
  | take {L X L1 L' : Own} : Sp L X L1 → Re L1 L' → Re L (X ++ L')
  | takeb {L L1 L' : Own} {p : Nat × Obj} : Sp L [p] L1 → Re L1 L' → Re L (p :: L')
theorem Re.keep {L L' : Own} (h : Re L L') : ∃ D, L.Perm (L' ++ D) := by
  induction h with
  | nil L => exact ⟨L, List.Perm.refl _⟩
  | same L => exact ⟨[], by rw [List.append_nil]⟩
  | take h _ ih =>
    obtain ⟨D, hD⟩ := ih
    exact ⟨D, by rw [List.append_assoc]; exact h.perm.trans (hD.append_left _)⟩
  | takeb h _ ih =>
    obtain ⟨D, hD⟩ := ih
    exact ⟨D, h.perm.trans (hD.append_left _)⟩
theorem St.re {W w : World} {g : Frag} {L0 L L' : Own} (h : St W g L0 L w) (r : Re L L') : St W g L0 L' w := by
  obtain ⟨D, hD⟩ := r.keep
  exact (h.perm hD).drop (List.sublist_append_left _ _)
theorem Re.s {L : Own} : Re L L := .same _
theorem St.tb {W w : World} {g : Frag} {L0 L : Own} {p : Nat × Obj} (h : St W g L0 (p :: L) w) : St W g L0 L w := h.drop (List.sublist_cons_self _ _)
theorem St.tx {W w : World} {g : Frag} {L0 L X : Own} (h : St W g L0 (X ++ L) w) : St W g L0 L w := h.drop (List.sublist_append_right _ _)
theorem Sp.h {X L : Own} : Sp (X ++ L) X L := .here _ _
theorem Sp.hb {p : Nat × Obj} {L : Own} : Sp (p :: L) [p] L := .hereb _ _
theorem Re.n {L : Own} : Re L [] := .nil _
theorem Re.t {L X L1 L' : Own} (h : Sp L X L1) (r : Re L1 L') : Re L (X ++ L') := .take h r
theorem Re.b {L L1 L' : Own} {p : Nat × Obj} (h : Sp L [p] L1) (r : Re L1 L') : Re L (p :: L') := .takeb h r
theorem St.own_eq {W w : World} {g : Frag} {L0 L L' : Own} (h : St W g L0 L w) (e : L = L') : St W g L0 L' w := e ▸ h
theorem aa {p q r : Own} : p ++ q ++ r = p ++ (q ++ r) := List.append_assoc p q r
theorem ac {p : Nat × Obj} {q r : Own} : (p :: q) ++ r = p :: (q ++ r) := rfl
theorem an {p : Own} : p ++ [] = p := List.append_nil p
theorem al {p : Own} : [] ++ p = p := rfl
inductive Spl : Own → Own → Own → Prop where
  | nil (L : Own) : Spl L [] L
  | cons (p : Nat × Obj) {L LB R : Own} : Spl L LB R → Spl (p :: L) (p :: LB) R
  | app (X : Own) {L LB R : Own} : Spl L LB R → Spl (X ++ L) (X ++ LB) R
theorem Spl.eq {L LB R : Own} (h : Spl L LB R) : L = LB ++ R := by
  induction h with
  | nil L => rfl
  | cons p _ ih => rw [ih]; rfl
  | app X _ ih => rw [ih, List.append_assoc]
theorem St.spl {W w : World} {g : Frag} {L0 L LB R : Own} (h : St W g L0 L w) (hs : Spl L LB R) : St W g L0 (LB ++ R) w := by
  rw [← hs.eq]; exact h
inductive UpdX (X X' : Own) : Own → Own → Prop where
  | here (L : Own) : UpdX X X' (X ++ L) (X' ++ L)
  | there {L L' : Own} (Y : Own) : UpdX X X' L L' → UpdX X X' (Y ++ L) (Y ++ L')
  | thereb {L L' : Own} (p : Nat × Obj) : UpdX X X' L L' → UpdX X X' (p :: L) (p :: L')
theorem UpdX.upd {b : Nat} {o o' : Obj} {L L' : Own} (h : UpdX [(b, o)] [(b, o')] L L') : Upd b o o' L L' := by
  induction h with
  | here L => exact Upd.here L
  | there Y _ ih =>
    induction Y with
    | nil => exact ih
    | cons p Y ihY => exact Upd.there p ihY
  | thereb p _ ih => exact Upd.there p ih
theorem set_flat {α : Type} {enc : α → List Value} {sz : Nat} (he : ∀ z, (enc z).length = sz) (zs : List α) (i : Nat) (hi : i < zs.length) (x : α) (cl rest : List Value) (h : cl = zs.flatMap enc ++ rest) :
    wr cl (i * sz) (enc x) = (zs.set i x).flatMap enc ++ rest := by
  have h1 : zs = zs.take i ++ zs[i] :: zs.drop (i + 1) := by
    rw [List.getElem_cons_drop, List.take_append_drop]
  have h2 : (zs.set i x).flatMap enc = (zs.take i).flatMap enc ++ (enc x ++ (zs.drop (i + 1)).flatMap enc) := by
    rw [List.set_eq_take_append_cons_drop, if_pos hi, List.flatMap_append, List.flatMap_cons]
  have h3 : zs.flatMap enc = (zs.take i).flatMap enc ++ (enc zs[i] ++ (zs.drop (i + 1)).flatMap enc) := by
    conv => lhs; rw [h1]
    rw [List.flatMap_append, List.flatMap_cons]
  have hl : ((zs.take i).flatMap enc).length = i * sz := by
    rw [flat_len enc sz he, List.length_take, Nat.min_eq_left (Nat.le_of_lt hi)]
  have := wr_all (enc x) ((zs.take i).flatMap enc) (enc zs[i]) ((zs.drop (i + 1)).flatMap enc ++ rest) (by rw [he, he])
  rw [hl] at this
  rw [h, h3, h2]
  simp only [List.append_assoc] at this ⊢
  exact this
theorem OwT.block {α : Type} {e : Nat} {enc : α → List Value} {sz : Nat} {zs : List α} {v : Value} {LX : Own} (he : ∀ z, (enc z).length = sz) (h : OwT e enc sz zs v LX) (h0 : 0 < zs.length) :
    ∃ b c cl, v = .slice (some ⟨b, 0, none⟩) zs.length c ∧ LX = [(b, blk cl e)] ∧ zs.length ≤ c ∧ ∃ rest, cl = zs.flatMap enc ++ rest := by
  rcases h with ⟨_, h, _⟩ | ⟨b, c, cl, h1, h2, h3, h4, h5, h6, h7⟩
  · omega
  · refine ⟨b, c, cl, h1, h2, h3, cl.drop (zs.length * sz), ?_⟩
    rw [← h7, List.take_append_drop]
theorem OwT.set {α : Type} {e : Nat} {enc : α → List Value} {sz : Nat} {zs : List α} {v : Value} {LX : Own} (he : ∀ z, (enc z).length = sz) (h : OwT e enc sz zs v LX) {i : Nat} (hi : i < zs.length) (x : α) {b : Nat} {cl : List Value} (hb : LX = [(b, blk cl e)]) :
    OwT e enc sz (zs.set i x) v [(b, blk (wr cl (i * sz) (enc x)) e)] := by
  rcases h with ⟨_, h, _⟩ | ⟨b', c, cl', h1, h2, h3, h4, h5, h6, h7⟩
  · omega
  · rw [h2] at hb
    simp only [List.cons.injEq, Prod.mk.injEq, and_true, Obj.cells.injEq] at hb
    obtain ⟨rfl, rfl⟩ : b' = b ∧ cl' = cl := by simpa using hb
    have hc : cl' = zs.flatMap enc ++ cl'.drop (zs.length * sz) := by rw [← h7, List.take_append_drop]
    have hw := set_flat he zs i hi x cl' _ hc
    have hl := flat_len enc sz he (zs.set i x)
    refine .inr ⟨b', c, wr cl' (i * sz) (enc x), ?_, rfl, by rw [List.length_set]; exact h3, h4, by rw [wr_length]; exact h5, hl, ?_⟩
    · rw [List.length_set]; exact h1
    · rw [hw, List.take_left' hl]
theorem made_flat (z : Array Value) (l : List Value) (hz : z.toList = l) (n : Nat) (α : Type) (x : α) (enc : α → List Value) (he : enc x = l) : (madeCells z (n * z.size)).toList = (List.replicate n x).flatMap enc := by
  subst hz
  have hl : (List.replicate n x).flatMap enc = (List.replicate n z.toList).flatten := by
    rw [List.flatMap_def, List.map_replicate, he]
  rw [hl]
  refine List.ext_getElem? fun j => ?_
  simp only [madeCells, Array.toList_map, Array.toList_range, List.getElem?_map]
  by_cases hj : j < n * z.size
  · rw [List.getElem?_range hj]
    have hz0 : 0 < z.size := by
      rcases Nat.eq_zero_or_pos z.size with h | h
      · rw [h] at hj; simp at hj
      · exact h
    have hq : j / z.size < n := Nat.div_lt_of_lt_mul (by rw [Nat.mul_comm]; exact hj)
    have h2 := flat_at (fun _ : Unit => z.toList) z.size (by simp) (List.replicate n ()) (j / z.size) (by simpa using hq) (j % z.size) (Nat.mod_lt _ hz0)
    have h3 : (List.replicate n ()).flatMap (fun _ : Unit => z.toList) = (List.replicate n z.toList).flatten := by
      rw [List.flatMap_def, List.map_replicate]
    rw [h3, show j / z.size * z.size + j % z.size = j from Nat.div_add_mod' j z.size] at h2
    rw [h2]
    have hm := Nat.mod_lt j hz0
    simp [hm]
  · rw [List.getElem?_eq_none (by simpa using hj), List.getElem?_eq_none (by simpa using hj)]
    rfl
section
variable {P : Program} {ops : Array Oper} {Q : Exit → Act → World → Prop} {C : World → Prop} {K : Act → Prop} {rest : List Oper} {l : Fm} {w : World} {d : Nat} {ty : TypeId} {ps : String} {af : Array Edge}
variable {W : World} {g : Frag} {L0 L : Own} {α : Type} {enc : α → List Value} {sz : Nat} {zs : List α} {v : Value}
theorem own_cells {e' : Nat} {LX : Own} {i : Int} {z : α} (hv : OwT e' enc sz zs v LX) (he : ∀ z, (enc z).length = sz) (hi : at' zs i = some z) :
    ∃ b c cl, v = .slice (some ⟨b, 0, none⟩) zs.length c ∧ LX = [(b, blk cl e')] ∧ ∀ j u, (enc z)[j]? = some u → cl.toArray[0 + i.toNat * sz + j]? = some u := by
  obtain ⟨hl, rfl⟩ := at'_lt hi
  obtain ⟨b, c, cl, h1, h2, h3, r, h4⟩ := hv.block he (by omega)
  refine ⟨b, c, cl, h1, h2, fun j u hj => ?_⟩
  have hlt : j < sz := by
    have := (List.getElem?_eq_some_iff.1 hj).1
    rwa [he] at this
  have h5 := flat_at enc sz he zs i.toNat hl j hlt
  rw [hj] at h5
  have h6 := (List.getElem?_eq_some_iff.1 h5).1
  rw [h4, Nat.zero_add, List.getElem?_toArray, List.getElem?_append_left h6, h5]
theorem wr_one (cl : List Value) (o : Nat) (u : Value) : wr cl o [u] = cl.set o u := rfl
theorem o_storeO {dst : Option Tmp} {x y : Operand} {t : TypeId} {e' b : Nat} {LX : Own} {L' : Own → Own} {cl : List Value} {i : Int} {z : α} {zs' : List α} {u : Value} (hset : set' zs i z = some zs') (hS : St W g L0 L w) (hv : OwT e' enc 1 zs v LX) (hb : LX = [(b, blk cl e')])
    (hm : ∀ X, UpdX LX X L (L' X)) (he : ∀ z, (enc z).length = 1) (hz : enc z = [u]) (hi : (P.info? t).map (·.size) = some 1) (h1 : u.oneCell' = true) (hc : u.cells = #[u])
    (h : ∀ LX' w', OwT e' enc 1 zs' v LX' → St W g L0 (L' LX') w' → WL P ops Q rest ((Ac l).put dst undef) w')
    (hx : ev l x = .pointer (some ⟨b, 0 + i.toNat * 1, none⟩) := by (conv => lhs; whnf) <;> exact rfl) (hy : ev l y = u := by (conv => lhs; whnf) <;> exact rfl) :
    WL P ops Q (⟨dst, .store t x y, ty, ps, af, none⟩ :: rest) (Ac l) w := by
  obtain ⟨h0, hl, rfl⟩ := set'_some hset
  obtain ⟨b', c, cl', q1, q2, q3, r, q4⟩ := hv.block he (by omega)
  have hbb := q2.symm.trans hb
  simp only [List.cons.injEq, Prod.mk.injEq, and_true] at hbb
  obtain ⟨rfl, hcl⟩ := hbb
  have hcl' : cl' = cl := by simpa using hcl
  subst hcl'
  have hlen : 0 + i.toNat * 1 < cl'.length := by
    rw [q4, List.length_append, flat_len enc 1 he]; omega
  have hw : cl'.set (0 + i.toNat * 1) u = wr cl' (i.toNat * 1) (enc z) := by rw [hz, wr_one, Nat.zero_add]
  refine o_store (L' := L' [(b', blk (wr cl' (i.toNat * 1) (enc z)) e')]) hS hx hy (by rw [hw]; have := hm [(b', blk (wr cl' (i.toNat * 1) (enc z)) e')]; rw [q2] at this; exact this.upd) hi h1 hc hlen (fun w' h' => h _ w' (hv.set he hl z hb) h')
theorem wr_mid : ∀ (vs A M B : List Value) (k : Nat), k + vs.length ≤ M.length → wr (A ++ M ++ B) (A.length + k) vs = A ++ wr M k vs ++ B
  | [], _, _, _, _, _ => rfl
  | v :: r, A, M, B, k, h => by
    simp only [List.length_cons] at h
    have e : (A ++ M ++ B).set (A.length + k) v = A ++ M.set k v ++ B := by
      rw [List.append_assoc, List.set_append_right _ _ (by omega), Nat.add_sub_cancel_left, List.set_append_left _ _ (by omega), List.append_assoc]
    rw [wr, e, wr, Nat.add_assoc, wr_mid r A (M.set k v) B (k + 1) (by rw [List.length_set]; omega)]
theorem OwT.part {α : Type} {enc : α → List Value} {sz : Nat} {zs : List α} {r : List Value} (he : ∀ z, (enc z).length = sz) {i : Nat} (hl : i < zs.length) {z' : α} {vs : List Value} {k : Nat} (hw : wr (enc zs[i]) k vs = enc z') (hk : k + vs.length ≤ sz) :
    wr (zs.flatMap enc ++ r) (0 + i * sz + k) vs = wr (zs.flatMap enc ++ r) (i * sz) (enc z') := by
  have e1 : zs.flatMap enc ++ r = (zs.take i).flatMap enc ++ enc zs[i] ++ ((zs.drop (i + 1)).flatMap enc ++ r) := by
    have : zs.flatMap enc = (zs.take i).flatMap enc ++ (enc zs[i] ++ (zs.drop (i + 1)).flatMap enc) := by
      conv => lhs; rw [← List.take_append_drop i zs, List.drop_eq_getElem_cons hl, List.flatMap_append, List.flatMap_cons]
    rw [this]; simp only [List.append_assoc]
  have hA : ((zs.take i).flatMap enc).length = i * sz := by rw [flat_len enc sz he, List.length_take, Nat.min_eq_left (by omega)]
  rw [e1, Nat.zero_add, ← hA, wr_mid _ _ _ _ _ (by rw [he]; exact hk), wr_all _ _ _ _ (by rw [he, he]), hw]
theorem o_storeOP {dst : Option Tmp} {x y : Operand} {t : TypeId} {e' b k : Nat} {LX : Own} {L' : Own → Own} {cl vs : List Value} {i : Int} {z z' : α} {zs' : List α} (hz : at' zs i = some z) (hset : set' zs i z' = some zs') (hS : St W g L0 L w) (hv : OwT e' enc sz zs v LX) (hb : LX = [(b, blk cl e')])
    (hm : ∀ X, UpdX LX X L (L' X)) (he : ∀ z, (enc z).length = sz) (hw : wr (enc z) k vs = enc z') (hk : Nat.ble (k + vs.length) sz = true) (hi : (P.info? t).map (·.size) = some vs.length) (h1 : ∀ u ∈ vs, u.oneCell' = true)
    (h : ∀ LX' w', OwT e' enc sz zs' v LX' → St W g L0 (L' LX') w' → WL P ops Q rest ((Ac l).put dst undef) w')
    (hx : ev l x = .pointer (some ⟨b, 0 + i.toNat * sz + k, none⟩) := by (conv => lhs; whnf) <;> exact rfl) (hy : ev l y = .agg vs.toArray := by (conv => lhs; whnf) <;> exact rfl) :
    WL P ops Q (⟨dst, .store t x y, ty, ps, af, none⟩ :: rest) (Ac l) w := by
  obtain ⟨h0, hl, rfl⟩ := set'_some hset
  obtain ⟨_, hzl⟩ := at'_lt hz
  subst hzl
  obtain ⟨b', c, cl', q1, q2, q3, r, q4⟩ := hv.block he (by omega)
  have hbb := q2.symm.trans hb
  simp only [List.cons.injEq, Prod.mk.injEq, and_true] at hbb
  obtain ⟨rfl, hcl⟩ := hbb
  have hcl' : cl' = cl := by simpa using hcl
  subst hcl'
  have hk := Nat.le_of_ble_eq_true hk
  have hlen : 0 + i.toNat * sz + k + vs.length ≤ cl'.length := by
    rw [q4, List.length_append, flat_len enc sz he, Nat.zero_add]
    have := Nat.mul_le_mul_right sz (show i.toNat + 1 ≤ zs.length from hl)
    rw [Nat.succ_mul] at this
    omega
  have hw2 : wr cl' (0 + i.toNat * sz + k) vs = wr cl' (i.toNat * sz) (enc z') := by rw [q4]; exact OwT.part he hl hw hk
  refine o_storeN (L' := L' [(b', blk (wr cl' (i.toNat * sz) (enc z')) e')]) hS hx hy (by rw [hw2]; have := hm [(b', blk (wr cl' (i.toNat * sz) (enc z')) e')]; rw [q2] at this; exact this.upd) hi h1 hlen (fun w' h' => h _ w' (hv.set he hl z' hb) h')
theorem o_storeOP1 {dst : Option Tmp} {x y : Operand} {t : TypeId} {e' b k : Nat} {LX : Own} {L' : Own → Own} {cl : List Value} {u : Value} {i : Int} {z z' : α} {zs' : List α} (hz : at' zs i = some z) (hset : set' zs i z' = some zs') (hS : St W g L0 L w) (hv : OwT e' enc sz zs v LX) (hb : LX = [(b, blk cl e')])
    (hm : ∀ X, UpdX LX X L (L' X)) (he : ∀ z, (enc z).length = sz) (hw : wr (enc z) k [u] = enc z') (hk : Nat.ble (k + 1) sz = true) (hi : (P.info? t).map (·.size) = some 1) (h1 : u.oneCell' = true) (hc : u.cells = #[u])
    (h : ∀ LX' w', OwT e' enc sz zs' v LX' → St W g L0 (L' LX') w' → WL P ops Q rest ((Ac l).put dst undef) w')
    (hx : ev l x = .pointer (some ⟨b, 0 + i.toNat * sz + k, none⟩) := by (conv => lhs; whnf) <;> exact rfl) (hy : ev l y = u := by (conv => lhs; whnf) <;> exact rfl) :
    WL P ops Q (⟨dst, .store t x y, ty, ps, af, none⟩ :: rest) (Ac l) w := by
  obtain ⟨h0, hl, rfl⟩ := set'_some hset
  obtain ⟨_, hzl⟩ := at'_lt hz
  subst hzl
  obtain ⟨b', c, cl', q1, q2, q3, r, q4⟩ := hv.block he (by omega)
  have hbb := q2.symm.trans hb
  simp only [List.cons.injEq, Prod.mk.injEq, and_true] at hbb
  obtain ⟨rfl, hcl⟩ := hbb
  have hcl' : cl' = cl := by simpa using hcl
  subst hcl'
  have hk := Nat.le_of_ble_eq_true hk
  have hlen : 0 + i.toNat * sz + k < cl'.length := by
    rw [q4, List.length_append, flat_len enc sz he, Nat.zero_add]
    have := Nat.mul_le_mul_right sz (show i.toNat + 1 ≤ zs.length from hl)
    rw [Nat.succ_mul] at this
    omega
  have hw2 : cl'.set (0 + i.toNat * sz + k) u = wr cl' (i.toNat * sz) (enc z') := by
    have := OwT.part (r := r) he hl hw (by simpa using hk)
    rw [← q4, wr_one] at this
    exact this
  refine o_store (L' := L' [(b', blk (wr cl' (i.toNat * sz) (enc z')) e')]) hS hx hy (by rw [hw2]; have := hm [(b', blk (wr cl' (i.toNat * sz) (enc z')) e')]; rw [q2] at this; exact this.upd) hi h1 hc hlen (fun w' h' => h _ w' (hv.set he hl z' hb) h')
theorem SlT.cell {α : Type} {g : Frag} {enc : α → List Value} {sz : Nat} {zs : List α} {v : Value} (h : SlT g enc sz zs v) : v.cells = #[v] := by obtain ⟨A, c, rfl, _⟩ := h; rfl
theorem OwT.cell {α : Type} {e : Nat} {enc : α → List Value} {sz : Nat} {zs : List α} {v : Value} {LX : Own} (h : OwT e enc sz zs v LX) : v.cells = #[v] := by obtain ⟨A, c, rfl, _⟩ := SlO.slice h; rfl
theorem SlT.one {α : Type} {g : Frag} {enc : α → List Value} {sz : Nat} {zs : List α} {v : Value} (h : SlT g enc sz zs v) : v.oneCell' = true := by obtain ⟨A, c, rfl, _⟩ := h; rfl
theorem OwT.one {α : Type} {e : Nat} {enc : α → List Value} {sz : Nat} {zs : List α} {v : Value} {LX : Own} (h : OwT e enc sz zs v LX) : v.oneCell' = true := by obtain ⟨A, c, rfl, _⟩ := SlO.slice h; rfl
theorem o_boxP {x : Operand} {t : TypeId} {v : Value} {cl : List Value} (hc : v.cells = cl.toArray) (hS : St W g L0 L w) (h : ∀ b w', St W g L0 ((b, blk cl t) :: L) w' → WL P ops Q rest (Ac (l.upd d (.pointer (some ⟨b, 0, none⟩)))) w') (hx : ev l x = v := by (conv => lhs; whnf) <;> exact rfl) :
    WL P ops Q (⟨some d, .box t x, ty, ps, af, none⟩ :: rest) (Ac l) w :=
  o_box hS hx fun b w' h' => h b w' (by rw [hc] at h'; exact h')
theorem o_allocP {t : TypeId} {z : Value} {cl : List Value} (hz : (P.info? t).map (·.zero) = some (some z)) (hc : z.cells = cl.toArray) (hS : St W g L0 L w) (h : ∀ b w', St W g L0 ((b, blk cl t) :: L) w' → WL P ops Q rest (Ac (l.upd d (.pointer (some ⟨b, 0, none⟩)))) w') :
    WL P ops Q (⟨some d, .alloc t, ty, ps, af, none⟩ :: rest) (Ac l) w := by
  cases hq : P.info? t with
  | none => simp [hq] at hz
  | some i =>
    have h1 : i.zero = some z := by simpa [hq] using hz
    exact o_alloc hS hq h1 fun b w' h' => h b w' (by rw [hc] at h'; exact h')
theorem o_makeP {t e by_ : Nat} {x y : Operand} {z : α} {n : Int} {k k' : IntKind} {zs' : List α} (hm : make' n z = some zs') (hS : St W g L0 L w) (he : El P t e sz by_) (hen : ∀ z, (enc z).length = sz) (hz : ∀ i, P.info? e = some i → ∀ v, i.zero = some v → v.cells.toList = enc z) (hby : by_ ≤ 32768)
    (h : ∀ v LX w', OwT e enc sz zs' v LX → St W g L0 (LX ++ L) w' → WL P ops Q rest (Ac (l.upd d v)) w')
    (hx : ev l x = .int k n := by (conv => lhs; whnf) <;> exact rfl) (hy : ev l y = .int k' n := by (conv => lhs; whnf) <;> exact rfl) :
    WL P ops Q (⟨some d, .makeSlice t x y, ty, ps, af, none⟩ :: rest) (Ac l) w := by
  obtain ⟨h0, hle, rfl⟩ := make'_some hm
  obtain ⟨hu, i, zv, hi, hzz, rfl, rfl, hzs⟩ := he
  have hc := hz i hi zv hzz
  have hb2 : (i.bytes : Int) * n ≤ 281474976710656 := by
    have : (i.bytes : Int) * n ≤ 32768 * 65536 := Int.mul_le_mul (by omega) hle h0 (by omega)
    omega
  have hr := run_make (P := P) w t e i zv hu hi hzz k k' n n h0 (Int.le_refl _) hb2 (by omega)
  refine ⟨wpList_plain rfl fun K hK => ?_⟩
  have hr' : (execOp (ev l) ⟨some d, .makeSlice t x y, ty, ps, af, none⟩).run P w = .ok (.value (.slice (some ⟨w.heap.size, 0, none⟩) n.toNat n.toNat)) (w.alloc (.cells (madeCells zv.cells (n.toNat * i.size)) e)) := by
    simp [execOp, hx, hy, hr]
  unfold Oper.wp
  rw [eval_ev, hr', Oper.upon_value, put_ac]
  have hcells : (madeCells zv.cells (n.toNat * i.size)).toList = (List.replicate n.toNat z).flatMap enc := by
    rw [← hzs]
    exact made_flat zv.cells (enc z) hc n.toNat _ z enc rfl
  have hblk : Obj.cells (madeCells zv.cells (n.toNat * i.size)) e (0, 0) = blk ((List.replicate n.toNat z).flatMap enc) e := by
    rw [← hcells]
  have hn : n.toNat ≤ maxLen := by simp only [maxLen]; omega
  refine hK _ _ (h _ [(w.heap.size, blk ((List.replicate n.toNat z).flatMap enc) e)] _ (OwT.made hen rfl (by simp) hn) ?_).out
  have := hS.alloc (.cells (madeCells zv.cells (n.toNat * i.size)) e)
  rw [hblk] at this ⊢
  exact this
theorem o_appPn {t e by_ n : Nat} {s x : Operand} {bt et : Nat} {ys zs' : List α} {LX Lr : Own} (ha : app' zs ys = some zs') (hS : St W g L0 ((bt, blk (ys.flatMap enc) et) :: (LX ++ Lr)) w) (he : El P t e sz by_) (hv : OwT e enc sz zs v LX)
    (hn : ys.length = n) (hen : ∀ z, (enc z).length = sz) (h1 : ∀ u ∈ ys.flatMap enc, u.oneCell' = true) (hby : by_ ≤ 32768)
    (h : ∀ v' LX' w', OwT e enc sz zs' v' LX' → St W g L0 (LX' ++ Lr) w' → WL P ops Q rest (Ac (l.upd d v')) w')
    (hs : ev l s = v := by (conv => lhs; whnf) <;> exact rfl) (hx : ev l x = .slice (some ⟨bt, 0, none⟩) n n := by (conv => lhs; whnf) <;> exact rfl) :
    WL P ops Q (⟨some d, .call { callee := .builtin .append, args := #[s, x], argTypes := #[t, t] }, ty, ps, af, none⟩ :: rest) (Ac l) w := by
  obtain ⟨hb, rfl⟩ := app'_some ha
  have h2 : (zs.length + n) * by_ ≤ 4294967296 * 32768 := Nat.mul_le_mul (by omega) hby
  exact o_appT3 hS he hv hs hx hn (by rw [flat_len enc sz hen, hn]) h1 (by omega) (by simp only [maxLen]; omega) h
theorem o_appPs {t e by_ : Nat} {s x : Operand} {u : Value} {ys zs' : List α} {LX Lr : Own} (ha : app' zs ys = some zs') (hS : St W g L0 (LX ++ Lr) w) (he : El P t e sz by_) (hv : OwT e enc sz zs v LX) (hu : SlT (g.plus Lr) enc sz ys u)
    (h1 : ∀ u ∈ ys.flatMap enc, u.oneCell' = true) (hby : by_ ≤ 32768)
    (h : ∀ v' LX' w', OwT e enc sz zs' v' LX' → St W g L0 (LX' ++ Lr) w' → WL P ops Q rest (Ac (l.upd d v')) w')
    (hs : ev l s = v := by (conv => lhs; whnf) <;> exact rfl) (hx : ev l x = u := by (conv => lhs; whnf) <;> exact rfl) :
    WL P ops Q (⟨some d, .call { callee := .builtin .append, args := #[s, x], argTypes := #[t, t] }, ty, ps, af, none⟩ :: rest) (Ac l) w := by
  obtain ⟨hb, rfl⟩ := app'_some ha
  have h2 : (zs.length + ys.length) * by_ ≤ 4294967296 * 32768 := Nat.mul_le_mul (by omega) hby
  refine o_appAll hS he hv hu ?_ hs hx h1 (by omega) (by simp only [maxLen]; omega) h
  intro c hc
  obtain ⟨A, c', rfl, ⟨_, h4⟩, _, h5⟩ := hu
  cases hc
  rcases h5 with h5 | ⟨b, o, cs, e, fz, h5, _⟩
  · exact ⟨h4 rfl, h5⟩
  · cases h5
theorem o_uptoP {x y : Operand} {t e e' : TypeId} {k : IntKind} {m : Int} {LX : Own} {zs' : List α} (hu : upto' zs m = some zs') (hv : OwT e' enc sz zs v LX) (he : ∀ z, (enc z).length = sz) (ht : P.underlying t = some (.slice e)) (hsz : (P.info? e).map (·.size) = some sz)
    (h : ∀ v', OwT e' enc sz zs' v' LX → WL P ops Q rest (Ac (l.upd d v')) w) (hx : ev l x = v := by (conv => lhs; whnf) <;> exact rfl) (hy : ev l y = .int k m := by (conv => lhs; whnf) <;> exact rfl) :
    WL P ops Q (⟨some d, .slice t x none (some y) none, ty, ps, af, none⟩ :: rest) (Ac l) w := by
  obtain ⟨h0, h1, rfl⟩ := upto'_some hu
  exact o_upto hv he ht hsz h0 h1 hx hy h
end
section
variable {P : Program} {fn : Func} {W w : World} {g : Frag} {L0 L L' : Own} {R : Value → Own → Prop} {l : Fm} {Q : Exit → Act → World → Prop}
theorem c_loopP {σ ρ : Type} {b : σ → Option (Step σ ρ)} {s0 : σ} {e : ρ} {c : Code} (hF : loop b s0 = some e) (I : σ → Act → World → Prop) (h0 : I s0 (Ac l) w)
    (round : ∀ (n : Nat) (s : σ) (a : Act) (w : World), iter b (n + 1) s = some e → I s a w → c.wp P (Exit.then (fun a' w' => ∃ s', iter b n s' = some e ∧ I s' a' w') Q) a w) : (Code.loop c).wp P Q (Ac l) w := by
  obtain ⟨n, hn⟩ := loop_iff.1 hF
  refine c_loop (fun n a w => ∃ s, iter b n s = some e ∧ I s a w) n ⟨s0, hn, h0⟩ ?_
  rintro n a w ⟨s, hs, hI⟩
  cases n with
  | zero => cases hs
  | succ n =>
    refine wp_mono (round n s a w hs hI) fun ex a w h => ?_
    cases ex with
    | normal =>
      obtain ⟨s', h1, h2⟩ := h
      exact ⟨n, Nat.lt_succ_self n, s', h1, h2⟩
    | _ => exact h
theorem c_ifT {c : Operand} {x y : Code} {t : Bool} (hc : t = true) (h : x.wp P Q (Ac l) w) (hx : ev l c = .bool t := by (conv => lhs; whnf) <;> exact rfl) : (Code.cond c x y).wp P Q (Ac l) w := c_if_true (hx := by rw [hx, hc]) h
theorem c_cutP {x y : Code} (M : Act → World → Prop) (hx : x.wp P (Exit.then M Q) (Ac l) w) (hy : ∀ a w, M a w → y.wp P Q a w) : (Code.seq x y).wp P Q (Ac l) w := c_cut M hx hy
theorem res_cell {a b : Nat} {t : TypeId} {ds : TypeDesc} {cs : Array Value} {e : TypeId} {fz : Nat × Nat} (hb : w.heap[b]? = some (.cells cs e fz)) (hu : P.underlying t = some ds) (hd : ds.isRow = true) (hi : (P.info? t).map (·.size) = some cs.size) (ha : nth l a = .pointer (some ⟨b, 0, none⟩) := by (conv => lhs; whnf) <;> exact rfl) : resOf P l w (.cell a t) (.agg cs) :=
  ⟨b, 0, ha, by
    have := run_loadVar_mid (P := P) w b 0 t cs.toList ds (rangeAt_of hb (fun j u hj => by simpa using hj)) hu hd (by simpa using hi)
    simpa [Instr.loadAt, Instr.sureAddr] using this⟩
theorem rsN : resAll P l w [] [] := trivial
theorem rsC {r : ResultVar} {rs : List ResultVar} {v : Value} {vs : List Value} (h : resOf P l w r v) (hs : resAll P l w rs vs) : resAll P l w (r :: rs) (v :: vs) := ⟨h, hs⟩
theorem res_tmp {t : Tmp} {v : Value} (hv : nth l t = v := by (conv => lhs; whnf) <;> exact rfl) : resOf P l w (.tmp t) v := hv
end
section
variable {P : Program} {ops : Array Oper} {Q : Exit → Act → World → Prop} {K : Act → Prop} {rest : List Oper} {l : Fm} {w : World} {d : Nat} {ty : TypeId} {ps : String} {af : Array Edge}
variable {W : World} {g : Frag} {L0 L : Own}
theorem o_callVS2 {f : FuncId} {fn : Func} {x : Operand} {cap : Array Value} {ao : Array Operand} {ts : Array TypeId} {args args0 : Array Value} {r : Value} (hS : St W g L0 L w) (hf : P.funcs[f]? = some fn) (hname : (fn.name == "runtime.NumGoroutine") = false) (hb : fn.body.isSome = true)
    (hc : LCs P f args (g.plus L) r) (h : ∀ w', St W g L0 L w' → WL P ops Q rest (Ac (l.upd d r)) w')
    (hx : ev l x = .func (.func f) #[] cap := by (conv => lhs; whnf) <;> exact rfl) (ha : ao.map (ev l) = args0 := by exact avs) (hap : args0 ++ cap = args := by rfl) :
    WL P ops Q (⟨some d, .call { callee := .value x, args := ao, argTypes := ts }, ty, ps, af, none⟩ :: rest) (Ac l) w :=
  o_callV (L1 := []) (L2 := L) hS hx hf hname hb (by rw [ha, hap]) hc fun v L' w' hs hr => by
    obtain ⟨rfl, rfl⟩ := hr
    exact h w' hs
theorem o_callVG {f : FuncId} {fn : Func} {x : Operand} {cap : Array Value} {ao : Array Operand} {ts : Array TypeId} {args args0 : Array Value} {L1 L2 : Own} {R : Value → Own → Prop} (hS : St W g L0 (L1 ++ L2) w) (hf : P.funcs[f]? = some fn) (hname : (fn.name == "runtime.NumGoroutine") = false) (hb : fn.body.isSome = true)
    (hc : LC P f args (g.plus L2) L1 R) (h : ∀ v L' w', St W g L0 (L' ++ L2) w' → R v L' → WL P ops Q rest (Ac (l.upd d v)) w')
    (hx : ev l x = .func (.func f) #[] cap := by (conv => lhs; whnf) <;> exact rfl) (ha : ao.map (ev l) = args0 := by exact avs) (hap : args0 ++ cap = args := by rfl) :
    WL P ops Q (⟨some d, .call { callee := .value x, args := ao, argTypes := ts }, ty, ps, af, none⟩ :: rest) (Ac l) w :=
  o_callV hS hx hf hname hb (by rw [ha, hap]) hc h
theorem o_callVG0 {f : FuncId} {fn : Func} {x : Operand} {cap : Array Value} {ao : Array Operand} {ts : Array TypeId} {args args0 : Array Value} {R : Value → Own → Prop} (hS : St W g L0 L w) (hf : P.funcs[f]? = some fn) (hname : (fn.name == "runtime.NumGoroutine") = false) (hb : fn.body.isSome = true)
    (hc : LC P f args (g.plus L) [] R) (h : ∀ v L' w', St W g L0 (L' ++ L) w' → R v L' → WL P ops Q rest (Ac (l.upd d v)) w')
    (hx : ev l x = .func (.func f) #[] cap := by (conv => lhs; whnf) <;> exact rfl) (ha : ao.map (ev l) = args0 := by exact avs) (hap : args0 ++ cap = args := by rfl) :
    WL P ops Q (⟨some d, .call { callee := .value x, args := ao, argTypes := ts }, ty, ps, af, none⟩ :: rest) (Ac l) w :=
  o_callV (L1 := []) (L2 := L) hS hx hf hname hb (by rw [ha, hap]) hc h
end
section
variable {P : Program} {fn : Func} {W w : World} {g : Frag} {L0 L : Own} {l : Fm} {Q : Exit → Act → World → Prop}
theorem wr1 {t : Tmp} {v : Value} (hS : St W g L0 L w) (hf : fn.results.toList = [.tmp t] := by exact rfl) (hv : nth l t = v := by (conv => lhs; whnf) <;> exact rfl) : Post P fn W g L0 (fun r L => r = v ∧ L = []) .ret (Ac l) w :=
  r_ret (vs := [v]) (hS.drop (List.nil_sublist L)) (by rw [hf]; exact ⟨hv, trivial⟩) rfl ⟨rfl, rfl⟩
theorem wr2 {t t' : Tmp} {v v' : Value} (hS : St W g L0 L w) (hf : fn.results.toList = [.tmp t, .tmp t'] := by exact rfl) (hv : nth l t = v := by (conv => lhs; whnf) <;> exact rfl) (hv' : nth l t' = v' := by (conv => lhs; whnf) <;> exact rfl) : Post P fn W g L0 (fun r L => r = .tuple #[v, v'] ∧ L = []) .ret (Ac l) w :=
  r_ret (vs := [v, v']) (hS.drop (List.nil_sublist L)) (by rw [hf]; exact ⟨hv, hv', trivial⟩) rfl ⟨rfl, rfl⟩
theorem wr3 {t t' t2 : Tmp} {v v' v2 : Value} (hS : St W g L0 L w) (hf : fn.results.toList = [.tmp t, .tmp t', .tmp t2] := by exact rfl) (hv : nth l t = v := by (conv => lhs; whnf) <;> exact rfl) (hv' : nth l t' = v' := by (conv => lhs; whnf) <;> exact rfl) (hv2 : nth l t2 = v2 := by (conv => lhs; whnf) <;> exact rfl) : Post P fn W g L0 (fun r L => r = .tuple #[v, v', v2] ∧ L = []) .ret (Ac l) w :=
  r_ret (vs := [v, v', v2]) (hS.drop (List.nil_sublist L)) (by rw [hf]; exact ⟨hv, hv', hv2, trivial⟩) rfl ⟨rfl, rfl⟩
variable {ops : Array Oper} {C : World → Prop} {K : Act → Prop} {rest : List Oper} {d : Nat} {ty : TypeId} {ps : String} {af : Array Edge} {op : Op} {dst : Option Tmp} {j : Nat} {want : Bool} {oj : Oper} {t : Tmp} {b : Bool}
theorem o_gu (hj : ops[j]? = some oj) (hd : oj.dst = some t) (hb : b = want) (h : WL P ops Q (⟨dst, op, ty, ps, af, none⟩ :: rest) (Ac l) w) (hl : nth l t = .bool b := by (conv => lhs; whnf) <;> exact rfl) : WL P ops Q (⟨dst, op, ty, ps, af, some (j, want)⟩ :: rest) (Ac l) w := o_guard hj hd hl hb h
theorem o_sk (hj : ops[j]? = some oj) (hd : oj.dst = some t) (h : WL P ops Q rest (Ac (l.upd d undef)) w) (hl : nth l t = .bool b := by (conv => lhs; whnf) <;> exact rfl) (hb : b ≠ want := by decide) : WL P ops Q (⟨some d, op, ty, ps, af, some (j, want)⟩ :: rest) (Ac l) w := o_skip hj hd hl hb h
theorem o_sku (hj : ops[j]? = some oj) (hd : oj.dst = some t) (h : WL P ops Q rest (Ac (l.upd d undef)) w) (hl : nth l t = undef := by (conv => lhs; whnf) <;> exact rfl) : WL P ops Q (⟨some d, op, ty, ps, af, some (j, want)⟩ :: rest) (Ac l) w := o_skipU hj hd hl h
theorem q_gu (hj : ops[j]? = some oj) (hd : oj.dst = some t) (hb : b = want) (h : WQ P ops C K (⟨dst, op, ty, ps, af, none⟩ :: rest) (Ac l)) (hl : nth l t = .bool b := by (conv => lhs; whnf) <;> exact rfl) : WQ P ops C K (⟨dst, op, ty, ps, af, some (j, want)⟩ :: rest) (Ac l) := q_guard hj hd hl hb h
theorem q_sk (hj : ops[j]? = some oj) (hd : oj.dst = some t) (h : WQ P ops C K rest (Ac (l.upd d undef))) (hl : nth l t = .bool b := by (conv => lhs; whnf) <;> exact rfl) (hb : b ≠ want := by decide) : WQ P ops C K (⟨some d, op, ty, ps, af, some (j, want)⟩ :: rest) (Ac l) := q_skip hj hd hl hb h
theorem q_sku (hj : ops[j]? = some oj) (hd : oj.dst = some t) (h : WQ P ops C K rest (Ac (l.upd d undef))) (hl : nth l t = undef := by (conv => lhs; whnf) <;> exact rfl) : WQ P ops C K (⟨some d, op, ty, ps, af, some (j, want)⟩ :: rest) (Ac l) := q_skipU hj hd hl h
end
theorem SlT.of_own {α : Type} {W w : World} {g : Frag} {L0 L1 L2 : Own} {e : Nat} {enc : α → List Value} {sz : Nat} {zs : List α} {v : Value} {LX : Own} (h : OwT e enc sz zs v LX) (hS : St W g L0 (L1 ++ L2) w) (hL : ∀ p ∈ LX, p ∈ L2) : SlT (g.plus L2) enc sz zs v :=
  h.plus (hS.drop (List.sublist_append_right L1 L2)) hL
theorem SlT.at {α : Type} {g : Frag} {enc : α → List Value} {sz : Nat} {zs : List α} {v : Value} {i : Int} {z : α} (hi : at' zs i = some z) (hr : SlT g enc sz zs v) (he : ∀ z, (enc z).length = sz) :
    ∃ b o c cs e fz, v = .slice (some ⟨b, o, none⟩) zs.length c ∧ 0 ≤ i ∧ i < zs.length ∧ g b = some (.cells cs e fz) ∧ ∀ j u, (enc z)[j]? = some u → cs[o + i.toNat * sz + j]? = some u := by
  obtain ⟨hl, rfl⟩ := at'_lt hi
  have h0 := (at'_some hi).1
  obtain ⟨A, c, h1, _, _, h3⟩ := hr
  obtain ⟨b, o, cs, e, fz, rfl, hb, hc⟩ := h3.resolve_left (by omega)
  refine ⟨b, o, c, cs, e, fz, h1, h0, by omega, hb, elem_cells (b := b) he hl fun j u hj => ?_⟩
  rw [Nat.add_assoc]
  exact hc _ _ hj
theorem OwT.at {α : Type} {e' : Nat} {enc : α → List Value} {sz : Nat} {zs : List α} {v : Value} {LX : Own} {i : Int} {z : α} (hi : at' zs i = some z) (hv : OwT e' enc sz zs v LX) (he : ∀ z, (enc z).length = sz) :
    ∃ b c cl, v = .slice (some ⟨b, 0, none⟩) zs.length c ∧ 0 ≤ i ∧ i < zs.length ∧ LX = [(b, blk cl e')] ∧ ∀ j u, (enc z)[j]? = some u → cl.toArray[0 + i.toNat * sz + j]? = some u := by
  obtain ⟨hl, _⟩ := at'_lt hi
  have h0 := (at'_some hi).1
  obtain ⟨b, c, cl, h1, h2, h3⟩ := own_cells hv he hi
  exact ⟨b, c, cl, h1, h0, by omega, h2, h3⟩
theorem OwT.at_set {α : Type} {e' : Nat} {enc : α → List Value} {sz : Nat} {zs zs' : List α} {v : Value} {LX : Own} {i : Int} {z : α} (hi : set' zs i z = some zs') (hv : OwT e' enc sz zs v LX) (he : ∀ z, (enc z).length = sz) :
    ∃ b c cl, v = .slice (some ⟨b, 0, none⟩) zs.length c ∧ 0 ≤ i ∧ i < zs.length ∧ LX = [(b, blk cl e')] := by
  obtain ⟨h0, hl, _⟩ := set'_some hi
  obtain ⟨b, c, cl, h1, h2, _⟩ := hv.block he (by omega)
  exact ⟨b, c, cl, h1, h0, by omega, h2⟩
theorem St.frz {α : Type} {W w : World} {g : Frag} {L0 L2 : Own} {e : Nat} {enc : α → List Value} {sz : Nat} {zs : List α} {v : Value} {LX : Own} (hS : St W g L0 (LX ++ L2) w) (hv : OwT e enc sz zs v LX) : St W (g.plus LX) L0 L2 w ∧ SlT (g.plus LX) enc sz zs v :=
  ⟨hS.freeze, hv.plus (hS.drop (List.sublist_append_left _ _)) (fun _ h => h)⟩
def slV (sz lo hi : Nat) : Value → Value
  | .slice A n c => .slice (if c = lo then A else A.map (·.add (lo * sz))) (hi - lo) (c - lo)
  | v => v
theorem SlT.sub {α : Type} {g : Frag} {enc : α → List Value} {sz : Nat} {zs zs' : List α} {v : Value} {lo hi : Int} (hs : sub' zs lo hi = some zs') (hr : SlT g enc sz zs v) (he : ∀ z, (enc z).length = sz) : SlT g enc sz zs' (slV sz lo.toNat hi.toNat v) := by
  obtain ⟨h0, h1, h2, rfl⟩ := sub'_some hs
  obtain ⟨A, c, rfl, ⟨hc, hA⟩, hl, h3⟩ := hr
  have hlen : ((zs.take hi.toNat).drop lo.toNat).length = hi.toNat - lo.toNat := by simp; omega
  refine ⟨_, c - lo.toNat, by rw [hlen]; rfl, ⟨by rw [hlen]; omega, fun hn => ?_⟩, flat_len enc sz he _, ?_⟩
  · split at hn
    · omega
    · cases A with
      | none => have := hA rfl; omega
      | some x => cases hn
  · rw [hlen]
    by_cases hz : hi.toNat - lo.toNat = 0
    · exact .inl hz
    · right
      obtain ⟨b, o, cs, e, fz, rfl, hb, hcs⟩ := h3.resolve_left (by omega)
      refine ⟨b, o + lo.toNat * sz, cs, e, fz, ?_, hb, fun j u hj => ?_⟩
      · rw [if_neg (by omega)]
        simp only [Option.map_some, Addr.add_mid]
      · have e1 : zs.flatMap enc = (zs.take lo.toNat).flatMap enc ++ ((zs.take hi.toNat).drop lo.toNat).flatMap enc ++ (zs.drop hi.toNat).flatMap enc := by
          rw [← List.flatMap_append, ← List.flatMap_append]
          congr 1
          have e2 : zs.take lo.toNat = (zs.take hi.toNat).take lo.toNat := by rw [List.take_take, Nat.min_eq_left (by omega)]
          rw [e2, List.take_append_drop, List.take_append_drop]
        have hpre : ((zs.take lo.toNat).flatMap enc).length = lo.toNat * sz := by rw [flat_len enc sz he, List.length_take, Nat.min_eq_left (by omega)]
        rw [Nat.add_assoc]
        refine hcs _ _ ?_
        rw [e1, List.append_assoc, List.getElem?_append_right (by omega), hpre, Nat.add_sub_cancel_left]
        have hj2 := (List.getElem?_eq_some_iff.1 hj).1
        rw [List.getElem?_append_left hj2, hj]
theorem subd {cl vs : List Value} {o : Nat} (h : (cl.drop o).take vs.length = vs) (j : Nat) (u : Value) (hj : vs[j]? = some u) : cl.toArray[o + j]? = some u := by
  rw [List.getElem?_toArray, ← List.getElem?_drop]
  have hl := (List.getElem?_eq_some_iff.1 hj).1
  rw [← h, List.getElem?_take_of_lt hl] at hj
  exact hj
theorem mA {p : Nat × Obj} {X Y : Own} (h : p ∈ X) : p ∈ X ++ Y := List.mem_append_left _ h
theorem mB {p : Nat × Obj} {X Y : Own} (h : p ∈ Y) : p ∈ X ++ Y := List.mem_append_right _ h
theorem mC {p q : Nat × Obj} {Y : Own} (h : p ∈ Y) : p ∈ q :: Y := List.mem_cons_of_mem _ h
theorem mH {p : Nat × Obj} {Y : Own} : p ∈ p :: Y := List.mem_cons_self
theorem mX {b : Nat} {o : Obj} {X : Own} (h : X = [(b, o)]) : (b, o) ∈ X := h ▸ List.mem_cons_self
end Go.Proofs.YtgakgpbmcbegbaaGreatDoor.Fr
