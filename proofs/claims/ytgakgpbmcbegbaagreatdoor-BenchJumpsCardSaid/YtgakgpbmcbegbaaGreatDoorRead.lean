/- Slices that are read; appends as rules; new slices. -/
import Derived.Test.YtgakgpbmcbegbaaGreatDoorCtl
namespace Go.Proofs.YtgakgpbmcbegbaaGreatDoor.Fr
open Go.RowKit
def SlR (g : Frag) (sz n : Nat) (xs : List Value) (v : Value) : Prop :=
  ∃ A c, v = .slice A n c ∧ (n ≤ c ∧ (A = none → c = 0)) ∧ xs.length = n * sz ∧ (n = 0 ∨ ∃ b o cs e fz, A = some ⟨b, o, none⟩ ∧ g b = some (.cells cs e fz) ∧ ∀ j u, xs[j]? = some u → cs[o + j]? = some u)
theorem SlR.mono {g g' : Frag} {sz n : Nat} {xs : List Value} {v : Value} (h : SlR g sz n xs v) (hg : g.le g') : SlR g' sz n xs v := by
  obtain ⟨A, c, rfl, h1, h2, h3⟩ := h
  refine ⟨A, c, rfl, h1, h2, h3.imp id fun ⟨b, o, cs, e, fz, ha, hb, hc⟩ => ⟨b, o, cs, e, fz, ha, hg _ _ hb, hc⟩⟩
theorem SlR.nil (g : Frag) (sz : Nat) : SlR g sz 0 [] (.slice none 0 0) := ⟨none, 0, rfl, ⟨Nat.le_refl _, fun _ => rfl⟩, by simp, .inl rfl⟩
theorem SlO.read {g : Frag} {e sz n : Nat} {xs : List Value} {v : Value} {LX : Own} (h : SlO e sz n xs v LX) (hL : ∀ b o, (b, o) ∈ LX → g b = some o) : SlR g sz n xs v := by
  rcases h with ⟨rfl, rfl, rfl, rfl⟩ | ⟨b, c, cl, rfl, rfl, h2, h3, h4, h5, h6⟩
  · exact SlR.nil g sz
  · refine ⟨_, c, rfl, ⟨h2, fun e => by cases e⟩, h5, .inr ⟨b, 0, cl.toArray, e, (0, 0), rfl, hL _ _ (List.mem_singleton.2 rfl), fun j u hj => ?_⟩⟩
    rw [← h6, List.getElem?_take] at hj
    split at hj
    · simpa using hj
    · cases hj
theorem plus_own {g : Frag} {L : Own} (hg : ∀ b o, g b = some o → b ∉ L.map (·.1)) (nd : (L.map (·.1)).Nodup) {b : Nat} {o : Obj} (h : (b, o) ∈ L) : g.plus L b = some o := by
  unfold Frag.plus
  cases hq : g b with
  | some o' => exact absurd (List.mem_map.2 ⟨_, h, rfl⟩) (hg b o' hq)
  | none => exact Own.look_of_mem nd h
theorem St.plus {W w : World} {g : Frag} {L0 L : Own} (h : St W g L0 L w) {b : Nat} {o : Obj} (hm : (b, o) ∈ L) : g.plus L b = some o :=
  plus_own (fun b o hb hm => by
    obtain ⟨p, hp, rfl⟩ := List.mem_map.1 hm
    exact h.ne hb hp rfl) h.nd hm
section
variable {P : Program} {ops : Array Oper} {Q : Exit → Act → World → Prop} {rest : List Oper} {l : Fm} {w : World} {d : Nat} {ty : TypeId} {ps : String} {af : Array Edge}
variable {W : World} {g : Frag} {L0 L : Own}
theorem o_appT {t e sz by_ : Nat} {s x : Operand} {n m c bt ot et : Nat} {xs news : List Value} {ct : List Value} {v : Value} {LX Lr : Own} (hS : St W g L0 ((bt, blk ct et) :: (LX ++ Lr)) w) (he : El P t e sz by_)
    (hs : ev l s = v := by (conv => lhs; whnf) <;> exact rfl) (hx : ev l x = .slice (some ⟨bt, ot, none⟩) m c := by (conv => lhs; whnf) <;> exact rfl) (hv : SlO e sz n xs v LX) (hl : news.length = m * sz) (hnews : ∀ j u, news[j]? = some u → ct[ot + j]? = some u) (h1 : ∀ u ∈ news, u.oneCell' = true)
    (hb : (n + m) * by_ ≤ 140737488355328) (h63 : n + m ≤ maxLen)
    (h : ∀ v' LX' w', SlO e sz (n + m) (xs ++ news) v' LX' → St W g L0 (LX' ++ Lr) w' → WL P ops Q rest (Ac (l.upd d v')) w') :
    WL P ops Q (⟨some d, .call { callee := .builtin .append, args := #[s, x], argTypes := #[t, t] }, ty, ps, af, none⟩ :: rest) (Ac l) w := by
  refine ⟨wpList_plain rfl fun K hK => ?_⟩
  have hS' : St W g L0 (LX ++ (bt, blk ct et) :: Lr) w := hS.perm List.perm_middle.symm
  have hown := hS.own (b := bt) (o := blk ct et) List.mem_cons_self
  obtain ⟨v', LX', w', hr, h2, h3⟩ := run_append (P := P) (ty := ty) (A := some ⟨bt, ot, none⟩) (c := c) he hv hS' hl (.inr ⟨bt, ot, rfl, fun j u hj => by rw [cell_of_row w bt _ _ et _ hown]; simpa using hnews j u hj⟩) (fun e => by cases e) h1 hb h63
  have hr' : (execOp (ev l) ⟨some d, .call { callee := .builtin .append, args := #[s, x], argTypes := #[t, t] }, ty, ps, af, none⟩).run P w = .ok (.value v') w' := by
    simp [execOp, resolve, invoke, builtin, hs, hx, hr]
  unfold Oper.wp
  rw [eval_ev, hr', Oper.upon_value, put_ac]
  exact hK _ _ (h v' LX' w' h2 (h3.drop (List.Sublist.append_left (List.sublist_cons_self _ _) _))).out
theorem o_appR {t e sz by_ : Nat} {s x : Operand} {n m : Nat} {xs news : List Value} {v u : Value} {LX Lr : Own} (hS : St W g L0 (LX ++ Lr) w) (he : El P t e sz by_)
    (hs : ev l s = v := by (conv => lhs; whnf) <;> exact rfl) (hx : ev l x = u := by (conv => lhs; whnf) <;> exact rfl) (hv : SlO e sz n xs v LX) (hu : SlR (g.plus Lr) sz m news u) (hu0 : ∀ c, u = .slice none m c → c = 0 ∧ m = 0) (h1 : ∀ u ∈ news, u.oneCell' = true)
    (hb : (n + m) * by_ ≤ 140737488355328) (h63 : n + m ≤ maxLen)
    (h : ∀ v' LX' w', SlO e sz (n + m) (xs ++ news) v' LX' → St W g L0 (LX' ++ Lr) w' → WL P ops Q rest (Ac (l.upd d v')) w') :
    WL P ops Q (⟨some d, .call { callee := .builtin .append, args := #[s, x], argTypes := #[t, t] }, ty, ps, af, none⟩ :: rest) (Ac l) w := by
  refine ⟨wpList_plain rfl fun K hK => ?_⟩
  obtain ⟨A, c, rfl, hc, hl, h3⟩ := hu
  obtain ⟨v', LX', w', hr, h2, h4⟩ := run_append (P := P) (ty := ty) (A := A) (c := c) he hv hS hl (h3.imp id fun ⟨b, o, cs, e', fz, ha, hb, hcs⟩ => ⟨b, o, ha, fun j u hj => by
    have hb' : w.heap[b]? = some (.cells cs e' fz) := hS.handed.block hb
    rw [cell_of_row w b _ _ e' _ hb']
    exact hcs j u hj⟩) (fun e => hu0 c (by rw [e])) h1 hb h63
  have hr' : (execOp (ev l) ⟨some d, .call { callee := .builtin .append, args := #[s, x], argTypes := #[t, t] }, ty, ps, af, none⟩).run P w = .ok (.value v') w' := by
    simp [execOp, resolve, invoke, builtin, hs, hx, hr]
  unfold Oper.wp
  rw [eval_ev, hr', Oper.upon_value, put_ac]
  exact hK _ _ (h v' LX' w' h2 h4).out
theorem fill_one {place : Nat → Option (Nat × Nat)} {cells : Array Value} {i off size : Nat} {v : Value} {r : List (Nat × Value)} (hp : place i = some (off, size)) (hs : v.cells.size = size) (ho : off + size ≤ cells.size) :
    Instr.fill place cells ((i, v) :: r) = Instr.fill place (v.cells.zipIdx.foldl (fun cs (c, j) => cs.setIfInBounds (off + j) c) cells) r := by
  rw [Instr.fill, hp]
  simp only
  rw [if_neg]
  simp only [Bool.or_eq_true, decide_eq_true_eq]
  omega
theorem foldl_set : ∀ (vs : List Value) (k off : Nat) (cl : List Value), (vs.zipIdx k).foldl (fun (cs : Array Value) (p : Value × Nat) => cs.setIfInBounds (off + p.2) p.1) cl.toArray = (wr cl (off + k) vs).toArray
  | [], _, _, _ => rfl
  | v :: r, k, off, cl => by
    rw [List.zipIdx_cons, List.foldl_cons]
    simp only [List.setIfInBounds_toArray]
    rw [foldl_set r (k + 1) off _, wr, Nat.add_assoc]
def parts (off : Nat → Nat) : List Value → List (Nat × Value) → List Value
  | cl, [] => cl
  | cl, (i, v) :: r => parts off (wr cl (off i) v.cells.toList) r
theorem fill_parts {place : Nat → Option (Nat × Nat)} {off size : Nat → Nat} : ∀ (r : List (Nat × Value)) (cl : List Value), (∀ p ∈ r, place p.1 = some (off p.1, size p.1) ∧ p.2.cells.size = size p.1 ∧ off p.1 + size p.1 ≤ cl.length) →
    Instr.fill place cl.toArray r = some (parts off cl r).toArray
  | [], cl, _ => rfl
  | (i, v) :: r, cl, h => by
    obtain ⟨h1, h2, h3⟩ := h (i, v) List.mem_cons_self
    rw [fill_one h1 h2 (by simpa using h3)]
    have hz : v.cells.zipIdx.foldl (fun (cs : Array Value) (p : Value × Nat) => cs.setIfInBounds (off i + p.2) p.1) cl.toArray = (wr cl (off i) v.cells.toList).toArray := by
      rw [← Array.foldl_toList, Array.toList_zipIdx, foldl_set, Nat.add_zero]
    have hz' := fill_parts r (wr cl (off i) v.cells.toList) (fun p hp => by
      rw [wr_length]
      exact h p (List.mem_cons_of_mem _ hp))
    rw [parts, ← hz', ← hz]
theorem o_buildSlice {t e sz by_ n : Nat} {ps' : Array (Nat × Operand)} {pv : List (Nat × Value)} {zl cl : List Value} (hS : St W g L0 L w) (he : El P t e sz by_) (hn : n * sz ≤ 16777216)
    (hp : ps'.toList.map (fun p => (p.1, ev l p.2)) = pv) (hz : ∀ i, P.info? e = some i → ∀ z, i.zero = some z → (Array.range (n * sz)).map (fun j => z.cells[j % z.cells.size]!) = zl.toArray)
    (hc : parts (fun i => i * sz) zl pv = cl) (hok : ∀ p ∈ pv, p.2.cells.size = sz ∧ p.1 < n) (hzl : zl.length = n * sz)
    (h : ∀ b w', St W g L0 ((b, blk cl e) :: L) w' → WL P ops Q rest (Ac (l.upd d (.slice (some ⟨b, 0, none⟩) n n))) w') :
    WL P ops Q (⟨some d, .buildSlice t n ps', ty, ps, af, none⟩ :: rest) (Ac l) w := by
  obtain ⟨hu, i, z, hi, hzz, rfl, rfl, hzs⟩ := he
  refine ⟨wpList_plain rfl fun K hK => ?_⟩
  have hz' := hz i hi z hzz
  have hf := fill_parts (place := fun j => some (j * i.size, i.size)) (off := fun j => j * i.size) (size := fun _ => i.size) pv zl (fun p hp => ⟨rfl, (hok p hp).1, by
    have := (hok p hp).2
    rw [hzl, ← Nat.succ_mul]
    exact Nat.mul_le_mul_right _ this⟩)
  rw [hc] at hf
  have hr : (execOp (ev l) ⟨some d, .buildSlice t n ps', ty, ps, af, none⟩).run P w = .ok (.value (.slice (some ⟨w.heap.size, 0, none⟩) n n)) (w.alloc (blk cl e)) := by
    by_cases h0 : n * i.size = 0
    · have hzl0 : zl = [] := List.eq_nil_of_length_eq_zero (by rw [hzl, h0])
      subst hzl0
      have hf' : Instr.fill (fun j => some (j * i.size, i.size)) #[] pv = some cl.toArray := hf
      simp [execOp, Instr.buildSlice, run_underlying hu, sizeOf, typeInfo, hi, h0, hp, hf', newRow, show Array.range 0 = #[] from rfl]
    · have hgt : ¬ (16777216 < n * i.size) := by omega
      simp [execOp, Instr.buildSlice, run_underlying hu, sizeOf, typeInfo, zeroValue, hi, hzz, hgt, h0, hp, hz', hf, newRow]
  unfold Oper.wp
  rw [eval_ev, hr, Oper.upon_value, put_ac]
  exact hK _ _ (h _ _ (hS.alloc _)).out
end
end Go.Proofs.YtgakgpbmcbegbaaGreatDoor.Fr
