/- Rules for operations that read, make and write memory, over the layer's state. -/
import Derived.Test.YtgakgpbmcbegbaaGreatDoorOps
import Derived.Deep.MidRow
import Derived.Laws.IdiomCopy
import Derived.Laws.Tables
namespace Go.Proofs.YtgakgpbmcbegbaaGreatDoor.Fr
open Go.RowKit
abbrev blk (cl : List Value) (e : TypeId) : Obj := .cells cl.toArray e (0, 0)
inductive Upd (b : Nat) (o o' : Obj) : Own → Own → Prop where
  | here (L : Own) : Upd b o o' ((b, o) :: L) ((b, o') :: L)
  | there {L L' : Own} (p : Nat × Obj) : Upd b o o' L L' → Upd b o o' (p :: L) (p :: L')
theorem Upd.mem {b : Nat} {o o' : Obj} {L L' : Own} (h : Upd b o o' L L') : (b, o) ∈ L := by
  induction h with
  | here L => exact List.mem_cons_self
  | there p _ ih => exact List.mem_cons_of_mem _ ih
theorem Upd.put {b : Nat} {o o' : Obj} {L L' : Own} (h : Upd b o o' L L') (nd : (L.map (·.1)).Nodup) : L.put b o' = L' := by
  induction h with
  | here L =>
    rw [List.map_cons, List.nodup_cons] at nd
    simp only [Own.put, List.map_cons, if_true, List.cons.injEq, true_and]
    refine (List.map_congr_left fun p hp => ?_).trans (List.map_id L)
    rw [if_neg (fun e => nd.1 (List.mem_map.2 ⟨p, hp, e⟩))]
    rfl
  | there p hu ih =>
    rw [List.map_cons, List.nodup_cons] at nd
    have hne : p.1 ≠ b := fun e => nd.1 (List.mem_map.2 ⟨_, hu.mem, e.symm⟩)
    simp only [Own.put, List.map_cons, if_neg hne, List.cons.injEq, true_and]
    exact ih nd.2
def wr : List Value → Nat → List Value → List Value
  | cl, _, [] => cl
  | cl, o, v :: r => wr (cl.set o v) (o + 1) r
theorem wr_length : ∀ (vs : List Value) (cl : List Value) (o : Nat), (wr cl o vs).length = cl.length
  | [], _, _ => rfl
  | v :: r, cl, o => by rw [wr, wr_length r]; simp
theorem heap_setCell {w : World} {b o : Nat} {cl : List Value} {e : TypeId} {fz : Nat × Nat} (v : Value) (h : w.heap[b]? = some (.cells cl.toArray e fz)) :
    (w.setCell ⟨b, o, none⟩ v).heap[b]? = some (.cells (cl.set o v).toArray e fz) := by
  simp [World.setCell, Array.getElem?_modify, h]
theorem heap_setCells {b : Nat} {e : TypeId} {fz : Nat × Nat} : ∀ (vs : List Value) (o : Nat) (w : World) (cl : List Value), w.heap[b]? = some (.cells cl.toArray e fz) →
    (w.setCells b o vs).heap[b]? = some (.cells (wr cl o vs).toArray e fz)
  | [], _, _, _, h => h
  | v :: r, o, _, cl, h => heap_setCells r (o + 1) _ (cl.set o v) (heap_setCell v h)
theorem setCells_rest (b : Nat) : ∀ (vs : List Value) (o : Nat) (w : World), (w.setCells b o vs).os = w.os ∧ (w.setCells b o vs).tape = w.tape ∧ (w.setCells b o vs).output = w.output ∧
    (w.setCells b o vs).heap.size = w.heap.size ∧ ∀ k, k ≠ b → (w.setCells b o vs).heap[k]? = w.heap[k]?
  | [], _, _ => ⟨rfl, rfl, rfl, rfl, fun _ _ => rfl⟩
  | v :: r, o, w => by
    obtain ⟨h1, h2, h3, h4, h5⟩ := setCells_rest b r (o + 1) (w.setCell ⟨b, o, none⟩ v)
    refine ⟨h1, h2, h3, h4.trans (by simp [World.setCell]), fun k hk => (h5 k hk).trans (Below.heap_setCell _ _ _ _ hk)⟩
theorem St.setCells {W w : World} {g : Frag} {L0 L L' : Own} (h : St W g L0 L w) {b o : Nat} {cl vs : List Value} {e : TypeId} (hu : Upd b (blk cl e) (blk (wr cl o vs) e) L L') : St W g L0 L' (w.setCells b o vs) := by
  obtain ⟨h1, h2, h3, h4, h5⟩ := setCells_rest b vs o w
  have := h.write hu.mem h1 h2 h3 (Nat.le_of_eq h4.symm) (fun k _ hk => h5 k hk) (heap_setCells vs o w cl (h.loc _ _ hu.mem).1)
  rwa [hu.put h.nd] at this
theorem St.own {W w : World} {g : Frag} {L0 L : Own} (h : St W g L0 L w) {b : Nat} {o : Obj} (hm : (b, o) ∈ L) : w.heap[b]? = some o := (h.loc b o hm).1
theorem St.upd {W w : World} {g : Frag} {L0 L L' : Own} (h : St W g L0 L w) {b : Nat} {o o' : Obj} (hm : Upd b o o' L L') : w.heap[b]? = some o := (h.loc b o hm.mem).1
theorem rangeAt_of {w : World} {b o : Nat} {cs : Array Value} {e : TypeId} {fz : Nat × Nat} {vs : List Value} (h : w.heap[b]? = some (.cells cs e fz)) (hv : ∀ j v, vs[j]? = some v → cs[o + j]? = some v) : w.rangeAt b o vs := by
  intro j v hj
  rw [cell_of_row w b (o + j) cs e fz h]
  exact hv j v hj
theorem there_of {w : World} {b o n : Nat} {cl : List Value} {e : TypeId} (h : w.heap[b]? = some (blk cl e)) (hn : o + n ≤ cl.length) : w.there b o n := by
  intro j hj
  rw [cell_of_row w b (o + j) _ e _ h]
  refine ⟨by simp; omega, ?_⟩
  simp [World.frozen?, h]
section
variable {P : Program} {ops : Array Oper} {Q : Exit → Act → World → Prop} {rest : List Oper} {l : Fm} {w : World} {d : Nat} {ty : TypeId} {ps : String} {af : Array Edge}
variable {W : World} {g : Frag} {L0 L : Own}
theorem fieldAt_of {s : TypeId} {i : Nat} {fs : Array Field} {f : Field} {k n : Nat} (hu : P.underlying s = some (.struct fs)) (hf : fs[i]? = some f) (hk : f.offset = k) (hz : (P.info? f.type).map (·.size) = some (n + 1)) (b o : Nat) (w : World) :
    (Instr.fieldAt s (.pointer (some ⟨b, o, none⟩)) i).run P w = .ok (.pointer (some ⟨b, o + k, none⟩)) w := by
  cases hq : P.info? f.type with
  | none => simp [hq] at hz
  | some t =>
    have hs : t.size = n + 1 := by simpa [hq] using hz
    simp [Instr.fieldAt, run_underlying hu, hf, Instr.sureAddr, fieldPlace, sizeOf, typeInfo, hq, hs, Addr.add_mid, hk]
theorem run_load1 {t : TypeId} {ds : TypeDesc} {b o : Nat} {cs : Array Value} {e : TypeId} {fz : Nat × Nat} {v : Value} (hb : w.heap[b]? = some (.cells cs e fz)) (hu : P.underlying t = some ds) (hd : ds.isRow = false) (hv : cs[o]? = some v) :
    (Instr.loadAt t (.pointer (some ⟨b, o, none⟩))).run P w = .ok v w := by
  have hc := (cell_of_row w b o cs e fz hb).trans hv
  have hagg : (isAgg t).run P w = .ok false w := by
    unfold isAgg
    rw [Sem.run_bind, run_underlying hu w]
    cases ds <;> simp_all
  simp [Instr.loadAt, Instr.sureAddr, loadVar, hagg, hc]
theorem run_storeAt1 {t : TypeId} {b o : Nat} {cl : List Value} {e : TypeId} {v : Value} (hb : w.heap[b]? = some (blk cl e)) (hi : (P.info? t).map (·.size) = some 1) (h1 : v.oneCell' = true) (hc : v.cells = #[v]) (ho : o < cl.length) :
    (Instr.storeAt t (.pointer (some ⟨b, o, none⟩)) v).run P w = .ok () (w.setCells b o [v]) := by
  have hth := there_of hb (n := 1) (o := o) (by omega)
  have := run_storeCells_cells (P := P) b o [v] 0 w (fun j hj => by simpa using (hth j (by simpa using hj)).1) (fun j hj => by simpa using (hth j (by simpa using hj)).2) (fun u hu => by simp at hu; rw [hu]; exact h1)
  cases hq : P.info? t with
  | none => simp [hq] at hi
  | some i =>
    have hs : i.size = 1 := by simpa [hq] using hi
    simp only [Nat.add_zero] at this
    simp [Instr.storeAt, Instr.sureAddr, storeVar, sizeOf, typeInfo, hq, hc, hs, this]
theorem o_store {dst : Option Tmp} {x y : Operand} {t : TypeId} {b o : Nat} {cl : List Value} {e : TypeId} {v : Value} {L' : Own} (hS : St W g L0 L w) (hx : ev l x = .pointer (some ⟨b, o, none⟩) := by (conv => lhs; whnf) <;> exact rfl) (hy : ev l y = v := by (conv => lhs; whnf) <;> exact rfl)
    (hm : Upd b (blk cl e) (blk (cl.set o v) e) L L') (hi : (P.info? t).map (·.size) = some 1) (h1 : v.oneCell' = true) (hc : v.cells = #[v]) (ho : o < cl.length)
    (h : ∀ w', St W g L0 L' w' → WL P ops Q rest ((Ac l).put dst undef) w') : WL P ops Q (⟨dst, .store t x y, ty, ps, af, none⟩ :: rest) (Ac l) w := by
  refine ⟨wpList_plain rfl fun K hK => ?_⟩
  unfold Oper.wp
  have hr : (execOp (ev l) ⟨dst, .store t x y, ty, ps, af, none⟩).run P w = .ok .skip (w.setCells b o [v]) := by
    simp [execOp, hx, hy, run_storeAt1 (hS.upd hm) hi h1 hc ho]
  rw [eval_ev, hr, Oper.upon_skip]
  exact hK _ _ (h _ (hS.setCells (vs := [v]) hm)).out
theorem o_storeN {dst : Option Tmp} {x y : Operand} {t : TypeId} {b o : Nat} {cl vs : List Value} {e : TypeId} {L' : Own} (hS : St W g L0 L w) (hx : ev l x = .pointer (some ⟨b, o, none⟩) := by (conv => lhs; whnf) <;> exact rfl) (hy : ev l y = .agg vs.toArray)
    (hm : Upd b (blk cl e) (blk (wr cl o vs) e) L L') (hi : (P.info? t).map (·.size) = some vs.length) (h1 : ∀ v ∈ vs, v.oneCell' = true) (ho : o + vs.length ≤ cl.length)
    (h : ∀ w', St W g L0 L' w' → WL P ops Q rest ((Ac l).put dst undef) w') : WL P ops Q (⟨dst, .store t x y, ty, ps, af, none⟩ :: rest) (Ac l) w := by
  refine ⟨wpList_plain rfl fun K hK => ?_⟩
  unfold Oper.wp
  have hr : (execOp (ev l) ⟨dst, .store t x y, ty, ps, af, none⟩).run P w = .ok .skip (w.setCells b o vs) := by
    have := run_storeAt_mid (P := P) w b o t vs.toArray (there_of (hS.upd hm) (by simpa using ho)) (by simpa using hi) (by simpa using h1)
    simp [execOp, hx, hy, this]
  rw [eval_ev, hr, Oper.upon_skip]
  exact hK _ _ (h _ (hS.setCells hm)).out
theorem o_box {x : Operand} {t : TypeId} {v : Value} (hS : St W g L0 L w) (hx : ev l x = v := by (conv => lhs; whnf) <;> exact rfl) (h : ∀ b w', St W g L0 ((b, .cells v.cells t (0, 0)) :: L) w' → WL P ops Q rest (Ac (l.upd d (.pointer (some ⟨b, 0, none⟩)))) w') :
    WL P ops Q (⟨some d, .box t x, ty, ps, af, none⟩ :: rest) (Ac l) w := by
  refine ⟨wpList_plain rfl fun K hK => ?_⟩
  unfold Oper.wp
  have hr : (execOp (ev l) ⟨some d, .box t x, ty, ps, af, none⟩).run P w = .ok (.value (.pointer (some ⟨w.heap.size, 0, none⟩))) (w.alloc (.cells v.cells t)) := by
    simp [execOp, hx, Instr.box, newVar, newRow]
  rw [eval_ev, hr, Oper.upon_value, put_ac]
  exact hK _ _ (h _ _ (hS.alloc _)).out
theorem o_alloc {t : TypeId} {z : Value} {i : TypeInfo} (hS : St W g L0 L w) (hi : P.info? t = some i) (hz : i.zero = some z) (h : ∀ b w', St W g L0 ((b, .cells z.cells t (0, 0)) :: L) w' → WL P ops Q rest (Ac (l.upd d (.pointer (some ⟨b, 0, none⟩)))) w') :
    WL P ops Q (⟨some d, .alloc t, ty, ps, af, none⟩ :: rest) (Ac l) w := by
  refine ⟨wpList_plain rfl fun K hK => ?_⟩
  unfold Oper.wp
  have hr : (execOp (ev l) ⟨some d, .alloc t, ty, ps, af, none⟩).run P w = .ok (.value (.pointer (some ⟨w.heap.size, 0, none⟩))) (w.alloc (.cells z.cells t)) := by
    simp [execOp, Instr.alloc, zeroValue, typeInfo, hi, hz, newVar, newRow]
  rw [eval_ev, hr, Oper.upon_value, put_ac]
  exact hK _ _ (h _ _ (hS.alloc _)).out
theorem run_enter {f : FuncId} {fn : Func} {ao : Array Operand} {ts : Array TypeId} {dst : Option Tmp} (hf : P.funcs[f]? = some fn) (hname : (fn.name == "runtime.NumGoroutine") = false) (hb : fn.body.isSome = true) (ρ : Operand → Value)
    (hρ : ρ (.func f) = .func (.func f) #[] #[]) : (execOp ρ ⟨dst, .call { callee := .value (.func f), args := ao, argTypes := ts }, ty, ps, af, none⟩).run P w = .ok (.enter f (ao.map ρ)) w := by
  have hb' : fn.body ≠ none := by cases h : fn.body <;> simp [h] at hb ⊢
  have hn : ¬ fn.name = "runtime.NumGoroutine" := by simpa using hname
  simp [execOp, resolve, hρ, Deferred.ofValue, invoke, callFunc, program, Sem.run, hf, hn, hb']
theorem o_call {f : FuncId} {fn : Func} {ao : Array Operand} {ts : Array TypeId} {args : Array Value} {L1 L2 : Own} {R : Value → Own → Prop} (hS : St W g L0 (L1 ++ L2) w) (hf : P.funcs[f]? = some fn) (hname : (fn.name == "runtime.NumGoroutine") = false) (hb : fn.body.isSome = true)
    (ha : ao.map (ev l) = args := by exact avs) (hc : LC P f args (g.plus L2) L1 R) (h : ∀ v L' w', St W g L0 (L' ++ L2) w' → R v L' → WL P ops Q rest (Ac (l.upd d v)) w') :
    WL P ops Q (⟨some d, .call { callee := .value (.func f), args := ao, argTypes := ts }, ty, ps, af, none⟩ :: rest) (Ac l) w := by
  refine ⟨wpList_plain rfl fun K hK => ?_⟩
  unfold Oper.wp
  rw [eval_ev, run_enter hf hname hb (ev l) rfl, Oper.upon_enter, ha]
  refine (LC.at hS hc).mono ?_
  rintro e w' ⟨v, L', rfl, hs, hr⟩
  show K ((Ac l).put (some d) v) w'
  rw [put_ac]
  exact hK _ _ (h v L' w' hs hr).out
theorem run_enterV {f : FuncId} {fn : Func} {x : Operand} {cap : Array Value} {ao : Array Operand} {ts : Array TypeId} {dst : Option Tmp} (hf : P.funcs[f]? = some fn) (hname : (fn.name == "runtime.NumGoroutine") = false) (hb : fn.body.isSome = true) (ρ : Operand → Value)
    (hρ : ρ x = .func (.func f) #[] cap) : (execOp ρ ⟨dst, .call { callee := .value x, args := ao, argTypes := ts }, ty, ps, af, none⟩).run P w = .ok (.enter f (ao.map ρ ++ cap)) w := by
  have hb' : fn.body ≠ none := by cases h : fn.body <;> simp [h] at hb ⊢
  have hn : ¬ fn.name = "runtime.NumGoroutine" := by simpa using hname
  simp [execOp, resolve, hρ, Deferred.ofValue, invoke, callFunc, program, Sem.run, hf, hn, hb']
theorem o_callV {f : FuncId} {fn : Func} {x : Operand} {cap : Array Value} {ao : Array Operand} {ts : Array TypeId} {args : Array Value} {L1 L2 : Own} {R : Value → Own → Prop} (hS : St W g L0 (L1 ++ L2) w) (hx : ev l x = .func (.func f) #[] cap := by (conv => lhs; whnf) <;> exact rfl) (hf : P.funcs[f]? = some fn) (hname : (fn.name == "runtime.NumGoroutine") = false) (hb : fn.body.isSome = true)
    (ha : ao.map (ev l) ++ cap = args) (hc : LC P f args (g.plus L2) L1 R) (h : ∀ v L' w', St W g L0 (L' ++ L2) w' → R v L' → WL P ops Q rest (Ac (l.upd d v)) w') :
    WL P ops Q (⟨some d, .call { callee := .value x, args := ao, argTypes := ts }, ty, ps, af, none⟩ :: rest) (Ac l) w := by
  refine ⟨wpList_plain rfl fun K hK => ?_⟩
  unfold Oper.wp
  rw [eval_ev, run_enterV hf hname hb (ev l) hx, Oper.upon_enter, ha]
  refine (LC.at hS hc).mono ?_
  rintro e w' ⟨v, L', rfl, hs, hr⟩
  show K ((Ac l).put (some d) v) w'
  rw [put_ac]
  exact hK _ _ (h v L' w' hs hr).out
end
end Go.Proofs.YtgakgpbmcbegbaaGreatDoor.Fr
