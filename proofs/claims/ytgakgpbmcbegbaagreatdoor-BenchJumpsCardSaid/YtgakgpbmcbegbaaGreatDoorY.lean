/- What each operation yields, in every world of a class. Printed by mky.py. -/
import Derived.Test.YtgakgpbmcbegbaaGreatDoorHeldB
import Derived.Laws.StructEq
import Derived.Laws.ComplexArith
namespace Go.Proofs.YtgakgpbmcbegbaaGreatDoor
open Go
def byte' (s : ByteArray) (i : Int) : Option Int := if 0 ≤ i then s[i.toNat]?.map (fun b => (b.toNat : Int)) else none
end Go.Proofs.YtgakgpbmcbegbaaGreatDoor
namespace Go.Proofs.YtgakgpbmcbegbaaGreatDoor.Fr
open Go.RowKit
set_option linter.unusedVariables false
set_option linter.unusedSimpArgs false
def isNil : Value → Bool
  | .slice none _ _ => true
  | _ => false
theorem isNil_nil {α : Type} {g : Frag} {enc : α → List Value} {sz : Nat} {zs : List α} {v : Value} (hr : SlT g enc sz zs v) (h : isNil v = true) : zs = [] := by
  obtain ⟨A, c, rfl, _, _, h3⟩ := hr
  cases A with
  | some x => cases h
  | none =>
    rcases h3 with h3 | ⟨b, o, cs, e, fz, h3, _⟩
    · exact List.eq_nil_of_length_eq_zero h3
    · cases h3
theorem fillS {pl : List (Nat × Nat)} {cl vs : List Value} {i off size : Nat} {v : Value} {r : List (Nat × Value)} {res : Array Value} (hp : pl[i]? = some (off, size)) (hc : v.cells = vs.toArray) (hs : vs.length = size) (ho : Nat.ble (off + size) cl.length = true)
    (h : Instr.fill (fun i => pl[i]?) (wr cl off vs).toArray r = some res) : Instr.fill (fun i => pl[i]?) cl.toArray ((i, v) :: r) = some res := by
  have ho' := Nat.le_of_ble_eq_true ho
  rw [fill_one hp (by rw [hc]; simpa using hs) (by simpa using ho')]
  rw [hc]
  have hz : vs.toArray.zipIdx.foldl (fun (cs : Array Value) (p : Value × Nat) => cs.setIfInBounds (off + p.2) p.1) cl.toArray = (wr cl off vs).toArray := by
    rw [← Array.foldl_toList, Array.toList_zipIdx, foldl_set, Nat.add_zero]
  exact (congrArg (fun a => Instr.fill (fun i => pl[i]?) a r) hz).trans h
theorem fillN {pl : List (Nat × Nat)} {cl : List Value} : Instr.fill (fun i => pl[i]?) cl.toArray [] = some cl.toArray := rfl
theorem run_part1 {P : Program} {w : World} {t : TypeId} {ds : TypeDesc} {cs : Array Value} {off : Nat} {v : Value} (hu : P.underlying t = some ds) (hd : ds.isRow = false) (hv : cs[off]? = some v) : (part t cs off).run P w = .ok v w := by
  have hagg : (isAgg t).run P w = .ok false w := by
    unfold isAgg
    rw [Sem.run_bind, run_underlying hu w]
    cases ds <;> simp_all
  simp [part, hagg, hv]
def EqF (P : Program) (d : Nat) (xs ys : Array Value) (f : Field) (b : Bool) : Prop :=
  f.name ≠ "_" ∧ ∃ u v, (∀ w, (part f.type xs f.offset).run P w = .ok u w) ∧ (∀ w, (part f.type ys f.offset).run P w = .ok v w) ∧ ∀ w, (Op.equalIn d f.type u v).run P w = .ok b w
inductive EqFs (P : Program) (d : Nat) (xs ys : Array Value) : List Field → List Bool → Prop where
  | nil : EqFs P d xs ys [] []
  | cons {f : Field} {b : Bool} {fs : List Field} {bs : List Bool} (h : EqF P d xs ys f b) (hs : EqFs P d xs ys fs bs) : EqFs P d xs ys (f :: fs) (b :: bs)
theorem eqFields_of {P : Program} {d : Nat} {xs ys : Array Value} {fs : List Field} {bs : List Bool} {w : World} (h : EqFs P d xs ys fs bs) : (Op.eqFields d xs ys fs).run P w = .ok (bs.all id) w := by
  induction h generalizing w with
  | nil => simp [Op.eqFields]
  | cons h _ ih =>
    obtain ⟨hn, u, v, h1, h2, h3⟩ := h
    simp only [Op.eqFields, if_pos hn, Sem.run_bind, h1, h2, h3, Result.andThen_ok, Sem.run_ite]
    rename_i f b fs bs _
    cases b with
    | true => simp [ih]
    | false => simp
theorem eqf_int {P : Program} {d : Nat} {xs ys : Array Value} {f : Field} {k : IntKind} {a b : Int} (hu : P.underlying f.type = some (.int k)) (hx : xs[f.offset]? = some (.int k a)) (hy : ys[f.offset]? = some (.int k b)) (hn : f.name ≠ "_") : EqF P (d + 1) xs ys f (decide (a = b)) :=
  ⟨hn, _, _, fun w => run_part1 hu rfl hx, fun w => run_part1 hu rfl hy, fun w => run_equalIn_int w d _ k k a b hu⟩
theorem eqf_bool {P : Program} {d : Nat} {xs ys : Array Value} {f : Field} {a b : Bool} (hu : P.underlying f.type = some .bool) (hx : xs[f.offset]? = some (.bool a)) (hy : ys[f.offset]? = some (.bool b)) (hn : f.name ≠ "_") : EqF P (d + 1) xs ys f (a == b) :=
  ⟨hn, _, _, fun w => run_part1 hu rfl hx, fun w => run_part1 hu rfl hy, fun w => run_equalIn_bool' w d _ a b hu⟩
structure BT (P : Program) (t : TypeId) (pl : List (Nat × Nat)) (zl : List Value) : Prop where
  run : ∀ (parts : Array (Nat × Value)) (w : World), (Instr.build t parts).run P w = match Instr.fill (fun i => pl[i]?) zl.toArray parts.toList with
    | some cl => .ok (.agg cl) w
    | none => (Instr.build t parts).run P w
theorem run_places {P : Program} {w : World} {F : Field → Sem (Nat × Nat)} (hF : ∀ (f : Field) (p : Nat × Nat), f.offset = p.1 → (P.info? f.type).map (·.size) = some p.2 → (F f).run P w = .ok p w) : ∀ {fs : List Field} {pl : List (Nat × Nat)}, fs.map (fun f => (f.offset, (P.info? f.type).map (·.size))) = pl.map (fun p => (p.1, some p.2)) →
    (fs.mapM F).run P w = .ok pl w
  | [], [], _ => rfl
  | [], _ :: _, h => by cases h
  | _ :: _, [], h => by cases h
  | f :: fs, p :: pl, h => by
    simp only [List.map_cons, List.cons.injEq, Prod.mk.injEq] at h
    obtain ⟨⟨h1, h2⟩, h3⟩ := h
    have ih := run_places hF h3
    simp only [List.mapM_cons, Sem.run_bind, hF f p h1 h2, Result.andThen_ok, ih, Sem.run_pure]
theorem BT.of {P : Program} {t : TypeId} {pl : List (Nat × Nat)} {zl : List Value} {z : Value} {fs : Array Field} (hz : (P.info? t).map (·.zero) = some (some z)) (hzl : z.cells = zl.toArray) (hu : P.underlying t = some (.struct fs))
    (hp : fs.toList.map (fun f => (f.offset, (P.info? f.type).map (·.size))) = pl.map (fun p => (p.1, some p.2))) : BT P t pl zl := by
  refine ⟨fun parts w => ?_⟩
  split
  · rename_i cl hcl
    cases hq : P.info? t with
    | none => simp [hq] at hz
    | some i =>
      have h1 : i.zero = some z := by simpa [hq] using hz
      have hpl := run_places (P := P) (w := w) (F := fun f => do pure (f.offset, ← sizeOf f.type)) (fun f p e1 e2 => by
        cases hq : P.info? f.type with
        | none => simp [hq] at e2
        | some i =>
          have hs : i.size = p.2 := by simpa [hq] using e2
          simp [sizeOf, typeInfo, hq, e1, hs]) hp
      have hf : (fun (i : Nat) => pl.toArray[i]?) = fun (i : Nat) => pl[i]? := by funext i; simp
      have hm : (fs.mapM fun f => do pure (f.offset, ← sizeOf f.type) : Sem (Array (Nat × Nat))).run P w = .ok pl.toArray w := by
        rw [Array.mapM_eq_mapM_toList, Sem.run_map, hpl]; rfl
      have hz2 : (zeroValue t).run P w = .ok z w := by simp [zeroValue, typeInfo, hq, h1]
      rw [Instr.build]
      simp only [Sem.run_bind, hz2, run_underlying hu, Result.andThen_ok, hm, hzl, hf, hcl, Sem.run_pure]
  · rfl
section
variable {P : Program} {C : World → Prop} {l : Fm} {d : Nat} {ty : TypeId} {ps : String} {af : Array Edge}
theorem y_move {x : Operand} {v : Value} (hx : ev l x = v := by (conv => lhs; whnf) <;> exact rfl) : YV P C l ⟨some d, .move x, ty, ps, af, none⟩ (v) := fun w hw => by subst hx; rfl
theorem y_assign {x : Operand} {v : Value} (hx : ev l x = v := by (conv => lhs; whnf) <;> exact rfl) : YV P C l ⟨some d, .assign x, ty, ps, af, none⟩ (v) := fun w hw => by subst hx; rfl
theorem y_pickT {x y z : Operand} {u : Value} (hx : ev l x = .bool true := by (conv => lhs; whnf) <;> exact rfl) (hy : ev l y = u := by (conv => lhs; whnf) <;> exact rfl) : YV P C l ⟨some d, .pick x y z, ty, ps, af, none⟩ (u) := fun w hw => by simp [execOp, hx, hy, asBool]
theorem y_pickF {x y z : Operand} {u : Value} (hx : ev l x = .bool false := by (conv => lhs; whnf) <;> exact rfl) (hz : ev l z = u := by (conv => lhs; whnf) <;> exact rfl) : YV P C l ⟨some d, .pick x y z, ty, ps, af, none⟩ (u) := fun w hw => by simp [execOp, hx, hz, asBool]
theorem y_bin {op : BinOp} {k : IntKind} {a b : Int} {v : Value} {x y : Operand} {t t' : TypeId} (hx : ev l x = .int k a := by (conv => lhs; whnf) <;> exact rfl) (hy : ev l y = .int k b := by (conv => lhs; whnf) <;> exact rfl) (hv : ib op k a b = some v := by exact rfl) : YV P C l ⟨some d, .binOp op t x y t', ty, ps, af, none⟩ (v) := fun w hw => by simp [execOp, hx, hy, eqGuard_at_int, run_ib hv t w]
theorem y_quo {k : IntKind} {a b c : Int} {x y : Operand} {t t' : TypeId} (hq : quo' k a b = some c) (hx : ev l x = .int k a := by (conv => lhs; whnf) <;> exact rfl) (hy : ev l y = .int k b := by (conv => lhs; whnf) <;> exact rfl) : YV P C l ⟨some d, .binOp .quo t x y t', ty, ps, af, none⟩ (.int k c) := fun w hw => by obtain ⟨h0, rfl⟩ := quo'_some hq; simp [execOp, hx, hy, go_sem, Op.intDiv, h0]
theorem y_shl {k k' : IntKind} {a b c : Int} {x y : Operand} {t t' : TypeId} (hq : shl' k a b = some c) (hx : ev l x = .int k a := by (conv => lhs; whnf) <;> exact rfl) (hy : ev l y = .int k' b := by (conv => lhs; whnf) <;> exact rfl) : YV P C l ⟨some d, .binOp .shl t x y t', ty, ps, af, none⟩ (.int k c) := fun w hw => by obtain ⟨h0, rfl⟩ := shl'_some hq; simp [execOp, hx, hy, eqGuard, binOp, Op.shift, show ¬ b < 0 from by omega]
theorem y_not {c : Bool} {x : Operand} {t : TypeId} (hx : ev l x = .bool c := by (conv => lhs; whnf) <;> exact rfl) : YV P C l ⟨some d, .unOp .not t x, ty, ps, af, none⟩ (.bool !c) := fun w hw => by simp [execOp, hx, Op.unary]
theorem y_neg {k : IntKind} {a : Int} {x : Operand} {t : TypeId} (hx : ev l x = .int k a := by (conv => lhs; whnf) <;> exact rfl) : YV P C l ⟨some d, .unOp .neg t x, ty, ps, af, none⟩ (.int k (k.wrap (0 - a))) := fun w hw => by simp [execOp, hx, Op.unary, Op.intArith]
theorem y_seql {a b : ByteArray} {x y : Operand} {t t' : TypeId} (hx : ev l x = .string a := by (conv => lhs; whnf) <;> exact rfl) (hy : ev l y = .string b := by (conv => lhs; whnf) <;> exact rfl) : YV P C l ⟨some d, .binOp .eql t x y t', ty, ps, af, none⟩ (.bool (decide (a = b))) := fun w hw => by simp [execOp, hx, hy, eqGuard_at_string, binOp, Op.stringOp, bytes_eq]
theorem y_sneq {a b : ByteArray} {x y : Operand} {t t' : TypeId} (hx : ev l x = .string a := by (conv => lhs; whnf) <;> exact rfl) (hy : ev l y = .string b := by (conv => lhs; whnf) <;> exact rfl) : YV P C l ⟨some d, .binOp .neq t x y t', ty, ps, af, none⟩ (.bool !(decide (a = b))) := fun w hw => by simp [execOp, hx, hy, eqGuard_at_string, binOp, Op.stringOp, bytes_eq]
theorem y_bneq {a b : Bool} {x y : Operand} {t t' : TypeId} (ht : P.underlying t = some .bool) (hx : ev l x = .bool a := by (conv => lhs; whnf) <;> exact rfl) (hy : ev l y = .bool b := by (conv => lhs; whnf) <;> exact rfl) : YV P C l ⟨some d, .binOp .neq t x y t', ty, ps, af, none⟩ (.bool (a != b)) := fun w hw => by
  have he : ∀ d : Nat, (Op.equalIn (d + 1) t (.bool a) (.bool b)).run P w = .ok (a == b) w := fun d => by
    simp [Op.equalIn, run_underlying ht]
  have hr : (binOp .neq t (.bool a) (.bool b)).run P w = .ok (.bool (a != b)) w := by
    simp only [binOp]
    simp [Op.equal, Op.maxDepth, he 9999, bne]
  simp [execOp, hx, hy, eqGuard_at_bool, hr]
theorem y_conv {k k' : IntKind} {a : Int} {x : Operand} {s t : TypeId} {ds : TypeDesc} (hs : P.underlying s = some ds) (ht : P.underlying t = some (.int k)) (hx : ev l x = .int k' a := by (conv => lhs; whnf) <;> exact rfl) : YV P C l ⟨some d, .convert s t x, ty, ps, af, none⟩ (.int k (k.wrap a)) := fun w hw => by simp [execOp, hx, convert, run_underlying hs, run_underlying ht, Conv.intToInt]
theorem y_len {α : Type} {enc : α → List Value} {sz : Nat} {zs : List α} {g : Frag} {v : Value} {x : Operand} {t e : TypeId} (hr : SlT g enc sz zs v) (ht : P.underlying t = some (.slice e)) (hx : ev l x = v := by (conv => lhs; whnf) <;> exact rfl) : YV P C l ⟨some d, .call { callee := .builtin .len, args := #[x], argTypes := #[t] }, ty, ps, af, none⟩ (.int .i64 zs.length) := fun w hw => by obtain ⟨A, c, rfl, _⟩ := hr; simp [execOp, resolve, invoke, builtin, hx, Builtin.len_, run_underlying ht, goInt]
theorem y_lenO {α : Type} {enc : α → List Value} {sz e' : Nat} {zs : List α} {LX : Own} {v : Value} {x : Operand} {t e : TypeId} (hr : OwT e' enc sz zs v LX) (ht : P.underlying t = some (.slice e)) (hx : ev l x = v := by (conv => lhs; whnf) <;> exact rfl) : YV P C l ⟨some d, .call { callee := .builtin .len, args := #[x], argTypes := #[t] }, ty, ps, af, none⟩ (.int .i64 zs.length) := fun w hw => by obtain ⟨A, c, rfl, _⟩ := SlO.slice hr; simp [execOp, resolve, invoke, builtin, hx, Builtin.len_, run_underlying ht, goInt]
theorem y_lens {x : Operand} {t : TypeId} {s : ByteArray} (ht : P.underlying t = some .string) (hx : ev l x = .string s := by (conv => lhs; whnf) <;> exact rfl) : YV P C l ⟨some d, .call { callee := .builtin .len, args := #[x], argTypes := #[t] }, ty, ps, af, none⟩ (.int .i64 s.size) := fun w hw => by simp [execOp, resolve, invoke, builtin, hx, Builtin.len_, run_underlying ht, goInt]
theorem y_min {k : IntKind} {a b : Int} {x y : Operand} {ts : Array TypeId} (hx : ev l x = .int k a := by (conv => lhs; whnf) <;> exact rfl) (hy : ev l y = .int k b := by (conv => lhs; whnf) <;> exact rfl) : YV P C l ⟨some d, .call { callee := .builtin .min, args := #[x, y], argTypes := ts }, ty, ps, af, none⟩ (.int k (imin a b)) := fun w hw => by
  simp only [execOp, resolve, invoke, builtin, List.map_toArray, List.map_cons, List.map_nil, hx, hy, Sem.run_bind, Sem.run_pure, Result.andThen_ok]
  simp only [Builtin.min_, List.foldlM_cons, List.foldlM_nil, Builtin.min2, imin]
  by_cases hab : b < a <;> simp [hab]
theorem y_max {k : IntKind} {a b : Int} {x y : Operand} {ts : Array TypeId} (hx : ev l x = .int k a := by (conv => lhs; whnf) <;> exact rfl) (hy : ev l y = .int k b := by (conv => lhs; whnf) <;> exact rfl) : YV P C l ⟨some d, .call { callee := .builtin .max, args := #[x, y], argTypes := ts }, ty, ps, af, none⟩ (.int k (imax a b)) := fun w hw => by
  simp only [execOp, resolve, invoke, builtin, List.map_toArray, List.map_cons, List.map_nil, hx, hy, Sem.run_bind, Sem.run_pure, Result.andThen_ok]
  simp only [Builtin.max_, List.foldlM_cons, List.foldlM_nil, Builtin.max2, imax]
  by_cases hab : a < b <;> simp [hab]
theorem y_extract {x : Operand} {vs : Array Value} {i : Nat} {v : Value} (hv : vs[i]? = some v) (hx : ev l x = .tuple vs := by (conv => lhs; whnf) <;> exact rfl) : YV P C l ⟨some d, .extract x i, ty, ps, af, none⟩ (v) := fun w hw => by simp [execOp, hx, Instr.extract, hv]
theorem y_makeFunc {fn : Fn} {a b : Array Operand} {va vb : Array Value} (ha : a.map (ev l) = va) (hb : b.map (ev l) = vb)  : YV P C l ⟨some d, .makeFunc fn a b, ty, ps, af, none⟩ (.func fn va vb) := fun w hw => by simp [execOp, ha, hb, Instr.makeFunc]
theorem y_nilCheck {x : Operand} {a : Addr} (hx : ev l x = .pointer (some a) := by (conv => lhs; whnf) <;> exact rfl) : YV P C l ⟨some d, .nilCheck x, ty, ps, af, none⟩ (.pointer (some a)) := fun w hw => by simp [execOp, hx]
theorem y_field {x : Operand} {s : TypeId} {i k b o : Nat} (hf : ∀ (b o : Nat) (w : World), (Instr.fieldAt s (.pointer (some ⟨b, o, none⟩)) i).run P w = .ok (.pointer (some ⟨b, o + k, none⟩)) w) (hx : ev l x = .pointer (some ⟨b, o, none⟩) := by (conv => lhs; whnf) <;> exact rfl) : YV P C l ⟨some d, .fieldAddr s x i, ty, ps, af, none⟩ (.pointer (some ⟨b, o + k, none⟩)) := fun w hw => by simp [execOp, hx, hf]
theorem y_load {x : Operand} {t : TypeId} {ds : TypeDesc} {b o : Nat} {cs : Array Value} {e : TypeId} {fz : Nat × Nat} {v : Value} (hb : ∀ w, C w → w.heap[b]? = some (.cells cs e fz)) (hu : P.underlying t = some ds) (hd : ds.isRow = false) (hv : cs[o]? = some v) (hx : ev l x = .pointer (some ⟨b, o, none⟩) := by (conv => lhs; whnf) <;> exact rfl) : YV P C l ⟨some d, .load t x, ty, ps, af, none⟩ (v) := fun w hw => by simp [execOp, hx, run_load1 (hb w hw) hu hd hv]
theorem y_loadN {x : Operand} {t : TypeId} {ds : TypeDesc} {b o : Nat} {cs : Array Value} {e : TypeId} {fz : Nat × Nat} {vs : List Value} (hb : ∀ w, C w → w.heap[b]? = some (.cells cs e fz)) (hu : P.underlying t = some ds) (hd : ds.isRow = true) (hi : (P.info? t).map (·.size) = some vs.length) (hv : ∀ j v, vs[j]? = some v → cs[o + j]? = some v) (hx : ev l x = .pointer (some ⟨b, o, none⟩) := by (conv => lhs; whnf) <;> exact rfl) : YV P C l ⟨some d, .load t x, ty, ps, af, none⟩ (.agg vs.toArray) := fun w hw => by simp [execOp, hx, run_loadAt_mid w b o t vs ds (rangeAt_of (hb w hw) hv) hu hd hi]
theorem y_loadW {x : Operand} {t : TypeId} {ds : TypeDesc} {b : Nat} {cs : Array Value} {e : TypeId} {fz : Nat × Nat} (hb : ∀ w, C w → w.heap[b]? = some (.cells cs e fz)) (hu : P.underlying t = some ds) (hd : ds.isRow = true) (hi : (P.info? t).map (·.size) = some cs.size) (hx : ev l x = .pointer (some ⟨b, 0, none⟩) := by (conv => lhs; whnf) <;> exact rfl) : YV P C l ⟨some d, .load t x, ty, ps, af, none⟩ (.agg cs) := fun w hw => by
  have := run_loadVar_mid (P := P) w b 0 t cs.toList ds (rangeAt_of (hb w hw) (fun j u hj => by simpa using hj)) hu hd (by simpa using hi)
  simp [execOp, hx, Instr.loadAt, Instr.sureAddr, this]
theorem y_index {sz n c b o : Nat} {v : Value} {x y : Operand} {t e : TypeId} {k : IntKind} {i : Int} (hv : v = .slice (some ⟨b, o, none⟩) n c) (h0 : 0 ≤ i) (h1 : i < n) (ht : P.underlying t = some (.slice e)) (hsz : (P.info? e).map (·.size) = some sz) (hx : ev l x = v := by (conv => lhs; whnf) <;> exact rfl) (hy : ev l y = .int k i := by (conv => lhs; whnf) <;> exact rfl) : YV P C l ⟨some d, .indexAddr t x y, ty, ps, af, none⟩ (.pointer (some ⟨b, o + i.toNat * sz, none⟩)) := fun w hw => by
  subst hv
  cases hq : P.info? e with
  | none => simp [hq] at hsz
  | some ti =>
    have hs : ti.size = sz := by simpa [hq] using hsz
    simp [execOp, hx, hy, Instr.indexAt, asIntOf, run_underlying ht, h0, h1, sizeOf, typeInfo, hq, hs, Addr.add_mid]
theorem y_indexA {n sz b o : Nat} {x y : Operand} {t e : TypeId} {k : IntKind} {i : Int} (h0 : 0 ≤ i) (h1 : i < n) (ht : P.underlying t = some (.array n e)) (hsz : (P.info? e).map (·.size) = some sz) (hx : ev l x = .pointer (some ⟨b, o, none⟩) := by (conv => lhs; whnf) <;> exact rfl) (hy : ev l y = .int k i := by (conv => lhs; whnf) <;> exact rfl) : YV P C l ⟨some d, .indexAddr t x y, ty, ps, af, none⟩ (.pointer (some ⟨b, o + i.toNat * sz, none⟩)) := fun w hw => by
  cases hq : P.info? e with
  | none => simp [hq] at hsz
  | some ti =>
    have hs : ti.size = sz := by simpa [hq] using hsz
    simp [execOp, hx, hy, Instr.indexAt, asIntOf, run_underlying ht, h0, h1, sizeOf, typeInfo, hq, hs, Addr.add_mid, Instr.sureAddr]
theorem y_byte {x y : Operand} {t : TypeId} {k : IntKind} {i z : Int} {s : ByteArray} (hi : byte' s i = some z) (ht : P.underlying t = some .string) (hx : ev l x = .string s := by (conv => lhs; whnf) <;> exact rfl) (hy : ev l y = .int k i := by (conv => lhs; whnf) <;> exact rfl) : YV P C l ⟨some d, .index t x y, ty, ps, af, none⟩ (.int .u8 z) := fun w hw => by
  unfold byte' at hi
  split at hi
  · rename_i h0
    cases hq : s[i.toNat]? with
    | none => simp [hq] at hi
    | some u =>
      simp only [hq, Option.map_some, Option.some.injEq] at hi
      subst hi
      simp [execOp, hx, hy, Instr.index, asIntOf, run_underlying ht, h0, hq]
  · cases hi
theorem y_build {t : TypeId} {pl : List (Nat × Nat)} {zl cl : List Value} {parts : Array (Nat × Operand)} {pv : List (Nat × Value)} (hb : BT P t pl zl) (hp : parts.toList.map (fun p => (p.1, ev l p.2)) = pv) (hc : Instr.fill (fun i => pl[i]?) zl.toArray pv = some cl.toArray)  : YV P C l ⟨some d, .build t parts, ty, ps, af, none⟩ (.agg cl.toArray) := fun w hw => by
  have h1 := hb.run (parts.map fun p => (p.1, ev l p.2)) w
  have h2 : (parts.map fun p => (p.1, ev l p.2)).toList = pv := by rw [Array.toList_map]; exact hp
  rw [h2, hc] at h1
  simp only [execOp, h1, Sem.run_bind, Sem.run_pure, Result.andThen_ok]
theorem y_nilsl {x y : Operand} {t t' e : TypeId} {α : Type} {enc : α → List Value} {sz : Nat} {zs : List α} {g : Frag} {v : Value} (hr : SlT g enc sz zs v) (ht : P.underlying t = some (.slice e)) (hx : ev l x = v := by (conv => lhs; whnf) <;> exact rfl) (hy : ev l y = .slice none 0 0 := by (conv => lhs; whnf) <;> exact rfl) : YV P C l ⟨some d, .binOp .eql t x y t', ty, ps, af, none⟩ (.bool (isNil v)) := fun w hw => by
  obtain ⟨A, c, rfl, _⟩ := hr
  have he : ∀ d : Nat, (Op.equalIn (d + 1) t (.slice A zs.length c) (.slice none 0 0)).run P w = .ok (isNil (.slice A zs.length c)) w := fun d => by
    cases A <;> simp [Op.equalIn, run_underlying ht, isNil]
  have hr : (binOp .eql t (.slice A zs.length c) (.slice none 0 0)).run P w = .ok (.bool (isNil (.slice A zs.length c))) w := by
    simp only [binOp]
    simp [Op.equal, Op.maxDepth, he 9999]
  simp [execOp, hx, hy, eqGuard_at_slice, hr]
theorem y_slU {α : Type} {enc : α → List Value} {sz : Nat} {zs zs' : List α} {g : Frag} {v : Value} {x yh : Operand} {kh : IntKind} {hi : Int} {t e : TypeId} (hs : sub' zs 0 hi = some zs') (hr : SlT g enc sz zs v) (ht : P.underlying t = some (.slice e)) (hsz : (P.info? e).map (·.size) = some sz) (hx : ev l x = v := by (conv => lhs; whnf) <;> exact rfl) (hyh : ev l yh = .int kh hi := by (conv => lhs; whnf) <;> exact rfl) : YV P C l ⟨some d, .slice t x none (some yh) none, ty, ps, af, none⟩ (slV sz (0 : Int).toNat (hi).toNat v) := fun w hw => by
  obtain ⟨h0, h1, h2, rfl⟩ := sub'_some hs
  obtain ⟨A, c, rfl, ⟨hc, hA⟩, hl, h3⟩ := hr
  cases hq : P.info? e with
  | none => simp [hq] at hsz
  | some ti =>
    have hz : ti.size = sz := by simpa [hq] using hsz
    subst hz
    have q1 : hi ≤ (c : Int) := by omega
    have q0 : 0 ≤ hi := by omega
    have q2 : (c : Int).toNat = c := by omega
    simp [execOp, hx, hyh,  Instr.sliceAt, Instr.slice, Instr.sliceBounds, Instr.sliceBound, asIntOf, run_underlying ht, sizeOf, typeInfo, hq, slV, h0, h1, h2, hc, q0, q1]
theorem y_slD {α : Type} {enc : α → List Value} {sz : Nat} {zs zs' : List α} {g : Frag} {v : Value} {x yl : Operand} {kl : IntKind} {lo : Int} {t e : TypeId} (hs : sub' zs lo (zs.length : Int) = some zs') (hr : SlT g enc sz zs v) (ht : P.underlying t = some (.slice e)) (hsz : (P.info? e).map (·.size) = some sz) (hx : ev l x = v := by (conv => lhs; whnf) <;> exact rfl) (hyl : ev l yl = .int kl lo := by (conv => lhs; whnf) <;> exact rfl) : YV P C l ⟨some d, .slice t x (some yl) none none, ty, ps, af, none⟩ (slV sz (lo : Int).toNat ((zs.length : Int)).toNat v) := fun w hw => by
  obtain ⟨h0, h1, h2, rfl⟩ := sub'_some hs
  obtain ⟨A, c, rfl, ⟨hc, hA⟩, hl, h3⟩ := hr
  cases hq : P.info? e with
  | none => simp [hq] at hsz
  | some ti =>
    have hz : ti.size = sz := by simpa [hq] using hsz
    subst hz
    have q1 : (zs.length : Int) ≤ (c : Int) := by omega
    have q0 : 0 ≤ (zs.length : Int) := by omega
    have q2 : (c : Int).toNat = c := by omega
    simp [execOp, hx, hyl,  Instr.sliceAt, Instr.slice, Instr.sliceBounds, Instr.sliceBound, asIntOf, run_underlying ht, sizeOf, typeInfo, hq, slV, h0, h1, h2, hc, q0, q1, show lo ≤ (zs.length : Int) from by omega]
theorem y_steq_neq {b : Bool} {x y : Operand} {xs ys : Array Value} {t t' : TypeId} (hg : P.eqGuardType P.depth t = false) (he : ∀ w, (Op.equalIn 10000 t (.agg xs) (.agg ys)).run P w = .ok b w) (hx : ev l x = .agg xs := by (conv => lhs; whnf) <;> exact rfl) (hy : ev l y = .agg ys := by (conv => lhs; whnf) <;> exact rfl) : YV P C l ⟨some d, .binOp .neq t x y t', ty, ps, af, none⟩ (.bool (!b)) := fun w hw => by simp [execOp, hx, hy, run_eqGuard_agg w _ t x y xs ys hg, run_neq_struct, he w]
end
end Go.Proofs.YtgakgpbmcbegbaaGreatDoor.Fr
