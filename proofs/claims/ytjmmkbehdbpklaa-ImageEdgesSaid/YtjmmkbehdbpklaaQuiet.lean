/- Rules for regions that draw their order and change nothing. Made by mkquiet.py out of the plain rules. -/
import Derived.Test.YtjmmkbehdbpklaaRead
import Derived.Deep.Quiet
namespace Go.Proofs.Ytjmmkbehdbpklaa.Fr
open Go.RowKit
section
variable {P : Program} {ops : Array Oper} {C : World → Prop} {K : Act → Prop} {rest : List Oper} {l : Fm} {d : Nat} {ty : TypeId} {ps : String} {af : Array Edge} {g : Frag}

theorem q_nil (h : K (Ac l)) : WQ P ops C K [] (Ac l) := ⟨h⟩
theorem q_nilN (h : K (Ac l)) : WQ P ops C K [] (Ac l) := ⟨h⟩
theorem q_val {op : Op} {v : Value} (hr : ∀ w, C w → (execOp (ev l) ⟨some d, op, ty, ps, af, none⟩).run P w = .ok (.value v) w) (h : WQ P ops C K rest (Ac (l.upd d v))) :
    WQ P ops C K (⟨some d, op, ty, ps, af, none⟩ :: rest) (Ac l) := by
  refine ⟨wpQuiet_step fun K' hK => ?_⟩
  rw [if_pos (by simp [Region.wanted])]
  refine ⟨v, fun w hw => ?_, ?_⟩
  · unfold Oper.quietAt
    rw [eval_ev, hr w hw]
    exact ⟨rfl, rfl⟩
  · rw [put_ac]
    exact hK _ h.out

theorem q_guard {op : Op} {dst : Option Tmp} {j : Nat} {want : Bool} {oj : Oper} {t : Tmp} {b : Bool} (hj : ops[j]? = some oj) (hd : oj.dst = some t) (hl : nth l t = .bool b := by (conv => lhs; whnf) <;> exact rfl) (hb : b = want)
    (h : WQ P ops C K (⟨dst, op, ty, ps, af, none⟩ :: rest) (Ac l)) : WQ P ops C K (⟨dst, op, ty, ps, af, some (j, want)⟩ :: rest) (Ac l) := by
  have hy : yielded ops (Ac l).tmps j = some b := by simp [yielded, hj, hd, nth_bool hl]
  refine ⟨?_⟩
  have h := h.out
  unfold wpQuiet at h ⊢
  rw [if_pos (by simp [Region.wanted])] at h
  rw [if_pos (by simp [Region.wanted, hy, hb])]
  exact h
theorem q_skip {op : Op} {j : Nat} {want : Bool} {oj : Oper} {t : Tmp} {b : Bool} (hj : ops[j]? = some oj) (hd : oj.dst = some t) (hl : nth l t = .bool b := by (conv => lhs; whnf) <;> exact rfl) (hb : b ≠ want)
    (h : WQ P ops C K rest (Ac (l.upd d undef))) : WQ P ops C K (⟨some d, op, ty, ps, af, some (j, want)⟩ :: rest) (Ac l) := by
  have hy : yielded ops (Ac l).tmps j = some b := by simp [yielded, hj, hd, nth_bool hl]
  refine ⟨?_⟩
  unfold wpQuiet
  rw [if_neg (by simp [Region.wanted, hy, hb]), put_ac]
  exact h.out

/-- A call of a function that makes nothing. -/
theorem q_callS {W : World} {g : Frag} {L0 L : Own} {f : FuncId} {fn : Func} {ao : Array Operand} {ts : Array TypeId} {args : Array Value} {r : Value} (hf : P.funcs[f]? = some fn) (hname : (fn.name == "runtime.NumGoroutine") = false) (hb : fn.body.isSome = true)
    (ha : ao.map (ev l) = args := by first | exact av0 | exact av1 (by (conv => lhs; whnf) <;> exact rfl) | exact av2 (by (conv => lhs; whnf) <;> exact rfl) (by (conv => lhs; whnf) <;> exact rfl) | exact av3 (by (conv => lhs; whnf) <;> exact rfl) (by (conv => lhs; whnf) <;> exact rfl) (by (conv => lhs; whnf) <;> exact rfl) | exact av4 (by (conv => lhs; whnf) <;> exact rfl) (by (conv => lhs; whnf) <;> exact rfl) (by (conv => lhs; whnf) <;> exact rfl) (by (conv => lhs; whnf) <;> exact rfl) | exact av5 (by (conv => lhs; whnf) <;> exact rfl) (by (conv => lhs; whnf) <;> exact rfl) (by (conv => lhs; whnf) <;> exact rfl) (by (conv => lhs; whnf) <;> exact rfl) (by (conv => lhs; whnf) <;> exact rfl) | exact av6 (by (conv => lhs; whnf) <;> exact rfl) (by (conv => lhs; whnf) <;> exact rfl) (by (conv => lhs; whnf) <;> exact rfl) (by (conv => lhs; whnf) <;> exact rfl) (by (conv => lhs; whnf) <;> exact rfl) (by (conv => lhs; whnf) <;> exact rfl)) (hc : LCs P f args (g.plus L) r) (h : WQ P ops (St W g L0 L) K rest (Ac (l.upd d r))) :
    WQ P ops (St W g L0 L) K (⟨some d, .call { callee := .value (.func f), args := ao, argTypes := ts }, ty, ps, af, none⟩ :: rest) (Ac l) := by
  refine ⟨wpQuiet_step fun K' hK => ?_⟩
  rw [if_pos (by simp [Region.wanted])]
  refine ⟨r, fun w hw => ?_, ?_⟩
  · unfold Oper.quietAt
    rw [eval_ev, run_enter hf hname hb (ev l) rfl, ha]
    refine ⟨rfl, (LC.at (L1 := []) (L2 := L) hw hc).mono ?_⟩
    rintro e w' ⟨v, L', rfl, hs, rfl, rfl⟩
    exact ⟨rfl, hs⟩
  · rw [put_ac]
    exact hK _ h.out

theorem q_move {x : Operand} {v : Value} (hx : ev l x = v := by (conv => lhs; whnf) <;> exact rfl) (h : WQ P ops C K rest (Ac (l.upd d v))) : WQ P ops C K (⟨some d, .move x, ty, ps, af, none⟩ :: rest) (Ac l) :=
  q_val (fun w _ => by subst hx; rfl) h
theorem q_assign {x : Operand} {v : Value} (hx : ev l x = v := by (conv => lhs; whnf) <;> exact rfl) (h : WQ P ops C K rest (Ac (l.upd d v))) : WQ P ops C K (⟨some d, .assign x, ty, ps, af, none⟩ :: rest) (Ac l) :=
  q_val (fun w _ => by subst hx; rfl) h
theorem q_pick {x y z : Operand} {c : Bool} {u v : Value} (hx : ev l x = .bool c := by (conv => lhs; whnf) <;> exact rfl) (hy : ev l y = u := by (conv => lhs; whnf) <;> exact rfl) (hz : ev l z = v := by (conv => lhs; whnf) <;> exact rfl) (h : WQ P ops C K rest (Ac (l.upd d (if c then u else v)))) :
    WQ P ops C K (⟨some d, .pick x y z, ty, ps, af, none⟩ :: rest) (Ac l) :=
  q_val (fun w _ => by simp [execOp, hx, hy, hz, asBool]) h
theorem q_split {x : Operand} {b : Bool} (hx : ev l x = .bool b := by (conv => lhs; whnf) <;> exact rfl) (ht : b = true → WQ P ops C K rest (Ac (l.upd d (.bool true)))) (hf : b = false → WQ P ops C K rest (Ac (l.upd d (.bool false)))) :
    WQ P ops C K (⟨some d, .move x, ty, ps, af, none⟩ :: rest) (Ac l) := by
  refine q_move hx ?_
  cases b with
  | true => exact ht rfl
  | false => exact hf rfl
theorem q_bin {op : BinOp} {k : IntKind} {a b : Int} {v : Value} {x y : Operand} {t t' : TypeId} (hx : ev l x = .int k a := by (conv => lhs; whnf) <;> exact rfl) (hy : ev l y = .int k b := by (conv => lhs; whnf) <;> exact rfl) (hv : ib op k a b = some v := by exact rfl)
    (h : WQ P ops C K rest (Ac (l.upd d v))) : WQ P ops C K (⟨some d, .binOp op t x y t', ty, ps, af, none⟩ :: rest) (Ac l) :=
  q_val (fun w _ => by simp [execOp, hx, hy, eqGuard_at_int, run_ib hv t w]) h
theorem q_add {a b : Int} {x y : Operand} {t t' : TypeId} (hx : ev l x = .int .i64 a := by (conv => lhs; whnf) <;> exact rfl) (hy : ev l y = .int .i64 b := by (conv => lhs; whnf) <;> exact rfl) (h0 : -9223372036854775808 ≤ a + b) (h1 : a + b ≤ 9223372036854775807)
    (h : WQ P ops C K rest (Ac (l.upd d (.int .i64 (a + b))))) : WQ P ops C K (⟨some d, .binOp .add t x y t', ty, ps, af, none⟩ :: rest) (Ac l) :=
  q_bin hx hy (by simp only [ib, wrap_i64 h0 h1]) h
theorem q_sub {a b : Int} {x y : Operand} {t t' : TypeId} (hx : ev l x = .int .i64 a := by (conv => lhs; whnf) <;> exact rfl) (hy : ev l y = .int .i64 b := by (conv => lhs; whnf) <;> exact rfl) (h0 : -9223372036854775808 ≤ a - b) (h1 : a - b ≤ 9223372036854775807)
    (h : WQ P ops C K rest (Ac (l.upd d (.int .i64 (a - b))))) : WQ P ops C K (⟨some d, .binOp .sub t x y t', ty, ps, af, none⟩ :: rest) (Ac l) :=
  q_bin hx hy (by simp only [ib, wrap_i64 h0 h1]) h
theorem q_mul {a b : Int} {x y : Operand} {t t' : TypeId} (hx : ev l x = .int .i64 a := by (conv => lhs; whnf) <;> exact rfl) (hy : ev l y = .int .i64 b := by (conv => lhs; whnf) <;> exact rfl) (h0 : -9223372036854775808 ≤ a * b) (h1 : a * b ≤ 9223372036854775807)
    (h : WQ P ops C K rest (Ac (l.upd d (.int .i64 (a * b))))) : WQ P ops C K (⟨some d, .binOp .mul t x y t', ty, ps, af, none⟩ :: rest) (Ac l) :=
  q_bin hx hy (by simp only [ib, wrap_i64 h0 h1]) h
theorem q_quo {k : IntKind} {a b : Int} {x y : Operand} {t t' : TypeId} (hx : ev l x = .int k a := by (conv => lhs; whnf) <;> exact rfl) (hy : ev l y = .int k b := by (conv => lhs; whnf) <;> exact rfl) (h0 : b ≠ 0)
    (h : WQ P ops C K rest (Ac (l.upd d (.int k (k.wrap (a.tdiv b)))))) : WQ P ops C K (⟨some d, .binOp .quo t x y t', ty, ps, af, none⟩ :: rest) (Ac l) :=
  q_val (fun w _ => by simp [execOp, hx, hy, go_sem, Op.intDiv, h0]) h
theorem q_rem {k : IntKind} {a b : Int} {x y : Operand} {t t' : TypeId} (hx : ev l x = .int k a := by (conv => lhs; whnf) <;> exact rfl) (hy : ev l y = .int k b := by (conv => lhs; whnf) <;> exact rfl) (h0 : b ≠ 0)
    (h : WQ P ops C K rest (Ac (l.upd d (.int k (a.tmod b))))) : WQ P ops C K (⟨some d, .binOp .rem t x y t', ty, ps, af, none⟩ :: rest) (Ac l) :=
  q_val (fun w _ => by simp [execOp, hx, hy, go_sem, Op.intDiv, h0]) h
theorem q_shl {k k' : IntKind} {a b : Int} {x y : Operand} {t t' : TypeId} (hx : ev l x = .int k a := by (conv => lhs; whnf) <;> exact rfl) (hy : ev l y = .int k' b := by (conv => lhs; whnf) <;> exact rfl) (h0 : 0 ≤ b)
    (h : WQ P ops C K rest (Ac (l.upd d (.int k (k.wrap (a * 2 ^ min b.toNat k.bits)))))) : WQ P ops C K (⟨some d, .binOp .shl t x y t', ty, ps, af, none⟩ :: rest) (Ac l) :=
  q_val (fun w _ => by simp [execOp, hx, hy, eqGuard, binOp, Op.shift, show ¬ b < 0 from by omega]) h
theorem q_shr {k k' : IntKind} {a b : Int} {x y : Operand} {t t' : TypeId} (hx : ev l x = .int k a := by (conv => lhs; whnf) <;> exact rfl) (hy : ev l y = .int k' b := by (conv => lhs; whnf) <;> exact rfl) (h0 : 0 ≤ b)
    (h : WQ P ops C K rest (Ac (l.upd d (.int k (a.fdiv (2 ^ min b.toNat k.bits)))))) : WQ P ops C K (⟨some d, .binOp .shr t x y t', ty, ps, af, none⟩ :: rest) (Ac l) :=
  q_val (fun w _ => by simp [execOp, hx, hy, eqGuard, binOp, Op.shift, show ¬ b < 0 from by omega]) h
theorem q_not {c : Bool} {x : Operand} {t : TypeId} (hx : ev l x = .bool c := by (conv => lhs; whnf) <;> exact rfl) (h : WQ P ops C K rest (Ac (l.upd d (.bool !c)))) :
    WQ P ops C K (⟨some d, .unOp .not t x, ty, ps, af, none⟩ :: rest) (Ac l) :=
  q_val (fun w _ => by simp [execOp, hx, Op.unary]) h
theorem q_neg {k : IntKind} {a : Int} {x : Operand} {t : TypeId} (hx : ev l x = .int k a := by (conv => lhs; whnf) <;> exact rfl) (h : WQ P ops C K rest (Ac (l.upd d (.int k (k.wrap (0 - a)))))) :
    WQ P ops C K (⟨some d, .unOp .neg t x, ty, ps, af, none⟩ :: rest) (Ac l) :=
  q_val (fun w _ => by simp [execOp, hx, Op.unary, Op.intArith]) h
theorem q_seql {a b : ByteArray} {x y : Operand} {t t' : TypeId} (hx : ev l x = .string a := by (conv => lhs; whnf) <;> exact rfl) (hy : ev l y = .string b := by (conv => lhs; whnf) <;> exact rfl)
    (h : WQ P ops C K rest (Ac (l.upd d (.bool (decide (a = b)))))) : WQ P ops C K (⟨some d, .binOp .eql t x y t', ty, ps, af, none⟩ :: rest) (Ac l) :=
  q_val (fun w _ => by simp [execOp, hx, hy, eqGuard_at_string, binOp, Op.stringOp, bytes_eq]) h
theorem q_sneq {a b : ByteArray} {x y : Operand} {t t' : TypeId} (hx : ev l x = .string a := by (conv => lhs; whnf) <;> exact rfl) (hy : ev l y = .string b := by (conv => lhs; whnf) <;> exact rfl)
    (h : WQ P ops C K rest (Ac (l.upd d (.bool !(decide (a = b)))))) : WQ P ops C K (⟨some d, .binOp .neq t x y t', ty, ps, af, none⟩ :: rest) (Ac l) :=
  q_val (fun w _ => by simp [execOp, hx, hy, eqGuard_at_string, binOp, Op.stringOp, bytes_eq]) h
theorem q_conv {k k' : IntKind} {a : Int} {x : Operand} {s t : TypeId} {ds : TypeDesc} (hx : ev l x = .int k' a := by (conv => lhs; whnf) <;> exact rfl) (hs : P.underlying s = some ds) (ht : P.underlying t = some (.int k))
    (h : WQ P ops C K rest (Ac (l.upd d (.int k (k.wrap a))))) : WQ P ops C K (⟨some d, .convert s t x, ty, ps, af, none⟩ :: rest) (Ac l) :=
  q_val (fun w _ => by simp [execOp, hx, convert, run_underlying hs, run_underlying ht, Conv.intToInt]) h
theorem q_len {x : Operand} {t e : TypeId} {A : Option Addr} {n c : Nat} (hx : ev l x = .slice A n c := by (conv => lhs; whnf) <;> exact rfl) (ht : P.underlying t = some (.slice e))
    (h : WQ P ops C K rest (Ac (l.upd d (.int .i64 n)))) : WQ P ops C K (⟨some d, .call { callee := .builtin .len, args := #[x], argTypes := #[t] }, ty, ps, af, none⟩ :: rest) (Ac l) :=
  q_val (fun w _ => by simp [execOp, resolve, invoke, builtin, hx, Builtin.len_, run_underlying ht, goInt]) h
theorem q_lens {x : Operand} {t : TypeId} {s : ByteArray} (hx : ev l x = .string s := by (conv => lhs; whnf) <;> exact rfl) (ht : P.underlying t = some .string)
    (h : WQ P ops C K rest (Ac (l.upd d (.int .i64 s.size)))) : WQ P ops C K (⟨some d, .call { callee := .builtin .len, args := #[x], argTypes := #[t] }, ty, ps, af, none⟩ :: rest) (Ac l) :=
  q_val (fun w _ => by simp [execOp, resolve, invoke, builtin, hx, Builtin.len_, run_underlying ht, goInt]) h
theorem q_extract {x : Operand} {vs : Array Value} {i : Nat} {v : Value} (hx : ev l x = .tuple vs := by (conv => lhs; whnf) <;> exact rfl) (hv : vs[i]? = some v) (h : WQ P ops C K rest (Ac (l.upd d v))) :
    WQ P ops C K (⟨some d, .extract x i, ty, ps, af, none⟩ :: rest) (Ac l) :=
  q_val (fun w _ => by simp [execOp, hx, Instr.extract, hv]) h
theorem q_makeFunc {fn : Fn} {a b : Array Operand} {va vb : Array Value} (ha : a.map (ev l) = va) (hb : b.map (ev l) = vb) (h : WQ P ops C K rest (Ac (l.upd d (.func fn va vb)))) :
    WQ P ops C K (⟨some d, .makeFunc fn a b, ty, ps, af, none⟩ :: rest) (Ac l) :=
  q_val (fun w _ => by simp [execOp, ha, hb, Instr.makeFunc]) h
theorem q_field {x : Operand} {s : TypeId} {i k b o : Nat} (hx : ev l x = .pointer (some ⟨b, o, none⟩) := by (conv => lhs; whnf) <;> exact rfl) (hf : ∀ (b o : Nat) (w : World), (Instr.fieldAt s (.pointer (some ⟨b, o, none⟩)) i).run P w = .ok (.pointer (some ⟨b, o + k, none⟩)) w)
    (h : WQ P ops C K rest (Ac (l.upd d (.pointer (some ⟨b, o + k, none⟩))))) : WQ P ops C K (⟨some d, .fieldAddr s x i, ty, ps, af, none⟩ :: rest) (Ac l) :=
  q_val (fun w _ => by simp [execOp, hx, hf]) h
theorem q_load {x : Operand} {t : TypeId} {ds : TypeDesc} {b o : Nat} {cs : Array Value} {e : TypeId} {fz : Nat × Nat} {v : Value} (hx : ev l x = .pointer (some ⟨b, o, none⟩) := by (conv => lhs; whnf) <;> exact rfl) (hb : ∀ w, C w → w.heap[b]? = some (.cells cs e fz))
    (hu : P.underlying t = some ds) (hd : ds.isRow = false) (hv : cs[o]? = some v) (h : WQ P ops C K rest (Ac (l.upd d v))) : WQ P ops C K (⟨some d, .load t x, ty, ps, af, none⟩ :: rest) (Ac l) :=
  q_val (fun w hw => by simp [execOp, hx, run_load1 (hb w hw) hu hd hv]) h
theorem q_loadN {x : Operand} {t : TypeId} {ds : TypeDesc} {b o : Nat} {cs : Array Value} {e : TypeId} {fz : Nat × Nat} {vs : List Value} (hx : ev l x = .pointer (some ⟨b, o, none⟩) := by (conv => lhs; whnf) <;> exact rfl) (hb : ∀ w, C w → w.heap[b]? = some (.cells cs e fz))
    (hu : P.underlying t = some ds) (hd : ds.isRow = true) (hi : (P.info? t).map (·.size) = some vs.length) (hv : ∀ j v, vs[j]? = some v → cs[o + j]? = some v)
    (h : WQ P ops C K rest (Ac (l.upd d (.agg vs.toArray)))) : WQ P ops C K (⟨some d, .load t x, ty, ps, af, none⟩ :: rest) (Ac l) :=
  q_val (fun w hw => by simp [execOp, hx, run_loadAt_mid w b o t vs ds (rangeAt_of (hb w hw) hv) hu hd hi]) h
theorem q_index {x y : Operand} {t e : TypeId} {b o n c sz : Nat} {k : IntKind} {i : Int} (hx : ev l x = .slice (some ⟨b, o, none⟩) n c := by (conv => lhs; whnf) <;> exact rfl) (hy : ev l y = .int k i := by (conv => lhs; whnf) <;> exact rfl) (ht : P.underlying t = some (.slice e)) (hsz : (P.info? e).map (·.size) = some sz)
    (h0 : 0 ≤ i) (h1 : i < n) (h : WQ P ops C K rest (Ac (l.upd d (.pointer (some ⟨b, o + i.toNat * sz, none⟩))))) : WQ P ops C K (⟨some d, .indexAddr t x y, ty, ps, af, none⟩ :: rest) (Ac l) := by
  refine q_val (fun w _ => ?_) h
  cases hq : P.info? e with
  | none => simp [hq] at hsz
  | some ti =>
    have hs : ti.size = sz := by simpa [hq] using hsz
    simp [execOp, hx, hy, Instr.indexAt, asIntOf, run_underlying ht, h0, h1, sizeOf, typeInfo, hq, hs, Addr.add_mid]
theorem q_indexA {x y : Operand} {t e : TypeId} {b o n sz : Nat} {k : IntKind} {i : Int} (hx : ev l x = .pointer (some ⟨b, o, none⟩) := by (conv => lhs; whnf) <;> exact rfl) (hy : ev l y = .int k i := by (conv => lhs; whnf) <;> exact rfl) (ht : P.underlying t = some (.array n e)) (hsz : (P.info? e).map (·.size) = some sz)
    (h0 : 0 ≤ i) (h1 : i < n) (h : WQ P ops C K rest (Ac (l.upd d (.pointer (some ⟨b, o + i.toNat * sz, none⟩))))) : WQ P ops C K (⟨some d, .indexAddr t x y, ty, ps, af, none⟩ :: rest) (Ac l) := by
  refine q_val (fun w _ => ?_) h
  cases hq : P.info? e with
  | none => simp [hq] at hsz
  | some ti =>
    have hs : ti.size = sz := by simpa [hq] using hsz
    simp [execOp, hx, hy, Instr.indexAt, asIntOf, run_underlying ht, h0, h1, sizeOf, typeInfo, hq, hs, Addr.add_mid, Instr.sureAddr]
theorem q_lenR {x : Operand} {t e : TypeId} {v : Value} {sz n : Nat} {xs : List Value} (hx : ev l x = v := by (conv => lhs; whnf) <;> exact rfl) (hr : SlR g sz n xs v) (ht : P.underlying t = some (.slice e))
    (h : WQ P ops C K rest (Ac (l.upd d (.int .i64 n)))) : WQ P ops C K (⟨some d, .call { callee := .builtin .len, args := #[x], argTypes := #[t] }, ty, ps, af, none⟩ :: rest) (Ac l) := by
  obtain ⟨A, c, rfl, _⟩ := hr
  exact q_len hx ht h
theorem q_indexR {x y : Operand} {t e : TypeId} {v : Value} {sz n : Nat} {xs : List Value} {k : IntKind} {i : Int} (hx : ev l x = v := by (conv => lhs; whnf) <;> exact rfl) (hr : SlR g sz n xs v) (hy : ev l y = .int k i := by (conv => lhs; whnf) <;> exact rfl) (ht : P.underlying t = some (.slice e)) (hsz : (P.info? e).map (·.size) = some sz)
    (h0 : 0 ≤ i) (h1 : i < n) (h : ∀ b o cs e' fz, g b = some (.cells cs e' fz) → (∀ j u, xs[i.toNat * sz + j]? = some u → cs[o + j]? = some u) → WQ P ops C K rest (Ac (l.upd d (.pointer (some ⟨b, o, none⟩))))) :
    WQ P ops C K (⟨some d, .indexAddr t x y, ty, ps, af, none⟩ :: rest) (Ac l) := by
  obtain ⟨A, c, rfl, _, _, h3⟩ := hr
  obtain ⟨b, o, cs, e', fz, rfl, hb, hc⟩ := h3.resolve_left (by omega)
  refine q_index hx hy ht hsz h0 h1 (h b _ cs e' fz hb fun j u hj => ?_)
  rw [Nat.add_assoc]
  exact hc _ _ hj
end
end Go.Proofs.Ytjmmkbehdbpklaa.Fr
