/- Rules for regions that draw their order and change nothing. Made by mkquiet.py out of the plain rules. -/
import Derived.Test.YtgakgpbmcbegbaaGreatDoorRead
import Derived.Deep.Quiet
namespace Go.Proofs.YtgakgpbmcbegbaaGreatDoor.Fr
open Go.RowKit
section
variable {P : Program} {ops : Array Oper} {C : World → Prop} {K : Act → Prop} {rest : List Oper} {l : Fm} {d : Nat} {ty : TypeId} {ps : String} {af : Array Edge} {g : Frag}
theorem q_nilN (h : K (Ac l)) : WQ P ops C K [] (Ac l) := ⟨h⟩
theorem q_val {op : Op} {v : Value} (hr : ∀ w, C w → (execOp (ev l) ⟨some d, op, ty, ps, af, none⟩).run P w = .ok (.value v) w) (h : WQ P ops C K rest (Ac (l.upd d v))) :
    WQ P ops C K (⟨some d, op, ty, ps, af, none⟩ :: rest) (Ac l) := by
  refine ⟨wpQuiet_step fun K' hK => ?_⟩
  rw [if_pos (by simp [Region.wanted])]
  refine ⟨v, fun w hw => ?_, ?_⟩
  · unfold Oper.quietAt
    rw [eval_ev, hr w hw]
    exact ⟨rfl, rfl⟩
  · rw [put_ac]
    exact hK _ h.out
theorem q_guard {op : Op} {dst : Option Tmp} {j : Nat} {want : Bool} {oj : Oper} {t : Tmp} {b : Bool} (hj : ops[j]? = some oj) (hd : oj.dst = some t) (hl : nth l t = .bool b := by (conv => lhs; whnf) <;> exact rfl) (hb : b = want)
    (h : WQ P ops C K (⟨dst, op, ty, ps, af, none⟩ :: rest) (Ac l)) : WQ P ops C K (⟨dst, op, ty, ps, af, some (j, want)⟩ :: rest) (Ac l) := by
  have hy : yielded ops (Ac l).tmps j = some b := by simp [yielded, hj, hd, nth_bool hl]
  refine ⟨?_⟩
  have h := h.out
  unfold wpQuiet at h ⊢
  rw [if_pos (by simp [Region.wanted])] at h
  rw [if_pos (by simp [Region.wanted, hy, hb])]
  exact h
theorem q_skip {op : Op} {j : Nat} {want : Bool} {oj : Oper} {t : Tmp} {b : Bool} (hj : ops[j]? = some oj) (hd : oj.dst = some t) (hl : nth l t = .bool b := by (conv => lhs; whnf) <;> exact rfl) (hb : b ≠ want)
    (h : WQ P ops C K rest (Ac (l.upd d undef))) : WQ P ops C K (⟨some d, op, ty, ps, af, some (j, want)⟩ :: rest) (Ac l) := by
  have hy : yielded ops (Ac l).tmps j = some b := by simp [yielded, hj, hd, nth_bool hl]
  refine ⟨?_⟩
  unfold wpQuiet
  rw [if_neg (by simp [Region.wanted, hy, hb]), put_ac]
  exact h.out
theorem q_callS {W : World} {g : Frag} {L0 L : Own} {f : FuncId} {fn : Func} {ao : Array Operand} {ts : Array TypeId} {args : Array Value} {r : Value} (hf : P.funcs[f]? = some fn) (hname : (fn.name == "runtime.NumGoroutine") = false) (hb : fn.body.isSome = true)
    (ha : ao.map (ev l) = args := by exact avs) (hc : LCs P f args (g.plus L) r) (h : WQ P ops (St W g L0 L) K rest (Ac (l.upd d r))) :
    WQ P ops (St W g L0 L) K (⟨some d, .call { callee := .value (.func f), args := ao, argTypes := ts }, ty, ps, af, none⟩ :: rest) (Ac l) := by
  refine ⟨wpQuiet_step fun K' hK => ?_⟩
  rw [if_pos (by simp [Region.wanted])]
  refine ⟨r, fun w hw => ?_, ?_⟩
  · unfold Oper.quietAt
    rw [eval_ev, run_enter hf hname hb (ev l) rfl, ha]
    refine ⟨rfl, (LC.at (L1 := []) (L2 := L) hw hc).mono ?_⟩
    rintro e w' ⟨v, L', rfl, hs, rfl, rfl⟩
    exact ⟨rfl, hs⟩
  · rw [put_ac]
    exact hK _ h.out
theorem q_move {x : Operand} {v : Value} (hx : ev l x = v := by (conv => lhs; whnf) <;> exact rfl) (h : WQ P ops C K rest (Ac (l.upd d v))) : WQ P ops C K (⟨some d, .move x, ty, ps, af, none⟩ :: rest) (Ac l) :=
  q_val (fun w _ => by subst hx; rfl) h
theorem q_split {x : Operand} {b : Bool} (hx : ev l x = .bool b := by (conv => lhs; whnf) <;> exact rfl) (ht : b = true → WQ P ops C K rest (Ac (l.upd d (.bool true)))) (hf : b = false → WQ P ops C K rest (Ac (l.upd d (.bool false)))) :
    WQ P ops C K (⟨some d, .move x, ty, ps, af, none⟩ :: rest) (Ac l) := by
  refine q_move hx ?_
  cases b with
  | true => exact ht rfl
  | false => exact hf rfl
end
end Go.Proofs.YtgakgpbmcbegbaaGreatDoor.Fr
