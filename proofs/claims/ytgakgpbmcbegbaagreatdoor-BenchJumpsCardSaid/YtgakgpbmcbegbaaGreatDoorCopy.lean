/- copy: cells of one's own are written over. -/
import Derived.Test.YtgakgpbmcbegbaaGreatDoorNest
import Derived.Laws.IdiomCopy
namespace Go.Proofs.YtgakgpbmcbegbaaGreatDoor
open Go Fr
set_option linter.unusedVariables false
def cop {α : Type} (zs ys : List α) : List α := ys.take zs.length ++ zs.drop ys.length
theorem cop_len {α : Type} (zs ys : List α) : (cop zs ys).length = zs.length := by simp only [cop, List.length_append, List.length_take, List.length_drop]; omega
theorem wr_app : ∀ (vs pre r : List Value), vs.length ≤ r.length → wr (pre ++ r) pre.length vs = pre ++ (vs ++ r.drop vs.length)
  | [], pre, r, _ => by simp [wr]
  | v :: vs, pre, [], h => by simp at h
  | v :: vs, pre, a :: r, h => by
    have e : (pre ++ a :: r).set pre.length v = (pre ++ [v]) ++ r := by simp
    have := wr_app vs (pre ++ [v]) r (by simpa using h)
    rw [wr, e]
    rw [show (pre ++ [v]).length = pre.length + 1 by simp] at this
    rw [this]
    simp
theorem flat_map1 {α : Type} {enc : α → List Value} (he : ∀ z, (enc z).length = 1) : ∃ f : α → Value, ∀ ys : List α, ys.flatMap enc = ys.map f := by
  refine ⟨fun z => (enc z)[0]'(by rw [he]; decide), fun ys => ?_⟩
  induction ys with
  | nil => rfl
  | cons y ys ih =>
    rw [List.flatMap_cons, List.map_cons, ih]
    obtain ⟨u, hu⟩ := List.length_eq_one_iff.1 (he y)
    simp [hu]
section
variable {P : Program} {ops : Array Oper} {Q : Exit → Act → World → Prop} {rest : List Oper} {l : Fm} {w : World} {ty : TypeId} {ps : String} {af : Array Edge}
variable {W : World} {g : Frag} {L0 L : Own} {α : Type} {enc : α → List Value} {zs : List α} {v : Value}
theorem o_copyP {d : Nat} {s x : Operand} {t t' et e : TypeId} {u : Value} {ys : List α} {LX Lr : Own} (hS : St W g L0 (LX ++ Lr) w) (hv : OwT e enc 1 zs v LX) (hu : SlT (g.plus Lr) enc 1 ys u) (hen : ∀ z, (enc z).length = 1)
    (h1 : ∀ u ∈ ys.flatMap enc, u.oneCell' = true) (ht : P.underlying t = some (.slice et)) (hsz : (P.info? et).map (·.size) = some 1)
    (h : ∀ LX' w', OwT e enc 1 (cop zs ys) v LX' → St W g L0 (LX' ++ Lr) w' → WL P ops Q rest (Ac (l.upd d (.int .i64 (Nat.min ys.length zs.length : Nat)))) w')
    (hs : ev l s = v := by (conv => lhs; whnf) <;> exact rfl) (hx : ev l x = u := by (conv => lhs; whnf) <;> exact rfl) :
    WL P ops Q (⟨some d, .call { callee := .builtin .copy, args := #[s, x], argTypes := #[t, t'] }, ty, ps, af, none⟩ :: rest) (Ac l) w := by
  obtain ⟨f, hf⟩ := flat_map1 hen
  obtain ⟨A, cu, rfl, ⟨hc1, hc2⟩, hl, hcells⟩ := hu
  have main : ∃ LX' w', (Builtin.copy_ #[t, t'] ty #[v, .slice A ys.length cu]).run P w = .ok (goInt (Nat.min ys.length zs.length)) w' ∧ OwT e enc 1 (cop zs ys) v LX' ∧ St W g L0 (LX' ++ Lr) w' := by
    by_cases hn : Nat.min ys.length zs.length = 0
    · have hcop : cop zs ys = zs := by
        have : ys.length = 0 ∨ zs.length = 0 := by
          simp only [Nat.min_def] at hn
          split at hn <;> omega
        rcases this with h | h
        · have := List.length_eq_zero_iff.1 h
          subst this; simp [cop]
        · have := List.length_eq_zero_iff.1 h
          subst this; simp [cop]
      obtain ⟨B, cb, rfl⟩ : ∃ B cb, v = .slice B zs.length cb := by obtain ⟨A, c, h, _⟩ := SlO.slice hv; exact ⟨A, c, h⟩
      refine ⟨LX, w, ?_, by rw [hcop]; exact hv, hS⟩
      rw [hn]
      exact run_copy_none w t t' ty et B A zs.length cb ys.length cu ht hsz hn
    · rcases hv with ⟨_, h0, _, _⟩ | ⟨b, c, cl, rfl, rfl, h3, h4, h5, h6, h7⟩
      · exact absurd (by rw [h0]; exact Nat.min_zero _) hn
      · have hmin : Nat.min ys.length zs.length ≤ ys.length ∧ Nat.min ys.length zs.length ≤ zs.length := ⟨Nat.min_le_left _ _, Nat.min_le_right _ _⟩
        generalize hm : Nat.min ys.length zs.length = m at *
        obtain ⟨b', o', cs', e', fz', rfl, hb', hcs'⟩ := hcells.resolve_left (by omega)
        have hR := St.handed (L1 := [(b, blk cl e)]) (L2 := Lr) hS
        have hcl : ((ys.map f).take m).length = m := by rw [List.length_take, List.length_map]; omega
        have hrow : w.heap[b]? = some (blk cl e) := hS.own (List.mem_append_left _ List.mem_cons_self)
        have hlen : m ≤ cl.length := by rw [h5]; omega
        have hr := run_copy_cells (P := P) w t t' ty et b 0 zs.length c ⟨b', o', none⟩ ys.length cu ((ys.map f).take m) ht hsz (by rw [hcl, hm]) (fun j u hj => by
            rw [Addr.add_mid, cell_of_row w b' (o' + j) _ e' _ (hR.block hb')]
            refine hcs' j u ?_
            rw [hf]
            have hj2 : j < m := by have := (List.getElem?_eq_some_iff.1 hj).1; rwa [hcl] at this
            rw [List.getElem?_take_of_lt hj2] at hj
            exact hj) (fun j hj => by
            rw [hcl] at hj
            rw [Nat.zero_add, cell_of_row w b j _ e _ hrow]
            simp; omega) (fun j hj => by
            rw [hcl] at hj
            simp [World.frozen?, hrow]) (fun q hq => h1 q (by rw [hf]; exact List.mem_of_mem_take hq))
        rw [hcl] at hr
        refine ⟨[(b, blk (wr cl 0 ((ys.map f).take m)) e)], _, hr, ?_, hS.setCells (Upd.here _)⟩
        have hw : wr cl 0 ((ys.map f).take m) = (ys.map f).take m ++ cl.drop m := by
          have := wr_app ((ys.map f).take m) [] cl (by rw [hcl]; exact hlen)
          rw [hcl] at this
          simpa using this
        refine .inr ⟨b, c, wr cl 0 ((ys.map f).take m), by rw [cop_len], rfl, by rw [cop_len]; exact h3, h4, by rw [wr_length]; exact h5, by rw [hf, List.length_map, Nat.mul_one], ?_⟩
        rw [hw, hf, cop_len, Nat.mul_one]
        rw [hf, Nat.mul_one] at h7
        have e1 : cl = zs.map f ++ cl.drop zs.length := by rw [← h7, List.take_append_drop]
        have e2 : cl.drop m = (zs.map f).drop m ++ cl.drop zs.length := by
          conv => lhs; rw [e1]
          rw [List.drop_append_of_le_length (by rw [List.length_map]; omega)]
        rw [e2, ← List.append_assoc, List.take_left' (by rw [List.length_append, hcl, List.length_drop, List.length_map]; omega)]
        simp only [cop, List.map_append, List.map_take, List.map_drop]
        simp only [Nat.min_def] at hm
        split at hm
        · subst hm
          rw [List.take_of_length_le (by simp), List.take_of_length_le (by simp; omega)]
        · subst hm
          have q1 : (zs.map f).drop zs.length = [] := by rw [List.drop_eq_nil_iff]; simp
          have q2 : (zs.map f).drop ys.length = [] := by rw [List.drop_eq_nil_iff]; simp; omega
          rw [q1, q2]
  obtain ⟨LX', w', hr, hv', hS'⟩ := main
  refine ⟨wpList_plain rfl fun K hK => ?_⟩
  have hr' : (execOp (ev l) ⟨some d, .call { callee := .builtin .copy, args := #[s, x], argTypes := #[t, t'] }, ty, ps, af, none⟩).run P w = .ok (.value (.int .i64 (Nat.min ys.length zs.length : Nat))) w' := by
    simp [execOp, resolve, invoke, builtin, hs, hx, hr, goInt]
  unfold Oper.wp
  rw [eval_ev, hr', Oper.upon_value, put_ac]
  exact hK _ _ (h _ _ hv' hS').out
end
end Go.Proofs.YtgakgpbmcbegbaaGreatDoor
