/- clear: cells of one's own, from a place on, are nought. -/
import Derived.Test.YtjmmkbehdbpklaaCopy
import Derived.Lib.SliceRun
namespace Go.Proofs.Ytjmmkbehdbpklaa
open Go Fr
set_option linter.unusedVariables false

def clr {α : Type} (zs : List α) (lo : Int) (z : α) : List α := zs.take lo.toNat ++ List.replicate (zs.length - lo.toNat) z
theorem plus2 {W w : World} {g : Frag} {L0 L1 L2 : Own} (h : St W g L0 (L1 ++ L2) w) {b : Nat} {o : Obj} (hm : (b, o) ∈ L2) : g.plus L2 b = some o := St.plus (h.drop (List.sublist_append_right L1 L2)) hm
/-- An append, bounded by bytes. -/
def appW {α : Type} (by_ : Nat) (xs ys : List α) : Option (List α) := if (xs.length + ys.length) * by_ ≤ 140737488355328 ∧ 0 < by_ then some (xs ++ ys) else none
theorem appW_some {α : Type} {by_ : Nat} {xs ys zs : List α} (h : appW by_ xs ys = some zs) : (xs.length + ys.length) * by_ ≤ 140737488355328 ∧ 0 < by_ ∧ zs = xs ++ ys := by
  unfold appW at h; split at h
  · cases h; rename_i h; exact ⟨h.1, h.2, rfl⟩
  · cases h
section
variable {P : Program} {ops : Array Oper} {Q : Exit → Act → World → Prop} {rest : List Oper} {l : Fm} {w : World} {ty : TypeId} {ps : String} {af : Array Edge}
variable {W : World} {g : Frag} {L0 : Own} {α : Type} {enc : α → List Value} {zs zs' : List α} {v : Value}
theorem o_clearV {x : Operand} {t et e : TypeId} {z : α} {zv : Value} {lo : Int} {LX Lr : Own} (hS : St W g L0 (LX ++ Lr) w) (hv : OwT e enc 1 zs v LX) (hs : sub' zs lo (zs.length : Int) = some zs') (hen : ∀ z, (enc z).length = 1)
    (hz : enc z = [zv]) (hzv : (P.info? et).map (·.zero) = some (some zv)) (hzc : zv.cells = #[zv]) (h1 : zv.oneCell' = true) (ht : P.underlying t = some (.slice et))
    (h : ∀ LX' w', OwT e enc 1 (clr zs lo z) v LX' → St W g L0 (LX' ++ Lr) w' → WL P ops Q rest (Ac l) w')
    (hx : ev l x = slV 1 lo.toNat (zs.length : Int).toNat v := by (conv => lhs; whnf) <;> exact rfl) :
    WL P ops Q (⟨none, .call { callee := .builtin .clear, args := #[x], argTypes := #[t] }, ty, ps, af, none⟩ :: rest) (Ac l) w := by
  obtain ⟨f, hf⟩ := flat_map1 hen
  obtain ⟨h0, hlo, _, _⟩ := sub'_some hs
  have hlo' : lo.toNat ≤ zs.length := by omega
  have hzf : f z = zv := by
    have := hf [z]
    simp [hz] at this
    exact this.symm
  have main : ∃ LX' w', (Builtin.clear_ #[t] ty #[slV 1 lo.toNat (zs.length : Int).toNat v]).run P w = .ok (.tuple #[]) w' ∧ OwT e enc 1 (clr zs lo z) v LX' ∧ St W g L0 (LX' ++ Lr) w' := by
    rcases hv with ⟨rfl, h2, _, rfl⟩ | ⟨b, c, cl, rfl, rfl, h3, h4, h5, h6, h7⟩
    · obtain rfl := List.length_eq_zero_iff.1 h2
      have e0 : lo.toNat = 0 := by simpa using hlo'
      refine ⟨[], w, ?_, ?_, hS⟩
      · simp [slV, Builtin.clear_, run_underlying ht]
      · simp only [clr, List.take_nil, List.length_nil, Nat.zero_sub, List.replicate_zero, List.append_nil]
        exact OwT.nil _ _ _
    · have e1 : ((zs.length : Int)).toNat = zs.length := by omega
      rw [e1]
      by_cases hn : zs.length - lo.toNat = 0
      · have hc : clr zs lo z = zs := by
          have : lo.toNat = zs.length := by omega
          simp [clr, this]
        refine ⟨[(b, blk cl e)], w, ?_, ?_, hS⟩
        · simp only [slV, hn]
          generalize (if c = lo.toNat then some (⟨b, 0, none⟩ : Addr) else Option.map (fun x : Addr => x.add (lo.toNat * 1)) (some (⟨b, 0, none⟩ : Addr))) = A
          cases A <;> simp [Builtin.clear_, run_underlying ht]
        · rw [hc]
          exact .inr ⟨b, c, cl, rfl, rfl, h3, h4, h5, h6, h7⟩
      · have hne : ¬ c = lo.toNat := by omega
        have hA : slV 1 lo.toNat zs.length (.slice (some ⟨b, 0, none⟩) zs.length c) = .slice (some ⟨b, 0 + lo.toNat, none⟩) (zs.length - lo.toNat) (c - lo.toNat) := by
          simp only [slV, if_neg hne, Option.map_some, Nat.mul_one, Addr.add_mid]
        rw [hA]
        have hrow : w.heap[b]? = some (blk cl e) := hS.own (List.mem_append_left _ List.mem_cons_self)
        have hr := Go.Lib.run_clear_slice (P := P) w t et ty zv ht (fun w => by
            cases hi : P.info? et with
            | none => rw [hi] at hzv; cases hzv
            | some i =>
              rw [hi] at hzv
              have hq : i.zero = some zv := Option.some.inj hzv
              simp [zeroValue, typeInfo, hi, hq]) hzc h1 b (0 + lo.toNat) (zs.length - lo.toNat) (c - lo.toNat) (by omega) (fun j hj => by
            rw [cell_of_row w b _ _ e _ hrow]
            simp; omega) (fun j hj => by simp [World.frozen?, hrow])
        refine ⟨[(b, blk (wr cl (0 + lo.toNat) (List.replicate (zs.length - lo.toNat) zv)) e)], _, hr, ?_, hS.setCells (Upd.here _)⟩
        have hcl : cl = cl.take lo.toNat ++ cl.drop lo.toNat := (List.take_append_drop _ _).symm
        have htl : (cl.take lo.toNat).length = lo.toNat := by rw [List.length_take]; omega
        have hw : wr cl (0 + lo.toNat) (List.replicate (zs.length - lo.toNat) zv) = cl.take lo.toNat ++ (List.replicate (zs.length - lo.toNat) zv ++ (cl.drop lo.toNat).drop (zs.length - lo.toNat)) := by
          have := wr_app (List.replicate (zs.length - lo.toNat) zv) (cl.take lo.toNat) (cl.drop lo.toNat) (by rw [List.length_replicate, List.length_drop]; omega)
          rw [htl, List.take_append_drop, List.length_replicate] at this
          rw [Nat.zero_add]; exact this
        have hlen : (clr zs lo z).length = zs.length := by simp only [clr, List.length_append, List.length_take, List.length_replicate]; omega
        refine .inr ⟨b, c, _, by rw [hlen], rfl, by rw [hlen]; exact h3, h4, by rw [wr_length]; exact h5, by rw [hf, List.length_map, Nat.mul_one], ?_⟩
        rw [hw, hf, hlen, Nat.mul_one, ← List.append_assoc, List.take_left' (by rw [List.length_append, htl, List.length_replicate]; omega)]
        rw [hf, Nat.mul_one] at h7
        simp only [clr, List.map_append, List.map_replicate, hzf]
        congr 1
        rw [List.map_take, ← h7, List.take_take, Nat.min_eq_left hlo']
  obtain ⟨LX', w', hr, hv', hS'⟩ := main
  refine ⟨wpList_plain rfl fun K hK => ?_⟩
  have hr' : (execOp (ev l) ⟨none, .call { callee := .builtin .clear, args := #[x], argTypes := #[t] }, ty, ps, af, none⟩).run P w = .ok (.value (.tuple #[])) w' := by
    rw [Int.toNat_natCast] at hr
    simp [execOp, resolve, invoke, builtin, hx, hr]
  unfold Oper.wp
  rw [eval_ev, hr', Oper.upon_value]
  exact hK _ _ (h _ _ hv' hS').out
theorem o_appPw {d : Nat} {sz t e by_ : Nat} {s x : Operand} {u : Value} {ys : List α} {LX Lr : Own} (ha : appW by_ zs ys = some zs') (hS : St W g L0 (LX ++ Lr) w) (he : El P t e sz by_) (hv : OwT e enc sz zs v LX) (hu : SlT (g.plus Lr) enc sz ys u)
    (h1 : ∀ u ∈ ys.flatMap enc, u.oneCell' = true)
    (h : ∀ v' LX' w', OwT e enc sz zs' v' LX' → St W g L0 (LX' ++ Lr) w' → WL P ops Q rest (Ac (l.upd d v')) w')
    (hs : ev l s = v := by (conv => lhs; whnf) <;> exact rfl) (hx : ev l x = u := by (conv => lhs; whnf) <;> exact rfl) :
    WL P ops Q (⟨some d, .call { callee := .builtin .append, args := #[s, x], argTypes := #[t, t] }, ty, ps, af, none⟩ :: rest) (Ac l) w := by
  obtain ⟨hb, hb1, rfl⟩ := appW_some ha
  have h2 : zs.length + ys.length ≤ (zs.length + ys.length) * by_ := Nat.le_mul_of_pos_right _ hb1
  refine o_appAll hS he hv hu ?_ hs hx h1 hb (by simp only [maxLen]; omega) h
  intro c hc
  obtain ⟨A, c', rfl, ⟨_, h4⟩, _, h5⟩ := hu
  cases hc
  rcases h5 with h5 | ⟨b, o, cs, e, fz, h5, _⟩
  · exact ⟨h4 rfl, h5⟩
  · cases h5
end
end Go.Proofs.Ytjmmkbehdbpklaa
