/- Rules for regions that draw their order and make or write something at their end. Made by mkquiet.py out of the plain rules. -/
import Derived.Test.YthpnbgkhoocadaaTyped
namespace Go.Proofs.Ythpnbgkhoocadaa.Fr
open Go.RowKit
set_option linter.unusedVariables false
structure WH (P : Program) (ops : Array Oper) (Q : Exit → Act → World → Prop) (S : World → Prop) (fuel : Nat) (listed : Array Bool) (a : Act) (w : World) : Prop where
  out : wpAnyH P .any ops Q S fuel listed a w
section
variable {P : Program} {ops : Array Oper} {Q : Exit → Act → World → Prop} {S : World → Prop} {l : Fm} {w : World} {d : Nat} {ty : TypeId} {ps : String} {af : Array Edge} {listed : Array Bool} {fu j : Nat}
variable {W : World} {g : Frag} {L0 L : Own}

theorem c_held {id : Nat} (S : World → Prop) (hm : P.follows .mixedOrders = true) (hS : St W g L0 L w) (n : Nat) (hn : ops.size = n) (h : ∀ w', St W g L0 L w' → WH P ops Q S n (Array.replicate n false) (Ac l) w') : (Code.region id ops true).wp P Q (Ac l) w := by
  subst hn
  exact wp_region_held hm (h _ hS.drew).out
theorem h_val {op : Op} {v : Value} (hi : ops[j]? = some ⟨some d, op, ty, ps, af, none⟩) (hf : (Region.noSelect ops && Region.free .any ops listed j && (Region.ready .any ops listed).contains j) = true) (hQ : ∀ c a w, ¬ Q (.panic c) a w) (hw : S w)
    (hr : ∀ w, S w → (execOp (ev l) ⟨some d, op, ty, ps, af, none⟩).run P w = .ok (.value v) w) (h : WH P ops Q S fu (listed.setIfInBounds j true) (Ac (l.upd d v)) w) : WH P ops Q S (fu + 1) listed (Ac l) w := by
  simp only [Bool.and_eq_true] at hf
  refine ⟨wpAnyH_take hi hf.1.1 hf.1.2 hf.2 (fun c a w hq => absurd hq (hQ _ _ _)) (.inl ⟨by simp [Region.wanted], fun w hw => by rw [eval_ev]; exact hr w hw⟩) hw ?_⟩
  rw [put_ac]
  exact h.out
/-- The one operation that may come up. -/
theorem h_heavy {o : Oper} (hi : ops[j]? = some o) (hg : o.guard = none) (hr : Region.ready .any ops listed = [j]) (hQ : ∀ c a w, ¬ Q (.panic c) a w) (hL : ¬ LetsOut Q) (h : WL P ops (Exit.then (fun a' w' => S w' ∧ WH P ops Q S fu (listed.setIfInBounds j true) a' w') Q) [o] (Ac l) w) : WH P ops Q S (fu + 1) listed (Ac l) w := by
  refine ⟨wpAnyH_all hr (by simp) fun i hmem => ?_⟩
  obtain rfl := List.mem_singleton.1 hmem
  have h := h.out
  unfold wpList at h
  unfold wpOp
  simp only [hi]
  have hwant : Region.wanted o (yielded ops (Ac l).tmps) = true := by simp [Region.wanted, hg]
  rw [if_pos hwant] at h ⊢
  rcases h with h | ⟨_, h⟩
  · left
    unfold Oper.wp at h ⊢
    generalize (execOp (Ac l).eval o).run P w = r at h ⊢
    cases r with
    | ok n w' =>
      cases n <;> simp only [Oper.upon] at h ⊢
      case value v => exact ⟨h.1, h.2.out⟩
      case skip => exact ⟨h.1, h.2.out⟩
      case defer dd => exact ⟨h.1, h.2.out⟩
      case enter f args =>
        refine h.mono fun e w'' he => ?_
        cases e with
        | returned v => exact ⟨he.1, he.2.out⟩
        | panicked c => exact he
        | outgrown => exact absurd he hL
      case row row args =>
        refine Rows.mono h fun u w'' he => ?_
        exact ⟨he.1, he.2.out⟩
    | halt x w' => cases x <;> simp only [Oper.upon] at h ⊢ <;> exact h
  · exact absurd h hL
theorem h_done (hr : Region.ready .any ops listed = []) (h : Q .normal (Ac l) w) : WH P ops Q S fu listed (Ac l) w := ⟨wpAnyH_done hr h fu⟩
theorem h_doneN (hr : Region.ready .any ops listed = []) (h : Q .normal (Ac l) w) : WH P ops Q S fu listed (Ac l) w := h_done hr h
theorem n_next {K : Act → World → Prop} (hw : S w) (h : K (Ac l) w) : WL P ops (Exit.then (fun a' w' => S w' ∧ K a' w') Q) [] (Ac l) w := ⟨⟨hw, h⟩⟩

theorem h_move {x : Operand} {v : Value} (hx : ev l x = v := by (conv => lhs; whnf) <;> exact rfl) (hi : ops[j]? = some ⟨some d, .move x, ty, ps, af, none⟩) (hfr : (Region.noSelect ops && Region.free .any ops listed j && (Region.ready .any ops listed).contains j) = true) (hQ : ∀ c a w, ¬ Q (.panic c) a w) (hw : S w) (h : WH P ops Q S fu (listed.setIfInBounds j true) (Ac (l.upd d v)) w) : WH P ops Q S (fu + 1) listed (Ac l) w :=
  h_val hi hfr hQ hw (fun w _ => by subst hx; rfl) h
theorem h_assign {x : Operand} {v : Value} (hx : ev l x = v := by (conv => lhs; whnf) <;> exact rfl) (hi : ops[j]? = some ⟨some d, .assign x, ty, ps, af, none⟩) (hfr : (Region.noSelect ops && Region.free .any ops listed j && (Region.ready .any ops listed).contains j) = true) (hQ : ∀ c a w, ¬ Q (.panic c) a w) (hw : S w) (h : WH P ops Q S fu (listed.setIfInBounds j true) (Ac (l.upd d v)) w) : WH P ops Q S (fu + 1) listed (Ac l) w :=
  h_val hi hfr hQ hw (fun w _ => by subst hx; rfl) h
theorem h_pick {x y z : Operand} {c : Bool} {u v : Value} (hx : ev l x = .bool c := by (conv => lhs; whnf) <;> exact rfl) (hy : ev l y = u := by (conv => lhs; whnf) <;> exact rfl) (hz : ev l z = v := by (conv => lhs; whnf) <;> exact rfl) (hi : ops[j]? = some ⟨some d, .pick x y z, ty, ps, af, none⟩) (hfr : (Region.noSelect ops && Region.free .any ops listed j && (Region.ready .any ops listed).contains j) = true) (hQ : ∀ c a w, ¬ Q (.panic c) a w) (hw : S w) (h : WH P ops Q S fu (listed.setIfInBounds j true) (Ac (l.upd d (if c then u else v))) w) :
    WH P ops Q S (fu + 1) listed (Ac l) w :=
  h_val hi hfr hQ hw (fun w _ => by simp [execOp, hx, hy, hz, asBool]) h
theorem h_bin {op : BinOp} {k : IntKind} {a b : Int} {v : Value} {x y : Operand} {t t' : TypeId} (hx : ev l x = .int k a := by (conv => lhs; whnf) <;> exact rfl) (hy : ev l y = .int k b := by (conv => lhs; whnf) <;> exact rfl) (hv : ib op k a b = some v := by exact rfl)
    (hi : ops[j]? = some ⟨some d, .binOp op t x y t', ty, ps, af, none⟩) (hfr : (Region.noSelect ops && Region.free .any ops listed j && (Region.ready .any ops listed).contains j) = true) (hQ : ∀ c a w, ¬ Q (.panic c) a w) (hw : S w) (h : WH P ops Q S fu (listed.setIfInBounds j true) (Ac (l.upd d v)) w) : WH P ops Q S (fu + 1) listed (Ac l) w :=
  h_val hi hfr hQ hw (fun w _ => by simp [execOp, hx, hy, eqGuard_at_int, run_ib hv t w]) h
theorem h_add {a b : Int} {x y : Operand} {t t' : TypeId} (hx : ev l x = .int .i64 a := by (conv => lhs; whnf) <;> exact rfl) (hy : ev l y = .int .i64 b := by (conv => lhs; whnf) <;> exact rfl) (h0 : -9223372036854775808 ≤ a + b) (h1 : a + b ≤ 9223372036854775807)
    (hi : ops[j]? = some ⟨some d, .binOp .add t x y t', ty, ps, af, none⟩) (hfr : (Region.noSelect ops && Region.free .any ops listed j && (Region.ready .any ops listed).contains j) = true) (hQ : ∀ c a w, ¬ Q (.panic c) a w) (hw : S w) (h : WH P ops Q S fu (listed.setIfInBounds j true) (Ac (l.upd d (.int .i64 (a + b)))) w) : WH P ops Q S (fu + 1) listed (Ac l) w :=
  h_bin hx hy (by simp only [ib, wrap_i64 h0 h1]) hi hfr hQ hw h
theorem h_sub {a b : Int} {x y : Operand} {t t' : TypeId} (hx : ev l x = .int .i64 a := by (conv => lhs; whnf) <;> exact rfl) (hy : ev l y = .int .i64 b := by (conv => lhs; whnf) <;> exact rfl) (h0 : -9223372036854775808 ≤ a - b) (h1 : a - b ≤ 9223372036854775807)
    (hi : ops[j]? = some ⟨some d, .binOp .sub t x y t', ty, ps, af, none⟩) (hfr : (Region.noSelect ops && Region.free .any ops listed j && (Region.ready .any ops listed).contains j) = true) (hQ : ∀ c a w, ¬ Q (.panic c) a w) (hw : S w) (h : WH P ops Q S fu (listed.setIfInBounds j true) (Ac (l.upd d (.int .i64 (a - b)))) w) : WH P ops Q S (fu + 1) listed (Ac l) w :=
  h_bin hx hy (by simp only [ib, wrap_i64 h0 h1]) hi hfr hQ hw h
theorem h_mul {a b : Int} {x y : Operand} {t t' : TypeId} (hx : ev l x = .int .i64 a := by (conv => lhs; whnf) <;> exact rfl) (hy : ev l y = .int .i64 b := by (conv => lhs; whnf) <;> exact rfl) (h0 : -9223372036854775808 ≤ a * b) (h1 : a * b ≤ 9223372036854775807)
    (hi : ops[j]? = some ⟨some d, .binOp .mul t x y t', ty, ps, af, none⟩) (hfr : (Region.noSelect ops && Region.free .any ops listed j && (Region.ready .any ops listed).contains j) = true) (hQ : ∀ c a w, ¬ Q (.panic c) a w) (hw : S w) (h : WH P ops Q S fu (listed.setIfInBounds j true) (Ac (l.upd d (.int .i64 (a * b)))) w) : WH P ops Q S (fu + 1) listed (Ac l) w :=
  h_bin hx hy (by simp only [ib, wrap_i64 h0 h1]) hi hfr hQ hw h
theorem h_quo {k : IntKind} {a b : Int} {x y : Operand} {t t' : TypeId} (hx : ev l x = .int k a := by (conv => lhs; whnf) <;> exact rfl) (hy : ev l y = .int k b := by (conv => lhs; whnf) <;> exact rfl) (h0 : b ≠ 0)
    (hi : ops[j]? = some ⟨some d, .binOp .quo t x y t', ty, ps, af, none⟩) (hfr : (Region.noSelect ops && Region.free .any ops listed j && (Region.ready .any ops listed).contains j) = true) (hQ : ∀ c a w, ¬ Q (.panic c) a w) (hw : S w) (h : WH P ops Q S fu (listed.setIfInBounds j true) (Ac (l.upd d (.int k (k.wrap (a.tdiv b))))) w) : WH P ops Q S (fu + 1) listed (Ac l) w :=
  h_val hi hfr hQ hw (fun w _ => by simp [execOp, hx, hy, go_sem, Op.intDiv, h0]) h
theorem h_rem {k : IntKind} {a b : Int} {x y : Operand} {t t' : TypeId} (hx : ev l x = .int k a := by (conv => lhs; whnf) <;> exact rfl) (hy : ev l y = .int k b := by (conv => lhs; whnf) <;> exact rfl) (h0 : b ≠ 0)
    (hi : ops[j]? = some ⟨some d, .binOp .rem t x y t', ty, ps, af, none⟩) (hfr : (Region.noSelect ops && Region.free .any ops listed j && (Region.ready .any ops listed).contains j) = true) (hQ : ∀ c a w, ¬ Q (.panic c) a w) (hw : S w) (h : WH P ops Q S fu (listed.setIfInBounds j true) (Ac (l.upd d (.int k (a.tmod b)))) w) : WH P ops Q S (fu + 1) listed (Ac l) w :=
  h_val hi hfr hQ hw (fun w _ => by simp [execOp, hx, hy, go_sem, Op.intDiv, h0]) h
theorem h_shl {k k' : IntKind} {a b : Int} {x y : Operand} {t t' : TypeId} (hx : ev l x = .int k a := by (conv => lhs; whnf) <;> exact rfl) (hy : ev l y = .int k' b := by (conv => lhs; whnf) <;> exact rfl) (h0 : 0 ≤ b)
    (hi : ops[j]? = some ⟨some d, .binOp .shl t x y t', ty, ps, af, none⟩) (hfr : (Region.noSelect ops && Region.free .any ops listed j && (Region.ready .any ops listed).contains j) = true) (hQ : ∀ c a w, ¬ Q (.panic c) a w) (hw : S w) (h : WH P ops Q S fu (listed.setIfInBounds j true) (Ac (l.upd d (.int k (k.wrap (a * 2 ^ min b.toNat k.bits))))) w) : WH P ops Q S (fu + 1) listed (Ac l) w :=
  h_val hi hfr hQ hw (fun w _ => by simp [execOp, hx, hy, eqGuard, binOp, Op.shift, show ¬ b < 0 from by omega]) h
theorem h_shr {k k' : IntKind} {a b : Int} {x y : Operand} {t t' : TypeId} (hx : ev l x = .int k a := by (conv => lhs; whnf) <;> exact rfl) (hy : ev l y = .int k' b := by (conv => lhs; whnf) <;> exact rfl) (h0 : 0 ≤ b)
    (hi : ops[j]? = some ⟨some d, .binOp .shr t x y t', ty, ps, af, none⟩) (hfr : (Region.noSelect ops && Region.free .any ops listed j && (Region.ready .any ops listed).contains j) = true) (hQ : ∀ c a w, ¬ Q (.panic c) a w) (hw : S w) (h : WH P ops Q S fu (listed.setIfInBounds j true) (Ac (l.upd d (.int k (a.fdiv (2 ^ min b.toNat k.bits))))) w) : WH P ops Q S (fu + 1) listed (Ac l) w :=
  h_val hi hfr hQ hw (fun w _ => by simp [execOp, hx, hy, eqGuard, binOp, Op.shift, show ¬ b < 0 from by omega]) h
theorem h_not {c : Bool} {x : Operand} {t : TypeId} (hx : ev l x = .bool c := by (conv => lhs; whnf) <;> exact rfl) (hi : ops[j]? = some ⟨some d, .unOp .not t x, ty, ps, af, none⟩) (hfr : (Region.noSelect ops && Region.free .any ops listed j && (Region.ready .any ops listed).contains j) = true) (hQ : ∀ c a w, ¬ Q (.panic c) a w) (hw : S w) (h : WH P ops Q S fu (listed.setIfInBounds j true) (Ac (l.upd d (.bool !c))) w) :
    WH P ops Q S (fu + 1) listed (Ac l) w :=
  h_val hi hfr hQ hw (fun w _ => by simp [execOp, hx, Op.unary]) h
theorem h_neg {k : IntKind} {a : Int} {x : Operand} {t : TypeId} (hx : ev l x = .int k a := by (conv => lhs; whnf) <;> exact rfl) (hi : ops[j]? = some ⟨some d, .unOp .neg t x, ty, ps, af, none⟩) (hfr : (Region.noSelect ops && Region.free .any ops listed j && (Region.ready .any ops listed).contains j) = true) (hQ : ∀ c a w, ¬ Q (.panic c) a w) (hw : S w) (h : WH P ops Q S fu (listed.setIfInBounds j true) (Ac (l.upd d (.int k (k.wrap (0 - a))))) w) :
    WH P ops Q S (fu + 1) listed (Ac l) w :=
  h_val hi hfr hQ hw (fun w _ => by simp [execOp, hx, Op.unary, Op.intArith]) h
theorem h_seql {a b : ByteArray} {x y : Operand} {t t' : TypeId} (hx : ev l x = .string a := by (conv => lhs; whnf) <;> exact rfl) (hy : ev l y = .string b := by (conv => lhs; whnf) <;> exact rfl)
    (hi : ops[j]? = some ⟨some d, .binOp .eql t x y t', ty, ps, af, none⟩) (hfr : (Region.noSelect ops && Region.free .any ops listed j && (Region.ready .any ops listed).contains j) = true) (hQ : ∀ c a w, ¬ Q (.panic c) a w) (hw : S w) (h : WH P ops Q S fu (listed.setIfInBounds j true) (Ac (l.upd d (.bool (decide (a = b))))) w) : WH P ops Q S (fu + 1) listed (Ac l) w :=
  h_val hi hfr hQ hw (fun w _ => by simp [execOp, hx, hy, eqGuard_at_string, binOp, Op.stringOp, bytes_eq]) h
theorem h_sneq {a b : ByteArray} {x y : Operand} {t t' : TypeId} (hx : ev l x = .string a := by (conv => lhs; whnf) <;> exact rfl) (hy : ev l y = .string b := by (conv => lhs; whnf) <;> exact rfl)
    (hi : ops[j]? = some ⟨some d, .binOp .neq t x y t', ty, ps, af, none⟩) (hfr : (Region.noSelect ops && Region.free .any ops listed j && (Region.ready .any ops listed).contains j) = true) (hQ : ∀ c a w, ¬ Q (.panic c) a w) (hw : S w) (h : WH P ops Q S fu (listed.setIfInBounds j true) (Ac (l.upd d (.bool !(decide (a = b))))) w) : WH P ops Q S (fu + 1) listed (Ac l) w :=
  h_val hi hfr hQ hw (fun w _ => by simp [execOp, hx, hy, eqGuard_at_string, binOp, Op.stringOp, bytes_eq]) h
theorem h_conv {k k' : IntKind} {a : Int} {x : Operand} {s t : TypeId} {ds : TypeDesc} (hx : ev l x = .int k' a := by (conv => lhs; whnf) <;> exact rfl) (hs : P.underlying s = some ds) (ht : P.underlying t = some (.int k))
    (hi : ops[j]? = some ⟨some d, .convert s t x, ty, ps, af, none⟩) (hfr : (Region.noSelect ops && Region.free .any ops listed j && (Region.ready .any ops listed).contains j) = true) (hQ : ∀ c a w, ¬ Q (.panic c) a w) (hw : S w) (h : WH P ops Q S fu (listed.setIfInBounds j true) (Ac (l.upd d (.int k (k.wrap a)))) w) : WH P ops Q S (fu + 1) listed (Ac l) w :=
  h_val hi hfr hQ hw (fun w _ => by simp [execOp, hx, convert, run_underlying hs, run_underlying ht, Conv.intToInt]) h
theorem h_len {x : Operand} {t e : TypeId} {A : Option Addr} {n c : Nat} (hx : ev l x = .slice A n c := by (conv => lhs; whnf) <;> exact rfl) (ht : P.underlying t = some (.slice e))
    (hi : ops[j]? = some ⟨some d, .call { callee := .builtin .len, args := #[x], argTypes := #[t] }, ty, ps, af, none⟩) (hfr : (Region.noSelect ops && Region.free .any ops listed j && (Region.ready .any ops listed).contains j) = true) (hQ : ∀ c a w, ¬ Q (.panic c) a w) (hw : S w) (h : WH P ops Q S fu (listed.setIfInBounds j true) (Ac (l.upd d (.int .i64 n))) w) : WH P ops Q S (fu + 1) listed (Ac l) w :=
  h_val hi hfr hQ hw (fun w _ => by simp [execOp, resolve, invoke, builtin, hx, Builtin.len_, run_underlying ht, goInt]) h
theorem h_lens {x : Operand} {t : TypeId} {s : ByteArray} (hx : ev l x = .string s := by (conv => lhs; whnf) <;> exact rfl) (ht : P.underlying t = some .string)
    (hi : ops[j]? = some ⟨some d, .call { callee := .builtin .len, args := #[x], argTypes := #[t] }, ty, ps, af, none⟩) (hfr : (Region.noSelect ops && Region.free .any ops listed j && (Region.ready .any ops listed).contains j) = true) (hQ : ∀ c a w, ¬ Q (.panic c) a w) (hw : S w) (h : WH P ops Q S fu (listed.setIfInBounds j true) (Ac (l.upd d (.int .i64 s.size))) w) : WH P ops Q S (fu + 1) listed (Ac l) w :=
  h_val hi hfr hQ hw (fun w _ => by simp [execOp, resolve, invoke, builtin, hx, Builtin.len_, run_underlying ht, goInt]) h
theorem h_extract {x : Operand} {vs : Array Value} {i : Nat} {v : Value} (hx : ev l x = .tuple vs := by (conv => lhs; whnf) <;> exact rfl) (hv : vs[i]? = some v) (hi : ops[j]? = some ⟨some d, .extract x i, ty, ps, af, none⟩) (hfr : (Region.noSelect ops && Region.free .any ops listed j && (Region.ready .any ops listed).contains j) = true) (hQ : ∀ c a w, ¬ Q (.panic c) a w) (hw : S w) (h : WH P ops Q S fu (listed.setIfInBounds j true) (Ac (l.upd d v)) w) :
    WH P ops Q S (fu + 1) listed (Ac l) w :=
  h_val hi hfr hQ hw (fun w _ => by simp [execOp, hx, Instr.extract, hv]) h
theorem h_makeFunc {fn : Fn} {a b : Array Operand} {va vb : Array Value} (ha : a.map (ev l) = va) (hb : b.map (ev l) = vb) (hi : ops[j]? = some ⟨some d, .makeFunc fn a b, ty, ps, af, none⟩) (hfr : (Region.noSelect ops && Region.free .any ops listed j && (Region.ready .any ops listed).contains j) = true) (hQ : ∀ c a w, ¬ Q (.panic c) a w) (hw : S w) (h : WH P ops Q S fu (listed.setIfInBounds j true) (Ac (l.upd d (.func fn va vb))) w) :
    WH P ops Q S (fu + 1) listed (Ac l) w :=
  h_val hi hfr hQ hw (fun w _ => by simp [execOp, ha, hb, Instr.makeFunc]) h
theorem h_field {x : Operand} {s : TypeId} {i k b o : Nat} (hx : ev l x = .pointer (some ⟨b, o, none⟩) := by (conv => lhs; whnf) <;> exact rfl) (hf : ∀ (b o : Nat) (w : World), (Instr.fieldAt s (.pointer (some ⟨b, o, none⟩)) i).run P w = .ok (.pointer (some ⟨b, o + k, none⟩)) w)
    (hi : ops[j]? = some ⟨some d, .fieldAddr s x i, ty, ps, af, none⟩) (hfr : (Region.noSelect ops && Region.free .any ops listed j && (Region.ready .any ops listed).contains j) = true) (hQ : ∀ c a w, ¬ Q (.panic c) a w) (hw : S w) (h : WH P ops Q S fu (listed.setIfInBounds j true) (Ac (l.upd d (.pointer (some ⟨b, o + k, none⟩)))) w) : WH P ops Q S (fu + 1) listed (Ac l) w :=
  h_val hi hfr hQ hw (fun w _ => by simp [execOp, hx, hf]) h
theorem h_index {x y : Operand} {t e : TypeId} {b o n c sz : Nat} {k : IntKind} {i : Int} (hx : ev l x = .slice (some ⟨b, o, none⟩) n c := by (conv => lhs; whnf) <;> exact rfl) (hy : ev l y = .int k i := by (conv => lhs; whnf) <;> exact rfl) (ht : P.underlying t = some (.slice e)) (hsz : (P.info? e).map (·.size) = some sz)
    (h0 : 0 ≤ i) (h1 : i < n) (hi : ops[j]? = some ⟨some d, .indexAddr t x y, ty, ps, af, none⟩) (hfr : (Region.noSelect ops && Region.free .any ops listed j && (Region.ready .any ops listed).contains j) = true) (hQ : ∀ c a w, ¬ Q (.panic c) a w) (hw : S w) (h : WH P ops Q S fu (listed.setIfInBounds j true) (Ac (l.upd d (.pointer (some ⟨b, o + i.toNat * sz, none⟩)))) w) : WH P ops Q S (fu + 1) listed (Ac l) w := by
  refine h_val hi hfr hQ hw (fun w _ => ?_) h
  cases hq : P.info? e with
  | none => simp [hq] at hsz
  | some ti =>
    have hs : ti.size = sz := by simpa [hq] using hsz
    simp [execOp, hx, hy, Instr.indexAt, asIntOf, run_underlying ht, h0, h1, sizeOf, typeInfo, hq, hs, Addr.add_mid]
theorem h_indexA {x y : Operand} {t e : TypeId} {b o n sz : Nat} {k : IntKind} {i : Int} (hx : ev l x = .pointer (some ⟨b, o, none⟩) := by (conv => lhs; whnf) <;> exact rfl) (hy : ev l y = .int k i := by (conv => lhs; whnf) <;> exact rfl) (ht : P.underlying t = some (.array n e)) (hsz : (P.info? e).map (·.size) = some sz)
    (h0 : 0 ≤ i) (h1 : i < n) (hi : ops[j]? = some ⟨some d, .indexAddr t x y, ty, ps, af, none⟩) (hfr : (Region.noSelect ops && Region.free .any ops listed j && (Region.ready .any ops listed).contains j) = true) (hQ : ∀ c a w, ¬ Q (.panic c) a w) (hw : S w) (h : WH P ops Q S fu (listed.setIfInBounds j true) (Ac (l.upd d (.pointer (some ⟨b, o + i.toNat * sz, none⟩)))) w) : WH P ops Q S (fu + 1) listed (Ac l) w := by
  refine h_val hi hfr hQ hw (fun w _ => ?_) h
  cases hq : P.info? e with
  | none => simp [hq] at hsz
  | some ti =>
    have hs : ti.size = sz := by simpa [hq] using hsz
    simp [execOp, hx, hy, Instr.indexAt, asIntOf, run_underlying ht, h0, h1, sizeOf, typeInfo, hq, hs, Addr.add_mid, Instr.sureAddr]
end
end Go.Proofs.Ythpnbgkhoocadaa.Fr
