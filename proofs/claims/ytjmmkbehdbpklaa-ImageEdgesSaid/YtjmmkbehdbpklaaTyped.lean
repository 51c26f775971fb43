/- Slices of things: read, owned, appended to. -/
import Derived.Test.YtjmmkbehdbpklaaQuiet
namespace Go.Proofs.Ytjmmkbehdbpklaa.Fr
open Go.RowKit
set_option linter.unusedVariables false

/-- v is a slice that reads as zs, each thing in sz cells. -/
def SlT {α : Type} (g : Frag) (enc : α → List Value) (sz : Nat) (zs : List α) (v : Value) : Prop := SlR g sz zs.length (zs.flatMap enc) v
def OwT {α : Type} (e : Nat) (enc : α → List Value) (sz : Nat) (zs : List α) (v : Value) (LX : Own) : Prop := SlO e sz zs.length (zs.flatMap enc) v LX

theorem SlT.mono {α : Type} {g g' : Frag} {enc : α → List Value} {sz : Nat} {zs : List α} {v : Value} (h : SlT g enc sz zs v) (hg : g.le g') : SlT g' enc sz zs v := SlR.mono h hg
theorem SlT.plus {α : Type} {g : Frag} {L : Own} {enc : α → List Value} {sz : Nat} {zs : List α} {v : Value} (h : SlT g enc sz zs v) : SlT (g.plus L) enc sz zs v := h.mono (Frag.le_plus g L)
theorem SlT.len {α : Type} {g : Frag} {enc : α → List Value} {sz : Nat} {zs : List α} {v : Value} (h : SlT g enc sz zs v) : ∃ A c, v = .slice A zs.length c ∧ zs.length ≤ c := by
  obtain ⟨A, c, h1, h2, _⟩ := h
  exact ⟨A, c, h1, h2.1⟩
theorem OwT.nil {α : Type} (e : Nat) (enc : α → List Value) (sz : Nat) : OwT e enc sz [] (.slice none 0 0) [] := SlO.nil e sz
theorem OwT.read {α : Type} {g : Frag} {e : Nat} {enc : α → List Value} {sz : Nat} {zs : List α} {v : Value} {LX : Own} (h : OwT e enc sz zs v LX) (hL : ∀ b o, (b, o) ∈ LX → g b = some o) : SlT g enc sz zs v := SlO.read h hL
/-- What the state owns, a callee reads. -/
theorem OwT.plus {α : Type} {W w : World} {g : Frag} {L0 L : Own} {e : Nat} {enc : α → List Value} {sz : Nat} {zs : List α} {v : Value} {LX : Own} (h : OwT e enc sz zs v LX) (hS : St W g L0 L w) (hL : ∀ p ∈ LX, p ∈ L) : SlT (g.plus L) enc sz zs v :=
  h.read fun b o hb => hS.plus (hL _ hb)

theorem mk_ex {l : Fm} {n : Nat} {mk : (Nat → Value) → List Value} (h : l.toList = (Fm.lit n (mk (nth l))).toList := by kernel_rfl) : ∃ s, Ac l = Ac (.lit n (mk s)) := ⟨nth l, by show (⟨l.toList.toArray, []⟩ : Act) = ⟨(Fm.lit n (mk (nth l))).toList.toArray, []⟩; rw [← h]⟩

theorem mk_exF {l : Fm} {mk : (Nat → Value) → Fm} (h : l.toList = (mk (nth l)).toList := by kernel_rfl) : ∃ s, Ac l = Ac (mk s) := ⟨nth l, by show (⟨l.toList.toArray, []⟩ : Act) = ⟨(mk (nth l)).toList.toArray, []⟩; rw [← h]⟩

theorem flat_at {α : Type} (enc : α → List Value) (sz : Nat) (he : ∀ z, (enc z).length = sz) : ∀ (zs : List α) (i : Nat) (hi : i < zs.length) (j : Nat), j < sz → (zs.flatMap enc)[i * sz + j]? = (enc zs[i])[j]?
  | [], i, hi, _, _ => by simp at hi
  | z :: zs, 0, _, j, hj => by
    rw [List.flatMap_cons, List.getElem?_append_left (by rw [he]; omega)]
    simp
  | z :: zs, i + 1, hi, j, hj => by
    rw [List.flatMap_cons, List.getElem?_append_right (by rw [he, Nat.succ_mul]; omega), he]
    have := flat_at enc sz he zs i (by simpa using hi) j hj
    rw [show (i + 1) * sz + j - sz = i * sz + j by rw [Nat.succ_mul]; omega, this]
    simp

theorem flat_len {α : Type} (enc : α → List Value) (sz : Nat) (he : ∀ z, (enc z).length = sz) : ∀ (zs : List α), (zs.flatMap enc).length = zs.length * sz
  | [] => by simp
  | z :: zs => by rw [List.flatMap_cons, List.length_append, he, flat_len enc sz he zs, List.length_cons, Nat.succ_mul]; omega

section
variable {P : Program} {ops : Array Oper} {Q : Exit → Act → World → Prop} {C : World → Prop} {K : Act → Prop} {rest : List Oper} {l : Fm} {w : World} {d : Nat} {ty : TypeId} {ps : String} {af : Array Edge}
variable {W : World} {g : Frag} {L0 L : Own} {α : Type} {enc : α → List Value} {sz : Nat} {zs : List α} {v : Value}

theorem o_lenT {x : Operand} {t e : TypeId} (hx : ev l x = v := by (conv => lhs; whnf) <;> exact rfl) (hr : SlT g enc sz zs v) (ht : P.underlying t = some (.slice e))
    (h : WL P ops Q rest (Ac (l.upd d (.int .i64 zs.length))) w) : WL P ops Q (⟨some d, .call { callee := .builtin .len, args := #[x], argTypes := #[t] }, ty, ps, af, none⟩ :: rest) (Ac l) w := o_lenR hx hr ht h
theorem q_lenT {x : Operand} {t e : TypeId} (hx : ev l x = v := by (conv => lhs; whnf) <;> exact rfl) (hr : SlT g enc sz zs v) (ht : P.underlying t = some (.slice e))
    (h : WQ P ops C K rest (Ac (l.upd d (.int .i64 zs.length)))) : WQ P ops C K (⟨some d, .call { callee := .builtin .len, args := #[x], argTypes := #[t] }, ty, ps, af, none⟩ :: rest) (Ac l) := q_lenR hx hr ht h
theorem o_lenO {x : Operand} {t e e' : TypeId} {LX : Own} (hx : ev l x = v := by (conv => lhs; whnf) <;> exact rfl) (hr : OwT e' enc sz zs v LX) (ht : P.underlying t = some (.slice e))
    (h : WL P ops Q rest (Ac (l.upd d (.int .i64 zs.length))) w) : WL P ops Q (⟨some d, .call { callee := .builtin .len, args := #[x], argTypes := #[t] }, ty, ps, af, none⟩ :: rest) (Ac l) w := by
  obtain ⟨A, c, rfl, _⟩ := SlO.slice hr
  exact o_len hx ht h

theorem elem_cells (he : ∀ z, (enc z).length = sz) {i : Nat} (hi : i < zs.length) {b o : Nat} {cs : Array Value} (hc : ∀ j u, (zs.flatMap enc)[i * sz + j]? = some u → cs[o + j]? = some u) (j : Nat) (u : Value) (hj : (enc zs[i])[j]? = some u) : cs[o + j]? = some u := by
  refine hc j u ?_
  have hlt : j < sz := by
    have := (List.getElem?_eq_some_iff.1 hj).1
    rwa [he] at this
  rw [flat_at enc sz he zs i hi j hlt, hj]

/-- The place of an element that is read: its cells. -/
theorem o_indexT {x y : Operand} {t e : TypeId} {k : IntKind} {i : Int} (hx : ev l x = v := by (conv => lhs; whnf) <;> exact rfl) (hy : ev l y = .int k i := by (conv => lhs; whnf) <;> exact rfl) (hr : SlT g enc sz zs v) (he : ∀ z, (enc z).length = sz) (ht : P.underlying t = some (.slice e)) (hsz : (P.info? e).map (·.size) = some sz)
    (h0 : 0 ≤ i) (h1 : i.toNat < zs.length) (h : ∀ b o cs e' fz, g b = some (.cells cs e' fz) → (∀ j u, (enc (zs[i.toNat]'h1))[j]? = some u → cs[o + j]? = some u) → WL P ops Q rest (Ac (l.upd d (.pointer (some ⟨b, o, none⟩)))) w) :
    WL P ops Q (⟨some d, .indexAddr t x y, ty, ps, af, none⟩ :: rest) (Ac l) w :=
  o_indexR hx hr hy ht hsz h0 (by omega) fun b o cs e' fz hb hc => h b o cs e' fz hb fun j u hj => elem_cells (b := b) he h1 hc j u hj
theorem q_indexT {x y : Operand} {t e : TypeId} {k : IntKind} {i : Int} (hx : ev l x = v := by (conv => lhs; whnf) <;> exact rfl) (hy : ev l y = .int k i := by (conv => lhs; whnf) <;> exact rfl) (hr : SlT g enc sz zs v) (he : ∀ z, (enc z).length = sz) (ht : P.underlying t = some (.slice e)) (hsz : (P.info? e).map (·.size) = some sz)
    (h0 : 0 ≤ i) (h1 : i.toNat < zs.length) (h : ∀ b o cs e' fz, g b = some (.cells cs e' fz) → (∀ j u, (enc (zs[i.toNat]'h1))[j]? = some u → cs[o + j]? = some u) → WQ P ops C K rest (Ac (l.upd d (.pointer (some ⟨b, o, none⟩))))) :
    WQ P ops C K (⟨some d, .indexAddr t x y, ty, ps, af, none⟩ :: rest) (Ac l) :=
  q_indexR hx hr hy ht hsz h0 (by omega) fun b o cs e' fz hb hc => h b o cs e' fz hb fun j u hj => elem_cells (b := b) he h1 hc j u hj

theorem wr_all : ∀ (vs pre cl post : List Value), cl.length = vs.length → wr (pre ++ cl ++ post) pre.length vs = pre ++ vs ++ post
  | [], pre, cl, post, h => by
    have : cl = [] := List.eq_nil_of_length_eq_zero (by simpa using h)
    subst this
    simp [wr]
  | v :: r, pre, c :: cl, post, h => by
    have := wr_all r (pre ++ [v]) cl post (by simpa using h)
    rw [wr]
    simp only [List.length_append, List.length_cons, List.length_nil, List.append_assoc, List.cons_append, List.nil_append] at this ⊢
    rw [← this]
    congr 1
    simp

/-- A slice made of one thing. -/
theorem o_build1 {t e by_ : Nat} {x : Operand} {u : Value} {cl : List Value} (hS : St W g L0 L w) (he : El P t e sz by_) (hx : ev l x = u := by (conv => lhs; whnf) <;> exact rfl) (hc : u.cells = cl.toArray) (hl : cl.length = sz) (hn : sz ≤ 16777216)
    (h : ∀ b w', St W g L0 ((b, blk cl e) :: L) w' → WL P ops Q rest (Ac (l.upd d (.slice (some ⟨b, 0, none⟩) 1 1))) w') :
    WL P ops Q (⟨some d, .buildSlice t 1 #[(0, x)], ty, ps, af, none⟩ :: rest) (Ac l) w := by
  obtain ⟨i, z, hi, hz, hs, hb, hzs⟩ := he.inf
  refine o_buildSlice (pv := [(0, u)]) (zl := ((Array.range (1 * sz)).map (fun j => z.cells[j % z.cells.size]!)).toList) (cl := cl) hS he (by omega) (by simp [hx]) (fun i' hi' z' hz' => ?_) ?_ (fun p hp => ?_) (by simp) h
  · rw [hi] at hi'
    obtain rfl := Option.some.inj hi'
    rw [hz] at hz'
    obtain rfl := Option.some.inj hz'
    exact Array.toArray_toList.symm
  · simp only [parts, hc, Nat.zero_mul]
    have := wr_all cl [] (((Array.range (1 * sz)).map (fun j => z.cells[j % z.cells.size]!)).toList) [] (by simp [hl])
    simpa using this
  · simp only [List.mem_singleton] at hp
    subst hp
    simp [hc, hl]

/-- One thing is appended. -/
theorem o_app1 {t e by_ : Nat} {s x : Operand} {bt et : Nat} {z : α} {LX Lr : Own} (hS : St W g L0 ((bt, blk (enc z) et) :: (LX ++ Lr)) w) (he : El P t e sz by_) (hv : OwT e enc sz zs v LX)
    (hs : ev l s = v := by (conv => lhs; whnf) <;> exact rfl) (hx : ev l x = .slice (some ⟨bt, 0, none⟩) 1 1 := by (conv => lhs; whnf) <;> exact rfl) (hen : (enc z).length = sz) (h1 : ∀ u ∈ enc z, u.oneCell' = true)
    (hb : (zs.length + 1) * by_ ≤ 140737488355328) (h63 : zs.length + 1 ≤ maxLen)
    (h : ∀ v' LX' w', OwT e enc sz (zs ++ [z]) v' LX' → St W g L0 (LX' ++ Lr) w' → WL P ops Q rest (Ac (l.upd d v')) w') :
    WL P ops Q (⟨some d, .call { callee := .builtin .append, args := #[s, x], argTypes := #[t, t] }, ty, ps, af, none⟩ :: rest) (Ac l) w := by
  refine o_appT (ct := enc z) (news := enc z) hS he hs hx hv (by rw [hen, Nat.one_mul]) (fun j u hj => by rw [Nat.zero_add]; exact hj) h1 hb h63 fun v' LX' w' h2 h3 => h v' LX' w' ?_ h3
  unfold OwT
  rw [List.length_append, List.flatMap_append]
  simpa using h2
/-- Some things are appended. -/
theorem o_appT3 {t e by_ n : Nat} {s x : Operand} {bt et : Nat} {ys : List α} {LX Lr : Own} (hS : St W g L0 ((bt, blk (ys.flatMap enc) et) :: (LX ++ Lr)) w) (he : El P t e sz by_) (hv : OwT e enc sz zs v LX)
    (hs : ev l s = v := by (conv => lhs; whnf) <;> exact rfl) (hx : ev l x = .slice (some ⟨bt, 0, none⟩) n n := by (conv => lhs; whnf) <;> exact rfl) (hn : ys.length = n := by rfl) (hen : (ys.flatMap enc).length = n * sz) (h1 : ∀ u ∈ ys.flatMap enc, u.oneCell' = true)
    (hb : (zs.length + n) * by_ ≤ 140737488355328) (h63 : zs.length + n ≤ maxLen)
    (h : ∀ v' LX' w', OwT e enc sz (zs ++ ys) v' LX' → St W g L0 (LX' ++ Lr) w' → WL P ops Q rest (Ac (l.upd d v')) w') :
    WL P ops Q (⟨some d, .call { callee := .builtin .append, args := #[s, x], argTypes := #[t, t] }, ty, ps, af, none⟩ :: rest) (Ac l) w := by
  refine o_appT (ct := ys.flatMap enc) (news := ys.flatMap enc) hS he hs hx hv hen (fun j u hj => by rw [Nat.zero_add]; exact hj) h1 hb h63 fun v' LX' w' h2 h3 => h v' LX' w' ?_ h3
  unfold OwT
  rw [List.length_append, List.flatMap_append, hn]
  exact h2
/-- A struct is read whole out of its own block. -/
theorem o_loadW {x : Operand} {t : TypeId} {ds : TypeDesc} {b : Nat} {cs : Array Value} {e : TypeId} {fz : Nat × Nat} (hx : ev l x = .pointer (some ⟨b, 0, none⟩) := by (conv => lhs; whnf) <;> exact rfl) (hb : w.heap[b]? = some (.cells cs e fz))
    (hu : P.underlying t = some ds) (hd : ds.isRow = true) (hi : (P.info? t).map (·.size) = some cs.size) (h : WL P ops Q rest (Ac (l.upd d (.agg cs))) w) : WL P ops Q (⟨some d, .load t x, ty, ps, af, none⟩ :: rest) (Ac l) w :=
  o_val (by
    have := run_loadVar_mid (P := P) w b 0 t cs.toList ds (rangeAt_of hb (fun j u hj => by simpa using hj)) hu hd (by simpa using hi)
    simp [execOp, hx, Instr.loadAt, Instr.sureAddr, this]) h
theorem q_loadW {x : Operand} {t : TypeId} {ds : TypeDesc} {b : Nat} {cs : Array Value} {e : TypeId} {fz : Nat × Nat} (hx : ev l x = .pointer (some ⟨b, 0, none⟩) := by (conv => lhs; whnf) <;> exact rfl) (hb : ∀ w, C w → w.heap[b]? = some (.cells cs e fz))
    (hu : P.underlying t = some ds) (hd : ds.isRow = true) (hi : (P.info? t).map (·.size) = some cs.size) (h : WQ P ops C K rest (Ac (l.upd d (.agg cs)))) : WQ P ops C K (⟨some d, .load t x, ty, ps, af, none⟩ :: rest) (Ac l) :=
  q_val (fun w hw => by
    have := run_loadVar_mid (P := P) w b 0 t cs.toList ds (rangeAt_of (hb w hw) (fun j u hj => by simpa using hj)) hu hd (by simpa using hi)
    simp [execOp, hx, Instr.loadAt, Instr.sureAddr, this]) h
/-- All things of a slice that is read are appended. -/
theorem o_appAll {t e by_ : Nat} {s x : Operand} {u : Value} {ys : List α} {LX Lr : Own} (hS : St W g L0 (LX ++ Lr) w) (he : El P t e sz by_) (hv : OwT e enc sz zs v LX) (hu : SlT (g.plus Lr) enc sz ys u) (hu0 : ∀ c, u = .slice none ys.length c → c = 0 ∧ ys.length = 0)
    (hs : ev l s = v := by (conv => lhs; whnf) <;> exact rfl) (hx : ev l x = u := by (conv => lhs; whnf) <;> exact rfl) (h1 : ∀ u ∈ ys.flatMap enc, u.oneCell' = true)
    (hb : (zs.length + ys.length) * by_ ≤ 140737488355328) (h63 : zs.length + ys.length ≤ maxLen)
    (h : ∀ v' LX' w', OwT e enc sz (zs ++ ys) v' LX' → St W g L0 (LX' ++ Lr) w' → WL P ops Q rest (Ac (l.upd d v')) w') :
    WL P ops Q (⟨some d, .call { callee := .builtin .append, args := #[s, x], argTypes := #[t, t] }, ty, ps, af, none⟩ :: rest) (Ac l) w := by
  refine o_appR hS he hs hx hv hu hu0 h1 hb h63 fun v' LX' w' h2 h3 => h v' LX' w' ?_ h3
  unfold OwT
  rw [List.length_append, List.flatMap_append]
  exact h2

theorem o_pickT {x y z : Operand} {u : Value} (hx : ev l x = .bool true := by (conv => lhs; whnf) <;> exact rfl) (hy : ev l y = u := by (conv => lhs; whnf) <;> exact rfl) (h : WL P ops Q rest (Ac (l.upd d u)) w) :
    WL P ops Q (⟨some d, .pick x y z, ty, ps, af, none⟩ :: rest) (Ac l) w := o_pick (v := ev l z) hx hy rfl (by simpa using h)
theorem o_pickF {x y z : Operand} {u : Value} (hx : ev l x = .bool false := by (conv => lhs; whnf) <;> exact rfl) (hz : ev l z = u := by (conv => lhs; whnf) <;> exact rfl) (h : WL P ops Q rest (Ac (l.upd d u)) w) :
    WL P ops Q (⟨some d, .pick x y z, ty, ps, af, none⟩ :: rest) (Ac l) w := o_pick (u := ev l y) hx rfl hz (by simpa using h)
theorem q_pickT {x y z : Operand} {u : Value} (hx : ev l x = .bool true := by (conv => lhs; whnf) <;> exact rfl) (hy : ev l y = u := by (conv => lhs; whnf) <;> exact rfl) (h : WQ P ops C K rest (Ac (l.upd d u))) :
    WQ P ops C K (⟨some d, .pick x y z, ty, ps, af, none⟩ :: rest) (Ac l) := q_pick (v := ev l z) hx hy rfl (by simpa using h)
theorem q_pickF {x y z : Operand} {u : Value} (hx : ev l x = .bool false := by (conv => lhs; whnf) <;> exact rfl) (hz : ev l z = u := by (conv => lhs; whnf) <;> exact rfl) (h : WQ P ops C K rest (Ac (l.upd d u))) :
    WQ P ops C K (⟨some d, .pick x y z, ty, ps, af, none⟩ :: rest) (Ac l) := q_pick (u := ev l y) hx rfl hz (by simpa using h)

theorem o_skipU {op : Op} {j : Nat} {want : Bool} {oj : Oper} {t : Tmp} (hj : ops[j]? = some oj) (hd : oj.dst = some t) (hl : nth l t = undef := by (conv => lhs; whnf) <;> exact rfl) (h : WL P ops Q rest (Ac (l.upd d undef)) w) :
    WL P ops Q (⟨some d, op, ty, ps, af, some (j, want)⟩ :: rest) (Ac l) w := by
  have hy : yielded ops (Ac l).tmps j = none := nth_undef hj hd hl
  refine ⟨?_⟩
  unfold wpList
  rw [if_neg (by simp [Region.wanted, hy]), put_ac]
  exact h.out
theorem q_skipU {op : Op} {j : Nat} {want : Bool} {oj : Oper} {t : Tmp} (hj : ops[j]? = some oj) (hd : oj.dst = some t) (hl : nth l t = undef := by (conv => lhs; whnf) <;> exact rfl) (h : WQ P ops C K rest (Ac (l.upd d undef))) :
    WQ P ops C K (⟨some d, op, ty, ps, af, some (j, want)⟩ :: rest) (Ac l) := by
  have hy : yielded ops (Ac l).tmps j = none := nth_undef hj hd hl
  refine ⟨?_⟩
  unfold wpQuiet
  rw [if_neg (by simp [Region.wanted, hy]), put_ac]
  exact h.out

/-- A load out of what one owns, or reads. -/
theorem o_nilCheck {x : Operand} {a : Addr} (hx : ev l x = .pointer (some a) := by (conv => lhs; whnf) <;> exact rfl) (h : WL P ops Q rest (Ac (l.upd d (.pointer (some a)))) w) :
    WL P ops Q (⟨some d, .nilCheck x, ty, ps, af, none⟩ :: rest) (Ac l) w :=
  o_val (by simp [execOp, hx]) h
theorem q_nilCheck {x : Operand} {a : Addr} (hx : ev l x = .pointer (some a) := by (conv => lhs; whnf) <;> exact rfl) (h : WQ P ops C K rest (Ac (l.upd d (.pointer (some a))))) :
    WQ P ops C K (⟨some d, .nilCheck x, ty, ps, af, none⟩ :: rest) (Ac l) :=
  q_val (fun w _ => by simp [execOp, hx]) h
end

section
variable {P : Program} {fn : Func} {W w : World} {g : Frag} {L0 L : Own} {R : Value → Own → Prop} {l : Fm}
theorem r_ret1 {t : Tmp} {v : Value} (hS : St W g L0 L w) (hf : fn.results = #[.tmp t]) (hv : nth l t = v := by (conv => lhs; whnf) <;> exact rfl) (hR : R v L) : Post P fn W g L0 R .ret (Ac l) w :=
  r_ret (vs := [v]) hS (by rw [hf]; exact ⟨hv, trivial⟩) rfl hR
theorem r_ret2 {t t' : Tmp} {v v' : Value} (hS : St W g L0 L w) (hf : fn.results = #[.tmp t, .tmp t']) (hv : nth l t = v := by (conv => lhs; whnf) <;> exact rfl) (hv' : nth l t' = v' := by (conv => lhs; whnf) <;> exact rfl) (hR : R (.tuple #[v, v']) L) : Post P fn W g L0 R .ret (Ac l) w :=
  r_ret (vs := [v, v']) hS (by rw [hf]; exact ⟨hv, hv', trivial⟩) rfl hR
theorem r_ret3 {t t' t2 : Tmp} {v v' v2 : Value} (hS : St W g L0 L w) (hf : fn.results = #[.tmp t, .tmp t', .tmp t2]) (hv : nth l t = v := by (conv => lhs; whnf) <;> exact rfl) (hv' : nth l t' = v' := by (conv => lhs; whnf) <;> exact rfl) (hv2 : nth l t2 = v2 := by (conv => lhs; whnf) <;> exact rfl) (hR : R (.tuple #[v, v', v2]) L) : Post P fn W g L0 R .ret (Ac l) w :=
  r_ret (vs := [v, v', v2]) hS (by rw [hf]; exact ⟨hv, hv', hv2, trivial⟩) rfl hR
/-- Of a function that makes nothing. -/
theorem r_retS1 {t : Tmp} {v r : Value} (hS : St W g L0 L w) (hf : fn.results = #[.tmp t]) (hv : nth l t = v := by (conv => lhs; whnf) <;> exact rfl) (hR : v = r) : Post P fn W g L0 (fun v L => v = r ∧ L = []) .ret (Ac l) w :=
  r_ret1 (hS.drop (List.nil_sublist L)) hf hv ⟨hR, rfl⟩
theorem r_retS2 {t t' : Tmp} {v v' r : Value} (hS : St W g L0 L w) (hf : fn.results = #[.tmp t, .tmp t']) (hv : nth l t = v := by (conv => lhs; whnf) <;> exact rfl) (hv' : nth l t' = v' := by (conv => lhs; whnf) <;> exact rfl) (hR : .tuple #[v, v'] = r) : Post P fn W g L0 (fun v L => v = r ∧ L = []) .ret (Ac l) w :=
  r_ret2 (hS.drop (List.nil_sublist L)) hf hv hv' ⟨hR, rfl⟩
end
end Go.Proofs.Ytjmmkbehdbpklaa.Fr
