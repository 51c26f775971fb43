/- Control: a body, sequences, branches, loops, results; regions that draw their order but change nothing. -/
import Derived.Test.YtgakgpbmcbegbaaGreatDoorApp
import Derived.Deep.LoopGhost
import Derived.Deep.Quiet
namespace Go.Proofs.YtgakgpbmcbegbaaGreatDoor.Fr
open Go.RowKit
structure WQ (P : Program) (ops : Array Oper) (C : World → Prop) (K : Act → Prop) (l : List Oper) (a : Act) : Prop where
  out : wpQuiet P ops C K l a
def Post (P : Program) (fn : Func) (W : World) (g : Frag) (L0 : Own) (R : Value → Own → Prop) : Exit → Act → World → Prop :=
  bodyPost P fn fun e w' => ∃ v L', e = .returned v ∧ St W g L0 L' w' ∧ R v L'
theorem nthL_range : ∀ (av : List Value) (k : Nat), (List.range (av.length + k)).map (nthL av) = av ++ List.replicate k undef := by
  intro av k
  refine List.ext_getElem? fun i => ?_
  have hq : ∀ (l : List Value) (i : Nat), nthL l i = l.getD i undef := by
    intro l
    induction l with
    | nil => intro i; simp [nthL]
    | cons a l ih => intro i; cases i with
      | zero => simp [nthL]
      | succ i => simp [nthL, ih]
  rw [List.getElem?_map, List.getElem?_append]
  by_cases h : i < av.length
  · rw [List.getElem?_range (by omega), if_pos h]
    simp [hq, h]
  · rw [if_neg h, List.getElem?_replicate]
    by_cases h2 : i < av.length + k
    · rw [List.getElem?_range h2, if_pos (by omega)]
      simp [hq, List.getElem?_eq_none (Nat.le_of_not_lt h)]
    · rw [if_neg (by omega)]
      simp; omega
theorem lc_body {P : Program} {f : FuncId} {fn : Func} {c : Code} {av : List Value} {k : Nat} {g : Frag} {L0 : Own} {R : Value → Own → Prop} (hf : P.funcs[f]? = some fn) (hb : fn.body = some c) (hk : fn.ntmps = k) (hv : Nat.ble av.length k = true := by exact rfl)
    (h : ∀ w, St w g L0 L0 w → c.wp P (Post P fn w g L0 R) (Ac (.lit k av)) w) : LC P f av.toArray g L0 R := by
  intro w hw
  refine calls_of_wp hf hb ?_
  have := h w hw
  subst hk
  have ha : av.toArray ++ Array.replicate (fn.ntmps - av.toArray.size) undef = (Fm.lit fn.ntmps av).toList.toArray := by
    rw [← List.toArray_replicate, List.append_toArray, List.size_toArray]
    show _ = ((List.range fn.ntmps).map (nthL av)).toArray
    rw [← nthL_range, Nat.add_sub_cancel' (Nat.le_of_ble_eq_true hv)]
  rw [ha]
  exact this
section
variable {P : Program} {fn : Func} {W w : World} {g : Frag} {L0 L L' : Own} {R : Value → Own → Prop} {l : Fm} {Q : Exit → Act → World → Prop} {ops : Array Oper}
def resOf (P : Program) (l : Fm) (w : World) (r : ResultVar) (v : Value) : Prop :=
  match r with
  | .tmp t => nth l t = v
  | .cell a t => ∃ b o, nth l a = .pointer (some ⟨b, o, none⟩) ∧ (Instr.loadAt t (.pointer (some ⟨b, o, none⟩))).run P w = .ok v w
def resAll (P : Program) (l : Fm) (w : World) : List ResultVar → List Value → Prop
  | [], [] => True
  | r :: rs, v :: vs => resOf P l w r v ∧ resAll P l w rs vs
  | _, _ => False
def resM (tmps : Array Value) : ResultVar → Sem Value
  | .tmp t => pure (tmps.getD t undef)
  | .cell a t => do loadVar t (← asAddr (tmps.getD a undef))
theorem results_eq (fn : Func) (tmps : Array Value) : results fn tmps = (do let vs ← fn.results.mapM (resM tmps); pure (if h : vs.size = 1 then vs[0] else .tuple vs)) := by
  unfold results
  congr 1
theorem run_resAll {rs : List ResultVar} : ∀ {vs : List Value}, resAll P l w rs vs → (rs.mapM (resM l.toList.toArray)).run P w = .ok vs w := by
  induction rs with
  | nil => intro vs h; cases vs with | nil => rfl | cons _ _ => exact h.elim
  | cons r rs ih =>
    intro vs h
    cases vs with
    | nil => exact h.elim
    | cons v vs =>
      obtain ⟨h1, h2⟩ := h
      have := ih h2
      cases r with
      | tmp t =>
        have h1' : nth l t = v := h1
        rw [nth_eq] at h1'
        simp only [List.mapM_cons, Sem.run_bind, resM, Sem.run_pure, Result.andThen_ok, this, h1']
      | cell a t =>
        obtain ⟨b, o, ha, hl⟩ := h1
        rw [nth_eq] at ha
        simp only [Instr.loadAt, Instr.sureAddr, Sem.run_bind, Sem.run_pure, Result.andThen_ok] at hl
        have hA : asAddr (.pointer (some ⟨b, o, none⟩)) = pure ⟨b, o, none⟩ := rfl
        simp only [List.mapM_cons, Sem.run_bind, resM, ha, hA, Sem.run_pure, Result.andThen_ok, this, hl]
theorem run_results {vs : List Value} {v : Value} (h : resAll P l w fn.results.toList vs) (hv : (if vs.length = 1 then vs.headD undef else .tuple vs.toArray) = v) : (results fn l.toList.toArray).run P w = .ok v w := by
  have := run_resAll h
  rw [results_eq, Array.mapM_eq_mapM_toList]
  simp only [Sem.run_bind, Sem.run_map, this, Result.andThen_ok, Sem.run_pure]
  subst hv
  match vs with
  | [] => rfl
  | [a] => rfl
  | a :: b :: r => simp
theorem r_ret {vs : List Value} {v : Value} (hS : St W g L0 L' w) (h : resAll P l w fn.results.toList vs) (hv : (if vs.length = 1 then vs.headD undef else .tuple vs.toArray) = v) (hR : R v L') : Post P fn W g L0 R .ret (Ac l) w :=
  ⟨rfl, v, run_results h hv, v, L', rfl, hS, hR⟩
theorem r_end {vs : List Value} {v : Value} (hS : St W g L0 L' w) (h : resAll P l w fn.results.toList vs) (hv : (if vs.length = 1 then vs.headD undef else .tuple vs.toArray) = v) (hR : R v L') : Post P fn W g L0 R .normal (Ac l) w :=
  ⟨rfl, v, run_results h hv, v, L', rfl, hS, hR⟩
theorem c_seq {x y : Code} (h : x.wp P (Exit.then (y.wp P Q) Q) (Ac l) w) : (Code.seq x y).wp P Q (Ac l) w := wp_seq h
theorem c_cut {x y : Code} (M : Act → World → Prop) (hx : x.wp P (Exit.then M Q) (Ac l) w) (hy : ∀ a w, M a w → y.wp P Q a w) : (Code.seq x y).wp P Q (Ac l) w :=
  wp_seq (wp_mono hx fun e a w h => by cases e <;> first | exact hy _ _ h | exact h)
theorem c_if {c : Operand} {x y : Code} {t : Bool} (hx : ev l c = .bool t := by (conv => lhs; whnf) <;> exact rfl) (ht : t = true → x.wp P Q (Ac l) w) (hf : t = false → y.wp P Q (Ac l) w) : (Code.cond c x y).wp P Q (Ac l) w :=
  wp_cond_split (by rw [ev_eq]; exact hx) ht hf
theorem c_if_true {c : Operand} {x y : Code} (hx : ev l c = .bool true := by (conv => lhs; whnf) <;> exact rfl) (h : x.wp P Q (Ac l) w) : (Code.cond c x y).wp P Q (Ac l) w := wp_cond_true (by rw [ev_eq]; exact hx) h
theorem c_if_false {c : Operand} {x y : Code} (hx : ev l c = .bool false := by (conv => lhs; whnf) <;> exact rfl) (h : y.wp P Q (Ac l) w) : (Code.cond c x y).wp P Q (Ac l) w := wp_cond_false (by rw [ev_eq]; exact hx) h
theorem c_block {id : Nat} {c : Code} (h : c.wp P (Exit.inBlock id Q) (Ac l) w) : (Code.block id c).wp P Q (Ac l) w := wp_block h
theorem c_region {id : Nat} (h : WL P ops Q ops.toList (Ac l) w) : (Code.region id ops false).wp P Q (Ac l) w := wp_region_list h.out
theorem n_anyN (h : Q .normal (Ac l) w) : WL P ops Q [] (Ac l) w := ⟨h⟩
def LCs (P : Program) (f : FuncId) (args : Array Value) (g : Frag) (r : Value) : Prop := LC P f args g [] fun v L => v = r ∧ L = []
theorem LCs.of {f : FuncId} {args : Array Value} {r : Value} (h : LC P f args g [] fun v L => v = r ∧ L = []) : LCs P f args g r := h
theorem LCs.eq {f : FuncId} {args : Array Value} {r r' : Value} (h : LCs P f args g r) (e : r = r') : LCs P f args g r' := e ▸ h
theorem o_callS {f : FuncId} {fn : Func} {ao : Array Operand} {ts : Array TypeId} {args : Array Value} {r : Value} {rest : List Oper} {d : Nat} {ty : TypeId} {ps : String} {af : Array Edge} (hS : St W g L0 L w) (hf : P.funcs[f]? = some fn) (hname : (fn.name == "runtime.NumGoroutine") = false) (hb : fn.body.isSome = true)
    (ha : ao.map (ev l) = args := by exact avs) (hc : LCs P f args (g.plus L) r) (h : ∀ w', St W g L0 L w' → WL P ops Q rest (Ac (l.upd d r)) w') :
    WL P ops Q (⟨some d, .call { callee := .value (.func f), args := ao, argTypes := ts }, ty, ps, af, none⟩ :: rest) (Ac l) w :=
  o_call (L1 := []) (L2 := L) hS hf hname hb ha hc fun v L' w' hs hr => by
    obtain ⟨rfl, rfl⟩ := hr
    exact h w' hs
theorem c_quiet {id : Nat} (hm : P.follows .mixedOrders = true) (hB : Region.lexB .any ops = true) (hS : St W g L0 L w)
    (h : WQ P ops (St W g L0 L) (fun a' => ∀ w', St W g L0 L w' → Q .normal a' w') ops.toList (Ac l)) : (Code.region id ops true).wp P Q (Ac l) w :=
  wp_region_quiet (C := St W g L0 L) hm hB hS.drew h.out
theorem c_loop {c : Code} (I : Nat → Act → World → Prop) (n : Nat) (h0 : I n (Ac l) w)
    (round : ∀ n a w, I n a w → c.wp P (Exit.then (fun a' w' => ∃ m, m < n ∧ I m a' w') Q) a w) : (Code.loop c).wp P Q (Ac l) w :=
  wp_loop_ghost I n h0 round
end
end Go.Proofs.YtgakgpbmcbegbaaGreatDoor.Fr
