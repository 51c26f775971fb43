/- Short names and short forms of rules, so that the walks' texts stay small. -/
import Derived.Test.YtgakgpbmcbegbaaGreatDoorHeldB
import Derived.Test.YtgakgpbmcbegbaaGreatDoorY
import Derived.Test.YtgakgpbmcbegbaaGreatDoorOwnN
namespace Go.Proofs.YtgakgpbmcbegbaaGreatDoor.Fr
open Go.RowKit
set_option linter.unusedVariables false
section
variable {P : Program} {ops : Array Oper} {Q : Exit → Act → World → Prop} {C : World → Prop} {l : Fm} {w : World} {d : Nat} {ty : TypeId} {ps : String} {af : Array Edge}
variable {W : World} {g : Frag} {L0 L : Own}
theorem yM {x : Operand} {v : Value} (hx : ev l x = v := by (conv => lhs; whnf) <;> exact rfl) : YV P C l ⟨some d, .move x, ty, ps, af, none⟩ (v) := y_move hx
theorem yA {x : Operand} {v : Value} (hx : ev l x = v := by (conv => lhs; whnf) <;> exact rfl) : YV P C l ⟨some d, .assign x, ty, ps, af, none⟩ (v) := y_assign hx
theorem yB {op : BinOp} {k : IntKind} {a b : Int} {v : Value} {x y : Operand} {t t' : TypeId} (hx : ev l x = .int k a := by (conv => lhs; whnf) <;> exact rfl) (hy : ev l y = .int k b := by (conv => lhs; whnf) <;> exact rfl) (hv : ib op k a b = some v := by exact rfl) : YV P C l ⟨some d, .binOp op t x y t', ty, ps, af, none⟩ (v) := y_bin hx hy hv
theorem yN {x : Operand} {a : Addr} (hx : ev l x = .pointer (some a) := by (conv => lhs; whnf) <;> exact rfl) : YV P C l ⟨some d, .nilCheck x, ty, ps, af, none⟩ (.pointer (some a)) := y_nilCheck hx
theorem yF {x : Operand} {s : TypeId} {i k b o : Nat} (hf : ∀ (b o : Nat) (w : World), (Instr.fieldAt s (.pointer (some ⟨b, o, none⟩)) i).run P w = .ok (.pointer (some ⟨b, o + k, none⟩)) w) (hx : ev l x = .pointer (some ⟨b, o, none⟩) := by (conv => lhs; whnf) <;> exact rfl) : YV P C l ⟨some d, .fieldAddr s x i, ty, ps, af, none⟩ (.pointer (some ⟨b, o + k, none⟩)) := y_field hf hx
theorem yL {x : Operand} {t : TypeId} {ds : TypeDesc} {b o : Nat} {cs : Array Value} {e : TypeId} {fz : Nat × Nat} {v : Value} (hm : (b, .cells cs e fz) ∈ L) (hu : P.underlying t = some ds) (hd : ds.isRow = false) (hv : cs[o]? = some v) (hx : ev l x = .pointer (some ⟨b, o, none⟩) := by (conv => lhs; whnf) <;> exact rfl) : YV P (St W g L0 L) l ⟨some d, .load t x, ty, ps, af, none⟩ (v) := y_load (fun w hS => hS.own hm) hu hd hv hx
theorem yK {x : Operand} {t : TypeId} {ds : TypeDesc} {b o : Nat} {cs : Array Value} {e : TypeId} {fz : Nat × Nat} {v : Value} (hb : g b = some (.cells cs e fz)) (hu : P.underlying t = some ds) (hd : ds.isRow = false) (hv : cs[o]? = some v) (hx : ev l x = .pointer (some ⟨b, o, none⟩) := by (conv => lhs; whnf) <;> exact rfl) : YV P (St W g L0 L) l ⟨some d, .load t x, ty, ps, af, none⟩ (v) := y_load (fun w hS => hS.block hb) hu hd hv hx
theorem zyL {x : Operand} {t : TypeId} {ds : TypeDesc} {b o : Nat} {cs : Array Value} {e : TypeId} {fz : Nat × Nat} {v : Value} (hm : (b, .cells cs e fz) ∈ L) (hu : P.underlying t = some ds) (hd : ds.isRow = false) (hv : cs[o]? = some v) (hx : ev l x = .pointer (some ⟨b, o, none⟩) := by (conv => lhs; whnf) <;> exact rfl) : YV P (CB g L) l ⟨some d, .load t x, ty, ps, af, none⟩ (v) := y_load (fun w hS => hS.own hm) hu hd hv hx
theorem zyK {x : Operand} {t : TypeId} {ds : TypeDesc} {b o : Nat} {cs : Array Value} {e : TypeId} {fz : Nat × Nat} {v : Value} (hb : g b = some (.cells cs e fz)) (hu : P.underlying t = some ds) (hd : ds.isRow = false) (hv : cs[o]? = some v) (hx : ev l x = .pointer (some ⟨b, o, none⟩) := by (conv => lhs; whnf) <;> exact rfl) : YV P (CB g L) l ⟨some d, .load t x, ty, ps, af, none⟩ (v) := y_load (fun w hS => hS.block hb) hu hd hv hx
theorem cQ {id : Nat} (hS : St W g L0 L w) (h : WQ P ops (St W g L0 L) (fun a' => ∀ w', St W g L0 L w' → Q .normal a' w') ops.toList (Ac l)) (hm : P.follows .mixedOrders = true := by kernel_rfl) (hB : Region.lexB .any ops = true := by kernel_rfl) : (Code.region id ops true).wp P Q (Ac l) w := c_quiet hm hB hS h
theorem cH {id : Nat} (bar n : Nat) (hS : St W g L0 L w) (h : ∀ w', St W g L0 L w' → WB P ops Q (CB g L) bar n (Array.replicate n false) (Ac l) w') (hm : P.follows .mixedOrders = true := by kernel_rfl) (hn : ops.size = n := by exact rfl) : (Code.region id ops true).wp P Q (Ac l) w := c_heldL bar n hm hn hS h
theorem hD {bar fu : Nat} {listed : Array Bool} (h : Q .normal (Ac l) w) (hr : Region.ready .any ops listed = [] := by kernel_rfl) : WB P ops Q C bar fu listed (Ac l) w := hb_done hr h
theorem cs {x y : Code} (h : x.wp P (Exit.then (y.wp P Q) Q) (Ac l) w) : (Code.seq x y).wp P Q (Ac l) w := c_seq h
theorem ss {x y z : Code} (h : x.wp P (Exit.then (y.wp P (Exit.then (z.wp P Q) Q)) (Exit.then (z.wp P Q) Q)) (Ac l) w) : (Code.seq (Code.seq x y) z).wp P Q (Ac l) w := c_seq (c_seq h)
theorem cr {id : Nat} (h : WL P ops Q ops.toList (Ac l) w) : (Code.region id ops false).wp P Q (Ac l) w := c_region h
theorem sr {id : Nat} {y : Code} (h : WL P ops (Exit.then (y.wp P Q) Q) ops.toList (Ac l) w) : (Code.seq (Code.region id ops false) y).wp P Q (Ac l) w := c_seq (c_region h)
theorem nT {K : Act → World → Prop} (h : K (Ac l) w) : WL P ops (Exit.then K Q) [] (Ac l) w := ⟨h⟩
theorem sk {a : Act} (h : Q .normal a w) : Code.skip.wp P Q a w := wp_skip h
theorem wR {a : Act} (h : Q .ret a w) : Code.ret.wp P Q a w := wp_ret h
theorem cI {ρ : Type} {c : Operand} {x y : Code} {t : Bool} {A B r : ρ} (hF : (bif t then A else B) = r) (ht : t = true → A = r → x.wp P Q (Ac l) w) (hf : t = false → B = r → y.wp P Q (Ac l) w) (hx : ev l c = .bool t := by (conv => lhs; whnf) <;> exact rfl) : (Code.cond c x y).wp P Q (Ac l) w :=
  c_if hx (fun h => ht h (bt h hF)) (fun h => hf h (bf h hF))
theorem cT {ρ : Type} {c : Operand} {x y : Code} {t : Bool} {A : Option ρ} {r : ρ} (hF : (bif t then A else none) = some r) (ht : t = true → A = some r → x.wp P Q (Ac l) w) (hx : ev l c = .bool t := by (conv => lhs; whnf) <;> exact rfl) : (Code.cond c x y).wp P Q (Ac l) w :=
  c_if hx (fun h => ht h (bt h hF)) (fun h => nomatch bf h hF)
theorem cE {ρ : Type} {c : Operand} {x y : Code} {t : Bool} {B : Option ρ} {r : ρ} (hF : (bif t then none else B) = some r) (hf : t = false → B = some r → y.wp P Q (Ac l) w) (hx : ev l c = .bool t := by (conv => lhs; whnf) <;> exact rfl) : (Code.cond c x y).wp P Q (Ac l) w :=
  c_if hx (fun h => nomatch bt h hF) (fun h => hf h (bf h hF))
variable {rest : List Oper} {K : Act → Prop}
theorem oI {ρ : Type} {x : Operand} {t : Bool} {A B r : ρ} (hF : (bif t then A else B) = r) (ht : t = true → A = r → WL P ops Q rest (Ac (l.upd d (.bool true))) w) (hf : t = false → B = r → WL P ops Q rest (Ac (l.upd d (.bool false))) w) (hx : ev l x = .bool t := by (conv => lhs; whnf) <;> exact rfl) : WL P ops Q (⟨some d, .move x, ty, ps, af, none⟩ :: rest) (Ac l) w :=
  o_split hx (fun h => ht h (bt h hF)) (fun h => hf h (bf h hF))
theorem oT {ρ : Type} {x : Operand} {t : Bool} {A : Option ρ} {r : ρ} (hF : (bif t then A else none) = some r) (ht : t = true → A = some r → WL P ops Q rest (Ac (l.upd d (.bool true))) w) (hx : ev l x = .bool t := by (conv => lhs; whnf) <;> exact rfl) : WL P ops Q (⟨some d, .move x, ty, ps, af, none⟩ :: rest) (Ac l) w :=
  o_split hx (fun h => ht h (bt h hF)) (fun h => nomatch bf h hF)
theorem oE {ρ : Type} {x : Operand} {t : Bool} {B : Option ρ} {r : ρ} (hF : (bif t then none else B) = some r) (hf : t = false → B = some r → WL P ops Q rest (Ac (l.upd d (.bool false))) w) (hx : ev l x = .bool t := by (conv => lhs; whnf) <;> exact rfl) : WL P ops Q (⟨some d, .move x, ty, ps, af, none⟩ :: rest) (Ac l) w :=
  o_split hx (fun h => nomatch bt h hF) (fun h => hf h (bf h hF))
theorem qI {ρ : Type} {x : Operand} {t : Bool} {A B r : ρ} (hF : (bif t then A else B) = r) (ht : t = true → A = r → WQ P ops C K rest (Ac (l.upd d (.bool true)))) (hf : t = false → B = r → WQ P ops C K rest (Ac (l.upd d (.bool false)))) (hx : ev l x = .bool t := by (conv => lhs; whnf) <;> exact rfl) : WQ P ops C K (⟨some d, .move x, ty, ps, af, none⟩ :: rest) (Ac l) :=
  q_split hx (fun h => ht h (bt h hF)) (fun h => hf h (bf h hF))
theorem qT {ρ : Type} {x : Operand} {t : Bool} {A : Option ρ} {r : ρ} (hF : (bif t then A else none) = some r) (ht : t = true → A = some r → WQ P ops C K rest (Ac (l.upd d (.bool true)))) (hx : ev l x = .bool t := by (conv => lhs; whnf) <;> exact rfl) : WQ P ops C K (⟨some d, .move x, ty, ps, af, none⟩ :: rest) (Ac l) :=
  q_split hx (fun h => ht h (bt h hF)) (fun h => nomatch bf h hF)
theorem qE {ρ : Type} {x : Operand} {t : Bool} {B : Option ρ} {r : ρ} (hF : (bif t then none else B) = some r) (hf : t = false → B = some r → WQ P ops C K rest (Ac (l.upd d (.bool false)))) (hx : ev l x = .bool t := by (conv => lhs; whnf) <;> exact rfl) : WQ P ops C K (⟨some d, .move x, ty, ps, af, none⟩ :: rest) (Ac l) :=
  q_split hx (fun h => nomatch bt h hF) (fun h => hf h (bf h hF))
end
theorem mH1 {p q : Nat × Obj} {Y : Own} : p ∈ q :: p :: Y := mC mH
theorem mH2 {p q r : Nat × Obj} {Y : Own} : p ∈ q :: r :: p :: Y := mC mH1
theorem mH3 {p q r s : Nat × Obj} {Y : Own} : p ∈ q :: r :: s :: p :: Y := mC mH2
theorem mB2 {p : Nat × Obj} {X Y Z : Own} (h : p ∈ Z) : p ∈ X ++ (Y ++ Z) := mB (mB h)
theorem mB3 {p : Nat × Obj} {X Y Z V : Own} (h : p ∈ V) : p ∈ X ++ (Y ++ (Z ++ V)) := mB (mB2 h)
theorem mB5 {p : Nat × Obj} {X Y Z V X' Y' : Own} (h : p ∈ Y') : p ∈ X ++ (Y ++ (Z ++ (V ++ (X' ++ Y')))) := mB2 (mB3 h)
theorem mC2 {p a b : Nat × Obj} {Z : Own} (h : p ∈ Z) : p ∈ a :: b :: Z := mC (mC h)
theorem mC3 {p a b c : Nat × Obj} {Z : Own} (h : p ∈ Z) : p ∈ a :: b :: c :: Z := mC (mC2 h)
theorem Sp.d2 {L X L1 Y Z : Own} (h : Sp L X L1) : Sp (Y ++ (Z ++ L)) X (Y ++ (Z ++ L1)) := .d (.d h)
theorem Sp.d3 {L X L1 Y Z V : Own} (h : Sp L X L1) : Sp (Y ++ (Z ++ (V ++ L))) X (Y ++ (Z ++ (V ++ L1))) := .d (.d2 h)
theorem Sp.d5 {L X L1 Y Z V Y' Z' : Own} (h : Sp L X L1) : Sp (Y ++ (Z ++ (V ++ (Y' ++ (Z' ++ L))))) X (Y ++ (Z ++ (V ++ (Y' ++ (Z' ++ L1))))) := .d2 (.d3 h)
theorem Sp.e2 {L X L1 : Own} {a b : Nat × Obj} (h : Sp L X L1) : Sp (a :: b :: L) X (a :: b :: L1) := .e (.e h)
theorem Sp.e3 {L X L1 : Own} {a b c : Nat × Obj} (h : Sp L X L1) : Sp (a :: b :: c :: L) X (a :: b :: c :: L1) := .e (.e2 h)
theorem eqL {a b : Own} (h : a = b := by first | rfl | simp only [aa, ac, al, an]) : a = b := h
end Go.Proofs.YtgakgpbmcbegbaaGreatDoor.Fr
