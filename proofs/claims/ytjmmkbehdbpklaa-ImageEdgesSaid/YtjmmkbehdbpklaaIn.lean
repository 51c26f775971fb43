/- What comes in. Printed by lift.py. -/
import Derived.Test.YtjmmkbehdbpklaaProg
import Derived.Test.YtjmmkbehdbpklaaInN
import Derived.Test.YtjmmkbehdbpklaaTy
import Derived.KernelRfl
namespace Go.Proofs.Ytjmmkbehdbpklaa
open Go Go.RowKit Go.ChangeShapes Go.WideShapes Fr
set_option linter.unusedVariables false
set_option linter.unusedSimpArgs false
set_option maxRecDepth 20000
theorem list_of2 {α : Type} {l : List α} (h : l.length = 2) : ∃ c0 c1, l = [c0, c1] := by
  match l, h with
  | [c0, c1], _ => exact ⟨c0, c1, rfl⟩
theorem list_of3 {α : Type} {l : List α} (h : l.length = 3) : ∃ c0 c1 c2, l = [c0, c1, c2] := by
  match l, h with
  | [c0, c1, c2], _ => exact ⟨c0, c1, c2, rfl⟩
theorem list_of4 {α : Type} {l : List α} (h : l.length = 4) : ∃ c0 c1 c2 c3, l = [c0, c1, c2, c3] := by
  match l, h with
  | [c0, c1, c2, c3], _ => exact ⟨c0, c1, c2, c3, rfl⟩
theorem list_of6 {α : Type} {l : List α} (h : l.length = 6) : ∃ c0 c1 c2 c3 c4 c5, l = [c0, c1, c2, c3, c4, c5] := by
  match l, h with
  | [c0, c1, c2, c3, c4, c5], _ => exact ⟨c0, c1, c2, c3, c4, c5, rfl⟩
theorem list_of7 {α : Type} {l : List α} (h : l.length = 7) : ∃ c0 c1 c2 c3 c4 c5 c6, l = [c0, c1, c2, c3, c4, c5, c6] := by
  match l, h with
  | [c0, c1, c2, c3, c4, c5, c6], _ => exact ⟨c0, c1, c2, c3, c4, c5, c6, rfl⟩
theorem list_of24 {α : Type} {l : List α} (h : l.length = 24) : ∃ c0 c1 c2 c3 c4 c5 c6 c7 c8 c9 c10 c11 c12 c13 c14 c15 c16 c17 c18 c19 c20 c21 c22 c23, l = [c0, c1, c2, c3, c4, c5, c6, c7, c8, c9, c10, c11, c12, c13, c14, c15, c16, c17, c18, c19, c20, c21, c22, c23] := by
  match l, h with
  | [c0, c1, c2, c3, c4, c5, c6, c7, c8, c9, c10, c11, c12, c13, c14, c15, c16, c17, c18, c19, c20, c21, c22, c23], _ => exact ⟨c0, c1, c2, c3, c4, c5, c6, c7, c8, c9, c10, c11, c12, c13, c14, c15, c16, c17, c18, c19, c20, c21, c22, c23, rfl⟩
structure Wf_Ins (x : T_Ins) : Prop where
  h0 : -9223372036854775808 ≤ x.Op ∧ x.Op ≤ 9223372036854775807
  h1 : -9223372036854775808 ≤ x.D ∧ x.D ≤ 9223372036854775807
  h2 : -9223372036854775808 ≤ x.A ∧ x.A ≤ 9223372036854775807
  h3 : -9223372036854775808 ≤ x.B ∧ x.B ≤ 9223372036854775807
  h4 : -9223372036854775808 ≤ x.Imm ∧ x.Imm ≤ 9223372036854775807
  h5 : x.Sym.size ≤ 140737488351232
theorem in_Ins {H : Type} {enc : TypeId × Value → H} {W : World} {held : Bool} {n : Nat} {cs : List Value} {y : (DataW H × List MemPlace)} (h : DataW.trod enc Try.prog W 0 (fun _ => true) held n 78 cs = some y) (hw : (y.1.weights Try.prog 78).all (· ≤ reachBytes) = true) : ∃ x : T_Ins, cs = enc_Ins x ∧ Wf_Ins x := by
  obtain ⟨xs, m, _, rfl, hl, hlen, hf⟩ := DataW.trod_struct Try.underlying78 h
  rw [show (Try.prog).cellsOf 78 = 6 from by kernel_rfl] at hl
  obtain ⟨c0, c1, c2, c3, c4, c5, rfl⟩ := list_of6 hl
  obtain ⟨y0, y1, y2, y3, y4, y5, rfl⟩ := list_of6 hlen
  have hw2 := weights_agg Try.underlying78 hw
  have e0 : DataW.trod enc Try.prog W 0 (fun _ => true) held m 3 [c0] = some y0 := by have q := hf 0 _ rfl; rw [show (Try.prog).cellsOf _ = 1 from by kernel_rfl] at q; exact q
  have w0 : (y0.1.weights Try.prog 3).all (· ≤ reachBytes) = true := hw2 0 _ _ rfl rfl
  obtain ⟨z0, hz0, _, q0⟩ := DataW.trod_int Try.underlying3 e0
  obtain rfl := List.cons.inj hz0 |>.1
  have e1 : DataW.trod enc Try.prog W 0 (fun _ => true) held m 3 [c1] = some y1 := by have q := hf 1 _ rfl; rw [show (Try.prog).cellsOf _ = 1 from by kernel_rfl] at q; exact q
  have w1 : (y1.1.weights Try.prog 3).all (· ≤ reachBytes) = true := hw2 1 _ _ rfl rfl
  obtain ⟨z1, hz1, _, q1⟩ := DataW.trod_int Try.underlying3 e1
  obtain rfl := List.cons.inj hz1 |>.1
  have e2 : DataW.trod enc Try.prog W 0 (fun _ => true) held m 3 [c2] = some y2 := by have q := hf 2 _ rfl; rw [show (Try.prog).cellsOf _ = 1 from by kernel_rfl] at q; exact q
  have w2 : (y2.1.weights Try.prog 3).all (· ≤ reachBytes) = true := hw2 2 _ _ rfl rfl
  obtain ⟨z2, hz2, _, q2⟩ := DataW.trod_int Try.underlying3 e2
  obtain rfl := List.cons.inj hz2 |>.1
  have e3 : DataW.trod enc Try.prog W 0 (fun _ => true) held m 3 [c3] = some y3 := by have q := hf 3 _ rfl; rw [show (Try.prog).cellsOf _ = 1 from by kernel_rfl] at q; exact q
  have w3 : (y3.1.weights Try.prog 3).all (· ≤ reachBytes) = true := hw2 3 _ _ rfl rfl
  obtain ⟨z3, hz3, _, q3⟩ := DataW.trod_int Try.underlying3 e3
  obtain rfl := List.cons.inj hz3 |>.1
  have e4 : DataW.trod enc Try.prog W 0 (fun _ => true) held m 3 [c4] = some y4 := by have q := hf 4 _ rfl; rw [show (Try.prog).cellsOf _ = 1 from by kernel_rfl] at q; exact q
  have w4 : (y4.1.weights Try.prog 3).all (· ≤ reachBytes) = true := hw2 4 _ _ rfl rfl
  obtain ⟨z4, hz4, _, q4⟩ := DataW.trod_int Try.underlying3 e4
  obtain rfl := List.cons.inj hz4 |>.1
  have e5 : DataW.trod enc Try.prog W 0 (fun _ => true) held m 9 [c5] = some y5 := by have q := hf 5 _ rfl; rw [show (Try.prog).cellsOf _ = 1 from by kernel_rfl] at q; exact q
  have w5 : (y5.1.weights Try.prog 9).all (· ≤ reachBytes) = true := hw2 5 _ _ rfl rfl
  obtain ⟨z5, hz5, hy5, _⟩ := DataW.trod_string Try.underlying9 e5
  obtain rfl := List.cons.inj hz5 |>.1
  exact ⟨⟨z0, z1, z2, z3, z4, z5⟩, rfl, ⟨wf_i64 q0, wf_i64 q1, wf_i64 q2, wf_i64 q3, wf_i64 q4, str_reach hy5 w5⟩⟩
structure Wf_Item (x : T_Item) : Prop where
  h0 : x.Label.size ≤ 140737488351232
  h1 : Wf_Ins x.Ins
theorem in_Item {H : Type} {enc : TypeId × Value → H} {W : World} {held : Bool} {n : Nat} {cs : List Value} {y : (DataW H × List MemPlace)} (h : DataW.trod enc Try.prog W 0 (fun _ => true) held n 155 cs = some y) (hw : (y.1.weights Try.prog 155).all (· ≤ reachBytes) = true) : ∃ x : T_Item, cs = enc_Item x ∧ Wf_Item x := by
  obtain ⟨xs, m, _, rfl, hl, hlen, hf⟩ := DataW.trod_struct Try.underlying155 h
  rw [show (Try.prog).cellsOf 155 = 7 from by kernel_rfl] at hl
  obtain ⟨c0, c1, c2, c3, c4, c5, c6, rfl⟩ := list_of7 hl
  obtain ⟨y0, y1, rfl⟩ := list_of2 hlen
  have hw2 := weights_agg Try.underlying155 hw
  have e0 : DataW.trod enc Try.prog W 0 (fun _ => true) held m 9 [c0] = some y0 := by have q := hf 0 _ rfl; rw [show (Try.prog).cellsOf _ = 1 from by kernel_rfl] at q; exact q
  have w0 : (y0.1.weights Try.prog 9).all (· ≤ reachBytes) = true := hw2 0 _ _ rfl rfl
  obtain ⟨z0, hz0, hy0, _⟩ := DataW.trod_string Try.underlying9 e0
  obtain rfl := List.cons.inj hz0 |>.1
  have e1 : DataW.trod enc Try.prog W 0 (fun _ => true) held m 78 [c1, c2, c3, c4, c5, c6] = some y1 := by have q := hf 1 _ rfl; rw [show (Try.prog).cellsOf _ = 6 from by kernel_rfl] at q; exact q
  have w1 : (y1.1.weights Try.prog 78).all (· ≤ reachBytes) = true := hw2 1 _ _ rfl rfl
  obtain ⟨z1, hz1, g1⟩ := in_Ins e1 w1
  simp only [List.cons.injEq, and_true] at hz1
  obtain ⟨rfl, rfl, rfl, rfl, rfl, rfl⟩ := hz1
  exact ⟨⟨z0, z1⟩, rfl, ⟨str_reach hy0 w0, g1⟩⟩
structure Wf_Value (x : T_Value) : Prop where
  h0 : x.Sym.size ≤ 140737488351232
  h1 : -9223372036854775808 ≤ x.N ∧ x.N ≤ 9223372036854775807
theorem in_Value {H : Type} {enc : TypeId × Value → H} {W : World} {held : Bool} {n : Nat} {cs : List Value} {y : (DataW H × List MemPlace)} (h : DataW.trod enc Try.prog W 0 (fun _ => true) held n 157 cs = some y) (hw : (y.1.weights Try.prog 157).all (· ≤ reachBytes) = true) : ∃ x : T_Value, cs = enc_Value x ∧ Wf_Value x := by
  obtain ⟨xs, m, _, rfl, hl, hlen, hf⟩ := DataW.trod_struct Try.underlying157 h
  rw [show (Try.prog).cellsOf 157 = 2 from by kernel_rfl] at hl
  obtain ⟨c0, c1, rfl⟩ := list_of2 hl
  obtain ⟨y0, y1, rfl⟩ := list_of2 hlen
  have hw2 := weights_agg Try.underlying157 hw
  have e0 : DataW.trod enc Try.prog W 0 (fun _ => true) held m 9 [c0] = some y0 := by have q := hf 0 _ rfl; rw [show (Try.prog).cellsOf _ = 1 from by kernel_rfl] at q; exact q
  have w0 : (y0.1.weights Try.prog 9).all (· ≤ reachBytes) = true := hw2 0 _ _ rfl rfl
  obtain ⟨z0, hz0, hy0, _⟩ := DataW.trod_string Try.underlying9 e0
  obtain rfl := List.cons.inj hz0 |>.1
  have e1 : DataW.trod enc Try.prog W 0 (fun _ => true) held m 3 [c1] = some y1 := by have q := hf 1 _ rfl; rw [show (Try.prog).cellsOf _ = 1 from by kernel_rfl] at q; exact q
  have w1 : (y1.1.weights Try.prog 3).all (· ≤ reachBytes) = true := hw2 1 _ _ rfl rfl
  obtain ⟨z1, hz1, _, q1⟩ := DataW.trod_int Try.underlying3 e1
  obtain rfl := List.cons.inj hz1 |>.1
  exact ⟨⟨z0, z1⟩, rfl, ⟨str_reach hy0 w0, wf_i64 q1⟩⟩
structure Wf_Symbol (x : T_Symbol) : Prop where
  h0 : x.Name.size ≤ 140737488351232
  h1 : -9223372036854775808 ≤ x.Place ∧ x.Place ≤ 9223372036854775807
theorem in_Symbol {H : Type} {enc : TypeId × Value → H} {W : World} {held : Bool} {n : Nat} {cs : List Value} {y : (DataW H × List MemPlace)} (h : DataW.trod enc Try.prog W 0 (fun _ => true) held n 159 cs = some y) (hw : (y.1.weights Try.prog 159).all (· ≤ reachBytes) = true) : ∃ x : T_Symbol, cs = enc_Symbol x ∧ Wf_Symbol x := by
  obtain ⟨xs, m, _, rfl, hl, hlen, hf⟩ := DataW.trod_struct Try.underlying159 h
  rw [show (Try.prog).cellsOf 159 = 4 from by kernel_rfl] at hl
  obtain ⟨c0, c1, c2, c3, rfl⟩ := list_of4 hl
  obtain ⟨y0, y1, y2, y3, rfl⟩ := list_of4 hlen
  have hw2 := weights_agg Try.underlying159 hw
  have e0 : DataW.trod enc Try.prog W 0 (fun _ => true) held m 9 [c0] = some y0 := by have q := hf 0 _ rfl; rw [show (Try.prog).cellsOf _ = 1 from by kernel_rfl] at q; exact q
  have w0 : (y0.1.weights Try.prog 9).all (· ≤ reachBytes) = true := hw2 0 _ _ rfl rfl
  obtain ⟨z0, hz0, hy0, _⟩ := DataW.trod_string Try.underlying9 e0
  obtain rfl := List.cons.inj hz0 |>.1
  have e1 : DataW.trod enc Try.prog W 0 (fun _ => true) held m 4 [c1] = some y1 := by have q := hf 1 _ rfl; rw [show (Try.prog).cellsOf _ = 1 from by kernel_rfl] at q; exact q
  have w1 : (y1.1.weights Try.prog 4).all (· ≤ reachBytes) = true := hw2 1 _ _ rfl rfl
  obtain ⟨z1, hz1, _⟩ := DataW.trod_bool Try.underlying4 e1
  obtain rfl := List.cons.inj hz1 |>.1
  have e2 : DataW.trod enc Try.prog W 0 (fun _ => true) held m 3 [c2] = some y2 := by have q := hf 2 _ rfl; rw [show (Try.prog).cellsOf _ = 1 from by kernel_rfl] at q; exact q
  have w2 : (y2.1.weights Try.prog 3).all (· ≤ reachBytes) = true := hw2 2 _ _ rfl rfl
  obtain ⟨z2, hz2, _, q2⟩ := DataW.trod_int Try.underlying3 e2
  obtain rfl := List.cons.inj hz2 |>.1
  have e3 : DataW.trod enc Try.prog W 0 (fun _ => true) held m 4 [c3] = some y3 := by have q := hf 3 _ rfl; rw [show (Try.prog).cellsOf _ = 1 from by kernel_rfl] at q; exact q
  have w3 : (y3.1.weights Try.prog 4).all (· ≤ reachBytes) = true := hw2 3 _ _ rfl rfl
  obtain ⟨z3, hz3, _⟩ := DataW.trod_bool Try.underlying4 e3
  obtain rfl := List.cons.inj hz3 |>.1
  exact ⟨⟨z0, z1, z2, z3⟩, rfl, ⟨str_reach hy0 w0, wf_i64 q2⟩⟩
structure Wf_Unit (x : T_Unit) : Prop where
  h0 : x.Code.length * 72 ≤ 140737488351232
  h1 : ∀ z ∈ x.Code, Wf_Item z
  h2 : x.Data.length * 24 ≤ 140737488351232
  h3 : ∀ z ∈ x.Data, Wf_Value z
  h4 : x.Labels.length * 40 ≤ 140737488351232
  h5 : ∀ z ∈ x.Labels, Wf_Symbol z
  h6 : x.Globals.length * 16 ≤ 140737488351232
  h7 : ∀ z ∈ x.Globals, z.size ≤ 140737488351232
theorem in_Unit {H : Type} {enc : TypeId × Value → H} {W : World} {held : Bool} {n : Nat} {cs : List Value} {y : (DataW H × List MemPlace)} (h : DataW.trod enc Try.prog W 0 (fun _ => true) held n 147 cs = some y) (hw : (y.1.weights Try.prog 147).all (· ≤ reachBytes) = true) : ∃ x : T_Unit, Wf_Unit x ∧ ∃ (v0 v1 v2 v3 : Value), cs = [v0, v1, v2, v3] ∧ SlT (all W) enc_Item 7 x.Code v0 ∧ SlT (all W) enc_Value 2 x.Data v1 ∧ SlT (all W) enc_Symbol 4 x.Labels v2 ∧ SlT (all W) enc_string 1 x.Globals v3 := by
  obtain ⟨xs, m, _, rfl, hl, hlen, hf⟩ := DataW.trod_struct Try.underlying147 h
  rw [show (Try.prog).cellsOf 147 = 4 from by kernel_rfl] at hl
  obtain ⟨c0, c1, c2, c3, rfl⟩ := list_of4 hl
  obtain ⟨y0, y1, y2, y3, rfl⟩ := list_of4 hlen
  have hw2 := weights_agg Try.underlying147 hw
  have e0 : DataW.trod enc Try.prog W 0 (fun _ => true) held m 143 [c0] = some y0 := by have q := hf 0 _ rfl; rw [show (Try.prog).cellsOf _ = 1 from by kernel_rfl] at q; exact q
  have w0 : (y0.1.weights Try.prog 143).all (· ≤ reachBytes) = true := hw2 0 _ _ rfl rfl
  obtain ⟨z0, s0, b0, g0⟩ := slice_in (α := T_Item) (encα := enc_Item) (sz := 7) (Wf := fun z => Wf_Item z) Try.underlying143 (by kernel_rfl) (by decide) enc_len_Item (fun n cs y h hw => in_Item h hw) e0 w0
  have e1 : DataW.trod enc Try.prog W 0 (fun _ => true) held m 144 [c1] = some y1 := by have q := hf 1 _ rfl; rw [show (Try.prog).cellsOf _ = 1 from by kernel_rfl] at q; exact q
  have w1 : (y1.1.weights Try.prog 144).all (· ≤ reachBytes) = true := hw2 1 _ _ rfl rfl
  obtain ⟨z1, s1, b1, g1⟩ := slice_in (α := T_Value) (encα := enc_Value) (sz := 2) (Wf := fun z => Wf_Value z) Try.underlying144 (by kernel_rfl) (by decide) enc_len_Value (fun n cs y h hw => in_Value h hw) e1 w1
  have e2 : DataW.trod enc Try.prog W 0 (fun _ => true) held m 145 [c2] = some y2 := by have q := hf 2 _ rfl; rw [show (Try.prog).cellsOf _ = 1 from by kernel_rfl] at q; exact q
  have w2 : (y2.1.weights Try.prog 145).all (· ≤ reachBytes) = true := hw2 2 _ _ rfl rfl
  obtain ⟨z2, s2, b2, g2⟩ := slice_in (α := T_Symbol) (encα := enc_Symbol) (sz := 4) (Wf := fun z => Wf_Symbol z) Try.underlying145 (by kernel_rfl) (by decide) enc_len_Symbol (fun n cs y h hw => in_Symbol h hw) e2 w2
  have e3 : DataW.trod enc Try.prog W 0 (fun _ => true) held m 22 [c3] = some y3 := by have q := hf 3 _ rfl; rw [show (Try.prog).cellsOf _ = 1 from by kernel_rfl] at q; exact q
  have w3 : (y3.1.weights Try.prog 22).all (· ≤ reachBytes) = true := hw2 3 _ _ rfl rfl
  obtain ⟨z3, s3, b3, g3⟩ := slice_in (α := ByteArray) (encα := enc_string) (sz := 1) (Wf := fun z => z.size ≤ 140737488351232) Try.underlying22 (by kernel_rfl) (by decide) enc_len_string (fun n cs y h hw => by obtain ⟨z, hz, hy, _⟩ := DataW.trod_string Try.underlying9 h; exact ⟨z, hz, str_reach hy hw⟩) e3 w3
  exact ⟨⟨z0, z1, z2, z3⟩, ⟨by have := b0; rw [show (Try.prog).bytesOf _ = 72 from by kernel_rfl] at this; exact this, g0, by have := b1; rw [show (Try.prog).bytesOf _ = 24 from by kernel_rfl] at this; exact this, g1, by have := b2; rw [show (Try.prog).bytesOf _ = 40 from by kernel_rfl] at this; exact this, g2, by have := b3; rw [show (Try.prog).bytesOf _ = 16 from by kernel_rfl] at this; exact this, g3⟩, _, _, _, _, rfl, s0, s1, s2, s3⟩
structure Wf_Ask (x : T_Ask) : Prop where
  h0 : x.S.length * 16 ≤ 140737488351232
  h1 : ∀ z ∈ x.S, z.size ≤ 140737488351232
  h2 : x.U.length * 96 ≤ 140737488351232
  h3 : ∀ z ∈ x.U, Wf_Unit z
theorem in_Ask {H : Type} {enc : TypeId × Value → H} {W : World} {held : Bool} {n : Nat} {cs : List Value} {y : (DataW H × List MemPlace)} (h : DataW.trod enc Try.prog W 0 (fun _ => true) held n 25 cs = some y) (hw : (y.1.weights Try.prog 25).all (· ≤ reachBytes) = true) : ∃ x : T_Ask, Wf_Ask x ∧ ∃ (v0 v1 : Value), cs = [v0, v1] ∧ SlT (all W) enc_string 1 x.S v0 ∧ SlN (all W) Rc_Unit 4 x.U v1 := by
  obtain ⟨xs, m, _, rfl, hl, hlen, hf⟩ := DataW.trod_struct Try.underlying25 h
  rw [show (Try.prog).cellsOf 25 = 2 from by kernel_rfl] at hl
  obtain ⟨c0, c1, rfl⟩ := list_of2 hl
  obtain ⟨y0, y1, rfl⟩ := list_of2 hlen
  have hw2 := weights_agg Try.underlying25 hw
  have e0 : DataW.trod enc Try.prog W 0 (fun _ => true) held m 22 [c0] = some y0 := by have q := hf 0 _ rfl; rw [show (Try.prog).cellsOf _ = 1 from by kernel_rfl] at q; exact q
  have w0 : (y0.1.weights Try.prog 22).all (· ≤ reachBytes) = true := hw2 0 _ _ rfl rfl
  obtain ⟨z0, s0, b0, g0⟩ := slice_in (α := ByteArray) (encα := enc_string) (sz := 1) (Wf := fun z => z.size ≤ 140737488351232) Try.underlying22 (by kernel_rfl) (by decide) enc_len_string (fun n cs y h hw => by obtain ⟨z, hz, hy, _⟩ := DataW.trod_string Try.underlying9 h; exact ⟨z, hz, str_reach hy hw⟩) e0 w0
  have e1 : DataW.trod enc Try.prog W 0 (fun _ => true) held m 23 [c1] = some y1 := by have q := hf 1 _ rfl; rw [show (Try.prog).cellsOf _ = 1 from by kernel_rfl] at q; exact q
  have w1 : (y1.1.weights Try.prog 23).all (· ≤ reachBytes) = true := hw2 1 _ _ rfl rfl
  obtain ⟨z1, s1, b1, g1⟩ := slice_inN (α := T_Unit) (R := Rc_Unit) (sz := 4) (Wf := fun z => Wf_Unit z) Try.underlying23 (by kernel_rfl) (by decide) (fun n cs y h hw => by obtain ⟨x, g, v0, v1, v2, v3, hz, q0, q1, q2, q3⟩ := in_Unit h hw; subst hz; exact ⟨x, ⟨v0, v1, v2, v3, rfl, q0, q1, q2, q3⟩, g, rfl, one_Unit q0.one q1.one q2.one q3.one⟩) e1 w1
  exact ⟨⟨z0, z1⟩, ⟨by have := b0; rw [show (Try.prog).bytesOf _ = 16 from by kernel_rfl] at this; exact this, g0, by have := b1; rw [show (Try.prog).bytesOf _ = 96 from by kernel_rfl] at this; exact this, g1⟩, _, _, rfl, s0, s1⟩
structure Wf_Bundle (x : (A4 T_Ins)) : Prop where
  h0 : Wf_Ins x.x0
  h1 : Wf_Ins x.x1
  h2 : Wf_Ins x.x2
  h3 : Wf_Ins x.x3
theorem in_Bundle {H : Type} {enc : TypeId × Value → H} {W : World} {held : Bool} {n : Nat} {cs : List Value} {y : (DataW H × List MemPlace)} (h : DataW.trod enc Try.prog W 0 (fun _ => true) held n 80 cs = some y) (hw : (y.1.weights Try.prog 80).all (· ≤ reachBytes) = true) : ∃ x : (A4 T_Ins), cs = enc_Bundle x ∧ Wf_Bundle x := by
  obtain ⟨xs, m, _, rfl, hl, hlen, hf⟩ := DataW.trod_array Try.underlying80 h
  rw [show (Try.prog).cellsOf 80 = 24 from by kernel_rfl] at hl
  obtain ⟨c0, c1, c2, c3, c4, c5, c6, c7, c8, c9, c10, c11, c12, c13, c14, c15, c16, c17, c18, c19, c20, c21, c22, c23, rfl⟩ := list_of24 hl
  obtain ⟨y0, y1, y2, y3, rfl⟩ := list_of4 hlen
  have e0 : DataW.trod enc Try.prog W 0 (fun _ => true) held m 78 [c0, c1, c2, c3, c4, c5] = some y0 := by have q := hf 0 (by decide); rw [show (Try.prog).cellsOf _ = 6 from by kernel_rfl] at q; exact q
  have w0 : (y0.1.weights Try.prog 78).all (· ≤ reachBytes) = true := weights_arr Try.underlying80 hw y0.1 (by simp)
  obtain ⟨z0, hz0, g0⟩ := in_Ins e0 w0
  simp only [List.cons.injEq, and_true] at hz0
  obtain ⟨rfl, rfl, rfl, rfl, rfl, rfl⟩ := hz0
  have e1 : DataW.trod enc Try.prog W 0 (fun _ => true) held m 78 [c6, c7, c8, c9, c10, c11] = some y1 := by have q := hf 1 (by decide); rw [show (Try.prog).cellsOf _ = 6 from by kernel_rfl] at q; exact q
  have w1 : (y1.1.weights Try.prog 78).all (· ≤ reachBytes) = true := weights_arr Try.underlying80 hw y1.1 (by simp)
  obtain ⟨z1, hz1, g1⟩ := in_Ins e1 w1
  simp only [List.cons.injEq, and_true] at hz1
  obtain ⟨rfl, rfl, rfl, rfl, rfl, rfl⟩ := hz1
  have e2 : DataW.trod enc Try.prog W 0 (fun _ => true) held m 78 [c12, c13, c14, c15, c16, c17] = some y2 := by have q := hf 2 (by decide); rw [show (Try.prog).cellsOf _ = 6 from by kernel_rfl] at q; exact q
  have w2 : (y2.1.weights Try.prog 78).all (· ≤ reachBytes) = true := weights_arr Try.underlying80 hw y2.1 (by simp)
  obtain ⟨z2, hz2, g2⟩ := in_Ins e2 w2
  simp only [List.cons.injEq, and_true] at hz2
  obtain ⟨rfl, rfl, rfl, rfl, rfl, rfl⟩ := hz2
  have e3 : DataW.trod enc Try.prog W 0 (fun _ => true) held m 78 [c18, c19, c20, c21, c22, c23] = some y3 := by have q := hf 3 (by decide); rw [show (Try.prog).cellsOf _ = 6 from by kernel_rfl] at q; exact q
  have w3 : (y3.1.weights Try.prog 78).all (· ≤ reachBytes) = true := weights_arr Try.underlying80 hw y3.1 (by simp)
  obtain ⟨z3, hz3, g3⟩ := in_Ins e3 w3
  simp only [List.cons.injEq, and_true] at hz3
  obtain ⟨rfl, rfl, rfl, rfl, rfl, rfl⟩ := hz3
  exact ⟨⟨z0, z1, z2, z3⟩, rfl, ⟨g0, g1, g2, g3⟩⟩
structure Wf_Fix (x : T_Fix) : Prop where
  h0 : -9223372036854775808 ≤ x.Place ∧ x.Place ≤ 9223372036854775807
  h1 : -9223372036854775808 ≤ x.Slot ∧ x.Slot ≤ 9223372036854775807
  h2 : x.Sym.size ≤ 140737488351232
theorem in_Fix {H : Type} {enc : TypeId × Value → H} {W : World} {held : Bool} {n : Nat} {cs : List Value} {y : (DataW H × List MemPlace)} (h : DataW.trod enc Try.prog W 0 (fun _ => true) held n 161 cs = some y) (hw : (y.1.weights Try.prog 161).all (· ≤ reachBytes) = true) : ∃ x : T_Fix, cs = enc_Fix x ∧ Wf_Fix x := by
  obtain ⟨xs, m, _, rfl, hl, hlen, hf⟩ := DataW.trod_struct Try.underlying161 h
  rw [show (Try.prog).cellsOf 161 = 3 from by kernel_rfl] at hl
  obtain ⟨c0, c1, c2, rfl⟩ := list_of3 hl
  obtain ⟨y0, y1, y2, rfl⟩ := list_of3 hlen
  have hw2 := weights_agg Try.underlying161 hw
  have e0 : DataW.trod enc Try.prog W 0 (fun _ => true) held m 3 [c0] = some y0 := by have q := hf 0 _ rfl; rw [show (Try.prog).cellsOf _ = 1 from by kernel_rfl] at q; exact q
  have w0 : (y0.1.weights Try.prog 3).all (· ≤ reachBytes) = true := hw2 0 _ _ rfl rfl
  obtain ⟨z0, hz0, _, q0⟩ := DataW.trod_int Try.underlying3 e0
  obtain rfl := List.cons.inj hz0 |>.1
  have e1 : DataW.trod enc Try.prog W 0 (fun _ => true) held m 3 [c1] = some y1 := by have q := hf 1 _ rfl; rw [show (Try.prog).cellsOf _ = 1 from by kernel_rfl] at q; exact q
  have w1 : (y1.1.weights Try.prog 3).all (· ≤ reachBytes) = true := hw2 1 _ _ rfl rfl
  obtain ⟨z1, hz1, _, q1⟩ := DataW.trod_int Try.underlying3 e1
  obtain rfl := List.cons.inj hz1 |>.1
  have e2 : DataW.trod enc Try.prog W 0 (fun _ => true) held m 9 [c2] = some y2 := by have q := hf 2 _ rfl; rw [show (Try.prog).cellsOf _ = 1 from by kernel_rfl] at q; exact q
  have w2 : (y2.1.weights Try.prog 9).all (· ≤ reachBytes) = true := hw2 2 _ _ rfl rfl
  obtain ⟨z2, hz2, hy2, _⟩ := DataW.trod_string Try.underlying9 e2
  obtain rfl := List.cons.inj hz2 |>.1
  exact ⟨⟨z0, z1, z2⟩, rfl, ⟨wf_i64 q0, wf_i64 q1, str_reach hy2 w2⟩⟩
structure Wf_Object (x : T_Object) : Prop where
  h0 : x.Code.length * 224 ≤ 140737488351232
  h1 : ∀ z ∈ x.Code, Wf_Bundle z
  h2 : x.Data.length * 4 ≤ 140737488351232
  h3 : ∀ z ∈ x.Data, 0 ≤ z ∧ z ≤ 4294967295
  h4 : x.Symbols.length * 40 ≤ 140737488351232
  h5 : ∀ z ∈ x.Symbols, Wf_Symbol z
  h6 : x.Fixes.length * 32 ≤ 140737488351232
  h7 : ∀ z ∈ x.Fixes, Wf_Fix z
theorem in_Object {H : Type} {enc : TypeId × Value → H} {W : World} {held : Bool} {n : Nat} {cs : List Value} {y : (DataW H × List MemPlace)} (h : DataW.trod enc Try.prog W 0 (fun _ => true) held n 150 cs = some y) (hw : (y.1.weights Try.prog 150).all (· ≤ reachBytes) = true) : ∃ x : T_Object, Wf_Object x ∧ ∃ (v0 v1 v2 v3 : Value), cs = [v0, v1, v2, v3] ∧ SlT (all W) enc_Bundle 24 x.Code v0 ∧ SlT (all W) enc_uint32 1 x.Data v1 ∧ SlT (all W) enc_Symbol 4 x.Symbols v2 ∧ SlT (all W) enc_Fix 3 x.Fixes v3 := by
  obtain ⟨xs, m, _, rfl, hl, hlen, hf⟩ := DataW.trod_struct Try.underlying150 h
  rw [show (Try.prog).cellsOf 150 = 4 from by kernel_rfl] at hl
  obtain ⟨c0, c1, c2, c3, rfl⟩ := list_of4 hl
  obtain ⟨y0, y1, y2, y3, rfl⟩ := list_of4 hlen
  have hw2 := weights_agg Try.underlying150 hw
  have e0 : DataW.trod enc Try.prog W 0 (fun _ => true) held m 34 [c0] = some y0 := by have q := hf 0 _ rfl; rw [show (Try.prog).cellsOf _ = 1 from by kernel_rfl] at q; exact q
  have w0 : (y0.1.weights Try.prog 34).all (· ≤ reachBytes) = true := hw2 0 _ _ rfl rfl
  obtain ⟨z0, s0, b0, g0⟩ := slice_in (α := (A4 T_Ins)) (encα := enc_Bundle) (sz := 24) (Wf := fun z => Wf_Bundle z) Try.underlying34 (by kernel_rfl) (by decide) enc_len_Bundle (fun n cs y h hw => in_Bundle h hw) e0 w0
  have e1 : DataW.trod enc Try.prog W 0 (fun _ => true) held m 31 [c1] = some y1 := by have q := hf 1 _ rfl; rw [show (Try.prog).cellsOf _ = 1 from by kernel_rfl] at q; exact q
  have w1 : (y1.1.weights Try.prog 31).all (· ≤ reachBytes) = true := hw2 1 _ _ rfl rfl
  obtain ⟨z1, s1, b1, g1⟩ := slice_in (α := Int) (encα := enc_uint32) (sz := 1) (Wf := fun z => 0 ≤ z ∧ z ≤ 4294967295) Try.underlying31 (by kernel_rfl) (by decide) enc_len_uint32 (fun n cs y h _ => by obtain ⟨z, hz, _, q⟩ := DataW.trod_int Try.underlying38 h; exact ⟨z, hz, wf_u32 q⟩) e1 w1
  have e2 : DataW.trod enc Try.prog W 0 (fun _ => true) held m 145 [c2] = some y2 := by have q := hf 2 _ rfl; rw [show (Try.prog).cellsOf _ = 1 from by kernel_rfl] at q; exact q
  have w2 : (y2.1.weights Try.prog 145).all (· ≤ reachBytes) = true := hw2 2 _ _ rfl rfl
  obtain ⟨z2, s2, b2, g2⟩ := slice_in (α := T_Symbol) (encα := enc_Symbol) (sz := 4) (Wf := fun z => Wf_Symbol z) Try.underlying145 (by kernel_rfl) (by decide) enc_len_Symbol (fun n cs y h hw => in_Symbol h hw) e2 w2
  have e3 : DataW.trod enc Try.prog W 0 (fun _ => true) held m 148 [c3] = some y3 := by have q := hf 3 _ rfl; rw [show (Try.prog).cellsOf _ = 1 from by kernel_rfl] at q; exact q
  have w3 : (y3.1.weights Try.prog 148).all (· ≤ reachBytes) = true := hw2 3 _ _ rfl rfl
  obtain ⟨z3, s3, b3, g3⟩ := slice_in (α := T_Fix) (encα := enc_Fix) (sz := 3) (Wf := fun z => Wf_Fix z) Try.underlying148 (by kernel_rfl) (by decide) enc_len_Fix (fun n cs y h hw => in_Fix h hw) e3 w3
  exact ⟨⟨z0, z1, z2, z3⟩, ⟨by have := b0; rw [show (Try.prog).bytesOf _ = 224 from by kernel_rfl] at this; exact this, g0, by have := b1; rw [show (Try.prog).bytesOf _ = 4 from by kernel_rfl] at this; exact this, g1, by have := b2; rw [show (Try.prog).bytesOf _ = 40 from by kernel_rfl] at this; exact this, g2, by have := b3; rw [show (Try.prog).bytesOf _ = 32 from by kernel_rfl] at this; exact this, g3⟩, _, _, _, _, rfl, s0, s1, s2, s3⟩
structure Wf_Ask16 (x : T_Ask16) : Prop where
  h0 : Wf_Ask x.U
  h1 : x.O.length * 96 ≤ 140737488351232
  h2 : ∀ z ∈ x.O, Wf_Object z
theorem in_Ask16 {H : Type} {enc : TypeId × Value → H} {W : World} {held : Bool} {n : Nat} {cs : List Value} {y : (DataW H × List MemPlace)} (h : DataW.trod enc Try.prog W 0 (fun _ => true) held n 28 cs = some y) (hw : (y.1.weights Try.prog 28).all (· ≤ reachBytes) = true) : ∃ x : T_Ask16, Wf_Ask16 x ∧ ∃ (v0 v1 v2 : Value), cs = [v0, v1, v2] ∧ SlT (all W) enc_string 1 x.U.S v0 ∧ SlN (all W) Rc_Unit 4 x.U.U v1 ∧ SlN (all W) Rc_Object 4 x.O v2 := by
  obtain ⟨xs, m, _, rfl, hl, hlen, hf⟩ := DataW.trod_struct Try.underlying28 h
  rw [show (Try.prog).cellsOf 28 = 3 from by kernel_rfl] at hl
  obtain ⟨c0, c1, c2, rfl⟩ := list_of3 hl
  obtain ⟨y0, y1, rfl⟩ := list_of2 hlen
  have hw2 := weights_agg Try.underlying28 hw
  have e0 : DataW.trod enc Try.prog W 0 (fun _ => true) held m 25 [c0, c1] = some y0 := by have q := hf 0 _ rfl; rw [show (Try.prog).cellsOf _ = 2 from by kernel_rfl] at q; exact q
  have w0 : (y0.1.weights Try.prog 25).all (· ≤ reachBytes) = true := hw2 0 _ _ rfl rfl
  obtain ⟨z0, g0, u0_0, u0_1, hz0, s0_0, s0_1⟩ := in_Ask e0 w0
  simp only [List.cons.injEq, and_true] at hz0
  obtain ⟨rfl, rfl⟩ := hz0
  have e1 : DataW.trod enc Try.prog W 0 (fun _ => true) held m 26 [c2] = some y1 := by have q := hf 1 _ rfl; rw [show (Try.prog).cellsOf _ = 1 from by kernel_rfl] at q; exact q
  have w1 : (y1.1.weights Try.prog 26).all (· ≤ reachBytes) = true := hw2 1 _ _ rfl rfl
  obtain ⟨z1, s1, b1, g1⟩ := slice_inN (α := T_Object) (R := Rc_Object) (sz := 4) (Wf := fun z => Wf_Object z) Try.underlying26 (by kernel_rfl) (by decide) (fun n cs y h hw => by obtain ⟨x, g, v0, v1, v2, v3, hz, q0, q1, q2, q3⟩ := in_Object h hw; subst hz; exact ⟨x, ⟨v0, v1, v2, v3, rfl, q0, q1, q2, q3⟩, g, rfl, one_Object q0.one q1.one q2.one q3.one⟩) e1 w1
  exact ⟨⟨z0, z1⟩, ⟨g0, by have := b1; rw [show (Try.prog).bytesOf _ = 96 from by kernel_rfl] at this; exact this, g1⟩, _, _, _, rfl, s0_0, s0_1, s1⟩
structure Wf_Image (x : T_Image) : Prop where
  h0 : x.Code.length * 224 ≤ 140737488351232
  h1 : ∀ z ∈ x.Code, Wf_Bundle z
  h2 : x.Data.length * 4 ≤ 140737488351232
  h3 : ∀ z ∈ x.Data, 0 ≤ z ∧ z ≤ 4294967295
  h4 : -9223372036854775808 ≤ x.Entry ∧ x.Entry ≤ 9223372036854775807
theorem in_Image {H : Type} {enc : TypeId × Value → H} {W : World} {held : Bool} {n : Nat} {cs : List Value} {y : (DataW H × List MemPlace)} (h : DataW.trod enc Try.prog W 0 (fun _ => true) held n 37 cs = some y) (hw : (y.1.weights Try.prog 37).all (· ≤ reachBytes) = true) : ∃ x : T_Image, Wf_Image x ∧ ∃ (v0 v1 : Value), cs = [v0, v1, .int .i64 x.Entry] ∧ SlT (all W) enc_Bundle 24 x.Code v0 ∧ SlT (all W) enc_uint32 1 x.Data v1 := by
  obtain ⟨xs, m, _, rfl, hl, hlen, hf⟩ := DataW.trod_struct Try.underlying37 h
  rw [show (Try.prog).cellsOf 37 = 3 from by kernel_rfl] at hl
  obtain ⟨c0, c1, c2, rfl⟩ := list_of3 hl
  obtain ⟨y0, y1, y2, rfl⟩ := list_of3 hlen
  have hw2 := weights_agg Try.underlying37 hw
  have e0 : DataW.trod enc Try.prog W 0 (fun _ => true) held m 34 [c0] = some y0 := by have q := hf 0 _ rfl; rw [show (Try.prog).cellsOf _ = 1 from by kernel_rfl] at q; exact q
  have w0 : (y0.1.weights Try.prog 34).all (· ≤ reachBytes) = true := hw2 0 _ _ rfl rfl
  obtain ⟨z0, s0, b0, g0⟩ := slice_in (α := (A4 T_Ins)) (encα := enc_Bundle) (sz := 24) (Wf := fun z => Wf_Bundle z) Try.underlying34 (by kernel_rfl) (by decide) enc_len_Bundle (fun n cs y h hw => in_Bundle h hw) e0 w0
  have e1 : DataW.trod enc Try.prog W 0 (fun _ => true) held m 31 [c1] = some y1 := by have q := hf 1 _ rfl; rw [show (Try.prog).cellsOf _ = 1 from by kernel_rfl] at q; exact q
  have w1 : (y1.1.weights Try.prog 31).all (· ≤ reachBytes) = true := hw2 1 _ _ rfl rfl
  obtain ⟨z1, s1, b1, g1⟩ := slice_in (α := Int) (encα := enc_uint32) (sz := 1) (Wf := fun z => 0 ≤ z ∧ z ≤ 4294967295) Try.underlying31 (by kernel_rfl) (by decide) enc_len_uint32 (fun n cs y h _ => by obtain ⟨z, hz, _, q⟩ := DataW.trod_int Try.underlying38 h; exact ⟨z, hz, wf_u32 q⟩) e1 w1
  have e2 : DataW.trod enc Try.prog W 0 (fun _ => true) held m 3 [c2] = some y2 := by have q := hf 2 _ rfl; rw [show (Try.prog).cellsOf _ = 1 from by kernel_rfl] at q; exact q
  have w2 : (y2.1.weights Try.prog 3).all (· ≤ reachBytes) = true := hw2 2 _ _ rfl rfl
  obtain ⟨z2, hz2, _, q2⟩ := DataW.trod_int Try.underlying3 e2
  obtain rfl := List.cons.inj hz2 |>.1
  exact ⟨⟨z0, z1, z2⟩, ⟨by have := b0; rw [show (Try.prog).bytesOf _ = 224 from by kernel_rfl] at this; exact this, g0, by have := b1; rw [show (Try.prog).bytesOf _ = 4 from by kernel_rfl] at this; exact this, g1, wf_i64 q2⟩, _, _, rfl, s0, s1⟩
structure Wf_Flat (x : T_Flat) : Prop where
  h0 : x.Code.length * 56 ≤ 140737488351232
  h1 : ∀ z ∈ x.Code, Wf_Ins z
  h2 : x.Data.length * 4 ≤ 140737488351232
  h3 : ∀ z ∈ x.Data, 0 ≤ z ∧ z ≤ 4294967295
  h4 : -9223372036854775808 ≤ x.Entry ∧ x.Entry ≤ 9223372036854775807
theorem in_Flat {H : Type} {enc : TypeId × Value → H} {W : World} {held : Bool} {n : Nat} {cs : List Value} {y : (DataW H × List MemPlace)} (h : DataW.trod enc Try.prog W 0 (fun _ => true) held n 153 cs = some y) (hw : (y.1.weights Try.prog 153).all (· ≤ reachBytes) = true) : ∃ x : T_Flat, Wf_Flat x ∧ ∃ (v0 v1 : Value), cs = [v0, v1, .int .i64 x.Entry] ∧ SlT (all W) enc_Ins 6 x.Code v0 ∧ SlT (all W) enc_uint32 1 x.Data v1 := by
  obtain ⟨xs, m, _, rfl, hl, hlen, hf⟩ := DataW.trod_struct Try.underlying153 h
  rw [show (Try.prog).cellsOf 153 = 3 from by kernel_rfl] at hl
  obtain ⟨c0, c1, c2, rfl⟩ := list_of3 hl
  obtain ⟨y0, y1, y2, rfl⟩ := list_of3 hlen
  have hw2 := weights_agg Try.underlying153 hw
  have e0 : DataW.trod enc Try.prog W 0 (fun _ => true) held m 151 [c0] = some y0 := by have q := hf 0 _ rfl; rw [show (Try.prog).cellsOf _ = 1 from by kernel_rfl] at q; exact q
  have w0 : (y0.1.weights Try.prog 151).all (· ≤ reachBytes) = true := hw2 0 _ _ rfl rfl
  obtain ⟨z0, s0, b0, g0⟩ := slice_in (α := T_Ins) (encα := enc_Ins) (sz := 6) (Wf := fun z => Wf_Ins z) Try.underlying151 (by kernel_rfl) (by decide) enc_len_Ins (fun n cs y h hw => in_Ins h hw) e0 w0
  have e1 : DataW.trod enc Try.prog W 0 (fun _ => true) held m 31 [c1] = some y1 := by have q := hf 1 _ rfl; rw [show (Try.prog).cellsOf _ = 1 from by kernel_rfl] at q; exact q
  have w1 : (y1.1.weights Try.prog 31).all (· ≤ reachBytes) = true := hw2 1 _ _ rfl rfl
  obtain ⟨z1, s1, b1, g1⟩ := slice_in (α := Int) (encα := enc_uint32) (sz := 1) (Wf := fun z => 0 ≤ z ∧ z ≤ 4294967295) Try.underlying31 (by kernel_rfl) (by decide) enc_len_uint32 (fun n cs y h _ => by obtain ⟨z, hz, _, q⟩ := DataW.trod_int Try.underlying38 h; exact ⟨z, hz, wf_u32 q⟩) e1 w1
  have e2 : DataW.trod enc Try.prog W 0 (fun _ => true) held m 3 [c2] = some y2 := by have q := hf 2 _ rfl; rw [show (Try.prog).cellsOf _ = 1 from by kernel_rfl] at q; exact q
  have w2 : (y2.1.weights Try.prog 3).all (· ≤ reachBytes) = true := hw2 2 _ _ rfl rfl
  obtain ⟨z2, hz2, _, q2⟩ := DataW.trod_int Try.underlying3 e2
  obtain rfl := List.cons.inj hz2 |>.1
  exact ⟨⟨z0, z1, z2⟩, ⟨by have := b0; rw [show (Try.prog).bytesOf _ = 56 from by kernel_rfl] at this; exact this, g0, by have := b1; rw [show (Try.prog).bytesOf _ = 4 from by kernel_rfl] at this; exact this, g1, wf_i64 q2⟩, _, _, rfl, s0, s1⟩
structure Wf_Ask20 (x : T_Ask20) : Prop where
  h0 : Wf_Ask16 x.E
  h1 : x.X.length * 56 ≤ 140737488351232
  h2 : ∀ z ∈ x.X, Wf_Image z
  h3 : x.F.length * 56 ≤ 140737488351232
  h4 : ∀ z ∈ x.F, Wf_Flat z
  h5 : x.In_.length * 4 ≤ 140737488351232
  h6 : ∀ z ∈ x.In_, 0 ≤ z ∧ z ≤ 4294967295
theorem in_Ask20 {H : Type} {enc : TypeId × Value → H} {W : World} {held : Bool} {n : Nat} {cs : List Value} {y : (DataW H × List MemPlace)} (h : DataW.trod enc Try.prog W 0 (fun _ => true) held n 33 cs = some y) (hw : (y.1.weights Try.prog 33).all (· ≤ reachBytes) = true) : ∃ x : T_Ask20, Wf_Ask20 x ∧ ∃ (v0 v1 v2 v3 v4 v5 : Value), cs = [v0, v1, v2, v3, v4, v5] ∧ SlT (all W) enc_string 1 x.E.U.S v0 ∧ SlN (all W) Rc_Unit 4 x.E.U.U v1 ∧ SlN (all W) Rc_Object 4 x.E.O v2 ∧ SlN (all W) Rc_Image 3 x.X v3 ∧ SlN (all W) Rc_Flat 3 x.F v4 ∧ SlT (all W) enc_uint32 1 x.In_ v5 := by
  obtain ⟨xs, m, _, rfl, hl, hlen, hf⟩ := DataW.trod_struct Try.underlying33 h
  rw [show (Try.prog).cellsOf 33 = 6 from by kernel_rfl] at hl
  obtain ⟨c0, c1, c2, c3, c4, c5, rfl⟩ := list_of6 hl
  obtain ⟨y0, y1, y2, y3, rfl⟩ := list_of4 hlen
  have hw2 := weights_agg Try.underlying33 hw
  have e0 : DataW.trod enc Try.prog W 0 (fun _ => true) held m 28 [c0, c1, c2] = some y0 := by have q := hf 0 _ rfl; rw [show (Try.prog).cellsOf _ = 3 from by kernel_rfl] at q; exact q
  have w0 : (y0.1.weights Try.prog 28).all (· ≤ reachBytes) = true := hw2 0 _ _ rfl rfl
  obtain ⟨z0, g0, u0_0, u0_1, u0_2, hz0, s0_0, s0_1, s0_2⟩ := in_Ask16 e0 w0
  simp only [List.cons.injEq, and_true] at hz0
  obtain ⟨rfl, rfl, rfl⟩ := hz0
  have e1 : DataW.trod enc Try.prog W 0 (fun _ => true) held m 29 [c3] = some y1 := by have q := hf 1 _ rfl; rw [show (Try.prog).cellsOf _ = 1 from by kernel_rfl] at q; exact q
  have w1 : (y1.1.weights Try.prog 29).all (· ≤ reachBytes) = true := hw2 1 _ _ rfl rfl
  obtain ⟨z1, s1, b1, g1⟩ := slice_inN (α := T_Image) (R := Rc_Image) (sz := 3) (Wf := fun z => Wf_Image z) Try.underlying29 (by kernel_rfl) (by decide) (fun n cs y h hw => by obtain ⟨x, g, v0, v1, hz, q0, q1⟩ := in_Image h hw; subst hz; exact ⟨x, ⟨v0, v1, rfl, q0, q1⟩, g, rfl, one_Image q0.one q1.one⟩) e1 w1
  have e2 : DataW.trod enc Try.prog W 0 (fun _ => true) held m 30 [c4] = some y2 := by have q := hf 2 _ rfl; rw [show (Try.prog).cellsOf _ = 1 from by kernel_rfl] at q; exact q
  have w2 : (y2.1.weights Try.prog 30).all (· ≤ reachBytes) = true := hw2 2 _ _ rfl rfl
  obtain ⟨z2, s2, b2, g2⟩ := slice_inN (α := T_Flat) (R := Rc_Flat) (sz := 3) (Wf := fun z => Wf_Flat z) Try.underlying30 (by kernel_rfl) (by decide) (fun n cs y h hw => by obtain ⟨x, g, v0, v1, hz, q0, q1⟩ := in_Flat h hw; subst hz; exact ⟨x, ⟨v0, v1, rfl, q0, q1⟩, g, rfl, one_Flat q0.one q1.one⟩) e2 w2
  have e3 : DataW.trod enc Try.prog W 0 (fun _ => true) held m 31 [c5] = some y3 := by have q := hf 3 _ rfl; rw [show (Try.prog).cellsOf _ = 1 from by kernel_rfl] at q; exact q
  have w3 : (y3.1.weights Try.prog 31).all (· ≤ reachBytes) = true := hw2 3 _ _ rfl rfl
  obtain ⟨z3, s3, b3, g3⟩ := slice_in (α := Int) (encα := enc_uint32) (sz := 1) (Wf := fun z => 0 ≤ z ∧ z ≤ 4294967295) Try.underlying31 (by kernel_rfl) (by decide) enc_len_uint32 (fun n cs y h _ => by obtain ⟨z, hz, _, q⟩ := DataW.trod_int Try.underlying38 h; exact ⟨z, hz, wf_u32 q⟩) e3 w3
  exact ⟨⟨z0, z1, z2, z3⟩, ⟨g0, by have := b1; rw [show (Try.prog).bytesOf _ = 56 from by kernel_rfl] at this; exact this, g1, by have := b2; rw [show (Try.prog).bytesOf _ = 56 from by kernel_rfl] at this; exact this, g2, by have := b3; rw [show (Try.prog).bytesOf _ = 4 from by kernel_rfl] at this; exact this, g3⟩, _, _, _, _, _, _, rfl, s0_0, s0_1, s0_2, s1, s2, s3⟩
end Go.Proofs.Ytjmmkbehdbpklaa
