/- What comes in. Printed by lift.py. -/
import Derived.Test.YthbpicnbkdbbmaaProg
import Derived.Test.YthbpicnbkdbbmaaInKit
import Derived.Test.YthbpicnbkdbbmaaTy
import Derived.KernelRfl
namespace Go.Proofs.Ythbpicnbkdbbmaa
open Go Go.RowKit Go.ChangeShapes Go.WideShapes Fr
set_option linter.unusedVariables false
set_option linter.unusedSimpArgs false
set_option maxRecDepth 20000
theorem list_of3 {α : Type} {l : List α} (h : l.length = 3) : ∃ c0 c1 c2, l = [c0, c1, c2] := by
  match l, h with
  | [c0, c1, c2], _ => exact ⟨c0, c1, c2, rfl⟩
theorem list_of4 {α : Type} {l : List α} (h : l.length = 4) : ∃ c0 c1 c2 c3, l = [c0, c1, c2, c3] := by
  match l, h with
  | [c0, c1, c2, c3], _ => exact ⟨c0, c1, c2, c3, rfl⟩
theorem list_of6 {α : Type} {l : List α} (h : l.length = 6) : ∃ c0 c1 c2 c3 c4 c5, l = [c0, c1, c2, c3, c4, c5] := by
  match l, h with
  | [c0, c1, c2, c3, c4, c5], _ => exact ⟨c0, c1, c2, c3, c4, c5, rfl⟩
theorem list_of11 {α : Type} {l : List α} (h : l.length = 11) : ∃ c0 c1 c2 c3 c4 c5 c6 c7 c8 c9 c10, l = [c0, c1, c2, c3, c4, c5, c6, c7, c8, c9, c10] := by
  match l, h with
  | [c0, c1, c2, c3, c4, c5, c6, c7, c8, c9, c10], _ => exact ⟨c0, c1, c2, c3, c4, c5, c6, c7, c8, c9, c10, rfl⟩
theorem list_of13 {α : Type} {l : List α} (h : l.length = 13) : ∃ c0 c1 c2 c3 c4 c5 c6 c7 c8 c9 c10 c11 c12, l = [c0, c1, c2, c3, c4, c5, c6, c7, c8, c9, c10, c11, c12] := by
  match l, h with
  | [c0, c1, c2, c3, c4, c5, c6, c7, c8, c9, c10, c11, c12], _ => exact ⟨c0, c1, c2, c3, c4, c5, c6, c7, c8, c9, c10, c11, c12, rfl⟩
theorem list_of24 {α : Type} {l : List α} (h : l.length = 24) : ∃ c0 c1 c2 c3 c4 c5 c6 c7 c8 c9 c10 c11 c12 c13 c14 c15 c16 c17 c18 c19 c20 c21 c22 c23, l = [c0, c1, c2, c3, c4, c5, c6, c7, c8, c9, c10, c11, c12, c13, c14, c15, c16, c17, c18, c19, c20, c21, c22, c23] := by
  match l, h with
  | [c0, c1, c2, c3, c4, c5, c6, c7, c8, c9, c10, c11, c12, c13, c14, c15, c16, c17, c18, c19, c20, c21, c22, c23], _ => exact ⟨c0, c1, c2, c3, c4, c5, c6, c7, c8, c9, c10, c11, c12, c13, c14, c15, c16, c17, c18, c19, c20, c21, c22, c23, rfl⟩
structure Wf_Ins (x : T_Ins) : Prop where
  h0 : -9223372036854775808 ≤ x.Op ∧ x.Op ≤ 9223372036854775807
  h1 : -9223372036854775808 ≤ x.D ∧ x.D ≤ 9223372036854775807
  h2 : -9223372036854775808 ≤ x.A ∧ x.A ≤ 9223372036854775807
  h3 : -9223372036854775808 ≤ x.B ∧ x.B ≤ 9223372036854775807
  h4 : -9223372036854775808 ≤ x.Imm ∧ x.Imm ≤ 9223372036854775807
  h5 : x.Sym.size ≤ 140737488351232
theorem in_Ins {H : Type} {enc : TypeId × Value → H} {W : World} {held : Bool} {n : Nat} {cs : List Value} {y : (DataW H × List MemPlace)} (h : DataW.trod enc Try.prog W 0 (fun _ => true) held n 31 cs = some y) (hw : (y.1.weights Try.prog 31).all (· ≤ reachBytes) = true) : ∃ x : T_Ins, cs = enc_Ins x ∧ Wf_Ins x := by
  obtain ⟨xs, m, _, rfl, hl, hlen, hf⟩ := DataW.trod_struct Try.underlying31 h
  rw [show (Try.prog).cellsOf 31 = 6 from by kernel_rfl] at hl
  obtain ⟨c0, c1, c2, c3, c4, c5, rfl⟩ := list_of6 hl
  obtain ⟨y0, y1, y2, y3, y4, y5, rfl⟩ := list_of6 hlen
  have hw2 := weights_agg Try.underlying31 hw
  have e0 : DataW.trod enc Try.prog W 0 (fun _ => true) held m 3 [c0] = some y0 := by have q := hf 0 _ rfl; rw [show (Try.prog).cellsOf _ = 1 from by kernel_rfl] at q; exact q
  have w0 : (y0.1.weights Try.prog 3).all (· ≤ reachBytes) = true := hw2 0 _ _ rfl rfl
  obtain ⟨z0, hz0, _, q0⟩ := DataW.trod_int Try.underlying3 e0
  obtain rfl := List.cons.inj hz0 |>.1
  have e1 : DataW.trod enc Try.prog W 0 (fun _ => true) held m 3 [c1] = some y1 := by have q := hf 1 _ rfl; rw [show (Try.prog).cellsOf _ = 1 from by kernel_rfl] at q; exact q
  have w1 : (y1.1.weights Try.prog 3).all (· ≤ reachBytes) = true := hw2 1 _ _ rfl rfl
  obtain ⟨z1, hz1, _, q1⟩ := DataW.trod_int Try.underlying3 e1
  obtain rfl := List.cons.inj hz1 |>.1
  have e2 : DataW.trod enc Try.prog W 0 (fun _ => true) held m 3 [c2] = some y2 := by have q := hf 2 _ rfl; rw [show (Try.prog).cellsOf _ = 1 from by kernel_rfl] at q; exact q
  have w2 : (y2.1.weights Try.prog 3).all (· ≤ reachBytes) = true := hw2 2 _ _ rfl rfl
  obtain ⟨z2, hz2, _, q2⟩ := DataW.trod_int Try.underlying3 e2
  obtain rfl := List.cons.inj hz2 |>.1
  have e3 : DataW.trod enc Try.prog W 0 (fun _ => true) held m 3 [c3] = some y3 := by have q := hf 3 _ rfl; rw [show (Try.prog).cellsOf _ = 1 from by kernel_rfl] at q; exact q
  have w3 : (y3.1.weights Try.prog 3).all (· ≤ reachBytes) = true := hw2 3 _ _ rfl rfl
  obtain ⟨z3, hz3, _, q3⟩ := DataW.trod_int Try.underlying3 e3
  obtain rfl := List.cons.inj hz3 |>.1
  have e4 : DataW.trod enc Try.prog W 0 (fun _ => true) held m 3 [c4] = some y4 := by have q := hf 4 _ rfl; rw [show (Try.prog).cellsOf _ = 1 from by kernel_rfl] at q; exact q
  have w4 : (y4.1.weights Try.prog 3).all (· ≤ reachBytes) = true := hw2 4 _ _ rfl rfl
  obtain ⟨z4, hz4, _, q4⟩ := DataW.trod_int Try.underlying3 e4
  obtain rfl := List.cons.inj hz4 |>.1
  have e5 : DataW.trod enc Try.prog W 0 (fun _ => true) held m 9 [c5] = some y5 := by have q := hf 5 _ rfl; rw [show (Try.prog).cellsOf _ = 1 from by kernel_rfl] at q; exact q
  have w5 : (y5.1.weights Try.prog 9).all (· ≤ reachBytes) = true := hw2 5 _ _ rfl rfl
  obtain ⟨z5, hz5, hy5, _⟩ := DataW.trod_string Try.underlying9 e5
  obtain rfl := List.cons.inj hz5 |>.1
  exact ⟨⟨z0, z1, z2, z3, z4, z5⟩, rfl, ⟨wf_i64 q0, wf_i64 q1, wf_i64 q2, wf_i64 q3, wf_i64 q4, str_reach hy5 w5⟩⟩
structure Wf_Bundle (x : (A4 T_Ins)) : Prop where
  h0 : Wf_Ins x.x0
  h1 : Wf_Ins x.x1
  h2 : Wf_Ins x.x2
  h3 : Wf_Ins x.x3
theorem in_Bundle {H : Type} {enc : TypeId × Value → H} {W : World} {held : Bool} {n : Nat} {cs : List Value} {y : (DataW H × List MemPlace)} (h : DataW.trod enc Try.prog W 0 (fun _ => true) held n 37 cs = some y) (hw : (y.1.weights Try.prog 37).all (· ≤ reachBytes) = true) : ∃ x : (A4 T_Ins), cs = enc_Bundle x ∧ Wf_Bundle x := by
  obtain ⟨xs, m, _, rfl, hl, hlen, hf⟩ := DataW.trod_array Try.underlying37 h
  rw [show (Try.prog).cellsOf 37 = 24 from by kernel_rfl] at hl
  obtain ⟨c0, c1, c2, c3, c4, c5, c6, c7, c8, c9, c10, c11, c12, c13, c14, c15, c16, c17, c18, c19, c20, c21, c22, c23, rfl⟩ := list_of24 hl
  obtain ⟨y0, y1, y2, y3, rfl⟩ := list_of4 hlen
  have e0 : DataW.trod enc Try.prog W 0 (fun _ => true) held m 31 [c0, c1, c2, c3, c4, c5] = some y0 := by have q := hf 0 (by decide); rw [show (Try.prog).cellsOf _ = 6 from by kernel_rfl] at q; exact q
  have w0 : (y0.1.weights Try.prog 31).all (· ≤ reachBytes) = true := weights_arr Try.underlying37 hw y0.1 (by simp)
  obtain ⟨z0, hz0, g0⟩ := in_Ins e0 w0
  simp only [List.cons.injEq, and_true] at hz0
  obtain ⟨rfl, rfl, rfl, rfl, rfl, rfl⟩ := hz0
  have e1 : DataW.trod enc Try.prog W 0 (fun _ => true) held m 31 [c6, c7, c8, c9, c10, c11] = some y1 := by have q := hf 1 (by decide); rw [show (Try.prog).cellsOf _ = 6 from by kernel_rfl] at q; exact q
  have w1 : (y1.1.weights Try.prog 31).all (· ≤ reachBytes) = true := weights_arr Try.underlying37 hw y1.1 (by simp)
  obtain ⟨z1, hz1, g1⟩ := in_Ins e1 w1
  simp only [List.cons.injEq, and_true] at hz1
  obtain ⟨rfl, rfl, rfl, rfl, rfl, rfl⟩ := hz1
  have e2 : DataW.trod enc Try.prog W 0 (fun _ => true) held m 31 [c12, c13, c14, c15, c16, c17] = some y2 := by have q := hf 2 (by decide); rw [show (Try.prog).cellsOf _ = 6 from by kernel_rfl] at q; exact q
  have w2 : (y2.1.weights Try.prog 31).all (· ≤ reachBytes) = true := weights_arr Try.underlying37 hw y2.1 (by simp)
  obtain ⟨z2, hz2, g2⟩ := in_Ins e2 w2
  simp only [List.cons.injEq, and_true] at hz2
  obtain ⟨rfl, rfl, rfl, rfl, rfl, rfl⟩ := hz2
  have e3 : DataW.trod enc Try.prog W 0 (fun _ => true) held m 31 [c18, c19, c20, c21, c22, c23] = some y3 := by have q := hf 3 (by decide); rw [show (Try.prog).cellsOf _ = 6 from by kernel_rfl] at q; exact q
  have w3 : (y3.1.weights Try.prog 31).all (· ≤ reachBytes) = true := weights_arr Try.underlying37 hw y3.1 (by simp)
  obtain ⟨z3, hz3, g3⟩ := in_Ins e3 w3
  simp only [List.cons.injEq, and_true] at hz3
  obtain ⟨rfl, rfl, rfl, rfl, rfl, rfl⟩ := hz3
  exact ⟨⟨z0, z1, z2, z3⟩, rfl, ⟨g0, g1, g2, g3⟩⟩
structure Wf_Write (x : T_Write) : Prop where
  h0 : -9223372036854775808 ≤ x.Reg ∧ x.Reg ≤ 9223372036854775807
  h1 : 0 ≤ x.Value ∧ x.Value ≤ 4294967295
  h2 : -9223372036854775808 ≤ x.Left ∧ x.Left ≤ 9223372036854775807
theorem in_Write {H : Type} {enc : TypeId × Value → H} {W : World} {held : Bool} {n : Nat} {cs : List Value} {y : (DataW H × List MemPlace)} (h : DataW.trod enc Try.prog W 0 (fun _ => true) held n 71 cs = some y) (hw : (y.1.weights Try.prog 71).all (· ≤ reachBytes) = true) : ∃ x : T_Write, cs = enc_Write x ∧ Wf_Write x := by
  obtain ⟨xs, m, _, rfl, hl, hlen, hf⟩ := DataW.trod_struct Try.underlying71 h
  rw [show (Try.prog).cellsOf 71 = 3 from by kernel_rfl] at hl
  obtain ⟨c0, c1, c2, rfl⟩ := list_of3 hl
  obtain ⟨y0, y1, y2, rfl⟩ := list_of3 hlen
  have hw2 := weights_agg Try.underlying71 hw
  have e0 : DataW.trod enc Try.prog W 0 (fun _ => true) held m 3 [c0] = some y0 := by have q := hf 0 _ rfl; rw [show (Try.prog).cellsOf _ = 1 from by kernel_rfl] at q; exact q
  have w0 : (y0.1.weights Try.prog 3).all (· ≤ reachBytes) = true := hw2 0 _ _ rfl rfl
  obtain ⟨z0, hz0, _, q0⟩ := DataW.trod_int Try.underlying3 e0
  obtain rfl := List.cons.inj hz0 |>.1
  have e1 : DataW.trod enc Try.prog W 0 (fun _ => true) held m 35 [c1] = some y1 := by have q := hf 1 _ rfl; rw [show (Try.prog).cellsOf _ = 1 from by kernel_rfl] at q; exact q
  have w1 : (y1.1.weights Try.prog 35).all (· ≤ reachBytes) = true := hw2 1 _ _ rfl rfl
  obtain ⟨z1, hz1, _, q1⟩ := DataW.trod_int Try.underlying35 e1
  obtain rfl := List.cons.inj hz1 |>.1
  have e2 : DataW.trod enc Try.prog W 0 (fun _ => true) held m 3 [c2] = some y2 := by have q := hf 2 _ rfl; rw [show (Try.prog).cellsOf _ = 1 from by kernel_rfl] at q; exact q
  have w2 : (y2.1.weights Try.prog 3).all (· ≤ reachBytes) = true := hw2 2 _ _ rfl rfl
  obtain ⟨z2, hz2, _, q2⟩ := DataW.trod_int Try.underlying3 e2
  obtain rfl := List.cons.inj hz2 |>.1
  exact ⟨⟨z0, z1, z2⟩, rfl, ⟨wf_i64 q0, wf_u32 q1, wf_i64 q2⟩⟩
structure Wf_State (x : T_State) : Prop where
  h0 : x.Regs.length * 4 ≤ 140737488351232
  h1 : ∀ z ∈ x.Regs, 0 ≤ z ∧ z ≤ 4294967295
  h2 : x.Mem.length * 4 ≤ 140737488351232
  h3 : ∀ z ∈ x.Mem, 0 ≤ z ∧ z ≤ 4294967295
  h4 : x.In_.length * 4 ≤ 140737488351232
  h5 : ∀ z ∈ x.In_, 0 ≤ z ∧ z ≤ 4294967295
  h6 : -9223372036854775808 ≤ x.Taken ∧ x.Taken ≤ 9223372036854775807
  h7 : x.Out.length * 4 ≤ 140737488351232
  h8 : ∀ z ∈ x.Out, 0 ≤ z ∧ z ≤ 4294967295
  h9 : -9223372036854775808 ≤ x.PC ∧ x.PC ≤ 9223372036854775807
  h10 : x.Stack.length * 8 ≤ 140737488351232
  h11 : ∀ z ∈ x.Stack, -9223372036854775808 ≤ z ∧ z ≤ 9223372036854775807
  h12 : -9223372036854775808 ≤ x.Stop ∧ x.Stop ≤ 9223372036854775807
  h13 : x.Fly.length * 24 ≤ 140737488351232
  h14 : ∀ z ∈ x.Fly, Wf_Write z
  h15 : -9223372036854775808 ≤ x.Jump ∧ x.Jump ≤ 9223372036854775807
  h16 : -9223372036854775808 ≤ x.Delay ∧ x.Delay ≤ 9223372036854775807
theorem in_State {H : Type} {enc : TypeId × Value → H} {W : World} {held : Bool} {n : Nat} {cs : List Value} {y : (DataW H × List MemPlace)} (h : DataW.trod enc Try.prog W 0 (fun _ => true) held n 27 cs = some y) (hw : (y.1.weights Try.prog 27).all (· ≤ reachBytes) = true) : ∃ x : T_State, Wf_State x ∧ ∃ (v0 v1 v2 v4 v6 v8 : Value), cs = [v0, v1, v2, .int .i64 x.Taken, v4, .int .i64 x.PC, v6, .int .i64 x.Stop, v8, .int .i64 x.Jump, .int .i64 x.Delay] ∧ SlT (all W) enc_uint32 1 x.Regs v0 ∧ SlT (all W) enc_uint32 1 x.Mem v1 ∧ SlT (all W) enc_uint32 1 x.In_ v2 ∧ SlT (all W) enc_uint32 1 x.Out v4 ∧ SlT (all W) enc_int 1 x.Stack v6 ∧ SlT (all W) enc_Write 3 x.Fly v8 := by
  obtain ⟨xs, m, _, rfl, hl, hlen, hf⟩ := DataW.trod_struct Try.underlying27 h
  rw [show (Try.prog).cellsOf 27 = 11 from by kernel_rfl] at hl
  obtain ⟨c0, c1, c2, c3, c4, c5, c6, c7, c8, c9, c10, rfl⟩ := list_of11 hl
  obtain ⟨y0, y1, y2, y3, y4, y5, y6, y7, y8, y9, y10, rfl⟩ := list_of11 hlen
  have hw2 := weights_agg Try.underlying27 hw
  have e0 : DataW.trod enc Try.prog W 0 (fun _ => true) held m 23 [c0] = some y0 := by have q := hf 0 _ rfl; rw [show (Try.prog).cellsOf _ = 1 from by kernel_rfl] at q; exact q
  have w0 : (y0.1.weights Try.prog 23).all (· ≤ reachBytes) = true := hw2 0 _ _ rfl rfl
  obtain ⟨z0, s0, b0, g0⟩ := slice_in (α := Int) (encα := enc_uint32) (sz := 1) (Wf := fun z => 0 ≤ z ∧ z ≤ 4294967295) Try.underlying23 (by kernel_rfl) (by decide) enc_len_uint32 (fun n cs y h _ => by obtain ⟨z, hz, _, q⟩ := DataW.trod_int Try.underlying35 h; exact ⟨z, hz, wf_u32 q⟩) e0 w0
  have e1 : DataW.trod enc Try.prog W 0 (fun _ => true) held m 23 [c1] = some y1 := by have q := hf 1 _ rfl; rw [show (Try.prog).cellsOf _ = 1 from by kernel_rfl] at q; exact q
  have w1 : (y1.1.weights Try.prog 23).all (· ≤ reachBytes) = true := hw2 1 _ _ rfl rfl
  obtain ⟨z1, s1, b1, g1⟩ := slice_in (α := Int) (encα := enc_uint32) (sz := 1) (Wf := fun z => 0 ≤ z ∧ z ≤ 4294967295) Try.underlying23 (by kernel_rfl) (by decide) enc_len_uint32 (fun n cs y h _ => by obtain ⟨z, hz, _, q⟩ := DataW.trod_int Try.underlying35 h; exact ⟨z, hz, wf_u32 q⟩) e1 w1
  have e2 : DataW.trod enc Try.prog W 0 (fun _ => true) held m 23 [c2] = some y2 := by have q := hf 2 _ rfl; rw [show (Try.prog).cellsOf _ = 1 from by kernel_rfl] at q; exact q
  have w2 : (y2.1.weights Try.prog 23).all (· ≤ reachBytes) = true := hw2 2 _ _ rfl rfl
  obtain ⟨z2, s2, b2, g2⟩ := slice_in (α := Int) (encα := enc_uint32) (sz := 1) (Wf := fun z => 0 ≤ z ∧ z ≤ 4294967295) Try.underlying23 (by kernel_rfl) (by decide) enc_len_uint32 (fun n cs y h _ => by obtain ⟨z, hz, _, q⟩ := DataW.trod_int Try.underlying35 h; exact ⟨z, hz, wf_u32 q⟩) e2 w2
  have e3 : DataW.trod enc Try.prog W 0 (fun _ => true) held m 3 [c3] = some y3 := by have q := hf 3 _ rfl; rw [show (Try.prog).cellsOf _ = 1 from by kernel_rfl] at q; exact q
  have w3 : (y3.1.weights Try.prog 3).all (· ≤ reachBytes) = true := hw2 3 _ _ rfl rfl
  obtain ⟨z3, hz3, _, q3⟩ := DataW.trod_int Try.underlying3 e3
  obtain rfl := List.cons.inj hz3 |>.1
  have e4 : DataW.trod enc Try.prog W 0 (fun _ => true) held m 23 [c4] = some y4 := by have q := hf 4 _ rfl; rw [show (Try.prog).cellsOf _ = 1 from by kernel_rfl] at q; exact q
  have w4 : (y4.1.weights Try.prog 23).all (· ≤ reachBytes) = true := hw2 4 _ _ rfl rfl
  obtain ⟨z4, s4, b4, g4⟩ := slice_in (α := Int) (encα := enc_uint32) (sz := 1) (Wf := fun z => 0 ≤ z ∧ z ≤ 4294967295) Try.underlying23 (by kernel_rfl) (by decide) enc_len_uint32 (fun n cs y h _ => by obtain ⟨z, hz, _, q⟩ := DataW.trod_int Try.underlying35 h; exact ⟨z, hz, wf_u32 q⟩) e4 w4
  have e5 : DataW.trod enc Try.prog W 0 (fun _ => true) held m 3 [c5] = some y5 := by have q := hf 5 _ rfl; rw [show (Try.prog).cellsOf _ = 1 from by kernel_rfl] at q; exact q
  have w5 : (y5.1.weights Try.prog 3).all (· ≤ reachBytes) = true := hw2 5 _ _ rfl rfl
  obtain ⟨z5, hz5, _, q5⟩ := DataW.trod_int Try.underlying3 e5
  obtain rfl := List.cons.inj hz5 |>.1
  have e6 : DataW.trod enc Try.prog W 0 (fun _ => true) held m 24 [c6] = some y6 := by have q := hf 6 _ rfl; rw [show (Try.prog).cellsOf _ = 1 from by kernel_rfl] at q; exact q
  have w6 : (y6.1.weights Try.prog 24).all (· ≤ reachBytes) = true := hw2 6 _ _ rfl rfl
  obtain ⟨z6, s6, b6, g6⟩ := slice_in (α := Int) (encα := enc_int) (sz := 1) (Wf := fun z => -9223372036854775808 ≤ z ∧ z ≤ 9223372036854775807) Try.underlying24 (by kernel_rfl) (by decide) enc_len_int (fun n cs y h _ => by obtain ⟨z, hz, _, q⟩ := DataW.trod_int Try.underlying3 h; exact ⟨z, hz, wf_i64 q⟩) e6 w6
  have e7 : DataW.trod enc Try.prog W 0 (fun _ => true) held m 3 [c7] = some y7 := by have q := hf 7 _ rfl; rw [show (Try.prog).cellsOf _ = 1 from by kernel_rfl] at q; exact q
  have w7 : (y7.1.weights Try.prog 3).all (· ≤ reachBytes) = true := hw2 7 _ _ rfl rfl
  obtain ⟨z7, hz7, _, q7⟩ := DataW.trod_int Try.underlying3 e7
  obtain rfl := List.cons.inj hz7 |>.1
  have e8 : DataW.trod enc Try.prog W 0 (fun _ => true) held m 25 [c8] = some y8 := by have q := hf 8 _ rfl; rw [show (Try.prog).cellsOf _ = 1 from by kernel_rfl] at q; exact q
  have w8 : (y8.1.weights Try.prog 25).all (· ≤ reachBytes) = true := hw2 8 _ _ rfl rfl
  obtain ⟨z8, s8, b8, g8⟩ := slice_in (α := T_Write) (encα := enc_Write) (sz := 3) (Wf := fun z => Wf_Write z) Try.underlying25 (by kernel_rfl) (by decide) enc_len_Write (fun n cs y h hw => in_Write h hw) e8 w8
  have e9 : DataW.trod enc Try.prog W 0 (fun _ => true) held m 3 [c9] = some y9 := by have q := hf 9 _ rfl; rw [show (Try.prog).cellsOf _ = 1 from by kernel_rfl] at q; exact q
  have w9 : (y9.1.weights Try.prog 3).all (· ≤ reachBytes) = true := hw2 9 _ _ rfl rfl
  obtain ⟨z9, hz9, _, q9⟩ := DataW.trod_int Try.underlying3 e9
  obtain rfl := List.cons.inj hz9 |>.1
  have e10 : DataW.trod enc Try.prog W 0 (fun _ => true) held m 3 [c10] = some y10 := by have q := hf 10 _ rfl; rw [show (Try.prog).cellsOf _ = 1 from by kernel_rfl] at q; exact q
  have w10 : (y10.1.weights Try.prog 3).all (· ≤ reachBytes) = true := hw2 10 _ _ rfl rfl
  obtain ⟨z10, hz10, _, q10⟩ := DataW.trod_int Try.underlying3 e10
  obtain rfl := List.cons.inj hz10 |>.1
  exact ⟨⟨z0, z1, z2, z3, z4, z5, z6, z7, z8, z9, z10⟩, ⟨by have := b0; rw [show (Try.prog).bytesOf _ = 4 from by kernel_rfl] at this; exact this, g0, by have := b1; rw [show (Try.prog).bytesOf _ = 4 from by kernel_rfl] at this; exact this, g1, by have := b2; rw [show (Try.prog).bytesOf _ = 4 from by kernel_rfl] at this; exact this, g2, wf_i64 q3, by have := b4; rw [show (Try.prog).bytesOf _ = 4 from by kernel_rfl] at this; exact this, g4, wf_i64 q5, by have := b6; rw [show (Try.prog).bytesOf _ = 8 from by kernel_rfl] at this; exact this, g6, wf_i64 q7, by have := b8; rw [show (Try.prog).bytesOf _ = 24 from by kernel_rfl] at this; exact this, g8, wf_i64 q9, wf_i64 q10⟩, _, _, _, _, _, _, rfl, s0, s1, s2, s4, s6, s8⟩
structure Wf_Script (x : T_Script) : Prop where
  h0 : x.C.length * 224 ≤ 140737488351232
  h1 : ∀ z ∈ x.C, Wf_Bundle z
  h2 : Wf_State x.S
  h3 : x.N.length * 8 ≤ 140737488351232
  h4 : ∀ z ∈ x.N, -9223372036854775808 ≤ z ∧ z ≤ 9223372036854775807
theorem in_Script {H : Type} {enc : TypeId × Value → H} {W : World} {held : Bool} {n : Nat} {cs : List Value} {y : (DataW H × List MemPlace)} (h : DataW.trod enc Try.prog W 0 (fun _ => true) held n 29 cs = some y) (hw : (y.1.weights Try.prog 29).all (· ≤ reachBytes) = true) : ∃ x : T_Script, Wf_Script x ∧ ∃ (v0 v1 v2 v3 v5 v7 v9 v12 : Value), cs = [v0, v1, v2, v3, .int .i64 x.S.Taken, v5, .int .i64 x.S.PC, v7, .int .i64 x.S.Stop, v9, .int .i64 x.S.Jump, .int .i64 x.S.Delay, v12] ∧ SlT (all W) enc_Bundle 24 x.C v0 ∧ SlT (all W) enc_uint32 1 x.S.Regs v1 ∧ SlT (all W) enc_uint32 1 x.S.Mem v2 ∧ SlT (all W) enc_uint32 1 x.S.In_ v3 ∧ SlT (all W) enc_uint32 1 x.S.Out v5 ∧ SlT (all W) enc_int 1 x.S.Stack v7 ∧ SlT (all W) enc_Write 3 x.S.Fly v9 ∧ SlT (all W) enc_int 1 x.N v12 := by
  obtain ⟨xs, m, _, rfl, hl, hlen, hf⟩ := DataW.trod_struct Try.underlying29 h
  rw [show (Try.prog).cellsOf 29 = 13 from by kernel_rfl] at hl
  obtain ⟨c0, c1, c2, c3, c4, c5, c6, c7, c8, c9, c10, c11, c12, rfl⟩ := list_of13 hl
  obtain ⟨y0, y1, y2, rfl⟩ := list_of3 hlen
  have hw2 := weights_agg Try.underlying29 hw
  have e0 : DataW.trod enc Try.prog W 0 (fun _ => true) held m 22 [c0] = some y0 := by have q := hf 0 _ rfl; rw [show (Try.prog).cellsOf _ = 1 from by kernel_rfl] at q; exact q
  have w0 : (y0.1.weights Try.prog 22).all (· ≤ reachBytes) = true := hw2 0 _ _ rfl rfl
  obtain ⟨z0, s0, b0, g0⟩ := slice_in (α := (A4 T_Ins)) (encα := enc_Bundle) (sz := 24) (Wf := fun z => Wf_Bundle z) Try.underlying22 (by kernel_rfl) (by decide) enc_len_Bundle (fun n cs y h hw => in_Bundle h hw) e0 w0
  have e1 : DataW.trod enc Try.prog W 0 (fun _ => true) held m 27 [c1, c2, c3, c4, c5, c6, c7, c8, c9, c10, c11] = some y1 := by have q := hf 1 _ rfl; rw [show (Try.prog).cellsOf _ = 11 from by kernel_rfl] at q; exact q
  have w1 : (y1.1.weights Try.prog 27).all (· ≤ reachBytes) = true := hw2 1 _ _ rfl rfl
  obtain ⟨z1, g1, u1_0, u1_1, u1_2, u1_4, u1_6, u1_8, hz1, s1_0, s1_1, s1_2, s1_4, s1_6, s1_8⟩ := in_State e1 w1
  simp only [List.cons.injEq, and_true] at hz1
  obtain ⟨rfl, rfl, rfl, rfl, rfl, rfl, rfl, rfl, rfl, rfl, rfl⟩ := hz1
  have e2 : DataW.trod enc Try.prog W 0 (fun _ => true) held m 24 [c12] = some y2 := by have q := hf 2 _ rfl; rw [show (Try.prog).cellsOf _ = 1 from by kernel_rfl] at q; exact q
  have w2 : (y2.1.weights Try.prog 24).all (· ≤ reachBytes) = true := hw2 2 _ _ rfl rfl
  obtain ⟨z2, s2, b2, g2⟩ := slice_in (α := Int) (encα := enc_int) (sz := 1) (Wf := fun z => -9223372036854775808 ≤ z ∧ z ≤ 9223372036854775807) Try.underlying24 (by kernel_rfl) (by decide) enc_len_int (fun n cs y h _ => by obtain ⟨z, hz, _, q⟩ := DataW.trod_int Try.underlying3 h; exact ⟨z, hz, wf_i64 q⟩) e2 w2
  exact ⟨⟨z0, z1, z2⟩, ⟨by have := b0; rw [show (Try.prog).bytesOf _ = 224 from by kernel_rfl] at this; exact this, g0, g1, by have := b2; rw [show (Try.prog).bytesOf _ = 8 from by kernel_rfl] at this; exact this, g2⟩, _, _, _, _, _, _, _, _, rfl, s0, s1_0, s1_1, s1_2, s1_4, s1_6, s1_8, s2⟩
end Go.Proofs.Ythbpicnbkdbbmaa
