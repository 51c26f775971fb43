/- What comes in. Printed by lift.py. -/
import Derived.Test.YtaplgcdpppcajaaDoorProg
import Derived.Test.YtaplgcdpppcajaaDoorInN
import Derived.Test.YtaplgcdpppcajaaDoorTy
import Derived.KernelRfl
namespace Go.Proofs.YtaplgcdpppcajaaDoor
open Go Go.RowKit Go.ChangeShapes Go.WideShapes Fr
set_option linter.unusedVariables false
set_option linter.unusedSimpArgs false
set_option maxRecDepth 20000
theorem list_of2 {α : Type} {l : List α} (h : l.length = 2) : ∃ c0 c1, l = [c0, c1] := by
  match l, h with
  | [c0, c1], _ => exact ⟨c0, c1, rfl⟩
theorem list_of6 {α : Type} {l : List α} (h : l.length = 6) : ∃ c0 c1 c2 c3 c4 c5, l = [c0, c1, c2, c3, c4, c5] := by
  match l, h with
  | [c0, c1, c2, c3, c4, c5], _ => exact ⟨c0, c1, c2, c3, c4, c5, rfl⟩
structure Wf_Ins (x : T_Ins) : Prop where
  h0 : -9223372036854775808 ≤ x.Op ∧ x.Op ≤ 9223372036854775807
  h1 : -9223372036854775808 ≤ x.D ∧ x.D ≤ 9223372036854775807
  h2 : -9223372036854775808 ≤ x.A ∧ x.A ≤ 9223372036854775807
  h3 : -9223372036854775808 ≤ x.B ∧ x.B ≤ 9223372036854775807
  h4 : -9223372036854775808 ≤ x.Imm ∧ x.Imm ≤ 9223372036854775807
  h5 : x.Sym.size ≤ 140737488351232
theorem in_Ins {H : Type} {enc : TypeId × Value → H} {W : World} {held : Bool} {n : Nat} {cs : List Value} {y : (DataW H × List MemPlace)} (h : DataW.trod enc Tryd.prog W 0 (fun _ => true) held n 27 cs = some y) (hw : (y.1.weights Tryd.prog 27).all (· ≤ reachBytes) = true) : ∃ x : T_Ins, cs = enc_Ins x ∧ Wf_Ins x := by
  obtain ⟨xs, m, _, rfl, hl, hlen, hf⟩ := DataW.trod_struct Tryd.underlying27 h
  rw [show (Tryd.prog).cellsOf 27 = 6 from by kernel_rfl] at hl
  obtain ⟨c0, c1, c2, c3, c4, c5, rfl⟩ := list_of6 hl
  obtain ⟨y0, y1, y2, y3, y4, y5, rfl⟩ := list_of6 hlen
  have hw2 := weights_agg Tryd.underlying27 hw
  have e0 : DataW.trod enc Tryd.prog W 0 (fun _ => true) held m 3 [c0] = some y0 := by have q := hf 0 _ rfl; rw [show (Tryd.prog).cellsOf _ = 1 from by kernel_rfl] at q; exact q
  have w0 : (y0.1.weights Tryd.prog 3).all (· ≤ reachBytes) = true := hw2 0 _ _ rfl rfl
  obtain ⟨z0, hz0, _, q0⟩ := DataW.trod_int Tryd.underlying3 e0
  obtain rfl := List.cons.inj hz0 |>.1
  have e1 : DataW.trod enc Tryd.prog W 0 (fun _ => true) held m 3 [c1] = some y1 := by have q := hf 1 _ rfl; rw [show (Tryd.prog).cellsOf _ = 1 from by kernel_rfl] at q; exact q
  have w1 : (y1.1.weights Tryd.prog 3).all (· ≤ reachBytes) = true := hw2 1 _ _ rfl rfl
  obtain ⟨z1, hz1, _, q1⟩ := DataW.trod_int Tryd.underlying3 e1
  obtain rfl := List.cons.inj hz1 |>.1
  have e2 : DataW.trod enc Tryd.prog W 0 (fun _ => true) held m 3 [c2] = some y2 := by have q := hf 2 _ rfl; rw [show (Tryd.prog).cellsOf _ = 1 from by kernel_rfl] at q; exact q
  have w2 : (y2.1.weights Tryd.prog 3).all (· ≤ reachBytes) = true := hw2 2 _ _ rfl rfl
  obtain ⟨z2, hz2, _, q2⟩ := DataW.trod_int Tryd.underlying3 e2
  obtain rfl := List.cons.inj hz2 |>.1
  have e3 : DataW.trod enc Tryd.prog W 0 (fun _ => true) held m 3 [c3] = some y3 := by have q := hf 3 _ rfl; rw [show (Tryd.prog).cellsOf _ = 1 from by kernel_rfl] at q; exact q
  have w3 : (y3.1.weights Tryd.prog 3).all (· ≤ reachBytes) = true := hw2 3 _ _ rfl rfl
  obtain ⟨z3, hz3, _, q3⟩ := DataW.trod_int Tryd.underlying3 e3
  obtain rfl := List.cons.inj hz3 |>.1
  have e4 : DataW.trod enc Tryd.prog W 0 (fun _ => true) held m 3 [c4] = some y4 := by have q := hf 4 _ rfl; rw [show (Tryd.prog).cellsOf _ = 1 from by kernel_rfl] at q; exact q
  have w4 : (y4.1.weights Tryd.prog 3).all (· ≤ reachBytes) = true := hw2 4 _ _ rfl rfl
  obtain ⟨z4, hz4, _, q4⟩ := DataW.trod_int Tryd.underlying3 e4
  obtain rfl := List.cons.inj hz4 |>.1
  have e5 : DataW.trod enc Tryd.prog W 0 (fun _ => true) held m 9 [c5] = some y5 := by have q := hf 5 _ rfl; rw [show (Tryd.prog).cellsOf _ = 1 from by kernel_rfl] at q; exact q
  have w5 : (y5.1.weights Tryd.prog 9).all (· ≤ reachBytes) = true := hw2 5 _ _ rfl rfl
  obtain ⟨z5, hz5, hy5, _⟩ := DataW.trod_string Tryd.underlying9 e5
  obtain rfl := List.cons.inj hz5 |>.1
  exact ⟨⟨z0, z1, z2, z3, z4, z5⟩, rfl, ⟨wf_i64 q0, wf_i64 q1, wf_i64 q2, wf_i64 q3, wf_i64 q4, str_reach hy5 w5⟩⟩
structure Wf_Ask (x : T_Ask) : Prop where
  h0 : x.I.length * 56 ≤ 140737488351232
  h1 : ∀ z ∈ x.I, Wf_Ins z
  h2 : x.S.length * 16 ≤ 140737488351232
  h3 : ∀ z ∈ x.S, z.size ≤ 140737488351232
theorem in_Ask {H : Type} {enc : TypeId × Value → H} {W : World} {held : Bool} {n : Nat} {cs : List Value} {y : (DataW H × List MemPlace)} (h : DataW.trod enc Tryd.prog W 0 (fun _ => true) held n 25 cs = some y) (hw : (y.1.weights Tryd.prog 25).all (· ≤ reachBytes) = true) : ∃ x : T_Ask, Wf_Ask x ∧ ∃ (v0 v1 : Value), cs = [v0, v1] ∧ SlT (all W) enc_Ins 6 x.I v0 ∧ SlT (all W) enc_string 1 x.S v1 := by
  obtain ⟨xs, m, _, rfl, hl, hlen, hf⟩ := DataW.trod_struct Tryd.underlying25 h
  rw [show (Tryd.prog).cellsOf 25 = 2 from by kernel_rfl] at hl
  obtain ⟨c0, c1, rfl⟩ := list_of2 hl
  obtain ⟨y0, y1, rfl⟩ := list_of2 hlen
  have hw2 := weights_agg Tryd.underlying25 hw
  have e0 : DataW.trod enc Tryd.prog W 0 (fun _ => true) held m 22 [c0] = some y0 := by have q := hf 0 _ rfl; rw [show (Tryd.prog).cellsOf _ = 1 from by kernel_rfl] at q; exact q
  have w0 : (y0.1.weights Tryd.prog 22).all (· ≤ reachBytes) = true := hw2 0 _ _ rfl rfl
  obtain ⟨z0, s0, b0, g0⟩ := slice_in (α := T_Ins) (encα := enc_Ins) (sz := 6) (Wf := fun z => Wf_Ins z) Tryd.underlying22 (by kernel_rfl) (by decide) enc_len_Ins (fun n cs y h hw => in_Ins h hw) e0 w0
  have e1 : DataW.trod enc Tryd.prog W 0 (fun _ => true) held m 23 [c1] = some y1 := by have q := hf 1 _ rfl; rw [show (Tryd.prog).cellsOf _ = 1 from by kernel_rfl] at q; exact q
  have w1 : (y1.1.weights Tryd.prog 23).all (· ≤ reachBytes) = true := hw2 1 _ _ rfl rfl
  obtain ⟨z1, s1, b1, g1⟩ := slice_in (α := ByteArray) (encα := enc_string) (sz := 1) (Wf := fun z => z.size ≤ 140737488351232) Tryd.underlying23 (by kernel_rfl) (by decide) enc_len_string (fun n cs y h hw => by obtain ⟨z, hz, hy, _⟩ := DataW.trod_string Tryd.underlying9 h; exact ⟨z, hz, str_reach hy hw⟩) e1 w1
  exact ⟨⟨z0, z1⟩, ⟨by have := b0; rw [show (Tryd.prog).bytesOf _ = 56 from by kernel_rfl] at this; exact this, g0, by have := b1; rw [show (Tryd.prog).bytesOf _ = 16 from by kernel_rfl] at this; exact this, g1⟩, _, _, rfl, s0, s1⟩
end Go.Proofs.YtaplgcdpppcajaaDoor
