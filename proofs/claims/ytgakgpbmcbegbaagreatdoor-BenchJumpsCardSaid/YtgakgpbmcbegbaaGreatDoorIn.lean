/- What comes in. Printed by lift.py. -/
import Derived.Test.YtgakgpbmcbegbaaGreatDoorProg
import Derived.Test.YtgakgpbmcbegbaaGreatDoorInN
import Derived.Test.YtgakgpbmcbegbaaGreatDoorTy
import Derived.KernelRfl
namespace Go.Proofs.YtgakgpbmcbegbaaGreatDoor
open Go Go.RowKit Go.ChangeShapes Go.WideShapes Fr
set_option linter.unusedVariables false
set_option linter.unusedSimpArgs false
set_option maxRecDepth 20000
theorem list_of2 {α : Type} {l : List α} (h : l.length = 2) : ∃ c0 c1, l = [c0, c1] := by
  match l, h with
  | [c0, c1], _ => exact ⟨c0, c1, rfl⟩
theorem list_of3 {α : Type} {l : List α} (h : l.length = 3) : ∃ c0 c1 c2, l = [c0, c1, c2] := by
  match l, h with
  | [c0, c1, c2], _ => exact ⟨c0, c1, c2, rfl⟩
structure Wf_Source (x : T_Source) : Prop where
  h0 : x.Texts.length * 16 ≤ 140737488351232
  h1 : ∀ z ∈ x.Texts, z.size ≤ 140737488351232
theorem in_Source {H : Type} {enc : TypeId × Value → H} {W : World} {held : Bool} {n : Nat} {cs : List Value} {y : (DataW H × List MemPlace)} (h : DataW.trod enc Tryz.prog W 0 (fun _ => true) held n 34 cs = some y) (hw : (y.1.weights Tryz.prog 34).all (· ≤ reachBytes) = true) : ∃ x : T_Source, Wf_Source x ∧ ∃ (v1 : Value), cs = [.bool x.Archive, v1] ∧ SlT (all W) enc_string 1 x.Texts v1 := by
  obtain ⟨xs, m, _, rfl, hl, hlen, hf⟩ := DataW.trod_struct Tryz.underlying34 h
  rw [show (Tryz.prog).cellsOf 34 = 2 from by kernel_rfl] at hl
  obtain ⟨c0, c1, rfl⟩ := list_of2 hl
  obtain ⟨y0, y1, rfl⟩ := list_of2 hlen
  have hw2 := weights_agg Tryz.underlying34 hw
  have e0 : DataW.trod enc Tryz.prog W 0 (fun _ => true) held m 4 [c0] = some y0 := by have q := hf 0 _ rfl; rw [show (Tryz.prog).cellsOf _ = 1 from by kernel_rfl] at q; exact q
  have w0 : (y0.1.weights Tryz.prog 4).all (· ≤ reachBytes) = true := hw2 0 _ _ rfl rfl
  obtain ⟨z0, hz0, _⟩ := DataW.trod_bool Tryz.underlying4 e0
  obtain rfl := List.cons.inj hz0 |>.1
  have e1 : DataW.trod enc Tryz.prog W 0 (fun _ => true) held m 32 [c1] = some y1 := by have q := hf 1 _ rfl; rw [show (Tryz.prog).cellsOf _ = 1 from by kernel_rfl] at q; exact q
  have w1 : (y1.1.weights Tryz.prog 32).all (· ≤ reachBytes) = true := hw2 1 _ _ rfl rfl
  obtain ⟨z1, s1, b1, g1⟩ := slice_in (α := ByteArray) (encα := enc_string) (sz := 1) (Wf := fun z => z.size ≤ 140737488351232) Tryz.underlying32 (by kernel_rfl) (by decide) enc_len_string (fun n cs y h hw => by obtain ⟨z, hz, hy, _⟩ := DataW.trod_string Tryz.underlying9 h; exact ⟨z, hz, str_reach hy hw⟩) e1 w1
  exact ⟨⟨z0, z1⟩, ⟨by have := b1; rw [show (Tryz.prog).bytesOf _ = 16 from by kernel_rfl] at this; exact this, g1⟩, _, rfl, s1⟩
structure Wf_Ask (x : T_Ask) : Prop where
  h0 : x.S.length * 32 ≤ 140737488351232
  h1 : ∀ z ∈ x.S, Wf_Source z
  h2 : x.In_.length * 4 ≤ 140737488351232
  h3 : ∀ z ∈ x.In_, 0 ≤ z ∧ z ≤ 4294967295
  h4 : -9223372036854775808 ≤ x.N ∧ x.N ≤ 9223372036854775807
theorem in_Ask {H : Type} {enc : TypeId × Value → H} {W : World} {held : Bool} {n : Nat} {cs : List Value} {y : (DataW H × List MemPlace)} (h : DataW.trod enc Tryz.prog W 0 (fun _ => true) held n 25 cs = some y) (hw : (y.1.weights Tryz.prog 25).all (· ≤ reachBytes) = true) : ∃ x : T_Ask, Wf_Ask x ∧ ∃ (v0 v1 : Value), cs = [v0, v1, .int .i64 x.N] ∧ SlN (all W) Rc_Source 2 x.S v0 ∧ SlT (all W) enc_uint32 1 x.In_ v1 := by
  obtain ⟨xs, m, _, rfl, hl, hlen, hf⟩ := DataW.trod_struct Tryz.underlying25 h
  rw [show (Tryz.prog).cellsOf 25 = 3 from by kernel_rfl] at hl
  obtain ⟨c0, c1, c2, rfl⟩ := list_of3 hl
  obtain ⟨y0, y1, y2, rfl⟩ := list_of3 hlen
  have hw2 := weights_agg Tryz.underlying25 hw
  have e0 : DataW.trod enc Tryz.prog W 0 (fun _ => true) held m 22 [c0] = some y0 := by have q := hf 0 _ rfl; rw [show (Tryz.prog).cellsOf _ = 1 from by kernel_rfl] at q; exact q
  have w0 : (y0.1.weights Tryz.prog 22).all (· ≤ reachBytes) = true := hw2 0 _ _ rfl rfl
  obtain ⟨z0, s0, b0, g0⟩ := slice_inN (α := T_Source) (R := Rc_Source) (sz := 2) (Wf := fun z => Wf_Source z) Tryz.underlying22 (by kernel_rfl) (by decide) (fun n cs y h hw => by obtain ⟨x, g, v1, hz, q1⟩ := in_Source h hw; subst hz; exact ⟨x, ⟨v1, rfl, q1⟩, g, rfl, one_Source q1.one⟩) e0 w0
  have e1 : DataW.trod enc Tryz.prog W 0 (fun _ => true) held m 23 [c1] = some y1 := by have q := hf 1 _ rfl; rw [show (Tryz.prog).cellsOf _ = 1 from by kernel_rfl] at q; exact q
  have w1 : (y1.1.weights Tryz.prog 23).all (· ≤ reachBytes) = true := hw2 1 _ _ rfl rfl
  obtain ⟨z1, s1, b1, g1⟩ := slice_in (α := Int) (encα := enc_uint32) (sz := 1) (Wf := fun z => 0 ≤ z ∧ z ≤ 4294967295) Tryz.underlying23 (by kernel_rfl) (by decide) enc_len_uint32 (fun n cs y h _ => by obtain ⟨z, hz, _, q⟩ := DataW.trod_int Tryz.underlying31 h; exact ⟨z, hz, wf_u32 q⟩) e1 w1
  have e2 : DataW.trod enc Tryz.prog W 0 (fun _ => true) held m 3 [c2] = some y2 := by have q := hf 2 _ rfl; rw [show (Tryz.prog).cellsOf _ = 1 from by kernel_rfl] at q; exact q
  have w2 : (y2.1.weights Tryz.prog 3).all (· ≤ reachBytes) = true := hw2 2 _ _ rfl rfl
  obtain ⟨z2, hz2, _, q2⟩ := DataW.trod_int Tryz.underlying3 e2
  obtain rfl := List.cons.inj hz2 |>.1
  exact ⟨⟨z0, z1, z2⟩, ⟨by have := b0; rw [show (Tryz.prog).bytesOf _ = 32 from by kernel_rfl] at this; exact this, g0, by have := b1; rw [show (Tryz.prog).bytesOf _ = 4 from by kernel_rfl] at this; exact this, g1, wf_i64 q2⟩, _, _, rfl, s0, s1⟩
end Go.Proofs.YtgakgpbmcbegbaaGreatDoor
