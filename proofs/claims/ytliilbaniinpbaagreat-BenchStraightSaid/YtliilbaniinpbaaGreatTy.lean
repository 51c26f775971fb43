/- Types. Printed by lift.py. -/
import Derived.Test.YtliilbaniinpbaaGreatProg
import Derived.Test.YtliilbaniinpbaaGreatNest
import Derived.Test.YtliilbaniinpbaaGreatOwnN
import Derived.Test.YtliilbaniinpbaaGreatMore2
import Derived.Test.YtliilbaniinpbaaGreatAppZ
import Derived.Test.YtliilbaniinpbaaGreatCopy
import Derived.Test.YtliilbaniinpbaaGreatClear
import Derived.Test.YtliilbaniinpbaaGreatStr
import Derived.Test.YtliilbaniinpbaaGreatByte
import Derived.Test.YtliilbaniinpbaaGreatSq2
import Derived.KernelRfl
namespace Go.Proofs.YtliilbaniinpbaaGreat
open Go Go.RowKit Fr
set_option linter.unusedVariables false
set_option linter.unusedSimpArgs false
set_option maxRecDepth 20000
structure T_Ins where
  Op : Int
  D : Int
  A : Int
  B : Int
  Imm : Int
  Sym : ByteArray
structure T_Item where
  Label : ByteArray
  Ins : T_Ins
structure T_Symbol where
  Name : ByteArray
  Code : Bool
  Place : Int
  Global : Bool
structure T_Write where
  Reg : Int
  Value : Int
  Left : Int
structure T_Block where
  Labels : (List ByteArray)
  Ins : (List T_Ins)
  Last : T_Ins
structure T_Edge where
  From : Int
  To : Int
  Dist : Int
structure T_Fix where
  Place : Int
  Slot : Int
  Sym : ByteArray
structure T_Flat where
  Code : (List T_Ins)
  Data : (List Int)
  Entry : Int
structure T_Image where
  Code : (List (A4 T_Ins))
  Data : (List Int)
  Entry : Int
structure T_Object where
  Code : (List (A4 T_Ins))
  Data : (List Int)
  Symbols : (List T_Symbol)
  Fixes : (List T_Fix)
structure T_Source where
  Archive : Bool
  Texts : (List ByteArray)
structure T_State where
  Regs : (List Int)
  Mem : (List Int)
  In_ : (List Int)
  Taken : Int
  Out : (List Int)
  PC : Int
  Stack : (List Int)
  Stop : Int
  Fly : (List T_Write)
  Jump : Int
  Delay : Int
structure T_Value where
  Sym : ByteArray
  N : Int
structure T_Unit where
  Code : (List T_Item)
  Data : (List T_Value)
  Labels : (List T_Symbol)
  Globals : (List ByteArray)
structure T_Verdict where
  Steps : Int
  Cycles : Int
  Seq : Int
  Pipe : Int
  Same : Bool
  Begins : Bool
structure T_Ask where
  S : (List T_Source)
  In_ : (List Int)
  N : Int
structure T_deed where
  has : Bool
  result : Int
  jumps : Bool
  to : Int
  stop : Int
abbrev enc_A5_int (x : (A5 Int)) : List Value := [.int .i64 x.x0, .int .i64 x.x1, .int .i64 x.x2, .int .i64 x.x3, .int .i64 x.x4]
theorem el_api_Block : El Tryz.prog 71 74 8 104 := El.mk' (z := .agg #[.slice none 0 0, .slice none 0 0, .int .i64 0, .int .i64 0, .int .i64 0, .int .i64 0, .int .i64 0, .string ByteArray.empty]) Tryz.underlying71 (by kernel_rfl) rfl
abbrev enc_Bundle (x : (A4 T_Ins)) : List Value := [.int .i64 x.x0.Op, .int .i64 x.x0.D, .int .i64 x.x0.A, .int .i64 x.x0.B, .int .i64 x.x0.Imm, .string x.x0.Sym, .int .i64 x.x1.Op, .int .i64 x.x1.D, .int .i64 x.x1.A, .int .i64 x.x1.B, .int .i64 x.x1.Imm, .string x.x1.Sym, .int .i64 x.x2.Op, .int .i64 x.x2.D, .int .i64 x.x2.A, .int .i64 x.x2.B, .int .i64 x.x2.Imm, .string x.x2.Sym, .int .i64 x.x3.Op, .int .i64 x.x3.D, .int .i64 x.x3.A, .int .i64 x.x3.B, .int .i64 x.x3.Imm, .string x.x3.Sym]
theorem enc_len_Bundle : ∀ z, (enc_Bundle z).length = 24 := fun _ => rfl
theorem enc_one_Bundle (z : (A4 T_Ins)) : ∀ u ∈ enc_Bundle z, u.oneCell' = true := by intro u hu; simp only [List.mem_cons, List.not_mem_nil, or_false] at hu; rcases hu with rfl | rfl | rfl | rfl | rfl | rfl | rfl | rfl | rfl | rfl | rfl | rfl | rfl | rfl | rfl | rfl | rfl | rfl | rfl | rfl | rfl | rfl | rfl | rfl <;> rfl
theorem enc_ones_Bundle (zs : List (A4 T_Ins)) : ∀ u ∈ zs.flatMap enc_Bundle, u.oneCell' = true := by intro u hu; obtain ⟨z, _, hz⟩ := List.mem_flatMap.1 hu; exact enc_one_Bundle z u hz
abbrev val_Bundle (x : (A4 T_Ins)) : Value := .agg (enc_Bundle x).toArray
theorem el_api_Bundle : El Tryz.prog 42 68 24 224 := El.mk' (z := .agg #[.int .i64 0, .int .i64 0, .int .i64 0, .int .i64 0, .int .i64 0, .string ByteArray.empty, .int .i64 0, .int .i64 0, .int .i64 0, .int .i64 0, .int .i64 0, .string ByteArray.empty, .int .i64 0, .int .i64 0, .int .i64 0, .int .i64 0, .int .i64 0, .string ByteArray.empty, .int .i64 0, .int .i64 0, .int .i64 0, .int .i64 0, .int .i64 0, .string ByteArray.empty]) Tryz.underlying42 (by kernel_rfl) rfl
abbrev enc_Edge (x : T_Edge) : List Value := [.int .i64 x.From, .int .i64 x.To, .int .i64 x.Dist]
theorem enc_len_Edge : ∀ z, (enc_Edge z).length = 3 := fun _ => rfl
theorem enc_one_Edge (z : T_Edge) : ∀ u ∈ enc_Edge z, u.oneCell' = true := by intro u hu; simp only [List.mem_cons, List.not_mem_nil, or_false] at hu; rcases hu with rfl | rfl | rfl <;> rfl
theorem enc_ones_Edge (zs : List T_Edge) : ∀ u ∈ zs.flatMap enc_Edge, u.oneCell' = true := by intro u hu; obtain ⟨z, _, hz⟩ := List.mem_flatMap.1 hu; exact enc_one_Edge z u hz
abbrev val_Edge (x : T_Edge) : Value := .agg (enc_Edge x).toArray
theorem el_api_Edge : El Tryz.prog 148 171 3 24 := El.mk' (z := .agg #[.int .i64 0, .int .i64 0, .int .i64 0]) Tryz.underlying148 (by kernel_rfl) rfl
abbrev enc_Fix (x : T_Fix) : List Value := [.int .i64 x.Place, .int .i64 x.Slot, .string x.Sym]
abbrev enc_Ins (x : T_Ins) : List Value := [.int .i64 x.Op, .int .i64 x.D, .int .i64 x.A, .int .i64 x.B, .int .i64 x.Imm, .string x.Sym]
theorem enc_len_Ins : ∀ z, (enc_Ins z).length = 6 := fun _ => rfl
theorem enc_one_Ins (z : T_Ins) : ∀ u ∈ enc_Ins z, u.oneCell' = true := by intro u hu; simp only [List.mem_cons, List.not_mem_nil, or_false] at hu; rcases hu with rfl | rfl | rfl | rfl | rfl | rfl <;> rfl
theorem enc_ones_Ins (zs : List T_Ins) : ∀ u ∈ zs.flatMap enc_Ins, u.oneCell' = true := by intro u hu; obtain ⟨z, _, hz⟩ := List.mem_flatMap.1 hu; exact enc_one_Ins z u hz
abbrev val_Ins (x : T_Ins) : Value := .agg (enc_Ins x).toArray
theorem el_api_Ins : El Tryz.prog 54 28 6 56 := El.mk' (z := .agg #[.int .i64 0, .int .i64 0, .int .i64 0, .int .i64 0, .int .i64 0, .string ByteArray.empty]) Tryz.underlying54 (by kernel_rfl) rfl
abbrev enc_Item (x : T_Item) : List Value := [.string x.Label, .int .i64 x.Ins.Op, .int .i64 x.Ins.D, .int .i64 x.Ins.A, .int .i64 x.Ins.B, .int .i64 x.Ins.Imm, .string x.Ins.Sym]
theorem enc_len_Item : ∀ z, (enc_Item z).length = 7 := fun _ => rfl
theorem enc_one_Item (z : T_Item) : ∀ u ∈ enc_Item z, u.oneCell' = true := by intro u hu; simp only [List.mem_cons, List.not_mem_nil, or_false] at hu; rcases hu with rfl | rfl | rfl | rfl | rfl | rfl | rfl <;> rfl
theorem enc_ones_Item (zs : List T_Item) : ∀ u ∈ zs.flatMap enc_Item, u.oneCell' = true := by intro u hu; obtain ⟨z, _, hz⟩ := List.mem_flatMap.1 hu; exact enc_one_Item z u hz
abbrev val_Item (x : T_Item) : Value := .agg (enc_Item x).toArray
theorem el_api_Item : El Tryz.prog 31 30 7 72 := El.mk' (z := .agg #[.string ByteArray.empty, .int .i64 0, .int .i64 0, .int .i64 0, .int .i64 0, .int .i64 0, .string ByteArray.empty]) Tryz.underlying31 (by kernel_rfl) rfl
theorem el_api_Object : El Tryz.prog 53 45 4 96 := El.mk' (z := .agg #[.slice none 0 0, .slice none 0 0, .slice none 0 0, .slice none 0 0]) Tryz.underlying53 (by kernel_rfl) rfl
abbrev enc_Symbol (x : T_Symbol) : List Value := [.string x.Name, .bool x.Code, .int .i64 x.Place, .bool x.Global]
theorem enc_len_Symbol : ∀ z, (enc_Symbol z).length = 4 := fun _ => rfl
theorem enc_one_Symbol (z : T_Symbol) : ∀ u ∈ enc_Symbol z, u.oneCell' = true := by intro u hu; simp only [List.mem_cons, List.not_mem_nil, or_false] at hu; rcases hu with rfl | rfl | rfl | rfl <;> rfl
theorem enc_ones_Symbol (zs : List T_Symbol) : ∀ u ∈ zs.flatMap enc_Symbol, u.oneCell' = true := by intro u hu; obtain ⟨z, _, hz⟩ := List.mem_flatMap.1 hu; exact enc_one_Symbol z u hz
abbrev val_Symbol (x : T_Symbol) : Value := .agg (enc_Symbol x).toArray
theorem el_api_Symbol : El Tryz.prog 33 78 4 40 := El.mk' (z := .agg #[.string ByteArray.empty, .bool false, .int .i64 0, .bool false]) Tryz.underlying33 (by kernel_rfl) rfl
theorem el_api_Unit : El Tryz.prog 59 35 4 96 := El.mk' (z := .agg #[.slice none 0 0, .slice none 0 0, .slice none 0 0, .slice none 0 0]) Tryz.underlying59 (by kernel_rfl) rfl
abbrev enc_Value (x : T_Value) : List Value := [.string x.Sym, .int .i64 x.N]
abbrev enc_Verdict (x : T_Verdict) : List Value := [.int .i64 x.Steps, .int .i64 x.Cycles, .int .i64 x.Seq, .int .i64 x.Pipe, .bool x.Same, .bool x.Begins]
theorem enc_one_Verdict (z : T_Verdict) : ∀ u ∈ enc_Verdict z, u.oneCell' = true := by intro u hu; simp only [List.mem_cons, List.not_mem_nil, or_false] at hu; rcases hu with rfl | rfl | rfl | rfl | rfl | rfl <;> rfl
abbrev enc_Write (x : T_Write) : List Value := [.int .i64 x.Reg, .int .u32 x.Value, .int .i64 x.Left]
theorem enc_len_Write : ∀ z, (enc_Write z).length = 3 := fun _ => rfl
theorem enc_one_Write (z : T_Write) : ∀ u ∈ enc_Write z, u.oneCell' = true := by intro u hu; simp only [List.mem_cons, List.not_mem_nil, or_false] at hu; rcases hu with rfl | rfl | rfl <;> rfl
theorem enc_ones_Write (zs : List T_Write) : ∀ u ∈ zs.flatMap enc_Write, u.oneCell' = true := by intro u hu; obtain ⟨z, _, hz⟩ := List.mem_flatMap.1 hu; exact enc_one_Write z u hz
abbrev val_Write (x : T_Write) : Value := .agg (enc_Write x).toArray
theorem el_api_Write : El Tryz.prog 102 144 3 24 := El.mk' (z := .agg #[.int .i64 0, .int .u32 0, .int .i64 0]) Tryz.underlying102 (by kernel_rfl) rfl
abbrev enc_int (x : Int) : List Value := [.int .i64 x]
theorem enc_len_int : ∀ z, (enc_int z).length = 1 := fun _ => rfl
theorem enc_one_int (z : Int) : ∀ u ∈ enc_int z, u.oneCell' = true := by intro u hu; simp only [List.mem_cons, List.not_mem_nil, or_false] at hu; rcases hu with rfl <;> rfl
theorem enc_ones_int (zs : List Int) : ∀ u ∈ zs.flatMap enc_int, u.oneCell' = true := by intro u hu; obtain ⟨z, _, hz⟩ := List.mem_flatMap.1 hu; exact enc_one_int z u hz
abbrev val_int (x : Int) : Value := .int .i64 x
theorem el_int : El Tryz.prog 37 3 1 8 := El.mk' (z := .int .i64 0) Tryz.underlying37 (by kernel_rfl) rfl
abbrev enc_deed (x : T_deed) : List Value := [.bool x.has, .int .u32 x.result, .bool x.jumps, .int .i64 x.to, .int .i64 x.stop]
theorem enc_one_deed (z : T_deed) : ∀ u ∈ enc_deed z, u.oneCell' = true := by intro u hu; simp only [List.mem_cons, List.not_mem_nil, or_false] at hu; rcases hu with rfl | rfl | rfl | rfl | rfl <;> rfl
abbrev enc_string (x : ByteArray) : List Value := [.string x]
theorem enc_len_string : ∀ z, (enc_string z).length = 1 := fun _ => rfl
theorem enc_one_string (z : ByteArray) : ∀ u ∈ enc_string z, u.oneCell' = true := by intro u hu; simp only [List.mem_cons, List.not_mem_nil, or_false] at hu; rcases hu with rfl <;> rfl
theorem enc_ones_string (zs : List ByteArray) : ∀ u ∈ zs.flatMap enc_string, u.oneCell' = true := by intro u hu; obtain ⟨z, _, hz⟩ := List.mem_flatMap.1 hu; exact enc_one_string z u hz
abbrev val_string (x : ByteArray) : Value := .string x
theorem el_string : El Tryz.prog 26 9 1 16 := El.mk' (z := .string ByteArray.empty) Tryz.underlying26 (by kernel_rfl) rfl
abbrev enc_uint32 (x : Int) : List Value := [.int .u32 x]
theorem enc_len_uint32 : ∀ z, (enc_uint32 z).length = 1 := fun _ => rfl
theorem enc_one_uint32 (z : Int) : ∀ u ∈ enc_uint32 z, u.oneCell' = true := by intro u hu; simp only [List.mem_cons, List.not_mem_nil, or_false] at hu; rcases hu with rfl <;> rfl
theorem enc_ones_uint32 (zs : List Int) : ∀ u ∈ zs.flatMap enc_uint32, u.oneCell' = true := by intro u hu; obtain ⟨z, _, hz⟩ := List.mem_flatMap.1 hu; exact enc_one_uint32 z u hz
abbrev val_uint32 (x : Int) : Value := .int .u32 x
theorem el_uint32 : El Tryz.prog 23 39 1 4 := El.mk' (z := .int .u32 0) Tryz.underlying23 (by kernel_rfl) rfl
abbrev cl_Block (v0 : Value) (v1 : Value) (x2 : Int) (x3 : Int) (x4 : Int) (x5 : Int) (x6 : Int) (x7 : ByteArray) : List Value := [v0, v1, .int .i64 x2, .int .i64 x3, .int .i64 x4, .int .i64 x5, .int .i64 x6, .string x7]
theorem one_Block {v0 : Value} {v1 : Value} {x2 : Int} {x3 : Int} {x4 : Int} {x5 : Int} {x6 : Int} {x7 : ByteArray} (h0 : v0.oneCell' = true) (h1 : v1.oneCell' = true) : ∀ u ∈ cl_Block v0 v1 x2 x3 x4 x5 x6 x7, u.oneCell' = true := by intro u hu; simp only [List.mem_cons, List.not_mem_nil, or_false] at hu; rcases hu with rfl | rfl | rfl | rfl | rfl | rfl | rfl | rfl <;> first | rfl | assumption
abbrev cl_Flat (v0 : Value) (v1 : Value) (x2 : Int) : List Value := [v0, v1, .int .i64 x2]
theorem one_Flat {v0 : Value} {v1 : Value} {x2 : Int} (h0 : v0.oneCell' = true) (h1 : v1.oneCell' = true) : ∀ u ∈ cl_Flat v0 v1 x2, u.oneCell' = true := by intro u hu; simp only [List.mem_cons, List.not_mem_nil, or_false] at hu; rcases hu with rfl | rfl | rfl <;> first | rfl | assumption
abbrev cl_Image (v0 : Value) (v1 : Value) (x2 : Int) : List Value := [v0, v1, .int .i64 x2]
theorem one_Image {v0 : Value} {v1 : Value} {x2 : Int} (h0 : v0.oneCell' = true) (h1 : v1.oneCell' = true) : ∀ u ∈ cl_Image v0 v1 x2, u.oneCell' = true := by intro u hu; simp only [List.mem_cons, List.not_mem_nil, or_false] at hu; rcases hu with rfl | rfl | rfl <;> first | rfl | assumption
abbrev cl_Object (v0 : Value) (v1 : Value) (v2 : Value) (v3 : Value) : List Value := [v0, v1, v2, v3]
theorem one_Object {v0 : Value} {v1 : Value} {v2 : Value} {v3 : Value} (h0 : v0.oneCell' = true) (h1 : v1.oneCell' = true) (h2 : v2.oneCell' = true) (h3 : v3.oneCell' = true) : ∀ u ∈ cl_Object v0 v1 v2 v3, u.oneCell' = true := by intro u hu; simp only [List.mem_cons, List.not_mem_nil, or_false] at hu; rcases hu with rfl | rfl | rfl | rfl <;> first | rfl | assumption
abbrev cl_Source (x0 : Bool) (v1 : Value) : List Value := [.bool x0, v1]
theorem one_Source {x0 : Bool} {v1 : Value} (h1 : v1.oneCell' = true) : ∀ u ∈ cl_Source x0 v1, u.oneCell' = true := by intro u hu; simp only [List.mem_cons, List.not_mem_nil, or_false] at hu; rcases hu with rfl | rfl <;> first | rfl | assumption
abbrev cl_State (v0 : Value) (v1 : Value) (v2 : Value) (x3 : Int) (v4 : Value) (x5 : Int) (v6 : Value) (x7 : Int) (v8 : Value) (x9 : Int) (x10 : Int) : List Value := [v0, v1, v2, .int .i64 x3, v4, .int .i64 x5, v6, .int .i64 x7, v8, .int .i64 x9, .int .i64 x10]
theorem one_State {v0 : Value} {v1 : Value} {v2 : Value} {x3 : Int} {v4 : Value} {x5 : Int} {v6 : Value} {x7 : Int} {v8 : Value} {x9 : Int} {x10 : Int} (h0 : v0.oneCell' = true) (h1 : v1.oneCell' = true) (h2 : v2.oneCell' = true) (h4 : v4.oneCell' = true) (h6 : v6.oneCell' = true) (h8 : v8.oneCell' = true) : ∀ u ∈ cl_State v0 v1 v2 x3 v4 x5 v6 x7 v8 x9 x10, u.oneCell' = true := by intro u hu; simp only [List.mem_cons, List.not_mem_nil, or_false] at hu; rcases hu with rfl | rfl | rfl | rfl | rfl | rfl | rfl | rfl | rfl | rfl | rfl <;> first | rfl | assumption
abbrev cl_Unit (v0 : Value) (v1 : Value) (v2 : Value) (v3 : Value) : List Value := [v0, v1, v2, v3]
theorem one_Unit {v0 : Value} {v1 : Value} {v2 : Value} {v3 : Value} (h0 : v0.oneCell' = true) (h1 : v1.oneCell' = true) (h2 : v2.oneCell' = true) (h3 : v3.oneCell' = true) : ∀ u ∈ cl_Unit v0 v1 v2 v3, u.oneCell' = true := by intro u hu; simp only [List.mem_cons, List.not_mem_nil, or_false] at hu; rcases hu with rfl | rfl | rfl | rfl <;> first | rfl | assumption
abbrev cl_Ask (v0 : Value) (v1 : Value) (x2 : Int) : List Value := [v0, v1, .int .i64 x2]
theorem mz_Bundle : ∀ i, Tryz.prog.info? 68 = some i → ∀ v, i.zero = some v → v.cells.toList = enc_Bundle (⟨(⟨(0 : Int), (0 : Int), (0 : Int), (0 : Int), (0 : Int), ByteArray.empty⟩ : T_Ins), (⟨(0 : Int), (0 : Int), (0 : Int), (0 : Int), (0 : Int), ByteArray.empty⟩ : T_Ins), (⟨(0 : Int), (0 : Int), (0 : Int), (0 : Int), (0 : Int), ByteArray.empty⟩ : T_Ins), (⟨(0 : Int), (0 : Int), (0 : Int), (0 : Int), (0 : Int), ByteArray.empty⟩ : T_Ins)⟩ : (A4 T_Ins)) := by
  intro i hi v hv
  have h : (Tryz.prog.info? 68).map (·.zero) = some (some (.agg #[.int .i64 0, .int .i64 0, .int .i64 0, .int .i64 0, .int .i64 0, .string ByteArray.empty, .int .i64 0, .int .i64 0, .int .i64 0, .int .i64 0, .int .i64 0, .string ByteArray.empty, .int .i64 0, .int .i64 0, .int .i64 0, .int .i64 0, .int .i64 0, .string ByteArray.empty, .int .i64 0, .int .i64 0, .int .i64 0, .int .i64 0, .int .i64 0, .string ByteArray.empty])) := by kernel_rfl
  rw [hi] at h
  have h2 : i.zero = some (.agg #[.int .i64 0, .int .i64 0, .int .i64 0, .int .i64 0, .int .i64 0, .string ByteArray.empty, .int .i64 0, .int .i64 0, .int .i64 0, .int .i64 0, .int .i64 0, .string ByteArray.empty, .int .i64 0, .int .i64 0, .int .i64 0, .int .i64 0, .int .i64 0, .string ByteArray.empty, .int .i64 0, .int .i64 0, .int .i64 0, .int .i64 0, .int .i64 0, .string ByteArray.empty]) := Option.some.inj h
  rw [hv] at h2
  obtain rfl := Option.some.inj h2
  rfl
theorem mz_int : ∀ i, Tryz.prog.info? 3 = some i → ∀ v, i.zero = some v → v.cells.toList = enc_int (0 : Int) := by
  intro i hi v hv
  have h : (Tryz.prog.info? 3).map (·.zero) = some (some (.int .i64 0)) := by kernel_rfl
  rw [hi] at h
  have h2 : i.zero = some (.int .i64 0) := Option.some.inj h
  rw [hv] at h2
  obtain rfl := Option.some.inj h2
  rfl
theorem mz_uint32 : ∀ i, Tryz.prog.info? 39 = some i → ∀ v, i.zero = some v → v.cells.toList = enc_uint32 (0 : Int) := by
  intro i hi v hv
  have h : (Tryz.prog.info? 39).map (·.zero) = some (some (.int .u32 0)) := by kernel_rfl
  rw [hi] at h
  have h2 : i.zero = some (.int .u32 0) := Option.some.inj h
  rw [hv] at h2
  obtain rfl := Option.some.inj h2
  rfl
theorem fa_api_Block_0 : ∀ (b o : Nat) (w : World), (Instr.fieldAt 74 (.pointer (some ⟨b, o, none⟩)) 0).run Tryz.prog w = .ok (.pointer (some ⟨b, o + 0, none⟩)) w := fieldAt_of Tryz.underlying74 rfl rfl (n := 0) (by kernel_rfl)
theorem fa_api_Block_1 : ∀ (b o : Nat) (w : World), (Instr.fieldAt 74 (.pointer (some ⟨b, o, none⟩)) 1).run Tryz.prog w = .ok (.pointer (some ⟨b, o + 1, none⟩)) w := fieldAt_of Tryz.underlying74 rfl rfl (n := 0) (by kernel_rfl)
theorem fa_api_Block_2 : ∀ (b o : Nat) (w : World), (Instr.fieldAt 74 (.pointer (some ⟨b, o, none⟩)) 2).run Tryz.prog w = .ok (.pointer (some ⟨b, o + 2, none⟩)) w := fieldAt_of Tryz.underlying74 rfl rfl (n := 5) (by kernel_rfl)
theorem fa_api_Edge_0 : ∀ (b o : Nat) (w : World), (Instr.fieldAt 171 (.pointer (some ⟨b, o, none⟩)) 0).run Tryz.prog w = .ok (.pointer (some ⟨b, o + 0, none⟩)) w := fieldAt_of Tryz.underlying171 rfl rfl (n := 0) (by kernel_rfl)
theorem fa_api_Edge_1 : ∀ (b o : Nat) (w : World), (Instr.fieldAt 171 (.pointer (some ⟨b, o, none⟩)) 1).run Tryz.prog w = .ok (.pointer (some ⟨b, o + 1, none⟩)) w := fieldAt_of Tryz.underlying171 rfl rfl (n := 0) (by kernel_rfl)
theorem fa_api_Edge_2 : ∀ (b o : Nat) (w : World), (Instr.fieldAt 171 (.pointer (some ⟨b, o, none⟩)) 2).run Tryz.prog w = .ok (.pointer (some ⟨b, o + 2, none⟩)) w := fieldAt_of Tryz.underlying171 rfl rfl (n := 0) (by kernel_rfl)
theorem fa_api_Flat_0 : ∀ (b o : Nat) (w : World), (Instr.fieldAt 56 (.pointer (some ⟨b, o, none⟩)) 0).run Tryz.prog w = .ok (.pointer (some ⟨b, o + 0, none⟩)) w := fieldAt_of Tryz.underlying56 rfl rfl (n := 0) (by kernel_rfl)
theorem fa_api_Flat_1 : ∀ (b o : Nat) (w : World), (Instr.fieldAt 56 (.pointer (some ⟨b, o, none⟩)) 1).run Tryz.prog w = .ok (.pointer (some ⟨b, o + 1, none⟩)) w := fieldAt_of Tryz.underlying56 rfl rfl (n := 0) (by kernel_rfl)
theorem fa_api_Flat_2 : ∀ (b o : Nat) (w : World), (Instr.fieldAt 56 (.pointer (some ⟨b, o, none⟩)) 2).run Tryz.prog w = .ok (.pointer (some ⟨b, o + 2, none⟩)) w := fieldAt_of Tryz.underlying56 rfl rfl (n := 0) (by kernel_rfl)
theorem fa_api_Image_0 : ∀ (b o : Nat) (w : World), (Instr.fieldAt 50 (.pointer (some ⟨b, o, none⟩)) 0).run Tryz.prog w = .ok (.pointer (some ⟨b, o + 0, none⟩)) w := fieldAt_of Tryz.underlying50 rfl rfl (n := 0) (by kernel_rfl)
theorem fa_api_Image_1 : ∀ (b o : Nat) (w : World), (Instr.fieldAt 50 (.pointer (some ⟨b, o, none⟩)) 1).run Tryz.prog w = .ok (.pointer (some ⟨b, o + 1, none⟩)) w := fieldAt_of Tryz.underlying50 rfl rfl (n := 0) (by kernel_rfl)
theorem fa_api_Image_2 : ∀ (b o : Nat) (w : World), (Instr.fieldAt 50 (.pointer (some ⟨b, o, none⟩)) 2).run Tryz.prog w = .ok (.pointer (some ⟨b, o + 2, none⟩)) w := fieldAt_of Tryz.underlying50 rfl rfl (n := 0) (by kernel_rfl)
theorem fa_api_Ins_0 : ∀ (b o : Nat) (w : World), (Instr.fieldAt 28 (.pointer (some ⟨b, o, none⟩)) 0).run Tryz.prog w = .ok (.pointer (some ⟨b, o + 0, none⟩)) w := fieldAt_of Tryz.underlying28 rfl rfl (n := 0) (by kernel_rfl)
theorem fa_api_Ins_1 : ∀ (b o : Nat) (w : World), (Instr.fieldAt 28 (.pointer (some ⟨b, o, none⟩)) 1).run Tryz.prog w = .ok (.pointer (some ⟨b, o + 1, none⟩)) w := fieldAt_of Tryz.underlying28 rfl rfl (n := 0) (by kernel_rfl)
theorem fa_api_Ins_2 : ∀ (b o : Nat) (w : World), (Instr.fieldAt 28 (.pointer (some ⟨b, o, none⟩)) 2).run Tryz.prog w = .ok (.pointer (some ⟨b, o + 2, none⟩)) w := fieldAt_of Tryz.underlying28 rfl rfl (n := 0) (by kernel_rfl)
theorem fa_api_Ins_3 : ∀ (b o : Nat) (w : World), (Instr.fieldAt 28 (.pointer (some ⟨b, o, none⟩)) 3).run Tryz.prog w = .ok (.pointer (some ⟨b, o + 3, none⟩)) w := fieldAt_of Tryz.underlying28 rfl rfl (n := 0) (by kernel_rfl)
theorem fa_api_Ins_4 : ∀ (b o : Nat) (w : World), (Instr.fieldAt 28 (.pointer (some ⟨b, o, none⟩)) 4).run Tryz.prog w = .ok (.pointer (some ⟨b, o + 4, none⟩)) w := fieldAt_of Tryz.underlying28 rfl rfl (n := 0) (by kernel_rfl)
theorem fa_api_Ins_5 : ∀ (b o : Nat) (w : World), (Instr.fieldAt 28 (.pointer (some ⟨b, o, none⟩)) 5).run Tryz.prog w = .ok (.pointer (some ⟨b, o + 5, none⟩)) w := fieldAt_of Tryz.underlying28 rfl rfl (n := 0) (by kernel_rfl)
theorem fa_api_Item_0 : ∀ (b o : Nat) (w : World), (Instr.fieldAt 30 (.pointer (some ⟨b, o, none⟩)) 0).run Tryz.prog w = .ok (.pointer (some ⟨b, o + 0, none⟩)) w := fieldAt_of Tryz.underlying30 rfl rfl (n := 0) (by kernel_rfl)
theorem fa_api_Item_1 : ∀ (b o : Nat) (w : World), (Instr.fieldAt 30 (.pointer (some ⟨b, o, none⟩)) 1).run Tryz.prog w = .ok (.pointer (some ⟨b, o + 1, none⟩)) w := fieldAt_of Tryz.underlying30 rfl rfl (n := 5) (by kernel_rfl)
theorem fa_api_Object_0 : ∀ (b o : Nat) (w : World), (Instr.fieldAt 45 (.pointer (some ⟨b, o, none⟩)) 0).run Tryz.prog w = .ok (.pointer (some ⟨b, o + 0, none⟩)) w := fieldAt_of Tryz.underlying45 rfl rfl (n := 0) (by kernel_rfl)
theorem fa_api_Object_1 : ∀ (b o : Nat) (w : World), (Instr.fieldAt 45 (.pointer (some ⟨b, o, none⟩)) 1).run Tryz.prog w = .ok (.pointer (some ⟨b, o + 1, none⟩)) w := fieldAt_of Tryz.underlying45 rfl rfl (n := 0) (by kernel_rfl)
theorem fa_api_Object_2 : ∀ (b o : Nat) (w : World), (Instr.fieldAt 45 (.pointer (some ⟨b, o, none⟩)) 2).run Tryz.prog w = .ok (.pointer (some ⟨b, o + 2, none⟩)) w := fieldAt_of Tryz.underlying45 rfl rfl (n := 0) (by kernel_rfl)
theorem fa_api_Object_3 : ∀ (b o : Nat) (w : World), (Instr.fieldAt 45 (.pointer (some ⟨b, o, none⟩)) 3).run Tryz.prog w = .ok (.pointer (some ⟨b, o + 3, none⟩)) w := fieldAt_of Tryz.underlying45 rfl rfl (n := 0) (by kernel_rfl)
theorem fa_api_State_0 : ∀ (b o : Nat) (w : World), (Instr.fieldAt 104 (.pointer (some ⟨b, o, none⟩)) 0).run Tryz.prog w = .ok (.pointer (some ⟨b, o + 0, none⟩)) w := fieldAt_of Tryz.underlying104 rfl rfl (n := 0) (by kernel_rfl)
theorem fa_api_State_1 : ∀ (b o : Nat) (w : World), (Instr.fieldAt 104 (.pointer (some ⟨b, o, none⟩)) 1).run Tryz.prog w = .ok (.pointer (some ⟨b, o + 1, none⟩)) w := fieldAt_of Tryz.underlying104 rfl rfl (n := 0) (by kernel_rfl)
theorem fa_api_State_2 : ∀ (b o : Nat) (w : World), (Instr.fieldAt 104 (.pointer (some ⟨b, o, none⟩)) 2).run Tryz.prog w = .ok (.pointer (some ⟨b, o + 2, none⟩)) w := fieldAt_of Tryz.underlying104 rfl rfl (n := 0) (by kernel_rfl)
theorem fa_api_State_3 : ∀ (b o : Nat) (w : World), (Instr.fieldAt 104 (.pointer (some ⟨b, o, none⟩)) 3).run Tryz.prog w = .ok (.pointer (some ⟨b, o + 3, none⟩)) w := fieldAt_of Tryz.underlying104 rfl rfl (n := 0) (by kernel_rfl)
theorem fa_api_State_4 : ∀ (b o : Nat) (w : World), (Instr.fieldAt 104 (.pointer (some ⟨b, o, none⟩)) 4).run Tryz.prog w = .ok (.pointer (some ⟨b, o + 4, none⟩)) w := fieldAt_of Tryz.underlying104 rfl rfl (n := 0) (by kernel_rfl)
theorem fa_api_State_5 : ∀ (b o : Nat) (w : World), (Instr.fieldAt 104 (.pointer (some ⟨b, o, none⟩)) 5).run Tryz.prog w = .ok (.pointer (some ⟨b, o + 5, none⟩)) w := fieldAt_of Tryz.underlying104 rfl rfl (n := 0) (by kernel_rfl)
theorem fa_api_State_6 : ∀ (b o : Nat) (w : World), (Instr.fieldAt 104 (.pointer (some ⟨b, o, none⟩)) 6).run Tryz.prog w = .ok (.pointer (some ⟨b, o + 6, none⟩)) w := fieldAt_of Tryz.underlying104 rfl rfl (n := 0) (by kernel_rfl)
theorem fa_api_State_7 : ∀ (b o : Nat) (w : World), (Instr.fieldAt 104 (.pointer (some ⟨b, o, none⟩)) 7).run Tryz.prog w = .ok (.pointer (some ⟨b, o + 7, none⟩)) w := fieldAt_of Tryz.underlying104 rfl rfl (n := 0) (by kernel_rfl)
theorem fa_api_State_8 : ∀ (b o : Nat) (w : World), (Instr.fieldAt 104 (.pointer (some ⟨b, o, none⟩)) 8).run Tryz.prog w = .ok (.pointer (some ⟨b, o + 8, none⟩)) w := fieldAt_of Tryz.underlying104 rfl rfl (n := 0) (by kernel_rfl)
theorem fa_api_State_9 : ∀ (b o : Nat) (w : World), (Instr.fieldAt 104 (.pointer (some ⟨b, o, none⟩)) 9).run Tryz.prog w = .ok (.pointer (some ⟨b, o + 9, none⟩)) w := fieldAt_of Tryz.underlying104 rfl rfl (n := 0) (by kernel_rfl)
theorem fa_api_State_10 : ∀ (b o : Nat) (w : World), (Instr.fieldAt 104 (.pointer (some ⟨b, o, none⟩)) 10).run Tryz.prog w = .ok (.pointer (some ⟨b, o + 10, none⟩)) w := fieldAt_of Tryz.underlying104 rfl rfl (n := 0) (by kernel_rfl)
theorem fa_api_Symbol_0 : ∀ (b o : Nat) (w : World), (Instr.fieldAt 78 (.pointer (some ⟨b, o, none⟩)) 0).run Tryz.prog w = .ok (.pointer (some ⟨b, o + 0, none⟩)) w := fieldAt_of Tryz.underlying78 rfl rfl (n := 0) (by kernel_rfl)
theorem fa_api_Symbol_1 : ∀ (b o : Nat) (w : World), (Instr.fieldAt 78 (.pointer (some ⟨b, o, none⟩)) 1).run Tryz.prog w = .ok (.pointer (some ⟨b, o + 1, none⟩)) w := fieldAt_of Tryz.underlying78 rfl rfl (n := 0) (by kernel_rfl)
theorem fa_api_Symbol_2 : ∀ (b o : Nat) (w : World), (Instr.fieldAt 78 (.pointer (some ⟨b, o, none⟩)) 2).run Tryz.prog w = .ok (.pointer (some ⟨b, o + 2, none⟩)) w := fieldAt_of Tryz.underlying78 rfl rfl (n := 0) (by kernel_rfl)
theorem fa_api_Symbol_3 : ∀ (b o : Nat) (w : World), (Instr.fieldAt 78 (.pointer (some ⟨b, o, none⟩)) 3).run Tryz.prog w = .ok (.pointer (some ⟨b, o + 3, none⟩)) w := fieldAt_of Tryz.underlying78 rfl rfl (n := 0) (by kernel_rfl)
theorem fa_api_Unit_0 : ∀ (b o : Nat) (w : World), (Instr.fieldAt 35 (.pointer (some ⟨b, o, none⟩)) 0).run Tryz.prog w = .ok (.pointer (some ⟨b, o + 0, none⟩)) w := fieldAt_of Tryz.underlying35 rfl rfl (n := 0) (by kernel_rfl)
theorem fa_api_Unit_1 : ∀ (b o : Nat) (w : World), (Instr.fieldAt 35 (.pointer (some ⟨b, o, none⟩)) 1).run Tryz.prog w = .ok (.pointer (some ⟨b, o + 1, none⟩)) w := fieldAt_of Tryz.underlying35 rfl rfl (n := 0) (by kernel_rfl)
theorem fa_api_Unit_2 : ∀ (b o : Nat) (w : World), (Instr.fieldAt 35 (.pointer (some ⟨b, o, none⟩)) 2).run Tryz.prog w = .ok (.pointer (some ⟨b, o + 2, none⟩)) w := fieldAt_of Tryz.underlying35 rfl rfl (n := 0) (by kernel_rfl)
theorem fa_api_Unit_3 : ∀ (b o : Nat) (w : World), (Instr.fieldAt 35 (.pointer (some ⟨b, o, none⟩)) 3).run Tryz.prog w = .ok (.pointer (some ⟨b, o + 3, none⟩)) w := fieldAt_of Tryz.underlying35 rfl rfl (n := 0) (by kernel_rfl)
theorem fa_api_Verdict_0 : ∀ (b o : Nat) (w : World), (Instr.fieldAt 61 (.pointer (some ⟨b, o, none⟩)) 0).run Tryz.prog w = .ok (.pointer (some ⟨b, o + 0, none⟩)) w := fieldAt_of Tryz.underlying61 rfl rfl (n := 0) (by kernel_rfl)
theorem fa_api_Verdict_1 : ∀ (b o : Nat) (w : World), (Instr.fieldAt 61 (.pointer (some ⟨b, o, none⟩)) 1).run Tryz.prog w = .ok (.pointer (some ⟨b, o + 1, none⟩)) w := fieldAt_of Tryz.underlying61 rfl rfl (n := 0) (by kernel_rfl)
theorem fa_api_Verdict_4 : ∀ (b o : Nat) (w : World), (Instr.fieldAt 61 (.pointer (some ⟨b, o, none⟩)) 4).run Tryz.prog w = .ok (.pointer (some ⟨b, o + 4, none⟩)) w := fieldAt_of Tryz.underlying61 rfl rfl (n := 0) (by kernel_rfl)
theorem fa_api_Verdict_5 : ∀ (b o : Nat) (w : World), (Instr.fieldAt 61 (.pointer (some ⟨b, o, none⟩)) 5).run Tryz.prog w = .ok (.pointer (some ⟨b, o + 5, none⟩)) w := fieldAt_of Tryz.underlying61 rfl rfl (n := 0) (by kernel_rfl)
theorem fa_api_Write_0 : ∀ (b o : Nat) (w : World), (Instr.fieldAt 144 (.pointer (some ⟨b, o, none⟩)) 0).run Tryz.prog w = .ok (.pointer (some ⟨b, o + 0, none⟩)) w := fieldAt_of Tryz.underlying144 rfl rfl (n := 0) (by kernel_rfl)
theorem fa_api_Write_1 : ∀ (b o : Nat) (w : World), (Instr.fieldAt 144 (.pointer (some ⟨b, o, none⟩)) 1).run Tryz.prog w = .ok (.pointer (some ⟨b, o + 1, none⟩)) w := fieldAt_of Tryz.underlying144 rfl rfl (n := 0) (by kernel_rfl)
theorem fa_api_Write_2 : ∀ (b o : Nat) (w : World), (Instr.fieldAt 144 (.pointer (some ⟨b, o, none⟩)) 2).run Tryz.prog w = .ok (.pointer (some ⟨b, o + 2, none⟩)) w := fieldAt_of Tryz.underlying144 rfl rfl (n := 0) (by kernel_rfl)
theorem fa_sledgelaw22_Ask_2 : ∀ (b o : Nat) (w : World), (Instr.fieldAt 25 (.pointer (some ⟨b, o, none⟩)) 2).run Tryz.prog w = .ok (.pointer (some ⟨b, o + 2, none⟩)) w := fieldAt_of Tryz.underlying25 rfl rfl (n := 0) (by kernel_rfl)
theorem fa_sledgeref5_deed_0 : ∀ (b o : Nat) (w : World), (Instr.fieldAt 166 (.pointer (some ⟨b, o, none⟩)) 0).run Tryz.prog w = .ok (.pointer (some ⟨b, o + 0, none⟩)) w := fieldAt_of Tryz.underlying166 rfl rfl (n := 0) (by kernel_rfl)
theorem fa_sledgeref5_deed_1 : ∀ (b o : Nat) (w : World), (Instr.fieldAt 166 (.pointer (some ⟨b, o, none⟩)) 1).run Tryz.prog w = .ok (.pointer (some ⟨b, o + 1, none⟩)) w := fieldAt_of Tryz.underlying166 rfl rfl (n := 0) (by kernel_rfl)
theorem fa_sledgeref5_deed_2 : ∀ (b o : Nat) (w : World), (Instr.fieldAt 166 (.pointer (some ⟨b, o, none⟩)) 2).run Tryz.prog w = .ok (.pointer (some ⟨b, o + 2, none⟩)) w := fieldAt_of Tryz.underlying166 rfl rfl (n := 0) (by kernel_rfl)
theorem fa_sledgeref5_deed_4 : ∀ (b o : Nat) (w : World), (Instr.fieldAt 166 (.pointer (some ⟨b, o, none⟩)) 4).run Tryz.prog w = .ok (.pointer (some ⟨b, o + 4, none⟩)) w := fieldAt_of Tryz.underlying166 rfl rfl (n := 0) (by kernel_rfl)
theorem sz_A5_int : (Tryz.prog.info? 196).map (·.size) = some 5 := by kernel_rfl
theorem sz_S_api_Bundle : (Tryz.prog.info? 42).map (·.size) = some 1 := by kernel_rfl
theorem sz_S_api_Ins : (Tryz.prog.info? 54).map (·.size) = some 1 := by kernel_rfl
theorem sz_S_api_Item : (Tryz.prog.info? 31).map (·.size) = some 1 := by kernel_rfl
theorem sz_S_api_Symbol : (Tryz.prog.info? 33).map (·.size) = some 1 := by kernel_rfl
theorem sz_S_api_Write : (Tryz.prog.info? 102).map (·.size) = some 1 := by kernel_rfl
theorem sz_S_int : (Tryz.prog.info? 37).map (·.size) = some 1 := by kernel_rfl
theorem sz_S_string : (Tryz.prog.info? 26).map (·.size) = some 1 := by kernel_rfl
theorem sz_S_uint32 : (Tryz.prog.info? 23).map (·.size) = some 1 := by kernel_rfl
theorem sz_api_Block : (Tryz.prog.info? 74).map (·.size) = some 8 := by kernel_rfl
theorem sz_api_Bundle : (Tryz.prog.info? 68).map (·.size) = some 24 := by kernel_rfl
theorem sz_api_Flat : (Tryz.prog.info? 56).map (·.size) = some 3 := by kernel_rfl
theorem sz_api_Image : (Tryz.prog.info? 50).map (·.size) = some 3 := by kernel_rfl
theorem sz_api_Ins : (Tryz.prog.info? 28).map (·.size) = some 6 := by kernel_rfl
theorem sz_api_Item : (Tryz.prog.info? 30).map (·.size) = some 7 := by kernel_rfl
theorem sz_api_Object : (Tryz.prog.info? 45).map (·.size) = some 4 := by kernel_rfl
theorem sz_api_State : (Tryz.prog.info? 104).map (·.size) = some 11 := by kernel_rfl
theorem sz_api_Symbol : (Tryz.prog.info? 78).map (·.size) = some 4 := by kernel_rfl
theorem sz_api_Unit : (Tryz.prog.info? 35).map (·.size) = some 4 := by kernel_rfl
theorem sz_api_Verdict : (Tryz.prog.info? 61).map (·.size) = some 6 := by kernel_rfl
theorem sz_api_Write : (Tryz.prog.info? 144).map (·.size) = some 3 := by kernel_rfl
theorem sz_bool : (Tryz.prog.info? 4).map (·.size) = some 1 := by kernel_rfl
theorem sz_int : (Tryz.prog.info? 3).map (·.size) = some 1 := by kernel_rfl
theorem sz_sledgeref5_deed : (Tryz.prog.info? 166).map (·.size) = some 5 := by kernel_rfl
theorem sz_uint32 : (Tryz.prog.info? 39).map (·.size) = some 1 := by kernel_rfl
theorem zr_A5_int : (Tryz.prog.info? 196).map (·.zero) = some (some (.agg #[.int .i64 0, .int .i64 0, .int .i64 0, .int .i64 0, .int .i64 0])) := by kernel_rfl
theorem zr_api_Block : (Tryz.prog.info? 74).map (·.zero) = some (some (.agg #[.slice none 0 0, .slice none 0 0, .int .i64 0, .int .i64 0, .int .i64 0, .int .i64 0, .int .i64 0, .string ByteArray.empty])) := by kernel_rfl
theorem zr_api_Bundle : (Tryz.prog.info? 68).map (·.zero) = some (some (.agg #[.int .i64 0, .int .i64 0, .int .i64 0, .int .i64 0, .int .i64 0, .string ByteArray.empty, .int .i64 0, .int .i64 0, .int .i64 0, .int .i64 0, .int .i64 0, .string ByteArray.empty, .int .i64 0, .int .i64 0, .int .i64 0, .int .i64 0, .int .i64 0, .string ByteArray.empty, .int .i64 0, .int .i64 0, .int .i64 0, .int .i64 0, .int .i64 0, .string ByteArray.empty])) := by kernel_rfl
theorem zr_api_Flat : (Tryz.prog.info? 56).map (·.zero) = some (some (.agg #[.slice none 0 0, .slice none 0 0, .int .i64 0])) := by kernel_rfl
theorem zr_api_Image : (Tryz.prog.info? 50).map (·.zero) = some (some (.agg #[.slice none 0 0, .slice none 0 0, .int .i64 0])) := by kernel_rfl
theorem zr_api_Ins : (Tryz.prog.info? 28).map (·.zero) = some (some (.agg #[.int .i64 0, .int .i64 0, .int .i64 0, .int .i64 0, .int .i64 0, .string ByteArray.empty])) := by kernel_rfl
theorem zr_api_Item : (Tryz.prog.info? 30).map (·.zero) = some (some (.agg #[.string ByteArray.empty, .int .i64 0, .int .i64 0, .int .i64 0, .int .i64 0, .int .i64 0, .string ByteArray.empty])) := by kernel_rfl
theorem zr_api_Object : (Tryz.prog.info? 45).map (·.zero) = some (some (.agg #[.slice none 0 0, .slice none 0 0, .slice none 0 0, .slice none 0 0])) := by kernel_rfl
theorem zr_api_State : (Tryz.prog.info? 104).map (·.zero) = some (some (.agg #[.slice none 0 0, .slice none 0 0, .slice none 0 0, .int .i64 0, .slice none 0 0, .int .i64 0, .slice none 0 0, .int .i64 0, .slice none 0 0, .int .i64 0, .int .i64 0])) := by kernel_rfl
theorem zr_api_Unit : (Tryz.prog.info? 35).map (·.zero) = some (some (.agg #[.slice none 0 0, .slice none 0 0, .slice none 0 0, .slice none 0 0])) := by kernel_rfl
theorem zr_api_Verdict : (Tryz.prog.info? 61).map (·.zero) = some (some (.agg #[.int .i64 0, .int .i64 0, .int .i64 0, .int .i64 0, .bool false, .bool false])) := by kernel_rfl
theorem zr_api_Write : (Tryz.prog.info? 144).map (·.zero) = some (some (.agg #[.int .i64 0, .int .u32 0, .int .i64 0])) := by kernel_rfl
theorem zr_sledgeref5_deed : (Tryz.prog.info? 166).map (·.zero) = some (some (.agg #[.bool false, .int .u32 0, .bool false, .int .i64 0, .int .i64 0])) := by kernel_rfl
def eqb_Ins (x y : T_Ins) : Bool := decide (x.Op = y.Op) && decide (x.D = y.D) && decide (x.A = y.A) && decide (x.B = y.B) && decide (x.Imm = y.Imm) && decide (x.Sym = y.Sym)
theorem eqr_Ins (d : Nat) (x y : T_Ins) (w : World) : (Op.equalIn (d + 2) 28 (.agg (enc_Ins x).toArray) (.agg (enc_Ins y).toArray)).run Tryz.prog w = .ok (eqb_Ins x y) w := by
  have hu := Tryz.underlying28
  rw [run_equalIn_struct w (d + 1) 28 _ _ (by rw [Program.fieldsOf, hu]) (by kernel_rfl), Program.fieldsOf, hu]
  refine (eqFields_of (bs := [decide (x.Op = y.Op), decide (x.D = y.D), decide (x.A = y.A), decide (x.B = y.B), decide (x.Imm = y.Imm), decide (x.Sym = y.Sym)]) ?_).trans ?_
  · refine .cons (eqf_int Tryz.underlying3 rfl rfl (by decide)) ?_
    refine .cons (eqf_int Tryz.underlying3 rfl rfl (by decide)) ?_
    refine .cons (eqf_int Tryz.underlying3 rfl rfl (by decide)) ?_
    refine .cons (eqf_int Tryz.underlying3 rfl rfl (by decide)) ?_
    refine .cons (eqf_int Tryz.underlying3 rfl rfl (by decide)) ?_
    refine .cons (eqf_str Tryz.underlying9 rfl rfl (by decide)) ?_
    exact .nil
  · simp [eqb_Ins, Bool.and_assoc]
theorem y_neq_Ins {C : World → Prop} {l : Fm} {d : Nat} {tt : TypeId} {ps : String} {af : Array Edge} {x y : T_Ins} {a b : Operand} {t' : TypeId} (ha : ev l a = .agg (enc_Ins x).toArray := by (conv => lhs; whnf) <;> exact rfl) (hb : ev l b = .agg (enc_Ins y).toArray := by (conv => lhs; whnf) <;> exact rfl) : YV Tryz.prog C l ⟨some d, .binOp .neq 28 a b t', tt, ps, af, none⟩ (.bool (!(eqb_Ins x y))) := y_steq_neq (by kernel_rfl) (eqr_Ins 9998 x y) ha hb
def eqb_Verdict (x y : T_Verdict) : Bool := decide (x.Steps = y.Steps) && decide (x.Cycles = y.Cycles) && decide (x.Seq = y.Seq) && decide (x.Pipe = y.Pipe) && (x.Same == y.Same) && (x.Begins == y.Begins)
theorem eqr_Verdict (d : Nat) (x y : T_Verdict) (w : World) : (Op.equalIn (d + 2) 61 (.agg (enc_Verdict x).toArray) (.agg (enc_Verdict y).toArray)).run Tryz.prog w = .ok (eqb_Verdict x y) w := by
  have hu := Tryz.underlying61
  rw [run_equalIn_struct w (d + 1) 61 _ _ (by rw [Program.fieldsOf, hu]) (by kernel_rfl), Program.fieldsOf, hu]
  refine (eqFields_of (bs := [decide (x.Steps = y.Steps), decide (x.Cycles = y.Cycles), decide (x.Seq = y.Seq), decide (x.Pipe = y.Pipe), (x.Same == y.Same), (x.Begins == y.Begins)]) ?_).trans ?_
  · refine .cons (eqf_int Tryz.underlying3 rfl rfl (by decide)) ?_
    refine .cons (eqf_int Tryz.underlying3 rfl rfl (by decide)) ?_
    refine .cons (eqf_int Tryz.underlying3 rfl rfl (by decide)) ?_
    refine .cons (eqf_int Tryz.underlying3 rfl rfl (by decide)) ?_
    refine .cons (eqf_bool Tryz.underlying4 rfl rfl (by decide)) ?_
    refine .cons (eqf_bool Tryz.underlying4 rfl rfl (by decide)) ?_
    exact .nil
  · simp [eqb_Verdict, Bool.and_assoc]
theorem y_eql_Verdict {C : World → Prop} {l : Fm} {d : Nat} {tt : TypeId} {ps : String} {af : Array Edge} {x y : T_Verdict} {a b : Operand} {t' : TypeId} (ha : ev l a = .agg (enc_Verdict x).toArray := by (conv => lhs; whnf) <;> exact rfl) (hb : ev l b = .agg (enc_Verdict y).toArray := by (conv => lhs; whnf) <;> exact rfl) : YV Tryz.prog C l ⟨some d, .binOp .eql 61 a b t', tt, ps, af, none⟩ (.bool (eqb_Verdict x y)) := y_steq_eql (by kernel_rfl) (eqr_Verdict 9998 x y) ha hb
theorem bt_api_Block : BT Tryz.prog 74 [(0, 1), (1, 1), (2, 6)] [.slice none 0 0, .slice none 0 0, .int .i64 0, .int .i64 0, .int .i64 0, .int .i64 0, .int .i64 0, .string ByteArray.empty] := BT.of (z := .agg #[.slice none 0 0, .slice none 0 0, .int .i64 0, .int .i64 0, .int .i64 0, .int .i64 0, .int .i64 0, .string ByteArray.empty]) (by kernel_rfl) rfl Tryz.underlying74 (by kernel_rfl)
theorem bta_api_Bundle : BTA Tryz.prog 68 6 [.int .i64 0, .int .i64 0, .int .i64 0, .int .i64 0, .int .i64 0, .string ByteArray.empty, .int .i64 0, .int .i64 0, .int .i64 0, .int .i64 0, .int .i64 0, .string ByteArray.empty, .int .i64 0, .int .i64 0, .int .i64 0, .int .i64 0, .int .i64 0, .string ByteArray.empty, .int .i64 0, .int .i64 0, .int .i64 0, .int .i64 0, .int .i64 0, .string ByteArray.empty] := BTA.of (z := .agg #[.int .i64 0, .int .i64 0, .int .i64 0, .int .i64 0, .int .i64 0, .string ByteArray.empty, .int .i64 0, .int .i64 0, .int .i64 0, .int .i64 0, .int .i64 0, .string ByteArray.empty, .int .i64 0, .int .i64 0, .int .i64 0, .int .i64 0, .int .i64 0, .string ByteArray.empty, .int .i64 0, .int .i64 0, .int .i64 0, .int .i64 0, .int .i64 0, .string ByteArray.empty]) (by kernel_rfl) rfl Tryz.underlying68 (by kernel_rfl)
theorem bt_api_Edge : BT Tryz.prog 171 [(0, 1), (1, 1), (2, 1)] [.int .i64 0, .int .i64 0, .int .i64 0] := BT.of (z := .agg #[.int .i64 0, .int .i64 0, .int .i64 0]) (by kernel_rfl) rfl Tryz.underlying171 (by kernel_rfl)
theorem bt_api_Flat : BT Tryz.prog 56 [(0, 1), (1, 1), (2, 1)] [.slice none 0 0, .slice none 0 0, .int .i64 0] := BT.of (z := .agg #[.slice none 0 0, .slice none 0 0, .int .i64 0]) (by kernel_rfl) rfl Tryz.underlying56 (by kernel_rfl)
theorem bt_api_Image : BT Tryz.prog 50 [(0, 1), (1, 1), (2, 1)] [.slice none 0 0, .slice none 0 0, .int .i64 0] := BT.of (z := .agg #[.slice none 0 0, .slice none 0 0, .int .i64 0]) (by kernel_rfl) rfl Tryz.underlying50 (by kernel_rfl)
theorem bt_api_Ins : BT Tryz.prog 28 [(0, 1), (1, 1), (2, 1), (3, 1), (4, 1), (5, 1)] [.int .i64 0, .int .i64 0, .int .i64 0, .int .i64 0, .int .i64 0, .string ByteArray.empty] := BT.of (z := .agg #[.int .i64 0, .int .i64 0, .int .i64 0, .int .i64 0, .int .i64 0, .string ByteArray.empty]) (by kernel_rfl) rfl Tryz.underlying28 (by kernel_rfl)
theorem bt_api_Item : BT Tryz.prog 30 [(0, 1), (1, 6)] [.string ByteArray.empty, .int .i64 0, .int .i64 0, .int .i64 0, .int .i64 0, .int .i64 0, .string ByteArray.empty] := BT.of (z := .agg #[.string ByteArray.empty, .int .i64 0, .int .i64 0, .int .i64 0, .int .i64 0, .int .i64 0, .string ByteArray.empty]) (by kernel_rfl) rfl Tryz.underlying30 (by kernel_rfl)
theorem bt_api_State : BT Tryz.prog 104 [(0, 1), (1, 1), (2, 1), (3, 1), (4, 1), (5, 1), (6, 1), (7, 1), (8, 1), (9, 1), (10, 1)] [.slice none 0 0, .slice none 0 0, .slice none 0 0, .int .i64 0, .slice none 0 0, .int .i64 0, .slice none 0 0, .int .i64 0, .slice none 0 0, .int .i64 0, .int .i64 0] := BT.of (z := .agg #[.slice none 0 0, .slice none 0 0, .slice none 0 0, .int .i64 0, .slice none 0 0, .int .i64 0, .slice none 0 0, .int .i64 0, .slice none 0 0, .int .i64 0, .int .i64 0]) (by kernel_rfl) rfl Tryz.underlying104 (by kernel_rfl)
theorem bt_api_Symbol : BT Tryz.prog 78 [(0, 1), (1, 1), (2, 1), (3, 1)] [.string ByteArray.empty, .bool false, .int .i64 0, .bool false] := BT.of (z := .agg #[.string ByteArray.empty, .bool false, .int .i64 0, .bool false]) (by kernel_rfl) rfl Tryz.underlying78 (by kernel_rfl)
theorem bt_api_Unit : BT Tryz.prog 35 [(0, 1), (1, 1), (2, 1), (3, 1)] [.slice none 0 0, .slice none 0 0, .slice none 0 0, .slice none 0 0] := BT.of (z := .agg #[.slice none 0 0, .slice none 0 0, .slice none 0 0, .slice none 0 0]) (by kernel_rfl) rfl Tryz.underlying35 (by kernel_rfl)
theorem bt_api_Verdict : BT Tryz.prog 61 [(0, 1), (1, 1), (2, 1), (3, 1), (4, 1), (5, 1)] [.int .i64 0, .int .i64 0, .int .i64 0, .int .i64 0, .bool false, .bool false] := BT.of (z := .agg #[.int .i64 0, .int .i64 0, .int .i64 0, .int .i64 0, .bool false, .bool false]) (by kernel_rfl) rfl Tryz.underlying61 (by kernel_rfl)
theorem bt_api_Write : BT Tryz.prog 144 [(0, 1), (1, 1), (2, 1)] [.int .i64 0, .int .u32 0, .int .i64 0] := BT.of (z := .agg #[.int .i64 0, .int .u32 0, .int .i64 0]) (by kernel_rfl) rfl Tryz.underlying144 (by kernel_rfl)
theorem bt_sledgeref5_deed : BT Tryz.prog 166 [(0, 1), (1, 1), (2, 1), (3, 1), (4, 1)] [.bool false, .int .u32 0, .bool false, .int .i64 0, .int .i64 0] := BT.of (z := .agg #[.bool false, .int .u32 0, .bool false, .int .i64 0, .int .i64 0]) (by kernel_rfl) rfl Tryz.underlying166 (by kernel_rfl)
abbrev Rc_Block (g : Frag) (x : T_Block) (cs : List Value) : Prop := ∃ (v0 v1 : Value), cs = cl_Block v0 v1 x.Last.Op x.Last.D x.Last.A x.Last.B x.Last.Imm x.Last.Sym ∧ SlT g enc_string 1 x.Labels v0 ∧ SlT g enc_Ins 6 x.Ins v1
theorem mono_Block : Mono Rc_Block := fun hg h => by
  obtain ⟨v0, v1, h0, q0, q1⟩ := h
  exact ⟨v0, v1, h0, SlT.mono q0 hg, SlT.mono q1 hg⟩
abbrev Rc_Object (g : Frag) (x : T_Object) (cs : List Value) : Prop := ∃ (v0 v1 v2 v3 : Value), cs = cl_Object v0 v1 v2 v3 ∧ SlT g enc_Bundle 24 x.Code v0 ∧ SlT g enc_uint32 1 x.Data v1 ∧ SlT g enc_Symbol 4 x.Symbols v2 ∧ SlT g enc_Fix 3 x.Fixes v3
theorem mono_Object : Mono Rc_Object := fun hg h => by
  obtain ⟨v0, v1, v2, v3, h0, q0, q1, q2, q3⟩ := h
  exact ⟨v0, v1, v2, v3, h0, SlT.mono q0 hg, SlT.mono q1 hg, SlT.mono q2 hg, SlT.mono q3 hg⟩
abbrev Rc_Source (g : Frag) (x : T_Source) (cs : List Value) : Prop := ∃ (v1 : Value), cs = cl_Source x.Archive v1 ∧ SlT g enc_string 1 x.Texts v1
abbrev Rc_Unit (g : Frag) (x : T_Unit) (cs : List Value) : Prop := ∃ (v0 v1 v2 v3 : Value), cs = cl_Unit v0 v1 v2 v3 ∧ SlT g enc_Item 7 x.Code v0 ∧ SlT g enc_Value 2 x.Data v1 ∧ SlT g enc_Symbol 4 x.Labels v2 ∧ SlT g enc_string 1 x.Globals v3
theorem mono_Unit : Mono Rc_Unit := fun hg h => by
  obtain ⟨v0, v1, v2, v3, h0, q0, q1, q2, q3⟩ := h
  exact ⟨v0, v1, v2, v3, h0, SlT.mono q0 hg, SlT.mono q1 hg, SlT.mono q2 hg, SlT.mono q3 hg⟩
abbrev Rd_Block (g : Frag) (x : T_Block) (v : Value) : Prop := ∃ (v0 v1 : Value), v = .agg (cl_Block v0 v1 x.Last.Op x.Last.D x.Last.A x.Last.B x.Last.Imm x.Last.Sym).toArray ∧ SlT g enc_string 1 x.Labels v0 ∧ SlT g enc_Ins 6 x.Ins v1
abbrev Rd_Flat (g : Frag) (x : T_Flat) (v : Value) : Prop := ∃ (v0 v1 : Value), v = .agg (cl_Flat v0 v1 x.Entry).toArray ∧ SlT g enc_Ins 6 x.Code v0 ∧ SlT g enc_uint32 1 x.Data v1
abbrev Ow_Flat (x : T_Flat) (v : Value) (L : Own) : Prop := ∃ (v0 v1 : Value) (X0 X1 : Own), v = .agg (cl_Flat v0 v1 x.Entry).toArray ∧ L = (X0 ++ (X1 ++ [])) ∧ OwT 28 enc_Ins 6 x.Code v0 X0 ∧ OwT 39 enc_uint32 1 x.Data v1 X1
abbrev Rd_Image (g : Frag) (x : T_Image) (v : Value) : Prop := ∃ (v0 v1 : Value), v = .agg (cl_Image v0 v1 x.Entry).toArray ∧ SlT g enc_Bundle 24 x.Code v0 ∧ SlT g enc_uint32 1 x.Data v1
abbrev Ow_Image (x : T_Image) (v : Value) (L : Own) : Prop := ∃ (v0 v1 : Value) (X0 X1 : Own), v = .agg (cl_Image v0 v1 x.Entry).toArray ∧ L = (X0 ++ (X1 ++ [])) ∧ OwT 68 enc_Bundle 24 x.Code v0 X0 ∧ OwT 39 enc_uint32 1 x.Data v1 X1
abbrev Rd_Object (g : Frag) (x : T_Object) (v : Value) : Prop := ∃ (v0 v1 v2 v3 : Value), v = .agg (cl_Object v0 v1 v2 v3).toArray ∧ SlT g enc_Bundle 24 x.Code v0 ∧ SlT g enc_uint32 1 x.Data v1 ∧ SlT g enc_Symbol 4 x.Symbols v2 ∧ SlT g enc_Fix 3 x.Fixes v3
abbrev Ow_Object (x : T_Object) (v : Value) (L : Own) : Prop := ∃ (v0 v1 v2 v3 : Value) (X0 X1 X2 X3 : Own), v = .agg (cl_Object v0 v1 v2 v3).toArray ∧ L = (X0 ++ (X1 ++ (X2 ++ (X3 ++ [])))) ∧ OwT 68 enc_Bundle 24 x.Code v0 X0 ∧ OwT 39 enc_uint32 1 x.Data v1 X1 ∧ OwT 78 enc_Symbol 4 x.Symbols v2 X2 ∧ OwT 81 enc_Fix 3 x.Fixes v3 X3
abbrev Rd_State (g : Frag) (x : T_State) (v : Value) : Prop := ∃ (v0 v1 v2 v4 v6 v8 : Value), v = .agg (cl_State v0 v1 v2 x.Taken v4 x.PC v6 x.Stop v8 x.Jump x.Delay).toArray ∧ SlT g enc_uint32 1 x.Regs v0 ∧ SlT g enc_uint32 1 x.Mem v1 ∧ SlT g enc_uint32 1 x.In_ v2 ∧ SlT g enc_uint32 1 x.Out v4 ∧ SlT g enc_int 1 x.Stack v6 ∧ SlT g enc_Write 3 x.Fly v8
abbrev Ow_State (x : T_State) (v : Value) (L : Own) : Prop := ∃ (v0 v1 v2 v4 v6 v8 : Value) (X0 X1 X2 X4 X6 X8 : Own), v = .agg (cl_State v0 v1 v2 x.Taken v4 x.PC v6 x.Stop v8 x.Jump x.Delay).toArray ∧ L = (X0 ++ (X1 ++ (X2 ++ (X4 ++ (X6 ++ (X8 ++ [])))))) ∧ OwT 39 enc_uint32 1 x.Regs v0 X0 ∧ OwT 39 enc_uint32 1 x.Mem v1 X1 ∧ OwT 39 enc_uint32 1 x.In_ v2 X2 ∧ OwT 39 enc_uint32 1 x.Out v4 X4 ∧ OwT 3 enc_int 1 x.Stack v6 X6 ∧ OwT 144 enc_Write 3 x.Fly v8 X8
abbrev Bx_State (b : Nat) (x : T_State) (L : Own) : Prop := ∃ (v0 v1 v2 v4 v6 v8 : Value) (X0 X1 X2 X4 X6 X8 : Own), L = (b, blk (cl_State v0 v1 v2 x.Taken v4 x.PC v6 x.Stop v8 x.Jump x.Delay) 104) :: (X0 ++ (X1 ++ (X2 ++ (X4 ++ (X6 ++ (X8 ++ [])))))) ∧ OwT 39 enc_uint32 1 x.Regs v0 X0 ∧ OwT 39 enc_uint32 1 x.Mem v1 X1 ∧ OwT 39 enc_uint32 1 x.In_ v2 X2 ∧ OwT 39 enc_uint32 1 x.Out v4 X4 ∧ OwT 3 enc_int 1 x.Stack v6 X6 ∧ OwT 144 enc_Write 3 x.Fly v8 X8
abbrev Rd_Unit (g : Frag) (x : T_Unit) (v : Value) : Prop := ∃ (v0 v1 v2 v3 : Value), v = .agg (cl_Unit v0 v1 v2 v3).toArray ∧ SlT g enc_Item 7 x.Code v0 ∧ SlT g enc_Value 2 x.Data v1 ∧ SlT g enc_Symbol 4 x.Labels v2 ∧ SlT g enc_string 1 x.Globals v3
abbrev Rd_Ask (g : Frag) (x : T_Ask) (v : Value) : Prop := ∃ (v0 v1 : Value), v = .agg (cl_Ask v0 v1 x.N).toArray ∧ SlN g Rc_Source 2 x.S v0 ∧ SlT g enc_uint32 1 x.In_ v1
theorem ud196 : type_of% Tryz.underlying196 := Tryz.underlying196
theorem ud71 : type_of% Tryz.underlying71 := Tryz.underlying71
theorem ud42 : type_of% Tryz.underlying42 := Tryz.underlying42
theorem ud148 : type_of% Tryz.underlying148 := Tryz.underlying148
theorem ud43 : type_of% Tryz.underlying43 := Tryz.underlying43
theorem ud54 : type_of% Tryz.underlying54 := Tryz.underlying54
theorem ud31 : type_of% Tryz.underlying31 := Tryz.underlying31
theorem ud53 : type_of% Tryz.underlying53 := Tryz.underlying53
theorem ud33 : type_of% Tryz.underlying33 := Tryz.underlying33
theorem ud59 : type_of% Tryz.underlying59 := Tryz.underlying59
theorem ud32 : type_of% Tryz.underlying32 := Tryz.underlying32
theorem ud102 : type_of% Tryz.underlying102 := Tryz.underlying102
theorem ud37 : type_of% Tryz.underlying37 := Tryz.underlying37
theorem ud26 : type_of% Tryz.underlying26 := Tryz.underlying26
theorem ud23 : type_of% Tryz.underlying23 := Tryz.underlying23
theorem ud4 : type_of% Tryz.underlying4 := Tryz.underlying4
theorem ud205 : type_of% Tryz.underlying205 := Tryz.underlying205
theorem ud206 : type_of% Tryz.underlying206 := Tryz.underlying206
theorem ud21 : type_of% Tryz.underlying21 := Tryz.underlying21
theorem ud2 : type_of% Tryz.underlying2 := Tryz.underlying2
theorem ud3 : type_of% Tryz.underlying3 := Tryz.underlying3
theorem ud74 : type_of% Tryz.underlying74 := Tryz.underlying74
theorem ud68 : type_of% Tryz.underlying68 := Tryz.underlying68
theorem ud56 : type_of% Tryz.underlying56 := Tryz.underlying56
theorem ud50 : type_of% Tryz.underlying50 := Tryz.underlying50
theorem ud28 : type_of% Tryz.underlying28 := Tryz.underlying28
theorem ud30 : type_of% Tryz.underlying30 := Tryz.underlying30
theorem ud45 : type_of% Tryz.underlying45 := Tryz.underlying45
theorem ud104 : type_of% Tryz.underlying104 := Tryz.underlying104
theorem ud78 : type_of% Tryz.underlying78 := Tryz.underlying78
theorem ud35 : type_of% Tryz.underlying35 := Tryz.underlying35
theorem ud61 : type_of% Tryz.underlying61 := Tryz.underlying61
theorem ud144 : type_of% Tryz.underlying144 := Tryz.underlying144
theorem ud166 : type_of% Tryz.underlying166 := Tryz.underlying166
theorem ud9 : type_of% Tryz.underlying9 := Tryz.underlying9
theorem ud207 : type_of% Tryz.underlying207 := Tryz.underlying207
theorem ud39 : type_of% Tryz.underlying39 := Tryz.underlying39
end Go.Proofs.YtliilbaniinpbaaGreat
