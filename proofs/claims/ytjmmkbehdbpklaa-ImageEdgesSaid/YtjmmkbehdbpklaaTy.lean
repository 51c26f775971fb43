/- Types. Printed by lift.py. -/
import Derived.Test.YtjmmkbehdbpklaaProg
import Derived.Test.YtjmmkbehdbpklaaNest
import Derived.Test.YtjmmkbehdbpklaaCopy
import Derived.Test.YtjmmkbehdbpklaaClear
import Derived.Test.YtjmmkbehdbpklaaStr
import Derived.Test.YtjmmkbehdbpklaaByte
import Derived.KernelRfl
namespace Go.Proofs.Ytjmmkbehdbpklaa
open Go Go.RowKit Fr
set_option linter.unusedVariables false
set_option linter.unusedSimpArgs false
set_option maxRecDepth 20000
structure T_Ins where
  Op : Int
  D : Int
  A : Int
  B : Int
  Imm : Int
  Sym : ByteArray
structure T_Flat where
  Code : (List T_Ins)
  Data : (List Int)
  Entry : Int
structure T_Image where
  Code : (List (A4 T_Ins))
  Data : (List Int)
  Entry : Int
structure T_Symbol where
  Name : ByteArray
  Code : Bool
  Place : Int
  Global : Bool
structure T_Fix where
  Place : Int
  Slot : Int
  Sym : ByteArray
structure T_Object where
  Code : (List (A4 T_Ins))
  Data : (List Int)
  Symbols : (List T_Symbol)
  Fixes : (List T_Fix)
structure T_Write where
  Reg : Int
  Value : Int
  Left : Int
structure T_State where
  Regs : (List Int)
  Mem : (List Int)
  In_ : (List Int)
  Taken : Int
  Out : (List Int)
  PC : Int
  Stack : (List Int)
  Stop : Int
  Fly : (List T_Write)
  Jump : Int
  Delay : Int
structure T_Item where
  Label : ByteArray
  Ins : T_Ins
structure T_Value where
  Sym : ByteArray
  N : Int
structure T_Unit where
  Code : (List T_Item)
  Data : (List T_Value)
  Labels : (List T_Symbol)
  Globals : (List ByteArray)
structure T_Reader where
  s : ByteArray
  Bad : Bool
structure T_Ask where
  S : (List ByteArray)
  U : (List T_Unit)
structure T_Ask16 where
  U : T_Ask
  O : (List T_Object)
structure T_Ask20 where
  E : T_Ask16
  X : (List T_Image)
  F : (List T_Flat)
  In_ : (List Int)
abbrev enc_Bundle (x : (A4 T_Ins)) : List Value := [.int .i64 x.x0.Op, .int .i64 x.x0.D, .int .i64 x.x0.A, .int .i64 x.x0.B, .int .i64 x.x0.Imm, .string x.x0.Sym, .int .i64 x.x1.Op, .int .i64 x.x1.D, .int .i64 x.x1.A, .int .i64 x.x1.B, .int .i64 x.x1.Imm, .string x.x1.Sym, .int .i64 x.x2.Op, .int .i64 x.x2.D, .int .i64 x.x2.A, .int .i64 x.x2.B, .int .i64 x.x2.Imm, .string x.x2.Sym, .int .i64 x.x3.Op, .int .i64 x.x3.D, .int .i64 x.x3.A, .int .i64 x.x3.B, .int .i64 x.x3.Imm, .string x.x3.Sym]
theorem enc_len_Bundle : ∀ z, (enc_Bundle z).length = 24 := fun _ => rfl
theorem enc_one_Bundle (z : (A4 T_Ins)) : ∀ u ∈ enc_Bundle z, u.oneCell' = true := by intro u hu; simp only [List.mem_cons, List.not_mem_nil, or_false] at hu; rcases hu with rfl | rfl | rfl | rfl | rfl | rfl | rfl | rfl | rfl | rfl | rfl | rfl | rfl | rfl | rfl | rfl | rfl | rfl | rfl | rfl | rfl | rfl | rfl | rfl <;> rfl
theorem enc_ones_Bundle (zs : List (A4 T_Ins)) : ∀ u ∈ zs.flatMap enc_Bundle, u.oneCell' = true := by intro u hu; obtain ⟨z, _, hz⟩ := List.mem_flatMap.1 hu; exact enc_one_Bundle z u hz
abbrev val_Bundle (x : (A4 T_Ins)) : Value := .agg (enc_Bundle x).toArray
theorem el_api_Bundle : El Try.prog 34 80 24 224 := El.mk' (z := .agg #[.int .i64 0, .int .i64 0, .int .i64 0, .int .i64 0, .int .i64 0, .string ByteArray.empty, .int .i64 0, .int .i64 0, .int .i64 0, .int .i64 0, .int .i64 0, .string ByteArray.empty, .int .i64 0, .int .i64 0, .int .i64 0, .int .i64 0, .int .i64 0, .string ByteArray.empty, .int .i64 0, .int .i64 0, .int .i64 0, .int .i64 0, .int .i64 0, .string ByteArray.empty]) Try.underlying34 (by kernel_rfl) rfl
abbrev enc_Fix (x : T_Fix) : List Value := [.int .i64 x.Place, .int .i64 x.Slot, .string x.Sym]
theorem enc_len_Fix : ∀ z, (enc_Fix z).length = 3 := fun _ => rfl
theorem enc_one_Fix (z : T_Fix) : ∀ u ∈ enc_Fix z, u.oneCell' = true := by intro u hu; simp only [List.mem_cons, List.not_mem_nil, or_false] at hu; rcases hu with rfl | rfl | rfl <;> rfl
theorem enc_ones_Fix (zs : List T_Fix) : ∀ u ∈ zs.flatMap enc_Fix, u.oneCell' = true := by intro u hu; obtain ⟨z, _, hz⟩ := List.mem_flatMap.1 hu; exact enc_one_Fix z u hz
abbrev val_Fix (x : T_Fix) : Value := .agg (enc_Fix x).toArray
theorem el_api_Fix : El Try.prog 148 161 3 32 := El.mk' (z := .agg #[.int .i64 0, .int .i64 0, .string ByteArray.empty]) Try.underlying148 (by kernel_rfl) rfl
theorem el_api_Flat : El Try.prog 30 153 3 56 := El.mk' (z := .agg #[.slice none 0 0, .slice none 0 0, .int .i64 0]) Try.underlying30 (by kernel_rfl) rfl
theorem el_api_Image : El Try.prog 29 37 3 56 := El.mk' (z := .agg #[.slice none 0 0, .slice none 0 0, .int .i64 0]) Try.underlying29 (by kernel_rfl) rfl
abbrev enc_Ins (x : T_Ins) : List Value := [.int .i64 x.Op, .int .i64 x.D, .int .i64 x.A, .int .i64 x.B, .int .i64 x.Imm, .string x.Sym]
theorem enc_len_Ins : ∀ z, (enc_Ins z).length = 6 := fun _ => rfl
theorem enc_one_Ins (z : T_Ins) : ∀ u ∈ enc_Ins z, u.oneCell' = true := by intro u hu; simp only [List.mem_cons, List.not_mem_nil, or_false] at hu; rcases hu with rfl | rfl | rfl | rfl | rfl | rfl <;> rfl
theorem enc_ones_Ins (zs : List T_Ins) : ∀ u ∈ zs.flatMap enc_Ins, u.oneCell' = true := by intro u hu; obtain ⟨z, _, hz⟩ := List.mem_flatMap.1 hu; exact enc_one_Ins z u hz
abbrev val_Ins (x : T_Ins) : Value := .agg (enc_Ins x).toArray
theorem el_api_Ins : El Try.prog 151 78 6 56 := El.mk' (z := .agg #[.int .i64 0, .int .i64 0, .int .i64 0, .int .i64 0, .int .i64 0, .string ByteArray.empty]) Try.underlying151 (by kernel_rfl) rfl
abbrev enc_Item (x : T_Item) : List Value := [.string x.Label, .int .i64 x.Ins.Op, .int .i64 x.Ins.D, .int .i64 x.Ins.A, .int .i64 x.Ins.B, .int .i64 x.Ins.Imm, .string x.Ins.Sym]
theorem enc_len_Item : ∀ z, (enc_Item z).length = 7 := fun _ => rfl
theorem enc_one_Item (z : T_Item) : ∀ u ∈ enc_Item z, u.oneCell' = true := by intro u hu; simp only [List.mem_cons, List.not_mem_nil, or_false] at hu; rcases hu with rfl | rfl | rfl | rfl | rfl | rfl | rfl <;> rfl
theorem enc_ones_Item (zs : List T_Item) : ∀ u ∈ zs.flatMap enc_Item, u.oneCell' = true := by intro u hu; obtain ⟨z, _, hz⟩ := List.mem_flatMap.1 hu; exact enc_one_Item z u hz
abbrev val_Item (x : T_Item) : Value := .agg (enc_Item x).toArray
theorem el_api_Item : El Try.prog 143 155 7 72 := El.mk' (z := .agg #[.string ByteArray.empty, .int .i64 0, .int .i64 0, .int .i64 0, .int .i64 0, .int .i64 0, .string ByteArray.empty]) Try.underlying143 (by kernel_rfl) rfl
theorem el_api_Object : El Try.prog 26 150 4 96 := El.mk' (z := .agg #[.slice none 0 0, .slice none 0 0, .slice none 0 0, .slice none 0 0]) Try.underlying26 (by kernel_rfl) rfl
abbrev enc_Symbol (x : T_Symbol) : List Value := [.string x.Name, .bool x.Code, .int .i64 x.Place, .bool x.Global]
theorem enc_len_Symbol : ∀ z, (enc_Symbol z).length = 4 := fun _ => rfl
theorem enc_one_Symbol (z : T_Symbol) : ∀ u ∈ enc_Symbol z, u.oneCell' = true := by intro u hu; simp only [List.mem_cons, List.not_mem_nil, or_false] at hu; rcases hu with rfl | rfl | rfl | rfl <;> rfl
theorem enc_ones_Symbol (zs : List T_Symbol) : ∀ u ∈ zs.flatMap enc_Symbol, u.oneCell' = true := by intro u hu; obtain ⟨z, _, hz⟩ := List.mem_flatMap.1 hu; exact enc_one_Symbol z u hz
abbrev val_Symbol (x : T_Symbol) : Value := .agg (enc_Symbol x).toArray
theorem el_api_Symbol : El Try.prog 145 159 4 40 := El.mk' (z := .agg #[.string ByteArray.empty, .bool false, .int .i64 0, .bool false]) Try.underlying145 (by kernel_rfl) rfl
theorem el_api_Unit : El Try.prog 23 147 4 96 := El.mk' (z := .agg #[.slice none 0 0, .slice none 0 0, .slice none 0 0, .slice none 0 0]) Try.underlying23 (by kernel_rfl) rfl
abbrev enc_Value (x : T_Value) : List Value := [.string x.Sym, .int .i64 x.N]
theorem enc_len_Value : ∀ z, (enc_Value z).length = 2 := fun _ => rfl
theorem enc_one_Value (z : T_Value) : ∀ u ∈ enc_Value z, u.oneCell' = true := by intro u hu; simp only [List.mem_cons, List.not_mem_nil, or_false] at hu; rcases hu with rfl | rfl <;> rfl
theorem enc_ones_Value (zs : List T_Value) : ∀ u ∈ zs.flatMap enc_Value, u.oneCell' = true := by intro u hu; obtain ⟨z, _, hz⟩ := List.mem_flatMap.1 hu; exact enc_one_Value z u hz
abbrev val_Value (x : T_Value) : Value := .agg (enc_Value x).toArray
theorem el_api_Value : El Try.prog 144 157 2 24 := El.mk' (z := .agg #[.string ByteArray.empty, .int .i64 0]) Try.underlying144 (by kernel_rfl) rfl
abbrev enc_Write (x : T_Write) : List Value := [.int .i64 x.Reg, .int .u32 x.Value, .int .i64 x.Left]
theorem enc_len_Write : ∀ z, (enc_Write z).length = 3 := fun _ => rfl
theorem enc_one_Write (z : T_Write) : ∀ u ∈ enc_Write z, u.oneCell' = true := by intro u hu; simp only [List.mem_cons, List.not_mem_nil, or_false] at hu; rcases hu with rfl | rfl | rfl <;> rfl
theorem enc_ones_Write (zs : List T_Write) : ∀ u ∈ zs.flatMap enc_Write, u.oneCell' = true := by intro u hu; obtain ⟨z, _, hz⟩ := List.mem_flatMap.1 hu; exact enc_one_Write z u hz
abbrev val_Write (x : T_Write) : Value := .agg (enc_Write x).toArray
theorem el_api_Write : El Try.prog 42 102 3 24 := El.mk' (z := .agg #[.int .i64 0, .int .u32 0, .int .i64 0]) Try.underlying42 (by kernel_rfl) rfl
abbrev enc_int (x : Int) : List Value := [.int .i64 x]
theorem enc_len_int : ∀ z, (enc_int z).length = 1 := fun _ => rfl
theorem enc_one_int (z : Int) : ∀ u ∈ enc_int z, u.oneCell' = true := by intro u hu; simp only [List.mem_cons, List.not_mem_nil, or_false] at hu; rcases hu with rfl <;> rfl
theorem enc_ones_int (zs : List Int) : ∀ u ∈ zs.flatMap enc_int, u.oneCell' = true := by intro u hu; obtain ⟨z, _, hz⟩ := List.mem_flatMap.1 hu; exact enc_one_int z u hz
abbrev val_int (x : Int) : Value := .int .i64 x
theorem el_int : El Try.prog 35 3 1 8 := El.mk' (z := .int .i64 0) Try.underlying35 (by kernel_rfl) rfl
abbrev enc_Reader (x : T_Reader) : List Value := [.string x.s, .bool x.Bad]
theorem enc_len_Reader : ∀ z, (enc_Reader z).length = 2 := fun _ => rfl
theorem enc_one_Reader (z : T_Reader) : ∀ u ∈ enc_Reader z, u.oneCell' = true := by intro u hu; simp only [List.mem_cons, List.not_mem_nil, or_false] at hu; rcases hu with rfl | rfl <;> rfl
theorem enc_ones_Reader (zs : List T_Reader) : ∀ u ∈ zs.flatMap enc_Reader, u.oneCell' = true := by intro u hu; obtain ⟨z, _, hz⟩ := List.mem_flatMap.1 hu; exact enc_one_Reader z u hz
abbrev val_Reader (x : T_Reader) : Value := .agg (enc_Reader x).toArray
abbrev enc_string (x : ByteArray) : List Value := [.string x]
theorem enc_len_string : ∀ z, (enc_string z).length = 1 := fun _ => rfl
theorem enc_one_string (z : ByteArray) : ∀ u ∈ enc_string z, u.oneCell' = true := by intro u hu; simp only [List.mem_cons, List.not_mem_nil, or_false] at hu; rcases hu with rfl <;> rfl
theorem enc_ones_string (zs : List ByteArray) : ∀ u ∈ zs.flatMap enc_string, u.oneCell' = true := by intro u hu; obtain ⟨z, _, hz⟩ := List.mem_flatMap.1 hu; exact enc_one_string z u hz
abbrev val_string (x : ByteArray) : Value := .string x
theorem el_string : El Try.prog 22 9 1 16 := El.mk' (z := .string ByteArray.empty) Try.underlying22 (by kernel_rfl) rfl
abbrev enc_uint32 (x : Int) : List Value := [.int .u32 x]
theorem enc_len_uint32 : ∀ z, (enc_uint32 z).length = 1 := fun _ => rfl
theorem enc_one_uint32 (z : Int) : ∀ u ∈ enc_uint32 z, u.oneCell' = true := by intro u hu; simp only [List.mem_cons, List.not_mem_nil, or_false] at hu; rcases hu with rfl <;> rfl
theorem enc_ones_uint32 (zs : List Int) : ∀ u ∈ zs.flatMap enc_uint32, u.oneCell' = true := by intro u hu; obtain ⟨z, _, hz⟩ := List.mem_flatMap.1 hu; exact enc_one_uint32 z u hz
abbrev val_uint32 (x : Int) : Value := .int .u32 x
theorem el_uint32 : El Try.prog 31 38 1 4 := El.mk' (z := .int .u32 0) Try.underlying31 (by kernel_rfl) rfl
abbrev enc_uint8 (x : Int) : List Value := [.int .u8 x]
theorem enc_len_uint8 : ∀ z, (enc_uint8 z).length = 1 := fun _ => rfl
theorem enc_one_uint8 (z : Int) : ∀ u ∈ enc_uint8 z, u.oneCell' = true := by intro u hu; simp only [List.mem_cons, List.not_mem_nil, or_false] at hu; rcases hu with rfl <;> rfl
theorem enc_ones_uint8 (zs : List Int) : ∀ u ∈ zs.flatMap enc_uint8, u.oneCell' = true := by intro u hu; obtain ⟨z, _, hz⟩ := List.mem_flatMap.1 hu; exact enc_one_uint8 z u hz
abbrev val_uint8 (x : Int) : Value := .int .u8 x
theorem el_uint8 : El Try.prog 83 5 1 1 := El.mk' (z := .int .u8 0) Try.underlying83 (by kernel_rfl) rfl
abbrev cl_Flat (v0 : Value) (v1 : Value) (x2 : Int) : List Value := [v0, v1, .int .i64 x2]
theorem one_Flat {v0 : Value} {v1 : Value} {x2 : Int} (h0 : v0.oneCell' = true) (h1 : v1.oneCell' = true) : ∀ u ∈ cl_Flat v0 v1 x2, u.oneCell' = true := by intro u hu; simp only [List.mem_cons, List.not_mem_nil, or_false] at hu; rcases hu with rfl | rfl | rfl <;> first | rfl | assumption
abbrev cl_Image (v0 : Value) (v1 : Value) (x2 : Int) : List Value := [v0, v1, .int .i64 x2]
theorem one_Image {v0 : Value} {v1 : Value} {x2 : Int} (h0 : v0.oneCell' = true) (h1 : v1.oneCell' = true) : ∀ u ∈ cl_Image v0 v1 x2, u.oneCell' = true := by intro u hu; simp only [List.mem_cons, List.not_mem_nil, or_false] at hu; rcases hu with rfl | rfl | rfl <;> first | rfl | assumption
abbrev cl_Object (v0 : Value) (v1 : Value) (v2 : Value) (v3 : Value) : List Value := [v0, v1, v2, v3]
theorem one_Object {v0 : Value} {v1 : Value} {v2 : Value} {v3 : Value} (h0 : v0.oneCell' = true) (h1 : v1.oneCell' = true) (h2 : v2.oneCell' = true) (h3 : v3.oneCell' = true) : ∀ u ∈ cl_Object v0 v1 v2 v3, u.oneCell' = true := by intro u hu; simp only [List.mem_cons, List.not_mem_nil, or_false] at hu; rcases hu with rfl | rfl | rfl | rfl <;> first | rfl | assumption
abbrev cl_State (v0 : Value) (v1 : Value) (v2 : Value) (x3 : Int) (v4 : Value) (x5 : Int) (v6 : Value) (x7 : Int) (v8 : Value) (x9 : Int) (x10 : Int) : List Value := [v0, v1, v2, .int .i64 x3, v4, .int .i64 x5, v6, .int .i64 x7, v8, .int .i64 x9, .int .i64 x10]
theorem one_State {v0 : Value} {v1 : Value} {v2 : Value} {x3 : Int} {v4 : Value} {x5 : Int} {v6 : Value} {x7 : Int} {v8 : Value} {x9 : Int} {x10 : Int} (h0 : v0.oneCell' = true) (h1 : v1.oneCell' = true) (h2 : v2.oneCell' = true) (h4 : v4.oneCell' = true) (h6 : v6.oneCell' = true) (h8 : v8.oneCell' = true) : ∀ u ∈ cl_State v0 v1 v2 x3 v4 x5 v6 x7 v8 x9 x10, u.oneCell' = true := by intro u hu; simp only [List.mem_cons, List.not_mem_nil, or_false] at hu; rcases hu with rfl | rfl | rfl | rfl | rfl | rfl | rfl | rfl | rfl | rfl | rfl <;> first | rfl | assumption
abbrev cl_Unit (v0 : Value) (v1 : Value) (v2 : Value) (v3 : Value) : List Value := [v0, v1, v2, v3]
theorem one_Unit {v0 : Value} {v1 : Value} {v2 : Value} {v3 : Value} (h0 : v0.oneCell' = true) (h1 : v1.oneCell' = true) (h2 : v2.oneCell' = true) (h3 : v3.oneCell' = true) : ∀ u ∈ cl_Unit v0 v1 v2 v3, u.oneCell' = true := by intro u hu; simp only [List.mem_cons, List.not_mem_nil, or_false] at hu; rcases hu with rfl | rfl | rfl | rfl <;> first | rfl | assumption
abbrev cl_Ask (v0 : Value) (v1 : Value) : List Value := [v0, v1]
theorem one_Ask {v0 : Value} {v1 : Value} (h0 : v0.oneCell' = true) (h1 : v1.oneCell' = true) : ∀ u ∈ cl_Ask v0 v1, u.oneCell' = true := by intro u hu; simp only [List.mem_cons, List.not_mem_nil, or_false] at hu; rcases hu with rfl | rfl <;> first | rfl | assumption
abbrev cl_Ask16 (v0 : Value) (v1 : Value) (v2 : Value) : List Value := [v0, v1, v2]
theorem one_Ask16 {v0 : Value} {v1 : Value} {v2 : Value} (h0 : v0.oneCell' = true) (h1 : v1.oneCell' = true) (h2 : v2.oneCell' = true) : ∀ u ∈ cl_Ask16 v0 v1 v2, u.oneCell' = true := by intro u hu; simp only [List.mem_cons, List.not_mem_nil, or_false] at hu; rcases hu with rfl | rfl | rfl <;> first | rfl | assumption
abbrev cl_Ask20 (v0 : Value) (v1 : Value) (v2 : Value) (v3 : Value) (v4 : Value) (v5 : Value) : List Value := [v0, v1, v2, v3, v4, v5]
theorem one_Ask20 {v0 : Value} {v1 : Value} {v2 : Value} {v3 : Value} {v4 : Value} {v5 : Value} (h0 : v0.oneCell' = true) (h1 : v1.oneCell' = true) (h2 : v2.oneCell' = true) (h3 : v3.oneCell' = true) (h4 : v4.oneCell' = true) (h5 : v5.oneCell' = true) : ∀ u ∈ cl_Ask20 v0 v1 v2 v3 v4 v5, u.oneCell' = true := by intro u hu; simp only [List.mem_cons, List.not_mem_nil, or_false] at hu; rcases hu with rfl | rfl | rfl | rfl | rfl | rfl <;> first | rfl | assumption
theorem mz_Bundle : ∀ i, Try.prog.info? 80 = some i → ∀ v, i.zero = some v → v.cells.toList = enc_Bundle (⟨(⟨(0 : Int), (0 : Int), (0 : Int), (0 : Int), (0 : Int), ByteArray.empty⟩ : T_Ins), (⟨(0 : Int), (0 : Int), (0 : Int), (0 : Int), (0 : Int), ByteArray.empty⟩ : T_Ins), (⟨(0 : Int), (0 : Int), (0 : Int), (0 : Int), (0 : Int), ByteArray.empty⟩ : T_Ins), (⟨(0 : Int), (0 : Int), (0 : Int), (0 : Int), (0 : Int), ByteArray.empty⟩ : T_Ins)⟩ : (A4 T_Ins)) := by
  intro i hi v hv
  have h : (Try.prog.info? 80).map (·.zero) = some (some (.agg #[.int .i64 0, .int .i64 0, .int .i64 0, .int .i64 0, .int .i64 0, .string ByteArray.empty, .int .i64 0, .int .i64 0, .int .i64 0, .int .i64 0, .int .i64 0, .string ByteArray.empty, .int .i64 0, .int .i64 0, .int .i64 0, .int .i64 0, .int .i64 0, .string ByteArray.empty, .int .i64 0, .int .i64 0, .int .i64 0, .int .i64 0, .int .i64 0, .string ByteArray.empty])) := by kernel_rfl
  rw [hi] at h
  have h2 : i.zero = some (.agg #[.int .i64 0, .int .i64 0, .int .i64 0, .int .i64 0, .int .i64 0, .string ByteArray.empty, .int .i64 0, .int .i64 0, .int .i64 0, .int .i64 0, .int .i64 0, .string ByteArray.empty, .int .i64 0, .int .i64 0, .int .i64 0, .int .i64 0, .int .i64 0, .string ByteArray.empty, .int .i64 0, .int .i64 0, .int .i64 0, .int .i64 0, .int .i64 0, .string ByteArray.empty]) := Option.some.inj h
  rw [hv] at h2
  obtain rfl := Option.some.inj h2
  rfl
theorem mz_uint32 : ∀ i, Try.prog.info? 38 = some i → ∀ v, i.zero = some v → v.cells.toList = enc_uint32 (0 : Int) := by
  intro i hi v hv
  have h : (Try.prog.info? 38).map (·.zero) = some (some (.int .u32 0)) := by kernel_rfl
  rw [hi] at h
  have h2 : i.zero = some (.int .u32 0) := Option.some.inj h
  rw [hv] at h2
  obtain rfl := Option.some.inj h2
  rfl
theorem fa_api_Image_0 : ∀ (b o : Nat) (w : World), (Instr.fieldAt 37 (.pointer (some ⟨b, o, none⟩)) 0).run Try.prog w = .ok (.pointer (some ⟨b, o + 0, none⟩)) w := fieldAt_of Try.underlying37 rfl rfl (n := 0) (by kernel_rfl)
theorem fa_api_Image_1 : ∀ (b o : Nat) (w : World), (Instr.fieldAt 37 (.pointer (some ⟨b, o, none⟩)) 1).run Try.prog w = .ok (.pointer (some ⟨b, o + 1, none⟩)) w := fieldAt_of Try.underlying37 rfl rfl (n := 0) (by kernel_rfl)
theorem fa_api_Image_2 : ∀ (b o : Nat) (w : World), (Instr.fieldAt 37 (.pointer (some ⟨b, o, none⟩)) 2).run Try.prog w = .ok (.pointer (some ⟨b, o + 2, none⟩)) w := fieldAt_of Try.underlying37 rfl rfl (n := 0) (by kernel_rfl)
theorem fa_api_Ins_0 : ∀ (b o : Nat) (w : World), (Instr.fieldAt 78 (.pointer (some ⟨b, o, none⟩)) 0).run Try.prog w = .ok (.pointer (some ⟨b, o + 0, none⟩)) w := fieldAt_of Try.underlying78 rfl rfl (n := 0) (by kernel_rfl)
theorem fa_api_Ins_1 : ∀ (b o : Nat) (w : World), (Instr.fieldAt 78 (.pointer (some ⟨b, o, none⟩)) 1).run Try.prog w = .ok (.pointer (some ⟨b, o + 1, none⟩)) w := fieldAt_of Try.underlying78 rfl rfl (n := 0) (by kernel_rfl)
theorem fa_api_Ins_2 : ∀ (b o : Nat) (w : World), (Instr.fieldAt 78 (.pointer (some ⟨b, o, none⟩)) 2).run Try.prog w = .ok (.pointer (some ⟨b, o + 2, none⟩)) w := fieldAt_of Try.underlying78 rfl rfl (n := 0) (by kernel_rfl)
theorem fa_api_Ins_3 : ∀ (b o : Nat) (w : World), (Instr.fieldAt 78 (.pointer (some ⟨b, o, none⟩)) 3).run Try.prog w = .ok (.pointer (some ⟨b, o + 3, none⟩)) w := fieldAt_of Try.underlying78 rfl rfl (n := 0) (by kernel_rfl)
theorem fa_api_Ins_4 : ∀ (b o : Nat) (w : World), (Instr.fieldAt 78 (.pointer (some ⟨b, o, none⟩)) 4).run Try.prog w = .ok (.pointer (some ⟨b, o + 4, none⟩)) w := fieldAt_of Try.underlying78 rfl rfl (n := 0) (by kernel_rfl)
theorem fa_api_Ins_5 : ∀ (b o : Nat) (w : World), (Instr.fieldAt 78 (.pointer (some ⟨b, o, none⟩)) 5).run Try.prog w = .ok (.pointer (some ⟨b, o + 5, none⟩)) w := fieldAt_of Try.underlying78 rfl rfl (n := 0) (by kernel_rfl)
theorem fa_api_State_0 : ∀ (b o : Nat) (w : World), (Instr.fieldAt 44 (.pointer (some ⟨b, o, none⟩)) 0).run Try.prog w = .ok (.pointer (some ⟨b, o + 0, none⟩)) w := fieldAt_of Try.underlying44 rfl rfl (n := 0) (by kernel_rfl)
theorem fa_api_State_1 : ∀ (b o : Nat) (w : World), (Instr.fieldAt 44 (.pointer (some ⟨b, o, none⟩)) 1).run Try.prog w = .ok (.pointer (some ⟨b, o + 1, none⟩)) w := fieldAt_of Try.underlying44 rfl rfl (n := 0) (by kernel_rfl)
theorem fa_api_State_2 : ∀ (b o : Nat) (w : World), (Instr.fieldAt 44 (.pointer (some ⟨b, o, none⟩)) 2).run Try.prog w = .ok (.pointer (some ⟨b, o + 2, none⟩)) w := fieldAt_of Try.underlying44 rfl rfl (n := 0) (by kernel_rfl)
theorem fa_api_State_3 : ∀ (b o : Nat) (w : World), (Instr.fieldAt 44 (.pointer (some ⟨b, o, none⟩)) 3).run Try.prog w = .ok (.pointer (some ⟨b, o + 3, none⟩)) w := fieldAt_of Try.underlying44 rfl rfl (n := 0) (by kernel_rfl)
theorem fa_api_State_4 : ∀ (b o : Nat) (w : World), (Instr.fieldAt 44 (.pointer (some ⟨b, o, none⟩)) 4).run Try.prog w = .ok (.pointer (some ⟨b, o + 4, none⟩)) w := fieldAt_of Try.underlying44 rfl rfl (n := 0) (by kernel_rfl)
theorem fa_api_State_5 : ∀ (b o : Nat) (w : World), (Instr.fieldAt 44 (.pointer (some ⟨b, o, none⟩)) 5).run Try.prog w = .ok (.pointer (some ⟨b, o + 5, none⟩)) w := fieldAt_of Try.underlying44 rfl rfl (n := 0) (by kernel_rfl)
theorem fa_api_State_6 : ∀ (b o : Nat) (w : World), (Instr.fieldAt 44 (.pointer (some ⟨b, o, none⟩)) 6).run Try.prog w = .ok (.pointer (some ⟨b, o + 6, none⟩)) w := fieldAt_of Try.underlying44 rfl rfl (n := 0) (by kernel_rfl)
theorem fa_api_State_7 : ∀ (b o : Nat) (w : World), (Instr.fieldAt 44 (.pointer (some ⟨b, o, none⟩)) 7).run Try.prog w = .ok (.pointer (some ⟨b, o + 7, none⟩)) w := fieldAt_of Try.underlying44 rfl rfl (n := 0) (by kernel_rfl)
theorem fa_api_State_8 : ∀ (b o : Nat) (w : World), (Instr.fieldAt 44 (.pointer (some ⟨b, o, none⟩)) 8).run Try.prog w = .ok (.pointer (some ⟨b, o + 8, none⟩)) w := fieldAt_of Try.underlying44 rfl rfl (n := 0) (by kernel_rfl)
theorem fa_api_State_9 : ∀ (b o : Nat) (w : World), (Instr.fieldAt 44 (.pointer (some ⟨b, o, none⟩)) 9).run Try.prog w = .ok (.pointer (some ⟨b, o + 9, none⟩)) w := fieldAt_of Try.underlying44 rfl rfl (n := 0) (by kernel_rfl)
theorem fa_api_State_10 : ∀ (b o : Nat) (w : World), (Instr.fieldAt 44 (.pointer (some ⟨b, o, none⟩)) 10).run Try.prog w = .ok (.pointer (some ⟨b, o + 10, none⟩)) w := fieldAt_of Try.underlying44 rfl rfl (n := 0) (by kernel_rfl)
theorem fa_object_Reader_0 : ∀ (b o : Nat) (w : World), (Instr.fieldAt 68 (.pointer (some ⟨b, o, none⟩)) 0).run Try.prog w = .ok (.pointer (some ⟨b, o + 0, none⟩)) w := fieldAt_of Try.underlying68 rfl rfl (n := 0) (by kernel_rfl)
theorem fa_object_Reader_1 : ∀ (b o : Nat) (w : World), (Instr.fieldAt 68 (.pointer (some ⟨b, o, none⟩)) 1).run Try.prog w = .ok (.pointer (some ⟨b, o + 1, none⟩)) w := fieldAt_of Try.underlying68 rfl rfl (n := 0) (by kernel_rfl)
theorem fa_sledgelaw20_Ask20_1 : ∀ (b o : Nat) (w : World), (Instr.fieldAt 33 (.pointer (some ⟨b, o, none⟩)) 1).run Try.prog w = .ok (.pointer (some ⟨b, o + 3, none⟩)) w := fieldAt_of Try.underlying33 rfl rfl (n := 0) (by kernel_rfl)
theorem sz_api_Bundle : (Try.prog.info? 80).map (·.size) = some 24 := by kernel_rfl
theorem sz_api_Image : (Try.prog.info? 37).map (·.size) = some 3 := by kernel_rfl
theorem sz_api_Ins : (Try.prog.info? 78).map (·.size) = some 6 := by kernel_rfl
theorem sz_api_State : (Try.prog.info? 44).map (·.size) = some 11 := by kernel_rfl
theorem sz_api_Write : (Try.prog.info? 102).map (·.size) = some 3 := by kernel_rfl
theorem sz_bool : (Try.prog.info? 4).map (·.size) = some 1 := by kernel_rfl
theorem sz_int : (Try.prog.info? 3).map (·.size) = some 1 := by kernel_rfl
theorem sz_string : (Try.prog.info? 9).map (·.size) = some 1 := by kernel_rfl
theorem sz_uint32 : (Try.prog.info? 38).map (·.size) = some 1 := by kernel_rfl
theorem zr_api_Bundle : (Try.prog.info? 80).map (·.zero) = some (some (.agg #[.int .i64 0, .int .i64 0, .int .i64 0, .int .i64 0, .int .i64 0, .string ByteArray.empty, .int .i64 0, .int .i64 0, .int .i64 0, .int .i64 0, .int .i64 0, .string ByteArray.empty, .int .i64 0, .int .i64 0, .int .i64 0, .int .i64 0, .int .i64 0, .string ByteArray.empty, .int .i64 0, .int .i64 0, .int .i64 0, .int .i64 0, .int .i64 0, .string ByteArray.empty])) := by kernel_rfl
theorem zr_api_Image : (Try.prog.info? 37).map (·.zero) = some (some (.agg #[.slice none 0 0, .slice none 0 0, .int .i64 0])) := by kernel_rfl
theorem zr_api_Ins : (Try.prog.info? 78).map (·.zero) = some (some (.agg #[.int .i64 0, .int .i64 0, .int .i64 0, .int .i64 0, .int .i64 0, .string ByteArray.empty])) := by kernel_rfl
theorem zr_api_State : (Try.prog.info? 44).map (·.zero) = some (some (.agg #[.slice none 0 0, .slice none 0 0, .slice none 0 0, .int .i64 0, .slice none 0 0, .int .i64 0, .slice none 0 0, .int .i64 0, .slice none 0 0, .int .i64 0, .int .i64 0])) := by kernel_rfl
def eqb_Ins (x y : T_Ins) : Bool := decide (x.Op = y.Op) && decide (x.D = y.D) && decide (x.A = y.A) && decide (x.B = y.B) && decide (x.Imm = y.Imm) && decide (x.Sym = y.Sym)
theorem eqb_Ins_iff {x y : T_Ins} : eqb_Ins x y = true ↔ x = y := by
  constructor
  · intro h
    simp only [eqb_Ins, Bool.and_eq_true, decide_eq_true_eq, beq_iff_eq] at h
    cases x; cases y; simp_all
  · rintro rfl; simp [eqb_Ins]
theorem eqr_Ins (d : Nat) (x y : T_Ins) (w : World) : (Op.equalIn (d + 2) 78 (.agg (enc_Ins x).toArray) (.agg (enc_Ins y).toArray)).run Try.prog w = .ok (eqb_Ins x y) w := by
  have hu := Try.underlying78
  rw [run_equalIn_struct w (d + 1) 78 _ _ (by rw [Program.fieldsOf, hu]) (by kernel_rfl), Program.fieldsOf, hu]
  refine (eqFields_of (bs := [decide (x.Op = y.Op), decide (x.D = y.D), decide (x.A = y.A), decide (x.B = y.B), decide (x.Imm = y.Imm), decide (x.Sym = y.Sym)]) ?_).trans ?_
  · refine .cons (eqf_int Try.underlying3 rfl rfl (by decide)) ?_
    refine .cons (eqf_int Try.underlying3 rfl rfl (by decide)) ?_
    refine .cons (eqf_int Try.underlying3 rfl rfl (by decide)) ?_
    refine .cons (eqf_int Try.underlying3 rfl rfl (by decide)) ?_
    refine .cons (eqf_int Try.underlying3 rfl rfl (by decide)) ?_
    refine .cons (eqf_str Try.underlying9 rfl rfl (by decide)) ?_
    exact .nil
  · simp [eqb_Ins, Bool.and_assoc]
theorem y_eql_Ins {C : World → Prop} {l : Fm} {d : Nat} {tt : TypeId} {ps : String} {af : Array Edge} {x y : T_Ins} {a b : Operand} {t' : TypeId} (ha : ev l a = .agg (enc_Ins x).toArray := by (conv => lhs; whnf) <;> exact rfl) (hb : ev l b = .agg (enc_Ins y).toArray := by (conv => lhs; whnf) <;> exact rfl) : YV Try.prog C l ⟨some d, .binOp .eql 78 a b t', tt, ps, af, none⟩ (.bool (eqb_Ins x y)) := y_steq_eql (by kernel_rfl) (eqr_Ins 9998 x y) ha hb
theorem y_neq_Ins {C : World → Prop} {l : Fm} {d : Nat} {tt : TypeId} {ps : String} {af : Array Edge} {x y : T_Ins} {a b : Operand} {t' : TypeId} (ha : ev l a = .agg (enc_Ins x).toArray := by (conv => lhs; whnf) <;> exact rfl) (hb : ev l b = .agg (enc_Ins y).toArray := by (conv => lhs; whnf) <;> exact rfl) : YV Try.prog C l ⟨some d, .binOp .neq 78 a b t', tt, ps, af, none⟩ (.bool (!(eqb_Ins x y))) := y_steq_neq (by kernel_rfl) (eqr_Ins 9998 x y) ha hb
def eqb_Bundle (x y : (A4 T_Ins)) : Bool := (eqb_Ins x.x0 y.x0) && (eqb_Ins x.x1 y.x1) && (eqb_Ins x.x2 y.x2) && (eqb_Ins x.x3 y.x3)
theorem eqb_Bundle_iff {x y : (A4 T_Ins)} : eqb_Bundle x y = true ↔ x = y := by
  constructor
  · intro h
    simp only [eqb_Bundle, Bool.and_eq_true, decide_eq_true_eq, beq_iff_eq, eqb_Ins_iff] at h
    cases x; cases y; simp_all
  · rintro rfl; simp [eqb_Bundle, eqb_Ins_iff]
theorem eqr_Bundle (d : Nat) (x y : (A4 T_Ins)) (w : World) : (Op.equalIn (d + 3) 80 (.agg (enc_Bundle x).toArray) (.agg (enc_Bundle y).toArray)).run Try.prog w = .ok (eqb_Bundle x y) w := by
  have h : (Op.eqItems (d + 2) 78 6 (enc_Bundle x).toArray (enc_Bundle y).toArray [0, 1, 2, 3]).run Try.prog w = .ok (eqb_Bundle x y) w := by
    have e : eqb_Bundle x y = ((eqb_Ins x.x0 y.x0) && ((eqb_Ins x.x1 y.x1) && ((eqb_Ins x.x2 y.x2) && ((eqb_Ins x.x3 y.x3) && true)))) := by simp [eqb_Bundle, Bool.and_assoc]
    rw [e]
    refine eqi_cons (run_partA (pre := (enc_Bundle x).take 0) (vs := enc_Ins x.x0) (post := (enc_Bundle x).drop 6) Try.underlying78 rfl (by kernel_rfl) (by exact rfl) rfl) (run_partA (pre := (enc_Bundle y).take 0) (vs := enc_Ins y.x0) (post := (enc_Bundle y).drop 6) Try.underlying78 rfl (by kernel_rfl) (by exact rfl) rfl) (eqr_Ins d x.x0 y.x0 w) ?_
    refine eqi_cons (run_partA (pre := (enc_Bundle x).take 6) (vs := enc_Ins x.x1) (post := (enc_Bundle x).drop 12) Try.underlying78 rfl (by kernel_rfl) (by exact rfl) rfl) (run_partA (pre := (enc_Bundle y).take 6) (vs := enc_Ins y.x1) (post := (enc_Bundle y).drop 12) Try.underlying78 rfl (by kernel_rfl) (by exact rfl) rfl) (eqr_Ins d x.x1 y.x1 w) ?_
    refine eqi_cons (run_partA (pre := (enc_Bundle x).take 12) (vs := enc_Ins x.x2) (post := (enc_Bundle x).drop 18) Try.underlying78 rfl (by kernel_rfl) (by exact rfl) rfl) (run_partA (pre := (enc_Bundle y).take 12) (vs := enc_Ins y.x2) (post := (enc_Bundle y).drop 18) Try.underlying78 rfl (by kernel_rfl) (by exact rfl) rfl) (eqr_Ins d x.x2 y.x2 w) ?_
    refine eqi_cons (run_partA (pre := (enc_Bundle x).take 18) (vs := enc_Ins x.x3) (post := (enc_Bundle x).drop 24) Try.underlying78 rfl (by kernel_rfl) (by exact rfl) rfl) (run_partA (pre := (enc_Bundle y).take 18) (vs := enc_Ins y.x3) (post := (enc_Bundle y).drop 24) Try.underlying78 rfl (by kernel_rfl) (by exact rfl) rfl) (eqr_Ins d x.x3 y.x3 w) ?_
    exact eqi_nil
  exact eqa_of Try.underlying80 (by kernel_rfl) (by kernel_rfl) h
theorem y_eql_Bundle {C : World → Prop} {l : Fm} {d : Nat} {tt : TypeId} {ps : String} {af : Array Edge} {x y : (A4 T_Ins)} {a b : Operand} {t' : TypeId} (ha : ev l a = .agg (enc_Bundle x).toArray := by (conv => lhs; whnf) <;> exact rfl) (hb : ev l b = .agg (enc_Bundle y).toArray := by (conv => lhs; whnf) <;> exact rfl) : YV Try.prog C l ⟨some d, .binOp .eql 80 a b t', tt, ps, af, none⟩ (.bool (eqb_Bundle x y)) := y_steq_eql (by kernel_rfl) (eqr_Bundle 9997 x y) ha hb
theorem y_neq_Bundle {C : World → Prop} {l : Fm} {d : Nat} {tt : TypeId} {ps : String} {af : Array Edge} {x y : (A4 T_Ins)} {a b : Operand} {t' : TypeId} (ha : ev l a = .agg (enc_Bundle x).toArray := by (conv => lhs; whnf) <;> exact rfl) (hb : ev l b = .agg (enc_Bundle y).toArray := by (conv => lhs; whnf) <;> exact rfl) : YV Try.prog C l ⟨some d, .binOp .neq 80 a b t', tt, ps, af, none⟩ (.bool (!(eqb_Bundle x y))) := y_steq_neq (by kernel_rfl) (eqr_Bundle 9997 x y) ha hb
def eqb_Write (x y : T_Write) : Bool := decide (x.Reg = y.Reg) && decide (x.Value = y.Value) && decide (x.Left = y.Left)
theorem eqb_Write_iff {x y : T_Write} : eqb_Write x y = true ↔ x = y := by
  constructor
  · intro h
    simp only [eqb_Write, Bool.and_eq_true, decide_eq_true_eq, beq_iff_eq] at h
    cases x; cases y; simp_all
  · rintro rfl; simp [eqb_Write]
theorem eqr_Write (d : Nat) (x y : T_Write) (w : World) : (Op.equalIn (d + 2) 102 (.agg (enc_Write x).toArray) (.agg (enc_Write y).toArray)).run Try.prog w = .ok (eqb_Write x y) w := by
  have hu := Try.underlying102
  rw [run_equalIn_struct w (d + 1) 102 _ _ (by rw [Program.fieldsOf, hu]) (by kernel_rfl), Program.fieldsOf, hu]
  refine (eqFields_of (bs := [decide (x.Reg = y.Reg), decide (x.Value = y.Value), decide (x.Left = y.Left)]) ?_).trans ?_
  · refine .cons (eqf_int Try.underlying3 rfl rfl (by decide)) ?_
    refine .cons (eqf_int Try.underlying38 rfl rfl (by decide)) ?_
    refine .cons (eqf_int Try.underlying3 rfl rfl (by decide)) ?_
    exact .nil
  · simp [eqb_Write, Bool.and_assoc]
theorem y_eql_Write {C : World → Prop} {l : Fm} {d : Nat} {tt : TypeId} {ps : String} {af : Array Edge} {x y : T_Write} {a b : Operand} {t' : TypeId} (ha : ev l a = .agg (enc_Write x).toArray := by (conv => lhs; whnf) <;> exact rfl) (hb : ev l b = .agg (enc_Write y).toArray := by (conv => lhs; whnf) <;> exact rfl) : YV Try.prog C l ⟨some d, .binOp .eql 102 a b t', tt, ps, af, none⟩ (.bool (eqb_Write x y)) := y_steq_eql (by kernel_rfl) (eqr_Write 9998 x y) ha hb
theorem y_neq_Write {C : World → Prop} {l : Fm} {d : Nat} {tt : TypeId} {ps : String} {af : Array Edge} {x y : T_Write} {a b : Operand} {t' : TypeId} (ha : ev l a = .agg (enc_Write x).toArray := by (conv => lhs; whnf) <;> exact rfl) (hb : ev l b = .agg (enc_Write y).toArray := by (conv => lhs; whnf) <;> exact rfl) : YV Try.prog C l ⟨some d, .binOp .neq 102 a b t', tt, ps, af, none⟩ (.bool (!(eqb_Write x y))) := y_steq_neq (by kernel_rfl) (eqr_Write 9998 x y) ha hb
theorem bta_api_Bundle : BTA Try.prog 80 6 [.int .i64 0, .int .i64 0, .int .i64 0, .int .i64 0, .int .i64 0, .string ByteArray.empty, .int .i64 0, .int .i64 0, .int .i64 0, .int .i64 0, .int .i64 0, .string ByteArray.empty, .int .i64 0, .int .i64 0, .int .i64 0, .int .i64 0, .int .i64 0, .string ByteArray.empty, .int .i64 0, .int .i64 0, .int .i64 0, .int .i64 0, .int .i64 0, .string ByteArray.empty] := BTA.of (z := .agg #[.int .i64 0, .int .i64 0, .int .i64 0, .int .i64 0, .int .i64 0, .string ByteArray.empty, .int .i64 0, .int .i64 0, .int .i64 0, .int .i64 0, .int .i64 0, .string ByteArray.empty, .int .i64 0, .int .i64 0, .int .i64 0, .int .i64 0, .int .i64 0, .string ByteArray.empty, .int .i64 0, .int .i64 0, .int .i64 0, .int .i64 0, .int .i64 0, .string ByteArray.empty]) (by kernel_rfl) rfl Try.underlying80 (by kernel_rfl)
theorem bt_api_Image : BT Try.prog 37 [(0, 1), (1, 1), (2, 1)] [.slice none 0 0, .slice none 0 0, .int .i64 0] := BT.of (z := .agg #[.slice none 0 0, .slice none 0 0, .int .i64 0]) (by kernel_rfl) rfl Try.underlying37 (by kernel_rfl)
theorem bt_api_Ins : BT Try.prog 78 [(0, 1), (1, 1), (2, 1), (3, 1), (4, 1), (5, 1)] [.int .i64 0, .int .i64 0, .int .i64 0, .int .i64 0, .int .i64 0, .string ByteArray.empty] := BT.of (z := .agg #[.int .i64 0, .int .i64 0, .int .i64 0, .int .i64 0, .int .i64 0, .string ByteArray.empty]) (by kernel_rfl) rfl Try.underlying78 (by kernel_rfl)
theorem bt_api_State : BT Try.prog 44 [(0, 1), (1, 1), (2, 1), (3, 1), (4, 1), (5, 1), (6, 1), (7, 1), (8, 1), (9, 1), (10, 1)] [.slice none 0 0, .slice none 0 0, .slice none 0 0, .int .i64 0, .slice none 0 0, .int .i64 0, .slice none 0 0, .int .i64 0, .slice none 0 0, .int .i64 0, .int .i64 0] := BT.of (z := .agg #[.slice none 0 0, .slice none 0 0, .slice none 0 0, .int .i64 0, .slice none 0 0, .int .i64 0, .slice none 0 0, .int .i64 0, .slice none 0 0, .int .i64 0, .int .i64 0]) (by kernel_rfl) rfl Try.underlying44 (by kernel_rfl)
theorem bt_object_Reader : BT Try.prog 68 [(0, 1), (1, 1)] [.string ByteArray.empty, .bool false] := BT.of (z := .agg #[.string ByteArray.empty, .bool false]) (by kernel_rfl) rfl Try.underlying68 (by kernel_rfl)
abbrev Rc_Flat (g : Frag) (x : T_Flat) (cs : List Value) : Prop := ∃ (v0 v1 : Value), cs = cl_Flat v0 v1 x.Entry ∧ SlT g enc_Ins 6 x.Code v0 ∧ SlT g enc_uint32 1 x.Data v1
theorem mono_Flat : Mono Rc_Flat := fun hg h => by
  obtain ⟨v0, v1, h0, q0, q1⟩ := h
  exact ⟨v0, v1, h0, SlT.mono q0 hg, SlT.mono q1 hg⟩
abbrev Rc_Image (g : Frag) (x : T_Image) (cs : List Value) : Prop := ∃ (v0 v1 : Value), cs = cl_Image v0 v1 x.Entry ∧ SlT g enc_Bundle 24 x.Code v0 ∧ SlT g enc_uint32 1 x.Data v1
theorem mono_Image : Mono Rc_Image := fun hg h => by
  obtain ⟨v0, v1, h0, q0, q1⟩ := h
  exact ⟨v0, v1, h0, SlT.mono q0 hg, SlT.mono q1 hg⟩
abbrev Rc_Object (g : Frag) (x : T_Object) (cs : List Value) : Prop := ∃ (v0 v1 v2 v3 : Value), cs = cl_Object v0 v1 v2 v3 ∧ SlT g enc_Bundle 24 x.Code v0 ∧ SlT g enc_uint32 1 x.Data v1 ∧ SlT g enc_Symbol 4 x.Symbols v2 ∧ SlT g enc_Fix 3 x.Fixes v3
theorem mono_Object : Mono Rc_Object := fun hg h => by
  obtain ⟨v0, v1, v2, v3, h0, q0, q1, q2, q3⟩ := h
  exact ⟨v0, v1, v2, v3, h0, SlT.mono q0 hg, SlT.mono q1 hg, SlT.mono q2 hg, SlT.mono q3 hg⟩
abbrev Rc_Unit (g : Frag) (x : T_Unit) (cs : List Value) : Prop := ∃ (v0 v1 v2 v3 : Value), cs = cl_Unit v0 v1 v2 v3 ∧ SlT g enc_Item 7 x.Code v0 ∧ SlT g enc_Value 2 x.Data v1 ∧ SlT g enc_Symbol 4 x.Labels v2 ∧ SlT g enc_string 1 x.Globals v3
theorem mono_Unit : Mono Rc_Unit := fun hg h => by
  obtain ⟨v0, v1, v2, v3, h0, q0, q1, q2, q3⟩ := h
  exact ⟨v0, v1, v2, v3, h0, SlT.mono q0 hg, SlT.mono q1 hg, SlT.mono q2 hg, SlT.mono q3 hg⟩
abbrev Rd_Flat (g : Frag) (x : T_Flat) (v : Value) : Prop := ∃ (v0 v1 : Value), v = .agg (cl_Flat v0 v1 x.Entry).toArray ∧ SlT g enc_Ins 6 x.Code v0 ∧ SlT g enc_uint32 1 x.Data v1
abbrev Ow_Flat (x : T_Flat) (v : Value) (L : Own) : Prop := ∃ (v0 v1 : Value) (X0 X1 : Own), v = .agg (cl_Flat v0 v1 x.Entry).toArray ∧ L = (X0 ++ (X1 ++ [])) ∧ OwT 78 enc_Ins 6 x.Code v0 X0 ∧ OwT 38 enc_uint32 1 x.Data v1 X1
abbrev Bx_Flat (b : Nat) (x : T_Flat) (L : Own) : Prop := ∃ (v0 v1 : Value) (X0 X1 : Own), L = (b, blk (cl_Flat v0 v1 x.Entry) 153) :: (X0 ++ (X1 ++ [])) ∧ OwT 78 enc_Ins 6 x.Code v0 X0 ∧ OwT 38 enc_uint32 1 x.Data v1 X1
abbrev Rd_Image (g : Frag) (x : T_Image) (v : Value) : Prop := ∃ (v0 v1 : Value), v = .agg (cl_Image v0 v1 x.Entry).toArray ∧ SlT g enc_Bundle 24 x.Code v0 ∧ SlT g enc_uint32 1 x.Data v1
abbrev Ow_Image (x : T_Image) (v : Value) (L : Own) : Prop := ∃ (v0 v1 : Value) (X0 X1 : Own), v = .agg (cl_Image v0 v1 x.Entry).toArray ∧ L = (X0 ++ (X1 ++ [])) ∧ OwT 80 enc_Bundle 24 x.Code v0 X0 ∧ OwT 38 enc_uint32 1 x.Data v1 X1
abbrev Bx_Image (b : Nat) (x : T_Image) (L : Own) : Prop := ∃ (v0 v1 : Value) (X0 X1 : Own), L = (b, blk (cl_Image v0 v1 x.Entry) 37) :: (X0 ++ (X1 ++ [])) ∧ OwT 80 enc_Bundle 24 x.Code v0 X0 ∧ OwT 38 enc_uint32 1 x.Data v1 X1
abbrev Rd_Object (g : Frag) (x : T_Object) (v : Value) : Prop := ∃ (v0 v1 v2 v3 : Value), v = .agg (cl_Object v0 v1 v2 v3).toArray ∧ SlT g enc_Bundle 24 x.Code v0 ∧ SlT g enc_uint32 1 x.Data v1 ∧ SlT g enc_Symbol 4 x.Symbols v2 ∧ SlT g enc_Fix 3 x.Fixes v3
abbrev Ow_Object (x : T_Object) (v : Value) (L : Own) : Prop := ∃ (v0 v1 v2 v3 : Value) (X0 X1 X2 X3 : Own), v = .agg (cl_Object v0 v1 v2 v3).toArray ∧ L = (X0 ++ (X1 ++ (X2 ++ (X3 ++ [])))) ∧ OwT 80 enc_Bundle 24 x.Code v0 X0 ∧ OwT 38 enc_uint32 1 x.Data v1 X1 ∧ OwT 159 enc_Symbol 4 x.Symbols v2 X2 ∧ OwT 161 enc_Fix 3 x.Fixes v3 X3
abbrev Bx_Object (b : Nat) (x : T_Object) (L : Own) : Prop := ∃ (v0 v1 v2 v3 : Value) (X0 X1 X2 X3 : Own), L = (b, blk (cl_Object v0 v1 v2 v3) 150) :: (X0 ++ (X1 ++ (X2 ++ (X3 ++ [])))) ∧ OwT 80 enc_Bundle 24 x.Code v0 X0 ∧ OwT 38 enc_uint32 1 x.Data v1 X1 ∧ OwT 159 enc_Symbol 4 x.Symbols v2 X2 ∧ OwT 161 enc_Fix 3 x.Fixes v3 X3
abbrev Rd_State (g : Frag) (x : T_State) (v : Value) : Prop := ∃ (v0 v1 v2 v4 v6 v8 : Value), v = .agg (cl_State v0 v1 v2 x.Taken v4 x.PC v6 x.Stop v8 x.Jump x.Delay).toArray ∧ SlT g enc_uint32 1 x.Regs v0 ∧ SlT g enc_uint32 1 x.Mem v1 ∧ SlT g enc_uint32 1 x.In_ v2 ∧ SlT g enc_uint32 1 x.Out v4 ∧ SlT g enc_int 1 x.Stack v6 ∧ SlT g enc_Write 3 x.Fly v8
abbrev Ow_State (x : T_State) (v : Value) (L : Own) : Prop := ∃ (v0 v1 v2 v4 v6 v8 : Value) (X0 X1 X2 X4 X6 X8 : Own), v = .agg (cl_State v0 v1 v2 x.Taken v4 x.PC v6 x.Stop v8 x.Jump x.Delay).toArray ∧ L = (X0 ++ (X1 ++ (X2 ++ (X4 ++ (X6 ++ (X8 ++ [])))))) ∧ OwT 38 enc_uint32 1 x.Regs v0 X0 ∧ OwT 38 enc_uint32 1 x.Mem v1 X1 ∧ OwT 38 enc_uint32 1 x.In_ v2 X2 ∧ OwT 38 enc_uint32 1 x.Out v4 X4 ∧ OwT 3 enc_int 1 x.Stack v6 X6 ∧ OwT 102 enc_Write 3 x.Fly v8 X8
abbrev Bx_State (b : Nat) (x : T_State) (L : Own) : Prop := ∃ (v0 v1 v2 v4 v6 v8 : Value) (X0 X1 X2 X4 X6 X8 : Own), L = (b, blk (cl_State v0 v1 v2 x.Taken v4 x.PC v6 x.Stop v8 x.Jump x.Delay) 44) :: (X0 ++ (X1 ++ (X2 ++ (X4 ++ (X6 ++ (X8 ++ [])))))) ∧ OwT 38 enc_uint32 1 x.Regs v0 X0 ∧ OwT 38 enc_uint32 1 x.Mem v1 X1 ∧ OwT 38 enc_uint32 1 x.In_ v2 X2 ∧ OwT 38 enc_uint32 1 x.Out v4 X4 ∧ OwT 3 enc_int 1 x.Stack v6 X6 ∧ OwT 102 enc_Write 3 x.Fly v8 X8
abbrev Rd_Unit (g : Frag) (x : T_Unit) (v : Value) : Prop := ∃ (v0 v1 v2 v3 : Value), v = .agg (cl_Unit v0 v1 v2 v3).toArray ∧ SlT g enc_Item 7 x.Code v0 ∧ SlT g enc_Value 2 x.Data v1 ∧ SlT g enc_Symbol 4 x.Labels v2 ∧ SlT g enc_string 1 x.Globals v3
abbrev Ow_Unit (x : T_Unit) (v : Value) (L : Own) : Prop := ∃ (v0 v1 v2 v3 : Value) (X0 X1 X2 X3 : Own), v = .agg (cl_Unit v0 v1 v2 v3).toArray ∧ L = (X0 ++ (X1 ++ (X2 ++ (X3 ++ [])))) ∧ OwT 155 enc_Item 7 x.Code v0 X0 ∧ OwT 157 enc_Value 2 x.Data v1 X1 ∧ OwT 159 enc_Symbol 4 x.Labels v2 X2 ∧ OwT 9 enc_string 1 x.Globals v3 X3
abbrev Bx_Unit (b : Nat) (x : T_Unit) (L : Own) : Prop := ∃ (v0 v1 v2 v3 : Value) (X0 X1 X2 X3 : Own), L = (b, blk (cl_Unit v0 v1 v2 v3) 147) :: (X0 ++ (X1 ++ (X2 ++ (X3 ++ [])))) ∧ OwT 155 enc_Item 7 x.Code v0 X0 ∧ OwT 157 enc_Value 2 x.Data v1 X1 ∧ OwT 159 enc_Symbol 4 x.Labels v2 X2 ∧ OwT 9 enc_string 1 x.Globals v3 X3
abbrev Rd_Ask (g : Frag) (x : T_Ask) (v : Value) : Prop := ∃ (v0 v1 : Value), v = .agg (cl_Ask v0 v1).toArray ∧ SlT g enc_string 1 x.S v0 ∧ SlN g Rc_Unit 4 x.U v1
abbrev Rd_Ask16 (g : Frag) (x : T_Ask16) (v : Value) : Prop := ∃ (v0 v1 v2 : Value), v = .agg (cl_Ask16 v0 v1 v2).toArray ∧ SlT g enc_string 1 x.U.S v0 ∧ SlN g Rc_Unit 4 x.U.U v1 ∧ SlN g Rc_Object 4 x.O v2
abbrev Rd_Ask20 (g : Frag) (x : T_Ask20) (v : Value) : Prop := ∃ (v0 v1 v2 v3 v4 v5 : Value), v = .agg (cl_Ask20 v0 v1 v2 v3 v4 v5).toArray ∧ SlT g enc_string 1 x.E.U.S v0 ∧ SlN g Rc_Unit 4 x.E.U.U v1 ∧ SlN g Rc_Object 4 x.E.O v2 ∧ SlN g Rc_Image 3 x.X v3 ∧ SlN g Rc_Flat 3 x.F v4 ∧ SlT g enc_uint32 1 x.In_ v5
abbrev Bx_Reader (b : Nat) (x : T_Reader) (L : Own) : Prop := L = (b, blk (enc_Reader x) 68) :: []
abbrev Pb_Reader (x : T_Reader) (u : Value) (M : Own) : Prop := ∃ (b : Nat), u = .pointer (some ⟨b, 0, none⟩) ∧ M = [(b, blk (enc_Reader x) 68)]
end Go.Proofs.Ytjmmkbehdbpklaa
