/- Types. Printed by lift.py. -/
import Derived.Test.YtgakgpbmcbegbaaGreatDoorProg
import Derived.Test.YtgakgpbmcbegbaaGreatDoorNest
import Derived.Test.YtgakgpbmcbegbaaGreatDoorOwnN
import Derived.Test.YtgakgpbmcbegbaaGreatDoorMore2
import Derived.Test.YtgakgpbmcbegbaaGreatDoorAppZ
import Derived.Test.YtgakgpbmcbegbaaGreatDoorCopy
import Derived.Test.YtgakgpbmcbegbaaGreatDoorClear
import Derived.Test.YtgakgpbmcbegbaaGreatDoorStr
import Derived.Test.YtgakgpbmcbegbaaGreatDoorByte
import Derived.Test.YtgakgpbmcbegbaaGreatDoorSq2
import Derived.KernelRfl
namespace Go.Proofs.YtgakgpbmcbegbaaGreatDoor
open Go Go.RowKit Fr
set_option linter.unusedVariables false
set_option linter.unusedSimpArgs false
set_option maxRecDepth 20000
structure T_Ins where
  Op : Int
  D : Int
  A : Int
  B : Int
  Imm : Int
  Sym : ByteArray
structure T_Fix where
  Place : Int
  Slot : Int
  Sym : ByteArray
structure T_Item where
  Label : ByteArray
  Ins : T_Ins
structure T_Token where
  Kind : Int
  Text : ByteArray
  N : Int
  At : Int
structure T_Line where
  No : Int
  Label : ByteArray
  Words : (List T_Token)
structure T_Symbol where
  Name : ByteArray
  Code : Bool
  Place : Int
  Global : Bool
structure T_Object where
  Code : (List (A4 T_Ins))
  Data : (List Int)
  Symbols : (List T_Symbol)
  Fixes : (List T_Fix)
structure T_Value where
  Sym : ByteArray
  N : Int
structure T_Unit where
  Code : (List T_Item)
  Data : (List T_Value)
  Labels : (List T_Symbol)
  Globals : (List ByteArray)
structure T_Write where
  Reg : Int
  Value : Int
  Left : Int
structure T_Block where
  Labels : (List ByteArray)
  Ins : (List T_Ins)
  Last : T_Ins
structure T_Choice where
  Part : Int
  Member : Int
structure T_Edge where
  From : Int
  To : Int
  Dist : Int
structure T_Fault where
  Err : Int
  Text : Int
  Line : Int
structure T_Flat where
  Code : (List T_Ins)
  Data : (List Int)
  Entry : Int
structure T_Image where
  Code : (List (A4 T_Ins))
  Data : (List Int)
  Entry : Int
structure T_Part where
  Archive : Bool
  Objects : (List T_Object)
structure T_Source where
  Archive : Bool
  Texts : (List ByteArray)
structure T_State where
  Regs : (List Int)
  Mem : (List Int)
  In_ : (List Int)
  Taken : Int
  Out : (List Int)
  PC : Int
  Stack : (List Int)
  Stop : Int
  Fly : (List T_Write)
  Jump : Int
  Delay : Int
structure T_Verdict where
  Steps : Int
  Cycles : Int
  Seq : Int
  Pipe : Int
  Same : Bool
  Begins : Bool
structure T_Ask where
  S : (List T_Source)
  In_ : (List Int)
  N : Int
structure T_deed where
  has : Bool
  result : Int
  jumps : Bool
  to : Int
  stop : Int
structure T_assembler where
  names : (List T_Value)
  u : T_Unit
  data : Bool
  ins : Int
  tells : (List T_Symbol)
  err : Int
structure T_macro where
  name : ByteArray
  lines : (List T_Line)
structure T_expander where
  macros : (List T_macro)
  names : (List T_Value)
  out : (List T_Line)
  calls : Int
  err : Int
  where_ : Int
structure T_reckoner where
  names : (List T_Value)
  l : (List T_Token)
  at_ : Int
  err : Int
abbrev enc_A5_int (x : (A5 Int)) : List Value := [.int .i64 x.x0, .int .i64 x.x1, .int .i64 x.x2, .int .i64 x.x3, .int .i64 x.x4]
theorem el_S_api_Token : El Tryz.prog 211 151 1 24 := El.mk' (z := .slice none 0 0) Tryz.underlying211 (by kernel_rfl) rfl
theorem el_S_api_Unit : El Tryz.prog 63 74 1 24 := El.mk' (z := .slice none 0 0) Tryz.underlying63 (by kernel_rfl) rfl
theorem el_S_uint32 : El Tryz.prog 26 23 1 24 := El.mk' (z := .slice none 0 0) Tryz.underlying26 (by kernel_rfl) rfl
theorem el_api_Block : El Tryz.prog 165 168 8 104 := El.mk' (z := .agg #[.slice none 0 0, .slice none 0 0, .int .i64 0, .int .i64 0, .int .i64 0, .int .i64 0, .int .i64 0, .string ByteArray.empty]) Tryz.underlying165 (by kernel_rfl) rfl
abbrev enc_Bundle (x : (A4 T_Ins)) : List Value := [.int .i64 x.x0.Op, .int .i64 x.x0.D, .int .i64 x.x0.A, .int .i64 x.x0.B, .int .i64 x.x0.Imm, .string x.x0.Sym, .int .i64 x.x1.Op, .int .i64 x.x1.D, .int .i64 x.x1.A, .int .i64 x.x1.B, .int .i64 x.x1.Imm, .string x.x1.Sym, .int .i64 x.x2.Op, .int .i64 x.x2.D, .int .i64 x.x2.A, .int .i64 x.x2.B, .int .i64 x.x2.Imm, .string x.x2.Sym, .int .i64 x.x3.Op, .int .i64 x.x3.D, .int .i64 x.x3.A, .int .i64 x.x3.B, .int .i64 x.x3.Imm, .string x.x3.Sym]
theorem enc_len_Bundle : ∀ z, (enc_Bundle z).length = 24 := fun _ => rfl
theorem enc_one_Bundle (z : (A4 T_Ins)) : ∀ u ∈ enc_Bundle z, u.oneCell' = true := by intro u hu; simp only [List.mem_cons, List.not_mem_nil, or_false] at hu; rcases hu with rfl | rfl | rfl | rfl | rfl | rfl | rfl | rfl | rfl | rfl | rfl | rfl | rfl | rfl | rfl | rfl | rfl | rfl | rfl | rfl | rfl | rfl | rfl | rfl <;> rfl
theorem enc_ones_Bundle (zs : List (A4 T_Ins)) : ∀ u ∈ zs.flatMap enc_Bundle, u.oneCell' = true := by intro u hu; obtain ⟨z, _, hz⟩ := List.mem_flatMap.1 hu; exact enc_one_Bundle z u hz
abbrev val_Bundle (x : (A4 T_Ins)) : Value := .agg (enc_Bundle x).toArray
theorem el_api_Bundle : El Tryz.prog 35 57 24 224 := El.mk' (z := .agg #[.int .i64 0, .int .i64 0, .int .i64 0, .int .i64 0, .int .i64 0, .string ByteArray.empty, .int .i64 0, .int .i64 0, .int .i64 0, .int .i64 0, .int .i64 0, .string ByteArray.empty, .int .i64 0, .int .i64 0, .int .i64 0, .int .i64 0, .int .i64 0, .string ByteArray.empty, .int .i64 0, .int .i64 0, .int .i64 0, .int .i64 0, .int .i64 0, .string ByteArray.empty]) Tryz.underlying35 (by kernel_rfl) rfl
abbrev enc_Choice (x : T_Choice) : List Value := [.int .i64 x.Part, .int .i64 x.Member]
theorem enc_len_Choice : ∀ z, (enc_Choice z).length = 2 := fun _ => rfl
theorem enc_one_Choice (z : T_Choice) : ∀ u ∈ enc_Choice z, u.oneCell' = true := by intro u hu; simp only [List.mem_cons, List.not_mem_nil, or_false] at hu; rcases hu with rfl | rfl <;> rfl
theorem enc_ones_Choice (zs : List T_Choice) : ∀ u ∈ zs.flatMap enc_Choice, u.oneCell' = true := by intro u hu; obtain ⟨z, _, hz⟩ := List.mem_flatMap.1 hu; exact enc_one_Choice z u hz
abbrev val_Choice (x : T_Choice) : Value := .agg (enc_Choice x).toArray
theorem el_api_Choice : El Tryz.prog 70 81 2 16 := El.mk' (z := .agg #[.int .i64 0, .int .i64 0]) Tryz.underlying70 (by kernel_rfl) rfl
abbrev enc_Edge (x : T_Edge) : List Value := [.int .i64 x.From, .int .i64 x.To, .int .i64 x.Dist]
theorem enc_len_Edge : ∀ z, (enc_Edge z).length = 3 := fun _ => rfl
theorem enc_one_Edge (z : T_Edge) : ∀ u ∈ enc_Edge z, u.oneCell' = true := by intro u hu; simp only [List.mem_cons, List.not_mem_nil, or_false] at hu; rcases hu with rfl | rfl | rfl <;> rfl
theorem enc_ones_Edge (zs : List T_Edge) : ∀ u ∈ zs.flatMap enc_Edge, u.oneCell' = true := by intro u hu; obtain ⟨z, _, hz⟩ := List.mem_flatMap.1 hu; exact enc_one_Edge z u hz
abbrev val_Edge (x : T_Edge) : Value := .agg (enc_Edge x).toArray
theorem el_api_Edge : El Tryz.prog 256 285 3 24 := El.mk' (z := .agg #[.int .i64 0, .int .i64 0, .int .i64 0]) Tryz.underlying256 (by kernel_rfl) rfl
abbrev enc_Fault (x : T_Fault) : List Value := [.int .i64 x.Err, .int .i64 x.Text, .int .i64 x.Line]
theorem enc_one_Fault (z : T_Fault) : ∀ u ∈ enc_Fault z, u.oneCell' = true := by intro u hu; simp only [List.mem_cons, List.not_mem_nil, or_false] at hu; rcases hu with rfl | rfl | rfl <;> rfl
abbrev enc_Fix (x : T_Fix) : List Value := [.int .i64 x.Place, .int .i64 x.Slot, .string x.Sym]
theorem enc_len_Fix : ∀ z, (enc_Fix z).length = 3 := fun _ => rfl
theorem enc_one_Fix (z : T_Fix) : ∀ u ∈ enc_Fix z, u.oneCell' = true := by intro u hu; simp only [List.mem_cons, List.not_mem_nil, or_false] at hu; rcases hu with rfl | rfl | rfl <;> rfl
theorem enc_ones_Fix (zs : List T_Fix) : ∀ u ∈ zs.flatMap enc_Fix, u.oneCell' = true := by intro u hu; obtain ⟨z, _, hz⟩ := List.mem_flatMap.1 hu; exact enc_one_Fix z u hz
abbrev val_Fix (x : T_Fix) : Value := .agg (enc_Fix x).toArray
theorem el_api_Fix : El Tryz.prog 107 122 3 32 := El.mk' (z := .agg #[.int .i64 0, .int .i64 0, .string ByteArray.empty]) Tryz.underlying107 (by kernel_rfl) rfl
abbrev enc_Ins (x : T_Ins) : List Value := [.int .i64 x.Op, .int .i64 x.D, .int .i64 x.A, .int .i64 x.B, .int .i64 x.Imm, .string x.Sym]
theorem enc_len_Ins : ∀ z, (enc_Ins z).length = 6 := fun _ => rfl
theorem enc_one_Ins (z : T_Ins) : ∀ u ∈ enc_Ins z, u.oneCell' = true := by intro u hu; simp only [List.mem_cons, List.not_mem_nil, or_false] at hu; rcases hu with rfl | rfl | rfl | rfl | rfl | rfl <;> rfl
theorem enc_ones_Ins (zs : List T_Ins) : ∀ u ∈ zs.flatMap enc_Ins, u.oneCell' = true := by intro u hu; obtain ⟨z, _, hz⟩ := List.mem_flatMap.1 hu; exact enc_one_Ins z u hz
abbrev val_Ins (x : T_Ins) : Value := .agg (enc_Ins x).toArray
theorem el_api_Ins : El Tryz.prog 43 55 6 56 := El.mk' (z := .agg #[.int .i64 0, .int .i64 0, .int .i64 0, .int .i64 0, .int .i64 0, .string ByteArray.empty]) Tryz.underlying43 (by kernel_rfl) rfl
abbrev enc_Item (x : T_Item) : List Value := [.string x.Label, .int .i64 x.Ins.Op, .int .i64 x.Ins.D, .int .i64 x.Ins.A, .int .i64 x.Ins.B, .int .i64 x.Ins.Imm, .string x.Ins.Sym]
theorem enc_len_Item : ∀ z, (enc_Item z).length = 7 := fun _ => rfl
theorem enc_one_Item (z : T_Item) : ∀ u ∈ enc_Item z, u.oneCell' = true := by intro u hu; simp only [List.mem_cons, List.not_mem_nil, or_false] at hu; rcases hu with rfl | rfl | rfl | rfl | rfl | rfl | rfl <;> rfl
theorem enc_ones_Item (zs : List T_Item) : ∀ u ∈ zs.flatMap enc_Item, u.oneCell' = true := by intro u hu; obtain ⟨z, _, hz⟩ := List.mem_flatMap.1 hu; exact enc_one_Item z u hz
abbrev val_Item (x : T_Item) : Value := .agg (enc_Item x).toArray
theorem el_api_Item : El Tryz.prog 75 178 7 72 := El.mk' (z := .agg #[.string ByteArray.empty, .int .i64 0, .int .i64 0, .int .i64 0, .int .i64 0, .int .i64 0, .string ByteArray.empty]) Tryz.underlying75 (by kernel_rfl) rfl
theorem el_api_Line : El Tryz.prog 143 153 3 48 := El.mk' (z := .agg #[.int .i64 0, .string ByteArray.empty, .slice none 0 0]) Tryz.underlying143 (by kernel_rfl) rfl
theorem el_api_Object : El Tryz.prog 67 109 4 96 := El.mk' (z := .agg #[.slice none 0 0, .slice none 0 0, .slice none 0 0, .slice none 0 0]) Tryz.underlying67 (by kernel_rfl) rfl
theorem el_api_Part : El Tryz.prog 64 104 2 32 := El.mk' (z := .agg #[.bool false, .slice none 0 0]) Tryz.underlying64 (by kernel_rfl) rfl
theorem el_api_Source : El Tryz.prog 22 34 2 32 := El.mk' (z := .agg #[.bool false, .slice none 0 0]) Tryz.underlying22 (by kernel_rfl) rfl
abbrev enc_Symbol (x : T_Symbol) : List Value := [.string x.Name, .bool x.Code, .int .i64 x.Place, .bool x.Global]
theorem enc_len_Symbol : ∀ z, (enc_Symbol z).length = 4 := fun _ => rfl
theorem enc_one_Symbol (z : T_Symbol) : ∀ u ∈ enc_Symbol z, u.oneCell' = true := by intro u hu; simp only [List.mem_cons, List.not_mem_nil, or_false] at hu; rcases hu with rfl | rfl | rfl | rfl <;> rfl
theorem enc_ones_Symbol (zs : List T_Symbol) : ∀ u ∈ zs.flatMap enc_Symbol, u.oneCell' = true := by intro u hu; obtain ⟨z, _, hz⟩ := List.mem_flatMap.1 hu; exact enc_one_Symbol z u hz
abbrev val_Symbol (x : T_Symbol) : Value := .agg (enc_Symbol x).toArray
theorem el_api_Symbol : El Tryz.prog 77 160 4 40 := El.mk' (z := .agg #[.string ByteArray.empty, .bool false, .int .i64 0, .bool false]) Tryz.underlying77 (by kernel_rfl) rfl
abbrev enc_Token (x : T_Token) : List Value := [.int .i64 x.Kind, .string x.Text, .int .i64 x.N, .int .i64 x.At]
theorem enc_len_Token : ∀ z, (enc_Token z).length = 4 := fun _ => rfl
theorem enc_one_Token (z : T_Token) : ∀ u ∈ enc_Token z, u.oneCell' = true := by intro u hu; simp only [List.mem_cons, List.not_mem_nil, or_false] at hu; rcases hu with rfl | rfl | rfl | rfl <;> rfl
theorem enc_ones_Token (zs : List T_Token) : ∀ u ∈ zs.flatMap enc_Token, u.oneCell' = true := by intro u hu; obtain ⟨z, _, hz⟩ := List.mem_flatMap.1 hu; exact enc_one_Token z u hz
abbrev val_Token (x : T_Token) : Value := .agg (enc_Token x).toArray
theorem el_api_Token : El Tryz.prog 151 157 4 40 := El.mk' (z := .agg #[.int .i64 0, .string ByteArray.empty, .int .i64 0, .int .i64 0]) Tryz.underlying151 (by kernel_rfl) rfl
theorem el_api_Unit : El Tryz.prog 74 79 4 96 := El.mk' (z := .agg #[.slice none 0 0, .slice none 0 0, .slice none 0 0, .slice none 0 0]) Tryz.underlying74 (by kernel_rfl) rfl
abbrev enc_Value (x : T_Value) : List Value := [.string x.Sym, .int .i64 x.N]
theorem enc_one_Value (z : T_Value) : ∀ u ∈ enc_Value z, u.oneCell' = true := by intro u hu; simp only [List.mem_cons, List.not_mem_nil, or_false] at hu; rcases hu with rfl | rfl <;> rfl
abbrev enc_Verdict (x : T_Verdict) : List Value := [.int .i64 x.Steps, .int .i64 x.Cycles, .int .i64 x.Seq, .int .i64 x.Pipe, .bool x.Same, .bool x.Begins]
theorem enc_one_Verdict (z : T_Verdict) : ∀ u ∈ enc_Verdict z, u.oneCell' = true := by intro u hu; simp only [List.mem_cons, List.not_mem_nil, or_false] at hu; rcases hu with rfl | rfl | rfl | rfl | rfl | rfl <;> rfl
abbrev enc_Write (x : T_Write) : List Value := [.int .i64 x.Reg, .int .u32 x.Value, .int .i64 x.Left]
theorem enc_len_Write : ∀ z, (enc_Write z).length = 3 := fun _ => rfl
theorem enc_one_Write (z : T_Write) : ∀ u ∈ enc_Write z, u.oneCell' = true := by intro u hu; simp only [List.mem_cons, List.not_mem_nil, or_false] at hu; rcases hu with rfl | rfl | rfl <;> rfl
theorem enc_ones_Write (zs : List T_Write) : ∀ u ∈ zs.flatMap enc_Write, u.oneCell' = true := by intro u hu; obtain ⟨z, _, hz⟩ := List.mem_flatMap.1 hu; exact enc_one_Write z u hz
abbrev val_Write (x : T_Write) : Value := .agg (enc_Write x).toArray
theorem el_api_Write : El Tryz.prog 84 141 3 24 := El.mk' (z := .agg #[.int .i64 0, .int .u32 0, .int .i64 0]) Tryz.underlying84 (by kernel_rfl) rfl
abbrev enc_int (x : Int) : List Value := [.int .i64 x]
theorem enc_len_int : ∀ z, (enc_int z).length = 1 := fun _ => rfl
theorem enc_one_int (z : Int) : ∀ u ∈ enc_int z, u.oneCell' = true := by intro u hu; simp only [List.mem_cons, List.not_mem_nil, or_false] at hu; rcases hu with rfl <;> rfl
theorem enc_ones_int (zs : List Int) : ∀ u ∈ zs.flatMap enc_int, u.oneCell' = true := by intro u hu; obtain ⟨z, _, hz⟩ := List.mem_flatMap.1 hu; exact enc_one_int z u hz
abbrev val_int (x : Int) : Value := .int .i64 x
theorem el_int : El Tryz.prog 58 3 1 8 := El.mk' (z := .int .i64 0) Tryz.underlying58 (by kernel_rfl) rfl
abbrev enc_deed (x : T_deed) : List Value := [.bool x.has, .int .u32 x.result, .bool x.jumps, .int .i64 x.to, .int .i64 x.stop]
theorem enc_one_deed (z : T_deed) : ∀ u ∈ enc_deed z, u.oneCell' = true := by intro u hu; simp only [List.mem_cons, List.not_mem_nil, or_false] at hu; rcases hu with rfl | rfl | rfl | rfl | rfl <;> rfl
abbrev enc_string (x : ByteArray) : List Value := [.string x]
theorem enc_len_string : ∀ z, (enc_string z).length = 1 := fun _ => rfl
theorem enc_one_string (z : ByteArray) : ∀ u ∈ enc_string z, u.oneCell' = true := by intro u hu; simp only [List.mem_cons, List.not_mem_nil, or_false] at hu; rcases hu with rfl <;> rfl
theorem enc_ones_string (zs : List ByteArray) : ∀ u ∈ zs.flatMap enc_string, u.oneCell' = true := by intro u hu; obtain ⟨z, _, hz⟩ := List.mem_flatMap.1 hu; exact enc_one_string z u hz
abbrev val_string (x : ByteArray) : Value := .string x
theorem el_string : El Tryz.prog 32 9 1 16 := El.mk' (z := .string ByteArray.empty) Tryz.underlying32 (by kernel_rfl) rfl
abbrev enc_uint32 (x : Int) : List Value := [.int .u32 x]
theorem enc_len_uint32 : ∀ z, (enc_uint32 z).length = 1 := fun _ => rfl
theorem enc_one_uint32 (z : Int) : ∀ u ∈ enc_uint32 z, u.oneCell' = true := by intro u hu; simp only [List.mem_cons, List.not_mem_nil, or_false] at hu; rcases hu with rfl <;> rfl
theorem enc_ones_uint32 (zs : List Int) : ∀ u ∈ zs.flatMap enc_uint32, u.oneCell' = true := by intro u hu; obtain ⟨z, _, hz⟩ := List.mem_flatMap.1 hu; exact enc_one_uint32 z u hz
abbrev val_uint32 (x : Int) : Value := .int .u32 x
theorem el_uint32 : El Tryz.prog 23 31 1 4 := El.mk' (z := .int .u32 0) Tryz.underlying23 (by kernel_rfl) rfl
abbrev enc_uint8 (x : Int) : List Value := [.int .u8 x]
theorem enc_len_uint8 : ∀ z, (enc_uint8 z).length = 1 := fun _ => rfl
abbrev val_uint8 (x : Int) : Value := .int .u8 x
theorem el_uint8 : El Tryz.prog 275 5 1 1 := El.mk' (z := .int .u8 0) Tryz.underlying275 (by kernel_rfl) rfl
abbrev cl_Line (x0 : Int) (x1 : ByteArray) (v2 : Value) : List Value := [.int .i64 x0, .string x1, v2]
theorem one_Line {x0 : Int} {x1 : ByteArray} {v2 : Value} (h2 : v2.oneCell' = true) : ∀ u ∈ cl_Line x0 x1 v2, u.oneCell' = true := by intro u hu; simp only [List.mem_cons, List.not_mem_nil, or_false] at hu; rcases hu with rfl | rfl | rfl <;> first | rfl | assumption
abbrev cl_Object (v0 : Value) (v1 : Value) (v2 : Value) (v3 : Value) : List Value := [v0, v1, v2, v3]
theorem one_Object {v0 : Value} {v1 : Value} {v2 : Value} {v3 : Value} (h0 : v0.oneCell' = true) (h1 : v1.oneCell' = true) (h2 : v2.oneCell' = true) (h3 : v3.oneCell' = true) : ∀ u ∈ cl_Object v0 v1 v2 v3, u.oneCell' = true := by intro u hu; simp only [List.mem_cons, List.not_mem_nil, or_false] at hu; rcases hu with rfl | rfl | rfl | rfl <;> first | rfl | assumption
abbrev cl_Unit (v0 : Value) (v1 : Value) (v2 : Value) (v3 : Value) : List Value := [v0, v1, v2, v3]
theorem one_Unit {v0 : Value} {v1 : Value} {v2 : Value} {v3 : Value} (h0 : v0.oneCell' = true) (h1 : v1.oneCell' = true) (h2 : v2.oneCell' = true) (h3 : v3.oneCell' = true) : ∀ u ∈ cl_Unit v0 v1 v2 v3, u.oneCell' = true := by intro u hu; simp only [List.mem_cons, List.not_mem_nil, or_false] at hu; rcases hu with rfl | rfl | rfl | rfl <;> first | rfl | assumption
abbrev cl_Block (v0 : Value) (v1 : Value) (x2 : Int) (x3 : Int) (x4 : Int) (x5 : Int) (x6 : Int) (x7 : ByteArray) : List Value := [v0, v1, .int .i64 x2, .int .i64 x3, .int .i64 x4, .int .i64 x5, .int .i64 x6, .string x7]
theorem one_Block {v0 : Value} {v1 : Value} {x2 : Int} {x3 : Int} {x4 : Int} {x5 : Int} {x6 : Int} {x7 : ByteArray} (h0 : v0.oneCell' = true) (h1 : v1.oneCell' = true) : ∀ u ∈ cl_Block v0 v1 x2 x3 x4 x5 x6 x7, u.oneCell' = true := by intro u hu; simp only [List.mem_cons, List.not_mem_nil, or_false] at hu; rcases hu with rfl | rfl | rfl | rfl | rfl | rfl | rfl | rfl <;> first | rfl | assumption
abbrev cl_Flat (v0 : Value) (v1 : Value) (x2 : Int) : List Value := [v0, v1, .int .i64 x2]
theorem one_Flat {v0 : Value} {v1 : Value} {x2 : Int} (h0 : v0.oneCell' = true) (h1 : v1.oneCell' = true) : ∀ u ∈ cl_Flat v0 v1 x2, u.oneCell' = true := by intro u hu; simp only [List.mem_cons, List.not_mem_nil, or_false] at hu; rcases hu with rfl | rfl | rfl <;> first | rfl | assumption
abbrev cl_Image (v0 : Value) (v1 : Value) (x2 : Int) : List Value := [v0, v1, .int .i64 x2]
theorem one_Image {v0 : Value} {v1 : Value} {x2 : Int} (h0 : v0.oneCell' = true) (h1 : v1.oneCell' = true) : ∀ u ∈ cl_Image v0 v1 x2, u.oneCell' = true := by intro u hu; simp only [List.mem_cons, List.not_mem_nil, or_false] at hu; rcases hu with rfl | rfl | rfl <;> first | rfl | assumption
abbrev cl_Part (x0 : Bool) (v1 : Value) : List Value := [.bool x0, v1]
theorem one_Part {x0 : Bool} {v1 : Value} (h1 : v1.oneCell' = true) : ∀ u ∈ cl_Part x0 v1, u.oneCell' = true := by intro u hu; simp only [List.mem_cons, List.not_mem_nil, or_false] at hu; rcases hu with rfl | rfl <;> first | rfl | assumption
abbrev cl_Source (x0 : Bool) (v1 : Value) : List Value := [.bool x0, v1]
theorem one_Source {x0 : Bool} {v1 : Value} (h1 : v1.oneCell' = true) : ∀ u ∈ cl_Source x0 v1, u.oneCell' = true := by intro u hu; simp only [List.mem_cons, List.not_mem_nil, or_false] at hu; rcases hu with rfl | rfl <;> first | rfl | assumption
abbrev cl_State (v0 : Value) (v1 : Value) (v2 : Value) (x3 : Int) (v4 : Value) (x5 : Int) (v6 : Value) (x7 : Int) (v8 : Value) (x9 : Int) (x10 : Int) : List Value := [v0, v1, v2, .int .i64 x3, v4, .int .i64 x5, v6, .int .i64 x7, v8, .int .i64 x9, .int .i64 x10]
theorem one_State {v0 : Value} {v1 : Value} {v2 : Value} {x3 : Int} {v4 : Value} {x5 : Int} {v6 : Value} {x7 : Int} {v8 : Value} {x9 : Int} {x10 : Int} (h0 : v0.oneCell' = true) (h1 : v1.oneCell' = true) (h2 : v2.oneCell' = true) (h4 : v4.oneCell' = true) (h6 : v6.oneCell' = true) (h8 : v8.oneCell' = true) : ∀ u ∈ cl_State v0 v1 v2 x3 v4 x5 v6 x7 v8 x9 x10, u.oneCell' = true := by intro u hu; simp only [List.mem_cons, List.not_mem_nil, or_false] at hu; rcases hu with rfl | rfl | rfl | rfl | rfl | rfl | rfl | rfl | rfl | rfl | rfl <;> first | rfl | assumption
abbrev cl_Ask (v0 : Value) (v1 : Value) (x2 : Int) : List Value := [v0, v1, .int .i64 x2]
abbrev cl_assembler (v0 : Value) (v1 : Value) (v2 : Value) (v3 : Value) (v4 : Value) (x5 : Bool) (x6 : Int) (v7 : Value) (x8 : Int) : List Value := [v0, v1, v2, v3, v4, .bool x5, .int .i64 x6, v7, .int .i64 x8]
abbrev cl_macro (x0 : ByteArray) (v1 : Value) : List Value := [.string x0, v1]
abbrev cl_expander (v0 : Value) (v1 : Value) (v2 : Value) (x3 : Int) (x4 : Int) (x5 : Int) : List Value := [v0, v1, v2, .int .i64 x3, .int .i64 x4, .int .i64 x5]
abbrev cl_reckoner (v0 : Value) (v1 : Value) (x2 : Int) (x3 : Int) : List Value := [v0, v1, .int .i64 x2, .int .i64 x3]
theorem mz_Bundle : ∀ i, Tryz.prog.info? 57 = some i → ∀ v, i.zero = some v → v.cells.toList = enc_Bundle (⟨(⟨(0 : Int), (0 : Int), (0 : Int), (0 : Int), (0 : Int), ByteArray.empty⟩ : T_Ins), (⟨(0 : Int), (0 : Int), (0 : Int), (0 : Int), (0 : Int), ByteArray.empty⟩ : T_Ins), (⟨(0 : Int), (0 : Int), (0 : Int), (0 : Int), (0 : Int), ByteArray.empty⟩ : T_Ins), (⟨(0 : Int), (0 : Int), (0 : Int), (0 : Int), (0 : Int), ByteArray.empty⟩ : T_Ins)⟩ : (A4 T_Ins)) := by
  intro i hi v hv
  have h : (Tryz.prog.info? 57).map (·.zero) = some (some (.agg #[.int .i64 0, .int .i64 0, .int .i64 0, .int .i64 0, .int .i64 0, .string ByteArray.empty, .int .i64 0, .int .i64 0, .int .i64 0, .int .i64 0, .int .i64 0, .string ByteArray.empty, .int .i64 0, .int .i64 0, .int .i64 0, .int .i64 0, .int .i64 0, .string ByteArray.empty, .int .i64 0, .int .i64 0, .int .i64 0, .int .i64 0, .int .i64 0, .string ByteArray.empty])) := by kernel_rfl
  rw [hi] at h
  have h2 : i.zero = some (.agg #[.int .i64 0, .int .i64 0, .int .i64 0, .int .i64 0, .int .i64 0, .string ByteArray.empty, .int .i64 0, .int .i64 0, .int .i64 0, .int .i64 0, .int .i64 0, .string ByteArray.empty, .int .i64 0, .int .i64 0, .int .i64 0, .int .i64 0, .int .i64 0, .string ByteArray.empty, .int .i64 0, .int .i64 0, .int .i64 0, .int .i64 0, .int .i64 0, .string ByteArray.empty]) := Option.some.inj h
  rw [hv] at h2
  obtain rfl := Option.some.inj h2
  rfl
theorem mz_int : ∀ i, Tryz.prog.info? 3 = some i → ∀ v, i.zero = some v → v.cells.toList = enc_int (0 : Int) := by
  intro i hi v hv
  have h : (Tryz.prog.info? 3).map (·.zero) = some (some (.int .i64 0)) := by kernel_rfl
  rw [hi] at h
  have h2 : i.zero = some (.int .i64 0) := Option.some.inj h
  rw [hv] at h2
  obtain rfl := Option.some.inj h2
  rfl
theorem mz_uint32 : ∀ i, Tryz.prog.info? 31 = some i → ∀ v, i.zero = some v → v.cells.toList = enc_uint32 (0 : Int) := by
  intro i hi v hv
  have h : (Tryz.prog.info? 31).map (·.zero) = some (some (.int .u32 0)) := by kernel_rfl
  rw [hi] at h
  have h2 : i.zero = some (.int .u32 0) := Option.some.inj h
  rw [hv] at h2
  obtain rfl := Option.some.inj h2
  rfl
theorem fa_api_Block_0 : ∀ (b o : Nat) (w : World), (Instr.fieldAt 168 (.pointer (some ⟨b, o, none⟩)) 0).run Tryz.prog w = .ok (.pointer (some ⟨b, o + 0, none⟩)) w := fieldAt_of Tryz.underlying168 rfl rfl (n := 0) (by kernel_rfl)
theorem fa_api_Block_1 : ∀ (b o : Nat) (w : World), (Instr.fieldAt 168 (.pointer (some ⟨b, o, none⟩)) 1).run Tryz.prog w = .ok (.pointer (some ⟨b, o + 1, none⟩)) w := fieldAt_of Tryz.underlying168 rfl rfl (n := 0) (by kernel_rfl)
theorem fa_api_Block_2 : ∀ (b o : Nat) (w : World), (Instr.fieldAt 168 (.pointer (some ⟨b, o, none⟩)) 2).run Tryz.prog w = .ok (.pointer (some ⟨b, o + 2, none⟩)) w := fieldAt_of Tryz.underlying168 rfl rfl (n := 5) (by kernel_rfl)
theorem fa_api_Choice_0 : ∀ (b o : Nat) (w : World), (Instr.fieldAt 81 (.pointer (some ⟨b, o, none⟩)) 0).run Tryz.prog w = .ok (.pointer (some ⟨b, o + 0, none⟩)) w := fieldAt_of Tryz.underlying81 rfl rfl (n := 0) (by kernel_rfl)
theorem fa_api_Choice_1 : ∀ (b o : Nat) (w : World), (Instr.fieldAt 81 (.pointer (some ⟨b, o, none⟩)) 1).run Tryz.prog w = .ok (.pointer (some ⟨b, o + 1, none⟩)) w := fieldAt_of Tryz.underlying81 rfl rfl (n := 0) (by kernel_rfl)
theorem fa_api_Edge_0 : ∀ (b o : Nat) (w : World), (Instr.fieldAt 285 (.pointer (some ⟨b, o, none⟩)) 0).run Tryz.prog w = .ok (.pointer (some ⟨b, o + 0, none⟩)) w := fieldAt_of Tryz.underlying285 rfl rfl (n := 0) (by kernel_rfl)
theorem fa_api_Edge_1 : ∀ (b o : Nat) (w : World), (Instr.fieldAt 285 (.pointer (some ⟨b, o, none⟩)) 1).run Tryz.prog w = .ok (.pointer (some ⟨b, o + 1, none⟩)) w := fieldAt_of Tryz.underlying285 rfl rfl (n := 0) (by kernel_rfl)
theorem fa_api_Edge_2 : ∀ (b o : Nat) (w : World), (Instr.fieldAt 285 (.pointer (some ⟨b, o, none⟩)) 2).run Tryz.prog w = .ok (.pointer (some ⟨b, o + 2, none⟩)) w := fieldAt_of Tryz.underlying285 rfl rfl (n := 0) (by kernel_rfl)
theorem fa_api_Fault_0 : ∀ (b o : Nat) (w : World), (Instr.fieldAt 40 (.pointer (some ⟨b, o, none⟩)) 0).run Tryz.prog w = .ok (.pointer (some ⟨b, o + 0, none⟩)) w := fieldAt_of Tryz.underlying40 rfl rfl (n := 0) (by kernel_rfl)
theorem fa_api_Fix_0 : ∀ (b o : Nat) (w : World), (Instr.fieldAt 122 (.pointer (some ⟨b, o, none⟩)) 0).run Tryz.prog w = .ok (.pointer (some ⟨b, o + 0, none⟩)) w := fieldAt_of Tryz.underlying122 rfl rfl (n := 0) (by kernel_rfl)
theorem fa_api_Fix_1 : ∀ (b o : Nat) (w : World), (Instr.fieldAt 122 (.pointer (some ⟨b, o, none⟩)) 1).run Tryz.prog w = .ok (.pointer (some ⟨b, o + 1, none⟩)) w := fieldAt_of Tryz.underlying122 rfl rfl (n := 0) (by kernel_rfl)
theorem fa_api_Fix_2 : ∀ (b o : Nat) (w : World), (Instr.fieldAt 122 (.pointer (some ⟨b, o, none⟩)) 2).run Tryz.prog w = .ok (.pointer (some ⟨b, o + 2, none⟩)) w := fieldAt_of Tryz.underlying122 rfl rfl (n := 0) (by kernel_rfl)
theorem fa_api_Flat_0 : ∀ (b o : Nat) (w : World), (Instr.fieldAt 45 (.pointer (some ⟨b, o, none⟩)) 0).run Tryz.prog w = .ok (.pointer (some ⟨b, o + 0, none⟩)) w := fieldAt_of Tryz.underlying45 rfl rfl (n := 0) (by kernel_rfl)
theorem fa_api_Flat_1 : ∀ (b o : Nat) (w : World), (Instr.fieldAt 45 (.pointer (some ⟨b, o, none⟩)) 1).run Tryz.prog w = .ok (.pointer (some ⟨b, o + 1, none⟩)) w := fieldAt_of Tryz.underlying45 rfl rfl (n := 0) (by kernel_rfl)
theorem fa_api_Flat_2 : ∀ (b o : Nat) (w : World), (Instr.fieldAt 45 (.pointer (some ⟨b, o, none⟩)) 2).run Tryz.prog w = .ok (.pointer (some ⟨b, o + 2, none⟩)) w := fieldAt_of Tryz.underlying45 rfl rfl (n := 0) (by kernel_rfl)
theorem fa_api_Image_0 : ∀ (b o : Nat) (w : World), (Instr.fieldAt 37 (.pointer (some ⟨b, o, none⟩)) 0).run Tryz.prog w = .ok (.pointer (some ⟨b, o + 0, none⟩)) w := fieldAt_of Tryz.underlying37 rfl rfl (n := 0) (by kernel_rfl)
theorem fa_api_Image_1 : ∀ (b o : Nat) (w : World), (Instr.fieldAt 37 (.pointer (some ⟨b, o, none⟩)) 1).run Tryz.prog w = .ok (.pointer (some ⟨b, o + 1, none⟩)) w := fieldAt_of Tryz.underlying37 rfl rfl (n := 0) (by kernel_rfl)
theorem fa_api_Image_2 : ∀ (b o : Nat) (w : World), (Instr.fieldAt 37 (.pointer (some ⟨b, o, none⟩)) 2).run Tryz.prog w = .ok (.pointer (some ⟨b, o + 2, none⟩)) w := fieldAt_of Tryz.underlying37 rfl rfl (n := 0) (by kernel_rfl)
theorem fa_api_Ins_0 : ∀ (b o : Nat) (w : World), (Instr.fieldAt 55 (.pointer (some ⟨b, o, none⟩)) 0).run Tryz.prog w = .ok (.pointer (some ⟨b, o + 0, none⟩)) w := fieldAt_of Tryz.underlying55 rfl rfl (n := 0) (by kernel_rfl)
theorem fa_api_Ins_1 : ∀ (b o : Nat) (w : World), (Instr.fieldAt 55 (.pointer (some ⟨b, o, none⟩)) 1).run Tryz.prog w = .ok (.pointer (some ⟨b, o + 1, none⟩)) w := fieldAt_of Tryz.underlying55 rfl rfl (n := 0) (by kernel_rfl)
theorem fa_api_Ins_2 : ∀ (b o : Nat) (w : World), (Instr.fieldAt 55 (.pointer (some ⟨b, o, none⟩)) 2).run Tryz.prog w = .ok (.pointer (some ⟨b, o + 2, none⟩)) w := fieldAt_of Tryz.underlying55 rfl rfl (n := 0) (by kernel_rfl)
theorem fa_api_Ins_3 : ∀ (b o : Nat) (w : World), (Instr.fieldAt 55 (.pointer (some ⟨b, o, none⟩)) 3).run Tryz.prog w = .ok (.pointer (some ⟨b, o + 3, none⟩)) w := fieldAt_of Tryz.underlying55 rfl rfl (n := 0) (by kernel_rfl)
theorem fa_api_Ins_4 : ∀ (b o : Nat) (w : World), (Instr.fieldAt 55 (.pointer (some ⟨b, o, none⟩)) 4).run Tryz.prog w = .ok (.pointer (some ⟨b, o + 4, none⟩)) w := fieldAt_of Tryz.underlying55 rfl rfl (n := 0) (by kernel_rfl)
theorem fa_api_Ins_5 : ∀ (b o : Nat) (w : World), (Instr.fieldAt 55 (.pointer (some ⟨b, o, none⟩)) 5).run Tryz.prog w = .ok (.pointer (some ⟨b, o + 5, none⟩)) w := fieldAt_of Tryz.underlying55 rfl rfl (n := 0) (by kernel_rfl)
theorem fa_api_Item_0 : ∀ (b o : Nat) (w : World), (Instr.fieldAt 178 (.pointer (some ⟨b, o, none⟩)) 0).run Tryz.prog w = .ok (.pointer (some ⟨b, o + 0, none⟩)) w := fieldAt_of Tryz.underlying178 rfl rfl (n := 0) (by kernel_rfl)
theorem fa_api_Item_1 : ∀ (b o : Nat) (w : World), (Instr.fieldAt 178 (.pointer (some ⟨b, o, none⟩)) 1).run Tryz.prog w = .ok (.pointer (some ⟨b, o + 1, none⟩)) w := fieldAt_of Tryz.underlying178 rfl rfl (n := 5) (by kernel_rfl)
theorem fa_api_Line_0 : ∀ (b o : Nat) (w : World), (Instr.fieldAt 153 (.pointer (some ⟨b, o, none⟩)) 0).run Tryz.prog w = .ok (.pointer (some ⟨b, o + 0, none⟩)) w := fieldAt_of Tryz.underlying153 rfl rfl (n := 0) (by kernel_rfl)
theorem fa_api_Line_1 : ∀ (b o : Nat) (w : World), (Instr.fieldAt 153 (.pointer (some ⟨b, o, none⟩)) 1).run Tryz.prog w = .ok (.pointer (some ⟨b, o + 1, none⟩)) w := fieldAt_of Tryz.underlying153 rfl rfl (n := 0) (by kernel_rfl)
theorem fa_api_Line_2 : ∀ (b o : Nat) (w : World), (Instr.fieldAt 153 (.pointer (some ⟨b, o, none⟩)) 2).run Tryz.prog w = .ok (.pointer (some ⟨b, o + 2, none⟩)) w := fieldAt_of Tryz.underlying153 rfl rfl (n := 0) (by kernel_rfl)
theorem fa_api_Object_0 : ∀ (b o : Nat) (w : World), (Instr.fieldAt 109 (.pointer (some ⟨b, o, none⟩)) 0).run Tryz.prog w = .ok (.pointer (some ⟨b, o + 0, none⟩)) w := fieldAt_of Tryz.underlying109 rfl rfl (n := 0) (by kernel_rfl)
theorem fa_api_Object_1 : ∀ (b o : Nat) (w : World), (Instr.fieldAt 109 (.pointer (some ⟨b, o, none⟩)) 1).run Tryz.prog w = .ok (.pointer (some ⟨b, o + 1, none⟩)) w := fieldAt_of Tryz.underlying109 rfl rfl (n := 0) (by kernel_rfl)
theorem fa_api_Object_2 : ∀ (b o : Nat) (w : World), (Instr.fieldAt 109 (.pointer (some ⟨b, o, none⟩)) 2).run Tryz.prog w = .ok (.pointer (some ⟨b, o + 2, none⟩)) w := fieldAt_of Tryz.underlying109 rfl rfl (n := 0) (by kernel_rfl)
theorem fa_api_Object_3 : ∀ (b o : Nat) (w : World), (Instr.fieldAt 109 (.pointer (some ⟨b, o, none⟩)) 3).run Tryz.prog w = .ok (.pointer (some ⟨b, o + 3, none⟩)) w := fieldAt_of Tryz.underlying109 rfl rfl (n := 0) (by kernel_rfl)
theorem fa_api_Part_0 : ∀ (b o : Nat) (w : World), (Instr.fieldAt 104 (.pointer (some ⟨b, o, none⟩)) 0).run Tryz.prog w = .ok (.pointer (some ⟨b, o + 0, none⟩)) w := fieldAt_of Tryz.underlying104 rfl rfl (n := 0) (by kernel_rfl)
theorem fa_api_Part_1 : ∀ (b o : Nat) (w : World), (Instr.fieldAt 104 (.pointer (some ⟨b, o, none⟩)) 1).run Tryz.prog w = .ok (.pointer (some ⟨b, o + 1, none⟩)) w := fieldAt_of Tryz.underlying104 rfl rfl (n := 0) (by kernel_rfl)
theorem fa_api_Source_0 : ∀ (b o : Nat) (w : World), (Instr.fieldAt 34 (.pointer (some ⟨b, o, none⟩)) 0).run Tryz.prog w = .ok (.pointer (some ⟨b, o + 0, none⟩)) w := fieldAt_of Tryz.underlying34 rfl rfl (n := 0) (by kernel_rfl)
theorem fa_api_Source_1 : ∀ (b o : Nat) (w : World), (Instr.fieldAt 34 (.pointer (some ⟨b, o, none⟩)) 1).run Tryz.prog w = .ok (.pointer (some ⟨b, o + 1, none⟩)) w := fieldAt_of Tryz.underlying34 rfl rfl (n := 0) (by kernel_rfl)
theorem fa_api_State_0 : ∀ (b o : Nat) (w : World), (Instr.fieldAt 86 (.pointer (some ⟨b, o, none⟩)) 0).run Tryz.prog w = .ok (.pointer (some ⟨b, o + 0, none⟩)) w := fieldAt_of Tryz.underlying86 rfl rfl (n := 0) (by kernel_rfl)
theorem fa_api_State_1 : ∀ (b o : Nat) (w : World), (Instr.fieldAt 86 (.pointer (some ⟨b, o, none⟩)) 1).run Tryz.prog w = .ok (.pointer (some ⟨b, o + 1, none⟩)) w := fieldAt_of Tryz.underlying86 rfl rfl (n := 0) (by kernel_rfl)
theorem fa_api_State_2 : ∀ (b o : Nat) (w : World), (Instr.fieldAt 86 (.pointer (some ⟨b, o, none⟩)) 2).run Tryz.prog w = .ok (.pointer (some ⟨b, o + 2, none⟩)) w := fieldAt_of Tryz.underlying86 rfl rfl (n := 0) (by kernel_rfl)
theorem fa_api_State_3 : ∀ (b o : Nat) (w : World), (Instr.fieldAt 86 (.pointer (some ⟨b, o, none⟩)) 3).run Tryz.prog w = .ok (.pointer (some ⟨b, o + 3, none⟩)) w := fieldAt_of Tryz.underlying86 rfl rfl (n := 0) (by kernel_rfl)
theorem fa_api_State_4 : ∀ (b o : Nat) (w : World), (Instr.fieldAt 86 (.pointer (some ⟨b, o, none⟩)) 4).run Tryz.prog w = .ok (.pointer (some ⟨b, o + 4, none⟩)) w := fieldAt_of Tryz.underlying86 rfl rfl (n := 0) (by kernel_rfl)
theorem fa_api_State_5 : ∀ (b o : Nat) (w : World), (Instr.fieldAt 86 (.pointer (some ⟨b, o, none⟩)) 5).run Tryz.prog w = .ok (.pointer (some ⟨b, o + 5, none⟩)) w := fieldAt_of Tryz.underlying86 rfl rfl (n := 0) (by kernel_rfl)
theorem fa_api_State_6 : ∀ (b o : Nat) (w : World), (Instr.fieldAt 86 (.pointer (some ⟨b, o, none⟩)) 6).run Tryz.prog w = .ok (.pointer (some ⟨b, o + 6, none⟩)) w := fieldAt_of Tryz.underlying86 rfl rfl (n := 0) (by kernel_rfl)
theorem fa_api_State_7 : ∀ (b o : Nat) (w : World), (Instr.fieldAt 86 (.pointer (some ⟨b, o, none⟩)) 7).run Tryz.prog w = .ok (.pointer (some ⟨b, o + 7, none⟩)) w := fieldAt_of Tryz.underlying86 rfl rfl (n := 0) (by kernel_rfl)
theorem fa_api_State_8 : ∀ (b o : Nat) (w : World), (Instr.fieldAt 86 (.pointer (some ⟨b, o, none⟩)) 8).run Tryz.prog w = .ok (.pointer (some ⟨b, o + 8, none⟩)) w := fieldAt_of Tryz.underlying86 rfl rfl (n := 0) (by kernel_rfl)
theorem fa_api_State_9 : ∀ (b o : Nat) (w : World), (Instr.fieldAt 86 (.pointer (some ⟨b, o, none⟩)) 9).run Tryz.prog w = .ok (.pointer (some ⟨b, o + 9, none⟩)) w := fieldAt_of Tryz.underlying86 rfl rfl (n := 0) (by kernel_rfl)
theorem fa_api_State_10 : ∀ (b o : Nat) (w : World), (Instr.fieldAt 86 (.pointer (some ⟨b, o, none⟩)) 10).run Tryz.prog w = .ok (.pointer (some ⟨b, o + 10, none⟩)) w := fieldAt_of Tryz.underlying86 rfl rfl (n := 0) (by kernel_rfl)
theorem fa_api_Symbol_0 : ∀ (b o : Nat) (w : World), (Instr.fieldAt 160 (.pointer (some ⟨b, o, none⟩)) 0).run Tryz.prog w = .ok (.pointer (some ⟨b, o + 0, none⟩)) w := fieldAt_of Tryz.underlying160 rfl rfl (n := 0) (by kernel_rfl)
theorem fa_api_Symbol_1 : ∀ (b o : Nat) (w : World), (Instr.fieldAt 160 (.pointer (some ⟨b, o, none⟩)) 1).run Tryz.prog w = .ok (.pointer (some ⟨b, o + 1, none⟩)) w := fieldAt_of Tryz.underlying160 rfl rfl (n := 0) (by kernel_rfl)
theorem fa_api_Symbol_2 : ∀ (b o : Nat) (w : World), (Instr.fieldAt 160 (.pointer (some ⟨b, o, none⟩)) 2).run Tryz.prog w = .ok (.pointer (some ⟨b, o + 2, none⟩)) w := fieldAt_of Tryz.underlying160 rfl rfl (n := 0) (by kernel_rfl)
theorem fa_api_Symbol_3 : ∀ (b o : Nat) (w : World), (Instr.fieldAt 160 (.pointer (some ⟨b, o, none⟩)) 3).run Tryz.prog w = .ok (.pointer (some ⟨b, o + 3, none⟩)) w := fieldAt_of Tryz.underlying160 rfl rfl (n := 0) (by kernel_rfl)
theorem fa_api_Token_0 : ∀ (b o : Nat) (w : World), (Instr.fieldAt 157 (.pointer (some ⟨b, o, none⟩)) 0).run Tryz.prog w = .ok (.pointer (some ⟨b, o + 0, none⟩)) w := fieldAt_of Tryz.underlying157 rfl rfl (n := 0) (by kernel_rfl)
theorem fa_api_Token_1 : ∀ (b o : Nat) (w : World), (Instr.fieldAt 157 (.pointer (some ⟨b, o, none⟩)) 1).run Tryz.prog w = .ok (.pointer (some ⟨b, o + 1, none⟩)) w := fieldAt_of Tryz.underlying157 rfl rfl (n := 0) (by kernel_rfl)
theorem fa_api_Token_2 : ∀ (b o : Nat) (w : World), (Instr.fieldAt 157 (.pointer (some ⟨b, o, none⟩)) 2).run Tryz.prog w = .ok (.pointer (some ⟨b, o + 2, none⟩)) w := fieldAt_of Tryz.underlying157 rfl rfl (n := 0) (by kernel_rfl)
theorem fa_api_Token_3 : ∀ (b o : Nat) (w : World), (Instr.fieldAt 157 (.pointer (some ⟨b, o, none⟩)) 3).run Tryz.prog w = .ok (.pointer (some ⟨b, o + 3, none⟩)) w := fieldAt_of Tryz.underlying157 rfl rfl (n := 0) (by kernel_rfl)
theorem fa_api_Unit_0 : ∀ (b o : Nat) (w : World), (Instr.fieldAt 79 (.pointer (some ⟨b, o, none⟩)) 0).run Tryz.prog w = .ok (.pointer (some ⟨b, o + 0, none⟩)) w := fieldAt_of Tryz.underlying79 rfl rfl (n := 0) (by kernel_rfl)
theorem fa_api_Unit_1 : ∀ (b o : Nat) (w : World), (Instr.fieldAt 79 (.pointer (some ⟨b, o, none⟩)) 1).run Tryz.prog w = .ok (.pointer (some ⟨b, o + 1, none⟩)) w := fieldAt_of Tryz.underlying79 rfl rfl (n := 0) (by kernel_rfl)
theorem fa_api_Unit_2 : ∀ (b o : Nat) (w : World), (Instr.fieldAt 79 (.pointer (some ⟨b, o, none⟩)) 2).run Tryz.prog w = .ok (.pointer (some ⟨b, o + 2, none⟩)) w := fieldAt_of Tryz.underlying79 rfl rfl (n := 0) (by kernel_rfl)
theorem fa_api_Unit_3 : ∀ (b o : Nat) (w : World), (Instr.fieldAt 79 (.pointer (some ⟨b, o, none⟩)) 3).run Tryz.prog w = .ok (.pointer (some ⟨b, o + 3, none⟩)) w := fieldAt_of Tryz.underlying79 rfl rfl (n := 0) (by kernel_rfl)
theorem fa_api_Value_0 : ∀ (b o : Nat) (w : World), (Instr.fieldAt 172 (.pointer (some ⟨b, o, none⟩)) 0).run Tryz.prog w = .ok (.pointer (some ⟨b, o + 0, none⟩)) w := fieldAt_of Tryz.underlying172 rfl rfl (n := 0) (by kernel_rfl)
theorem fa_api_Value_1 : ∀ (b o : Nat) (w : World), (Instr.fieldAt 172 (.pointer (some ⟨b, o, none⟩)) 1).run Tryz.prog w = .ok (.pointer (some ⟨b, o + 1, none⟩)) w := fieldAt_of Tryz.underlying172 rfl rfl (n := 0) (by kernel_rfl)
theorem fa_api_Verdict_0 : ∀ (b o : Nat) (w : World), (Instr.fieldAt 50 (.pointer (some ⟨b, o, none⟩)) 0).run Tryz.prog w = .ok (.pointer (some ⟨b, o + 0, none⟩)) w := fieldAt_of Tryz.underlying50 rfl rfl (n := 0) (by kernel_rfl)
theorem fa_api_Verdict_1 : ∀ (b o : Nat) (w : World), (Instr.fieldAt 50 (.pointer (some ⟨b, o, none⟩)) 1).run Tryz.prog w = .ok (.pointer (some ⟨b, o + 1, none⟩)) w := fieldAt_of Tryz.underlying50 rfl rfl (n := 0) (by kernel_rfl)
theorem fa_api_Verdict_4 : ∀ (b o : Nat) (w : World), (Instr.fieldAt 50 (.pointer (some ⟨b, o, none⟩)) 4).run Tryz.prog w = .ok (.pointer (some ⟨b, o + 4, none⟩)) w := fieldAt_of Tryz.underlying50 rfl rfl (n := 0) (by kernel_rfl)
theorem fa_api_Verdict_5 : ∀ (b o : Nat) (w : World), (Instr.fieldAt 50 (.pointer (some ⟨b, o, none⟩)) 5).run Tryz.prog w = .ok (.pointer (some ⟨b, o + 5, none⟩)) w := fieldAt_of Tryz.underlying50 rfl rfl (n := 0) (by kernel_rfl)
theorem fa_api_Write_0 : ∀ (b o : Nat) (w : World), (Instr.fieldAt 141 (.pointer (some ⟨b, o, none⟩)) 0).run Tryz.prog w = .ok (.pointer (some ⟨b, o + 0, none⟩)) w := fieldAt_of Tryz.underlying141 rfl rfl (n := 0) (by kernel_rfl)
theorem fa_api_Write_1 : ∀ (b o : Nat) (w : World), (Instr.fieldAt 141 (.pointer (some ⟨b, o, none⟩)) 1).run Tryz.prog w = .ok (.pointer (some ⟨b, o + 1, none⟩)) w := fieldAt_of Tryz.underlying141 rfl rfl (n := 0) (by kernel_rfl)
theorem fa_api_Write_2 : ∀ (b o : Nat) (w : World), (Instr.fieldAt 141 (.pointer (some ⟨b, o, none⟩)) 2).run Tryz.prog w = .ok (.pointer (some ⟨b, o + 2, none⟩)) w := fieldAt_of Tryz.underlying141 rfl rfl (n := 0) (by kernel_rfl)
theorem fa_sledgelaw22_Ask_1 : ∀ (b o : Nat) (w : World), (Instr.fieldAt 25 (.pointer (some ⟨b, o, none⟩)) 1).run Tryz.prog w = .ok (.pointer (some ⟨b, o + 1, none⟩)) w := fieldAt_of Tryz.underlying25 rfl rfl (n := 0) (by kernel_rfl)
theorem fa_sledgeref5_deed_0 : ∀ (b o : Nat) (w : World), (Instr.fieldAt 193 (.pointer (some ⟨b, o, none⟩)) 0).run Tryz.prog w = .ok (.pointer (some ⟨b, o + 0, none⟩)) w := fieldAt_of Tryz.underlying193 rfl rfl (n := 0) (by kernel_rfl)
theorem fa_sledgeref5_deed_1 : ∀ (b o : Nat) (w : World), (Instr.fieldAt 193 (.pointer (some ⟨b, o, none⟩)) 1).run Tryz.prog w = .ok (.pointer (some ⟨b, o + 1, none⟩)) w := fieldAt_of Tryz.underlying193 rfl rfl (n := 0) (by kernel_rfl)
theorem fa_sledgeref5_deed_2 : ∀ (b o : Nat) (w : World), (Instr.fieldAt 193 (.pointer (some ⟨b, o, none⟩)) 2).run Tryz.prog w = .ok (.pointer (some ⟨b, o + 2, none⟩)) w := fieldAt_of Tryz.underlying193 rfl rfl (n := 0) (by kernel_rfl)
theorem fa_sledgeref5_deed_3 : ∀ (b o : Nat) (w : World), (Instr.fieldAt 193 (.pointer (some ⟨b, o, none⟩)) 3).run Tryz.prog w = .ok (.pointer (some ⟨b, o + 3, none⟩)) w := fieldAt_of Tryz.underlying193 rfl rfl (n := 0) (by kernel_rfl)
theorem fa_sledgeref5_deed_4 : ∀ (b o : Nat) (w : World), (Instr.fieldAt 193 (.pointer (some ⟨b, o, none⟩)) 4).run Tryz.prog w = .ok (.pointer (some ⟨b, o + 4, none⟩)) w := fieldAt_of Tryz.underlying193 rfl rfl (n := 0) (by kernel_rfl)
theorem fa_sledgeref8_assembler_0 : ∀ (b o : Nat) (w : World), (Instr.fieldAt 150 (.pointer (some ⟨b, o, none⟩)) 0).run Tryz.prog w = .ok (.pointer (some ⟨b, o + 0, none⟩)) w := fieldAt_of Tryz.underlying150 rfl rfl (n := 0) (by kernel_rfl)
theorem fa_sledgeref8_assembler_1 : ∀ (b o : Nat) (w : World), (Instr.fieldAt 150 (.pointer (some ⟨b, o, none⟩)) 1).run Tryz.prog w = .ok (.pointer (some ⟨b, o + 1, none⟩)) w := fieldAt_of Tryz.underlying150 rfl rfl (n := 3) (by kernel_rfl)
theorem fa_sledgeref8_assembler_2 : ∀ (b o : Nat) (w : World), (Instr.fieldAt 150 (.pointer (some ⟨b, o, none⟩)) 2).run Tryz.prog w = .ok (.pointer (some ⟨b, o + 5, none⟩)) w := fieldAt_of Tryz.underlying150 rfl rfl (n := 0) (by kernel_rfl)
theorem fa_sledgeref8_assembler_3 : ∀ (b o : Nat) (w : World), (Instr.fieldAt 150 (.pointer (some ⟨b, o, none⟩)) 3).run Tryz.prog w = .ok (.pointer (some ⟨b, o + 6, none⟩)) w := fieldAt_of Tryz.underlying150 rfl rfl (n := 0) (by kernel_rfl)
theorem fa_sledgeref8_assembler_4 : ∀ (b o : Nat) (w : World), (Instr.fieldAt 150 (.pointer (some ⟨b, o, none⟩)) 4).run Tryz.prog w = .ok (.pointer (some ⟨b, o + 7, none⟩)) w := fieldAt_of Tryz.underlying150 rfl rfl (n := 0) (by kernel_rfl)
theorem fa_sledgeref8_assembler_5 : ∀ (b o : Nat) (w : World), (Instr.fieldAt 150 (.pointer (some ⟨b, o, none⟩)) 5).run Tryz.prog w = .ok (.pointer (some ⟨b, o + 8, none⟩)) w := fieldAt_of Tryz.underlying150 rfl rfl (n := 0) (by kernel_rfl)
theorem fa_sledgeref8_expander_0 : ∀ (b o : Nat) (w : World), (Instr.fieldAt 208 (.pointer (some ⟨b, o, none⟩)) 0).run Tryz.prog w = .ok (.pointer (some ⟨b, o + 0, none⟩)) w := fieldAt_of Tryz.underlying208 rfl rfl (n := 0) (by kernel_rfl)
theorem fa_sledgeref8_expander_1 : ∀ (b o : Nat) (w : World), (Instr.fieldAt 208 (.pointer (some ⟨b, o, none⟩)) 1).run Tryz.prog w = .ok (.pointer (some ⟨b, o + 1, none⟩)) w := fieldAt_of Tryz.underlying208 rfl rfl (n := 0) (by kernel_rfl)
theorem fa_sledgeref8_expander_2 : ∀ (b o : Nat) (w : World), (Instr.fieldAt 208 (.pointer (some ⟨b, o, none⟩)) 2).run Tryz.prog w = .ok (.pointer (some ⟨b, o + 2, none⟩)) w := fieldAt_of Tryz.underlying208 rfl rfl (n := 0) (by kernel_rfl)
theorem fa_sledgeref8_expander_4 : ∀ (b o : Nat) (w : World), (Instr.fieldAt 208 (.pointer (some ⟨b, o, none⟩)) 4).run Tryz.prog w = .ok (.pointer (some ⟨b, o + 4, none⟩)) w := fieldAt_of Tryz.underlying208 rfl rfl (n := 0) (by kernel_rfl)
theorem fa_sledgeref8_reckoner_0 : ∀ (b o : Nat) (w : World), (Instr.fieldAt 282 (.pointer (some ⟨b, o, none⟩)) 0).run Tryz.prog w = .ok (.pointer (some ⟨b, o + 0, none⟩)) w := fieldAt_of Tryz.underlying282 rfl rfl (n := 0) (by kernel_rfl)
theorem fa_sledgeref8_reckoner_1 : ∀ (b o : Nat) (w : World), (Instr.fieldAt 282 (.pointer (some ⟨b, o, none⟩)) 1).run Tryz.prog w = .ok (.pointer (some ⟨b, o + 1, none⟩)) w := fieldAt_of Tryz.underlying282 rfl rfl (n := 0) (by kernel_rfl)
theorem fa_sledgeref8_reckoner_2 : ∀ (b o : Nat) (w : World), (Instr.fieldAt 282 (.pointer (some ⟨b, o, none⟩)) 2).run Tryz.prog w = .ok (.pointer (some ⟨b, o + 2, none⟩)) w := fieldAt_of Tryz.underlying282 rfl rfl (n := 0) (by kernel_rfl)
theorem fa_sledgeref8_reckoner_3 : ∀ (b o : Nat) (w : World), (Instr.fieldAt 282 (.pointer (some ⟨b, o, none⟩)) 3).run Tryz.prog w = .ok (.pointer (some ⟨b, o + 3, none⟩)) w := fieldAt_of Tryz.underlying282 rfl rfl (n := 0) (by kernel_rfl)
theorem sz_A5_int : (Tryz.prog.info? 264).map (·.size) = some 5 := by kernel_rfl
theorem sz_S_api_Bundle : (Tryz.prog.info? 35).map (·.size) = some 1 := by kernel_rfl
theorem sz_S_api_Fix : (Tryz.prog.info? 107).map (·.size) = some 1 := by kernel_rfl
theorem sz_S_api_Ins : (Tryz.prog.info? 43).map (·.size) = some 1 := by kernel_rfl
theorem sz_S_api_Item : (Tryz.prog.info? 75).map (·.size) = some 1 := by kernel_rfl
theorem sz_S_api_Line : (Tryz.prog.info? 143).map (·.size) = some 1 := by kernel_rfl
theorem sz_S_api_Object : (Tryz.prog.info? 67).map (·.size) = some 1 := by kernel_rfl
theorem sz_S_api_Symbol : (Tryz.prog.info? 77).map (·.size) = some 1 := by kernel_rfl
theorem sz_S_api_Token : (Tryz.prog.info? 151).map (·.size) = some 1 := by kernel_rfl
theorem sz_S_api_Write : (Tryz.prog.info? 84).map (·.size) = some 1 := by kernel_rfl
theorem sz_S_int : (Tryz.prog.info? 58).map (·.size) = some 1 := by kernel_rfl
theorem sz_S_string : (Tryz.prog.info? 32).map (·.size) = some 1 := by kernel_rfl
theorem sz_S_uint32 : (Tryz.prog.info? 23).map (·.size) = some 1 := by kernel_rfl
theorem sz_api_Block : (Tryz.prog.info? 168).map (·.size) = some 8 := by kernel_rfl
theorem sz_api_Bundle : (Tryz.prog.info? 57).map (·.size) = some 24 := by kernel_rfl
theorem sz_api_Fault : (Tryz.prog.info? 40).map (·.size) = some 3 := by kernel_rfl
theorem sz_api_Fix : (Tryz.prog.info? 122).map (·.size) = some 3 := by kernel_rfl
theorem sz_api_Flat : (Tryz.prog.info? 45).map (·.size) = some 3 := by kernel_rfl
theorem sz_api_Image : (Tryz.prog.info? 37).map (·.size) = some 3 := by kernel_rfl
theorem sz_api_Ins : (Tryz.prog.info? 55).map (·.size) = some 6 := by kernel_rfl
theorem sz_api_Item : (Tryz.prog.info? 178).map (·.size) = some 7 := by kernel_rfl
theorem sz_api_Line : (Tryz.prog.info? 153).map (·.size) = some 3 := by kernel_rfl
theorem sz_api_Object : (Tryz.prog.info? 109).map (·.size) = some 4 := by kernel_rfl
theorem sz_api_Part : (Tryz.prog.info? 104).map (·.size) = some 2 := by kernel_rfl
theorem sz_api_State : (Tryz.prog.info? 86).map (·.size) = some 11 := by kernel_rfl
theorem sz_api_Symbol : (Tryz.prog.info? 160).map (·.size) = some 4 := by kernel_rfl
theorem sz_api_Token : (Tryz.prog.info? 157).map (·.size) = some 4 := by kernel_rfl
theorem sz_api_Unit : (Tryz.prog.info? 79).map (·.size) = some 4 := by kernel_rfl
theorem sz_api_Value : (Tryz.prog.info? 172).map (·.size) = some 2 := by kernel_rfl
theorem sz_api_Verdict : (Tryz.prog.info? 50).map (·.size) = some 6 := by kernel_rfl
theorem sz_api_Write : (Tryz.prog.info? 141).map (·.size) = some 3 := by kernel_rfl
theorem sz_bool : (Tryz.prog.info? 4).map (·.size) = some 1 := by kernel_rfl
theorem sz_int : (Tryz.prog.info? 3).map (·.size) = some 1 := by kernel_rfl
theorem sz_sledgelaw22_Ask : (Tryz.prog.info? 25).map (·.size) = some 3 := by kernel_rfl
theorem sz_sledgeref5_deed : (Tryz.prog.info? 193).map (·.size) = some 5 := by kernel_rfl
theorem sz_string : (Tryz.prog.info? 9).map (·.size) = some 1 := by kernel_rfl
theorem sz_uint32 : (Tryz.prog.info? 31).map (·.size) = some 1 := by kernel_rfl
theorem zr_A5_int : (Tryz.prog.info? 264).map (·.zero) = some (some (.agg #[.int .i64 0, .int .i64 0, .int .i64 0, .int .i64 0, .int .i64 0])) := by kernel_rfl
theorem zr_api_Block : (Tryz.prog.info? 168).map (·.zero) = some (some (.agg #[.slice none 0 0, .slice none 0 0, .int .i64 0, .int .i64 0, .int .i64 0, .int .i64 0, .int .i64 0, .string ByteArray.empty])) := by kernel_rfl
theorem zr_api_Bundle : (Tryz.prog.info? 57).map (·.zero) = some (some (.agg #[.int .i64 0, .int .i64 0, .int .i64 0, .int .i64 0, .int .i64 0, .string ByteArray.empty, .int .i64 0, .int .i64 0, .int .i64 0, .int .i64 0, .int .i64 0, .string ByteArray.empty, .int .i64 0, .int .i64 0, .int .i64 0, .int .i64 0, .int .i64 0, .string ByteArray.empty, .int .i64 0, .int .i64 0, .int .i64 0, .int .i64 0, .int .i64 0, .string ByteArray.empty])) := by kernel_rfl
theorem zr_api_Fault : (Tryz.prog.info? 40).map (·.zero) = some (some (.agg #[.int .i64 0, .int .i64 0, .int .i64 0])) := by kernel_rfl
theorem zr_api_Fix : (Tryz.prog.info? 122).map (·.zero) = some (some (.agg #[.int .i64 0, .int .i64 0, .string ByteArray.empty])) := by kernel_rfl
theorem zr_api_Flat : (Tryz.prog.info? 45).map (·.zero) = some (some (.agg #[.slice none 0 0, .slice none 0 0, .int .i64 0])) := by kernel_rfl
theorem zr_api_Image : (Tryz.prog.info? 37).map (·.zero) = some (some (.agg #[.slice none 0 0, .slice none 0 0, .int .i64 0])) := by kernel_rfl
theorem zr_api_Ins : (Tryz.prog.info? 55).map (·.zero) = some (some (.agg #[.int .i64 0, .int .i64 0, .int .i64 0, .int .i64 0, .int .i64 0, .string ByteArray.empty])) := by kernel_rfl
theorem zr_api_Item : (Tryz.prog.info? 178).map (·.zero) = some (some (.agg #[.string ByteArray.empty, .int .i64 0, .int .i64 0, .int .i64 0, .int .i64 0, .int .i64 0, .string ByteArray.empty])) := by kernel_rfl
theorem zr_api_Line : (Tryz.prog.info? 153).map (·.zero) = some (some (.agg #[.int .i64 0, .string ByteArray.empty, .slice none 0 0])) := by kernel_rfl
theorem zr_api_Object : (Tryz.prog.info? 109).map (·.zero) = some (some (.agg #[.slice none 0 0, .slice none 0 0, .slice none 0 0, .slice none 0 0])) := by kernel_rfl
theorem zr_api_Part : (Tryz.prog.info? 104).map (·.zero) = some (some (.agg #[.bool false, .slice none 0 0])) := by kernel_rfl
theorem zr_api_State : (Tryz.prog.info? 86).map (·.zero) = some (some (.agg #[.slice none 0 0, .slice none 0 0, .slice none 0 0, .int .i64 0, .slice none 0 0, .int .i64 0, .slice none 0 0, .int .i64 0, .slice none 0 0, .int .i64 0, .int .i64 0])) := by kernel_rfl
theorem zr_api_Symbol : (Tryz.prog.info? 160).map (·.zero) = some (some (.agg #[.string ByteArray.empty, .bool false, .int .i64 0, .bool false])) := by kernel_rfl
theorem zr_api_Token : (Tryz.prog.info? 157).map (·.zero) = some (some (.agg #[.int .i64 0, .string ByteArray.empty, .int .i64 0, .int .i64 0])) := by kernel_rfl
theorem zr_api_Unit : (Tryz.prog.info? 79).map (·.zero) = some (some (.agg #[.slice none 0 0, .slice none 0 0, .slice none 0 0, .slice none 0 0])) := by kernel_rfl
theorem zr_api_Value : (Tryz.prog.info? 172).map (·.zero) = some (some (.agg #[.string ByteArray.empty, .int .i64 0])) := by kernel_rfl
theorem zr_api_Verdict : (Tryz.prog.info? 50).map (·.zero) = some (some (.agg #[.int .i64 0, .int .i64 0, .int .i64 0, .int .i64 0, .bool false, .bool false])) := by kernel_rfl
theorem zr_api_Write : (Tryz.prog.info? 141).map (·.zero) = some (some (.agg #[.int .i64 0, .int .u32 0, .int .i64 0])) := by kernel_rfl
theorem zr_sledgeref5_deed : (Tryz.prog.info? 193).map (·.zero) = some (some (.agg #[.bool false, .int .u32 0, .bool false, .int .i64 0, .int .i64 0])) := by kernel_rfl
def eqb_Verdict (x y : T_Verdict) : Bool := decide (x.Steps = y.Steps) && decide (x.Cycles = y.Cycles) && decide (x.Seq = y.Seq) && decide (x.Pipe = y.Pipe) && (x.Same == y.Same) && (x.Begins == y.Begins)
theorem eqb_Verdict_iff {x y : T_Verdict} : eqb_Verdict x y = true ↔ x = y := by
  constructor
  · intro h
    simp only [eqb_Verdict, Bool.and_eq_true, decide_eq_true_eq, beq_iff_eq] at h
    cases x; cases y; simp_all
  · rintro rfl; simp [eqb_Verdict]
theorem eqr_Verdict (d : Nat) (x y : T_Verdict) (w : World) : (Op.equalIn (d + 2) 50 (.agg (enc_Verdict x).toArray) (.agg (enc_Verdict y).toArray)).run Tryz.prog w = .ok (eqb_Verdict x y) w := by
  have hu := Tryz.underlying50
  rw [run_equalIn_struct w (d + 1) 50 _ _ (by rw [Program.fieldsOf, hu]) (by kernel_rfl), Program.fieldsOf, hu]
  refine (eqFields_of (bs := [decide (x.Steps = y.Steps), decide (x.Cycles = y.Cycles), decide (x.Seq = y.Seq), decide (x.Pipe = y.Pipe), (x.Same == y.Same), (x.Begins == y.Begins)]) ?_).trans ?_
  · refine .cons (eqf_int Tryz.underlying3 rfl rfl (by decide)) ?_
    refine .cons (eqf_int Tryz.underlying3 rfl rfl (by decide)) ?_
    refine .cons (eqf_int Tryz.underlying3 rfl rfl (by decide)) ?_
    refine .cons (eqf_int Tryz.underlying3 rfl rfl (by decide)) ?_
    refine .cons (eqf_bool Tryz.underlying4 rfl rfl (by decide)) ?_
    refine .cons (eqf_bool Tryz.underlying4 rfl rfl (by decide)) ?_
    exact .nil
  · simp [eqb_Verdict, Bool.and_assoc]
theorem y_neq_Verdict {C : World → Prop} {l : Fm} {d : Nat} {tt : TypeId} {ps : String} {af : Array Edge} {x y : T_Verdict} {a b : Operand} {t' : TypeId} (ha : ev l a = .agg (enc_Verdict x).toArray := by (conv => lhs; whnf) <;> exact rfl) (hb : ev l b = .agg (enc_Verdict y).toArray := by (conv => lhs; whnf) <;> exact rfl) : YV Tryz.prog C l ⟨some d, .binOp .neq 50 a b t', tt, ps, af, none⟩ (.bool (!(eqb_Verdict x y))) := y_steq_neq (by kernel_rfl) (eqr_Verdict 9998 x y) ha hb
theorem bt_api_Block : BT Tryz.prog 168 [(0, 1), (1, 1), (2, 6)] [.slice none 0 0, .slice none 0 0, .int .i64 0, .int .i64 0, .int .i64 0, .int .i64 0, .int .i64 0, .string ByteArray.empty] := BT.of (z := .agg #[.slice none 0 0, .slice none 0 0, .int .i64 0, .int .i64 0, .int .i64 0, .int .i64 0, .int .i64 0, .string ByteArray.empty]) (by kernel_rfl) rfl Tryz.underlying168 (by kernel_rfl)
theorem bta_api_Bundle : BTA Tryz.prog 57 6 [.int .i64 0, .int .i64 0, .int .i64 0, .int .i64 0, .int .i64 0, .string ByteArray.empty, .int .i64 0, .int .i64 0, .int .i64 0, .int .i64 0, .int .i64 0, .string ByteArray.empty, .int .i64 0, .int .i64 0, .int .i64 0, .int .i64 0, .int .i64 0, .string ByteArray.empty, .int .i64 0, .int .i64 0, .int .i64 0, .int .i64 0, .int .i64 0, .string ByteArray.empty] := BTA.of (z := .agg #[.int .i64 0, .int .i64 0, .int .i64 0, .int .i64 0, .int .i64 0, .string ByteArray.empty, .int .i64 0, .int .i64 0, .int .i64 0, .int .i64 0, .int .i64 0, .string ByteArray.empty, .int .i64 0, .int .i64 0, .int .i64 0, .int .i64 0, .int .i64 0, .string ByteArray.empty, .int .i64 0, .int .i64 0, .int .i64 0, .int .i64 0, .int .i64 0, .string ByteArray.empty]) (by kernel_rfl) rfl Tryz.underlying57 (by kernel_rfl)
theorem bt_api_Choice : BT Tryz.prog 81 [(0, 1), (1, 1)] [.int .i64 0, .int .i64 0] := BT.of (z := .agg #[.int .i64 0, .int .i64 0]) (by kernel_rfl) rfl Tryz.underlying81 (by kernel_rfl)
theorem bt_api_Edge : BT Tryz.prog 285 [(0, 1), (1, 1), (2, 1)] [.int .i64 0, .int .i64 0, .int .i64 0] := BT.of (z := .agg #[.int .i64 0, .int .i64 0, .int .i64 0]) (by kernel_rfl) rfl Tryz.underlying285 (by kernel_rfl)
theorem bt_api_Fault : BT Tryz.prog 40 [(0, 1), (1, 1), (2, 1)] [.int .i64 0, .int .i64 0, .int .i64 0] := BT.of (z := .agg #[.int .i64 0, .int .i64 0, .int .i64 0]) (by kernel_rfl) rfl Tryz.underlying40 (by kernel_rfl)
theorem bt_api_Fix : BT Tryz.prog 122 [(0, 1), (1, 1), (2, 1)] [.int .i64 0, .int .i64 0, .string ByteArray.empty] := BT.of (z := .agg #[.int .i64 0, .int .i64 0, .string ByteArray.empty]) (by kernel_rfl) rfl Tryz.underlying122 (by kernel_rfl)
theorem bt_api_Flat : BT Tryz.prog 45 [(0, 1), (1, 1), (2, 1)] [.slice none 0 0, .slice none 0 0, .int .i64 0] := BT.of (z := .agg #[.slice none 0 0, .slice none 0 0, .int .i64 0]) (by kernel_rfl) rfl Tryz.underlying45 (by kernel_rfl)
theorem bt_api_Image : BT Tryz.prog 37 [(0, 1), (1, 1), (2, 1)] [.slice none 0 0, .slice none 0 0, .int .i64 0] := BT.of (z := .agg #[.slice none 0 0, .slice none 0 0, .int .i64 0]) (by kernel_rfl) rfl Tryz.underlying37 (by kernel_rfl)
theorem bt_api_Ins : BT Tryz.prog 55 [(0, 1), (1, 1), (2, 1), (3, 1), (4, 1), (5, 1)] [.int .i64 0, .int .i64 0, .int .i64 0, .int .i64 0, .int .i64 0, .string ByteArray.empty] := BT.of (z := .agg #[.int .i64 0, .int .i64 0, .int .i64 0, .int .i64 0, .int .i64 0, .string ByteArray.empty]) (by kernel_rfl) rfl Tryz.underlying55 (by kernel_rfl)
theorem bt_api_Item : BT Tryz.prog 178 [(0, 1), (1, 6)] [.string ByteArray.empty, .int .i64 0, .int .i64 0, .int .i64 0, .int .i64 0, .int .i64 0, .string ByteArray.empty] := BT.of (z := .agg #[.string ByteArray.empty, .int .i64 0, .int .i64 0, .int .i64 0, .int .i64 0, .int .i64 0, .string ByteArray.empty]) (by kernel_rfl) rfl Tryz.underlying178 (by kernel_rfl)
theorem bt_api_Line : BT Tryz.prog 153 [(0, 1), (1, 1), (2, 1)] [.int .i64 0, .string ByteArray.empty, .slice none 0 0] := BT.of (z := .agg #[.int .i64 0, .string ByteArray.empty, .slice none 0 0]) (by kernel_rfl) rfl Tryz.underlying153 (by kernel_rfl)
theorem bt_api_Part : BT Tryz.prog 104 [(0, 1), (1, 1)] [.bool false, .slice none 0 0] := BT.of (z := .agg #[.bool false, .slice none 0 0]) (by kernel_rfl) rfl Tryz.underlying104 (by kernel_rfl)
theorem bt_api_Source : BT Tryz.prog 34 [(0, 1), (1, 1)] [.bool false, .slice none 0 0] := BT.of (z := .agg #[.bool false, .slice none 0 0]) (by kernel_rfl) rfl Tryz.underlying34 (by kernel_rfl)
theorem bt_api_State : BT Tryz.prog 86 [(0, 1), (1, 1), (2, 1), (3, 1), (4, 1), (5, 1), (6, 1), (7, 1), (8, 1), (9, 1), (10, 1)] [.slice none 0 0, .slice none 0 0, .slice none 0 0, .int .i64 0, .slice none 0 0, .int .i64 0, .slice none 0 0, .int .i64 0, .slice none 0 0, .int .i64 0, .int .i64 0] := BT.of (z := .agg #[.slice none 0 0, .slice none 0 0, .slice none 0 0, .int .i64 0, .slice none 0 0, .int .i64 0, .slice none 0 0, .int .i64 0, .slice none 0 0, .int .i64 0, .int .i64 0]) (by kernel_rfl) rfl Tryz.underlying86 (by kernel_rfl)
theorem bt_api_Symbol : BT Tryz.prog 160 [(0, 1), (1, 1), (2, 1), (3, 1)] [.string ByteArray.empty, .bool false, .int .i64 0, .bool false] := BT.of (z := .agg #[.string ByteArray.empty, .bool false, .int .i64 0, .bool false]) (by kernel_rfl) rfl Tryz.underlying160 (by kernel_rfl)
theorem bt_api_Token : BT Tryz.prog 157 [(0, 1), (1, 1), (2, 1), (3, 1)] [.int .i64 0, .string ByteArray.empty, .int .i64 0, .int .i64 0] := BT.of (z := .agg #[.int .i64 0, .string ByteArray.empty, .int .i64 0, .int .i64 0]) (by kernel_rfl) rfl Tryz.underlying157 (by kernel_rfl)
theorem bt_api_Value : BT Tryz.prog 172 [(0, 1), (1, 1)] [.string ByteArray.empty, .int .i64 0] := BT.of (z := .agg #[.string ByteArray.empty, .int .i64 0]) (by kernel_rfl) rfl Tryz.underlying172 (by kernel_rfl)
theorem bt_api_Verdict : BT Tryz.prog 50 [(0, 1), (1, 1), (2, 1), (3, 1), (4, 1), (5, 1)] [.int .i64 0, .int .i64 0, .int .i64 0, .int .i64 0, .bool false, .bool false] := BT.of (z := .agg #[.int .i64 0, .int .i64 0, .int .i64 0, .int .i64 0, .bool false, .bool false]) (by kernel_rfl) rfl Tryz.underlying50 (by kernel_rfl)
theorem bt_api_Write : BT Tryz.prog 141 [(0, 1), (1, 1), (2, 1)] [.int .i64 0, .int .u32 0, .int .i64 0] := BT.of (z := .agg #[.int .i64 0, .int .u32 0, .int .i64 0]) (by kernel_rfl) rfl Tryz.underlying141 (by kernel_rfl)
theorem bt_sledgeref5_deed : BT Tryz.prog 193 [(0, 1), (1, 1), (2, 1), (3, 1), (4, 1)] [.bool false, .int .u32 0, .bool false, .int .i64 0, .int .i64 0] := BT.of (z := .agg #[.bool false, .int .u32 0, .bool false, .int .i64 0, .int .i64 0]) (by kernel_rfl) rfl Tryz.underlying193 (by kernel_rfl)
theorem bt_sledgeref8_assembler : BT Tryz.prog 150 [(0, 1), (1, 4), (5, 1), (6, 1), (7, 1), (8, 1)] [.slice none 0 0, .slice none 0 0, .slice none 0 0, .slice none 0 0, .slice none 0 0, .bool false, .int .i64 0, .slice none 0 0, .int .i64 0] := BT.of (z := .agg #[.slice none 0 0, .slice none 0 0, .slice none 0 0, .slice none 0 0, .slice none 0 0, .bool false, .int .i64 0, .slice none 0 0, .int .i64 0]) (by kernel_rfl) rfl Tryz.underlying150 (by kernel_rfl)
theorem bt_sledgeref8_expander : BT Tryz.prog 208 [(0, 1), (1, 1), (2, 1), (3, 1), (4, 1), (5, 1)] [.slice none 0 0, .slice none 0 0, .slice none 0 0, .int .i64 0, .int .i64 0, .int .i64 0] := BT.of (z := .agg #[.slice none 0 0, .slice none 0 0, .slice none 0 0, .int .i64 0, .int .i64 0, .int .i64 0]) (by kernel_rfl) rfl Tryz.underlying208 (by kernel_rfl)
theorem bt_sledgeref8_reckoner : BT Tryz.prog 282 [(0, 1), (1, 1), (2, 1), (3, 1)] [.slice none 0 0, .slice none 0 0, .int .i64 0, .int .i64 0] := BT.of (z := .agg #[.slice none 0 0, .slice none 0 0, .int .i64 0, .int .i64 0]) (by kernel_rfl) rfl Tryz.underlying282 (by kernel_rfl)
abbrev Rc_S_Token (g : Frag) (x : (List T_Token)) (cs : List Value) : Prop := ∃ (v0 : Value), cs = [v0] ∧ SlT g enc_Token 4 x v0
theorem mono_S_Token : Mono Rc_S_Token := fun hg h => by
  obtain ⟨v0, h0, q0⟩ := h
  exact ⟨v0, h0, SlT.mono q0 hg⟩
abbrev Rc_Unit (g : Frag) (x : T_Unit) (cs : List Value) : Prop := ∃ (v0 v1 v2 v3 : Value), cs = cl_Unit v0 v1 v2 v3 ∧ SlT g enc_Item 7 x.Code v0 ∧ SlT g enc_Value 2 x.Data v1 ∧ SlT g enc_Symbol 4 x.Labels v2 ∧ SlT g enc_string 1 x.Globals v3
theorem mono_Unit : Mono Rc_Unit := fun hg h => by
  obtain ⟨v0, v1, v2, v3, h0, q0, q1, q2, q3⟩ := h
  exact ⟨v0, v1, v2, v3, h0, SlT.mono q0 hg, SlT.mono q1 hg, SlT.mono q2 hg, SlT.mono q3 hg⟩
abbrev Rc_S_Unit (g : Frag) (x : (List T_Unit)) (cs : List Value) : Prop := ∃ (v0 : Value), cs = [v0] ∧ SlN g Rc_Unit 4 x v0
theorem mono_S_Unit : Mono Rc_S_Unit := fun hg h => by
  obtain ⟨v0, h0, q0⟩ := h
  exact ⟨v0, h0, SlN.mono mono_Unit q0 hg⟩
abbrev Rc_S_uint32 (g : Frag) (x : (List Int)) (cs : List Value) : Prop := ∃ (v0 : Value), cs = [v0] ∧ SlT g enc_uint32 1 x v0
abbrev Rc_Block (g : Frag) (x : T_Block) (cs : List Value) : Prop := ∃ (v0 v1 : Value), cs = cl_Block v0 v1 x.Last.Op x.Last.D x.Last.A x.Last.B x.Last.Imm x.Last.Sym ∧ SlT g enc_string 1 x.Labels v0 ∧ SlT g enc_Ins 6 x.Ins v1
theorem mono_Block : Mono Rc_Block := fun hg h => by
  obtain ⟨v0, v1, h0, q0, q1⟩ := h
  exact ⟨v0, v1, h0, SlT.mono q0 hg, SlT.mono q1 hg⟩
abbrev Rc_Line (g : Frag) (x : T_Line) (cs : List Value) : Prop := ∃ (v2 : Value), cs = cl_Line x.No x.Label v2 ∧ SlT g enc_Token 4 x.Words v2
theorem mono_Line : Mono Rc_Line := fun hg h => by
  obtain ⟨v2, h0, q2⟩ := h
  exact ⟨v2, h0, SlT.mono q2 hg⟩
abbrev Rc_Object (g : Frag) (x : T_Object) (cs : List Value) : Prop := ∃ (v0 v1 v2 v3 : Value), cs = cl_Object v0 v1 v2 v3 ∧ SlT g enc_Bundle 24 x.Code v0 ∧ SlT g enc_uint32 1 x.Data v1 ∧ SlT g enc_Symbol 4 x.Symbols v2 ∧ SlT g enc_Fix 3 x.Fixes v3
theorem mono_Object : Mono Rc_Object := fun hg h => by
  obtain ⟨v0, v1, v2, v3, h0, q0, q1, q2, q3⟩ := h
  exact ⟨v0, v1, v2, v3, h0, SlT.mono q0 hg, SlT.mono q1 hg, SlT.mono q2 hg, SlT.mono q3 hg⟩
abbrev Rc_Part (g : Frag) (x : T_Part) (cs : List Value) : Prop := ∃ (v1 : Value), cs = cl_Part x.Archive v1 ∧ SlN g Rc_Object 4 x.Objects v1
theorem mono_Part : Mono Rc_Part := fun hg h => by
  obtain ⟨v1, h0, q1⟩ := h
  exact ⟨v1, h0, SlN.mono mono_Object q1 hg⟩
abbrev Rc_Source (g : Frag) (x : T_Source) (cs : List Value) : Prop := ∃ (v1 : Value), cs = cl_Source x.Archive v1 ∧ SlT g enc_string 1 x.Texts v1
theorem mono_Source : Mono Rc_Source := fun hg h => by
  obtain ⟨v1, h0, q1⟩ := h
  exact ⟨v1, h0, SlT.mono q1 hg⟩
abbrev Rc_macro (g : Frag) (x : T_macro) (cs : List Value) : Prop := ∃ (v1 : Value), cs = cl_macro x.name v1 ∧ SlN g Rc_Line 3 x.lines v1
theorem mono_macro : Mono Rc_macro := fun hg h => by
  obtain ⟨v1, h0, q1⟩ := h
  exact ⟨v1, h0, SlN.mono mono_Line q1 hg⟩
abbrev Rd_Line (g : Frag) (x : T_Line) (v : Value) : Prop := ∃ (v2 : Value), v = .agg (cl_Line x.No x.Label v2).toArray ∧ SlT g enc_Token 4 x.Words v2
abbrev Rd_Object (g : Frag) (x : T_Object) (v : Value) : Prop := ∃ (v0 v1 v2 v3 : Value), v = .agg (cl_Object v0 v1 v2 v3).toArray ∧ SlT g enc_Bundle 24 x.Code v0 ∧ SlT g enc_uint32 1 x.Data v1 ∧ SlT g enc_Symbol 4 x.Symbols v2 ∧ SlT g enc_Fix 3 x.Fixes v3
abbrev Ow_Object (x : T_Object) (v : Value) (L : Own) : Prop := ∃ (v0 v1 v2 v3 : Value) (X0 X1 X2 X3 : Own), v = .agg (cl_Object v0 v1 v2 v3).toArray ∧ L = (X0 ++ (X1 ++ (X2 ++ (X3 ++ [])))) ∧ OwT 57 enc_Bundle 24 x.Code v0 X0 ∧ OwT 31 enc_uint32 1 x.Data v1 X1 ∧ OwT 160 enc_Symbol 4 x.Symbols v2 X2 ∧ OwT 122 enc_Fix 3 x.Fixes v3 X3
abbrev Rd_Unit (g : Frag) (x : T_Unit) (v : Value) : Prop := ∃ (v0 v1 v2 v3 : Value), v = .agg (cl_Unit v0 v1 v2 v3).toArray ∧ SlT g enc_Item 7 x.Code v0 ∧ SlT g enc_Value 2 x.Data v1 ∧ SlT g enc_Symbol 4 x.Labels v2 ∧ SlT g enc_string 1 x.Globals v3
abbrev Ow_Unit (x : T_Unit) (v : Value) (L : Own) : Prop := ∃ (v0 v1 v2 v3 : Value) (X0 X1 X2 X3 : Own), v = .agg (cl_Unit v0 v1 v2 v3).toArray ∧ L = (X0 ++ (X1 ++ (X2 ++ (X3 ++ [])))) ∧ OwT 178 enc_Item 7 x.Code v0 X0 ∧ OwT 172 enc_Value 2 x.Data v1 X1 ∧ OwT 160 enc_Symbol 4 x.Labels v2 X2 ∧ OwT 9 enc_string 1 x.Globals v3 X3
abbrev Rd_Block (g : Frag) (x : T_Block) (v : Value) : Prop := ∃ (v0 v1 : Value), v = .agg (cl_Block v0 v1 x.Last.Op x.Last.D x.Last.A x.Last.B x.Last.Imm x.Last.Sym).toArray ∧ SlT g enc_string 1 x.Labels v0 ∧ SlT g enc_Ins 6 x.Ins v1
abbrev Rd_Flat (g : Frag) (x : T_Flat) (v : Value) : Prop := ∃ (v0 v1 : Value), v = .agg (cl_Flat v0 v1 x.Entry).toArray ∧ SlT g enc_Ins 6 x.Code v0 ∧ SlT g enc_uint32 1 x.Data v1
abbrev Ow_Flat (x : T_Flat) (v : Value) (L : Own) : Prop := ∃ (v0 v1 : Value) (X0 X1 : Own), v = .agg (cl_Flat v0 v1 x.Entry).toArray ∧ L = (X0 ++ (X1 ++ [])) ∧ OwT 55 enc_Ins 6 x.Code v0 X0 ∧ OwT 31 enc_uint32 1 x.Data v1 X1
abbrev Rd_Image (g : Frag) (x : T_Image) (v : Value) : Prop := ∃ (v0 v1 : Value), v = .agg (cl_Image v0 v1 x.Entry).toArray ∧ SlT g enc_Bundle 24 x.Code v0 ∧ SlT g enc_uint32 1 x.Data v1
abbrev Ow_Image (x : T_Image) (v : Value) (L : Own) : Prop := ∃ (v0 v1 : Value) (X0 X1 : Own), v = .agg (cl_Image v0 v1 x.Entry).toArray ∧ L = (X0 ++ (X1 ++ [])) ∧ OwT 57 enc_Bundle 24 x.Code v0 X0 ∧ OwT 31 enc_uint32 1 x.Data v1 X1
abbrev Rd_State (g : Frag) (x : T_State) (v : Value) : Prop := ∃ (v0 v1 v2 v4 v6 v8 : Value), v = .agg (cl_State v0 v1 v2 x.Taken v4 x.PC v6 x.Stop v8 x.Jump x.Delay).toArray ∧ SlT g enc_uint32 1 x.Regs v0 ∧ SlT g enc_uint32 1 x.Mem v1 ∧ SlT g enc_uint32 1 x.In_ v2 ∧ SlT g enc_uint32 1 x.Out v4 ∧ SlT g enc_int 1 x.Stack v6 ∧ SlT g enc_Write 3 x.Fly v8
abbrev Ow_State (x : T_State) (v : Value) (L : Own) : Prop := ∃ (v0 v1 v2 v4 v6 v8 : Value) (X0 X1 X2 X4 X6 X8 : Own), v = .agg (cl_State v0 v1 v2 x.Taken v4 x.PC v6 x.Stop v8 x.Jump x.Delay).toArray ∧ L = (X0 ++ (X1 ++ (X2 ++ (X4 ++ (X6 ++ (X8 ++ [])))))) ∧ OwT 31 enc_uint32 1 x.Regs v0 X0 ∧ OwT 31 enc_uint32 1 x.Mem v1 X1 ∧ OwT 31 enc_uint32 1 x.In_ v2 X2 ∧ OwT 31 enc_uint32 1 x.Out v4 X4 ∧ OwT 3 enc_int 1 x.Stack v6 X6 ∧ OwT 141 enc_Write 3 x.Fly v8 X8
abbrev Bx_State (b : Nat) (x : T_State) (L : Own) : Prop := ∃ (v0 v1 v2 v4 v6 v8 : Value) (X0 X1 X2 X4 X6 X8 : Own), L = (b, blk (cl_State v0 v1 v2 x.Taken v4 x.PC v6 x.Stop v8 x.Jump x.Delay) 86) :: (X0 ++ (X1 ++ (X2 ++ (X4 ++ (X6 ++ (X8 ++ [])))))) ∧ OwT 31 enc_uint32 1 x.Regs v0 X0 ∧ OwT 31 enc_uint32 1 x.Mem v1 X1 ∧ OwT 31 enc_uint32 1 x.In_ v2 X2 ∧ OwT 31 enc_uint32 1 x.Out v4 X4 ∧ OwT 3 enc_int 1 x.Stack v6 X6 ∧ OwT 141 enc_Write 3 x.Fly v8 X8
abbrev Rd_Ask (g : Frag) (x : T_Ask) (v : Value) : Prop := ∃ (v0 v1 : Value), v = .agg (cl_Ask v0 v1 x.N).toArray ∧ SlN g Rc_Source 2 x.S v0 ∧ SlT g enc_uint32 1 x.In_ v1
abbrev Bx_assembler (b : Nat) (x : T_assembler) (L : Own) : Prop := ∃ (v0 v1 v2 v3 v4 v7 : Value) (X0 X1 X2 X3 X4 X7 : Own), L = (b, blk (cl_assembler v0 v1 v2 v3 v4 x.data x.ins v7 x.err) 150) :: (X0 ++ (X1 ++ (X2 ++ (X3 ++ (X4 ++ (X7 ++ [])))))) ∧ OwT 172 enc_Value 2 x.names v0 X0 ∧ OwT 178 enc_Item 7 x.u.Code v1 X1 ∧ OwT 172 enc_Value 2 x.u.Data v2 X2 ∧ OwT 160 enc_Symbol 4 x.u.Labels v3 X3 ∧ OwT 9 enc_string 1 x.u.Globals v4 X4 ∧ OwT 160 enc_Symbol 4 x.tells v7 X7
abbrev Bx_expander (g : Frag) (b : Nat) (x : T_expander) (L : Own) : Prop := ∃ (v0 v1 v2 : Value) (X0 X1 X2 : Own), L = (b, blk (cl_expander v0 v1 v2 x.calls x.err x.where_) 208) :: (X0 ++ (X1 ++ (X2 ++ []))) ∧ OwN 278 g Rc_macro 2 x.macros v0 X0 ∧ OwT 172 enc_Value 2 x.names v1 X1 ∧ OwN 153 g Rc_Line 3 x.out v2 X2
abbrev Bx_reckoner (g : Frag) (b : Nat) (x : T_reckoner) (L : Own) : Prop := ∃ (v0 v1 : Value), L = (b, blk (cl_reckoner v0 v1 x.at_ x.err) 282) :: [] ∧ SlT g enc_Value 2 x.names v0 ∧ SlT g enc_Token 4 x.l v1
abbrev Bx_Ins (b : Nat) (x : T_Ins) (L : Own) : Prop := L = (b, blk (enc_Ins x) 55) :: []
theorem ud264 : type_of% Tryz.underlying264 := Tryz.underlying264
theorem ud211 : type_of% Tryz.underlying211 := Tryz.underlying211
theorem ud63 : type_of% Tryz.underlying63 := Tryz.underlying63
theorem ud26 : type_of% Tryz.underlying26 := Tryz.underlying26
theorem ud165 : type_of% Tryz.underlying165 := Tryz.underlying165
theorem ud35 : type_of% Tryz.underlying35 := Tryz.underlying35
theorem ud70 : type_of% Tryz.underlying70 := Tryz.underlying70
theorem ud256 : type_of% Tryz.underlying256 := Tryz.underlying256
theorem ud107 : type_of% Tryz.underlying107 := Tryz.underlying107
theorem ud43 : type_of% Tryz.underlying43 := Tryz.underlying43
theorem ud75 : type_of% Tryz.underlying75 := Tryz.underlying75
theorem ud143 : type_of% Tryz.underlying143 := Tryz.underlying143
theorem ud67 : type_of% Tryz.underlying67 := Tryz.underlying67
theorem ud64 : type_of% Tryz.underlying64 := Tryz.underlying64
theorem ud22 : type_of% Tryz.underlying22 := Tryz.underlying22
theorem ud77 : type_of% Tryz.underlying77 := Tryz.underlying77
theorem ud151 : type_of% Tryz.underlying151 := Tryz.underlying151
theorem ud74 : type_of% Tryz.underlying74 := Tryz.underlying74
theorem ud76 : type_of% Tryz.underlying76 := Tryz.underlying76
theorem ud84 : type_of% Tryz.underlying84 := Tryz.underlying84
theorem ud58 : type_of% Tryz.underlying58 := Tryz.underlying58
theorem ud206 : type_of% Tryz.underlying206 := Tryz.underlying206
theorem ud32 : type_of% Tryz.underlying32 := Tryz.underlying32
theorem ud23 : type_of% Tryz.underlying23 := Tryz.underlying23
theorem ud275 : type_of% Tryz.underlying275 := Tryz.underlying275
theorem ud4 : type_of% Tryz.underlying4 := Tryz.underlying4
theorem ud21 : type_of% Tryz.underlying21 := Tryz.underlying21
theorem ud2 : type_of% Tryz.underlying2 := Tryz.underlying2
theorem ud3 : type_of% Tryz.underlying3 := Tryz.underlying3
theorem ud168 : type_of% Tryz.underlying168 := Tryz.underlying168
theorem ud57 : type_of% Tryz.underlying57 := Tryz.underlying57
theorem ud38 : type_of% Tryz.underlying38 := Tryz.underlying38
theorem ud40 : type_of% Tryz.underlying40 := Tryz.underlying40
theorem ud122 : type_of% Tryz.underlying122 := Tryz.underlying122
theorem ud45 : type_of% Tryz.underlying45 := Tryz.underlying45
theorem ud37 : type_of% Tryz.underlying37 := Tryz.underlying37
theorem ud55 : type_of% Tryz.underlying55 := Tryz.underlying55
theorem ud178 : type_of% Tryz.underlying178 := Tryz.underlying178
theorem ud153 : type_of% Tryz.underlying153 := Tryz.underlying153
theorem ud109 : type_of% Tryz.underlying109 := Tryz.underlying109
theorem ud104 : type_of% Tryz.underlying104 := Tryz.underlying104
theorem ud86 : type_of% Tryz.underlying86 := Tryz.underlying86
theorem ud160 : type_of% Tryz.underlying160 := Tryz.underlying160
theorem ud157 : type_of% Tryz.underlying157 := Tryz.underlying157
theorem ud79 : type_of% Tryz.underlying79 := Tryz.underlying79
theorem ud172 : type_of% Tryz.underlying172 := Tryz.underlying172
theorem ud50 : type_of% Tryz.underlying50 := Tryz.underlying50
theorem ud141 : type_of% Tryz.underlying141 := Tryz.underlying141
theorem ud25 : type_of% Tryz.underlying25 := Tryz.underlying25
theorem ud193 : type_of% Tryz.underlying193 := Tryz.underlying193
theorem ud9 : type_of% Tryz.underlying9 := Tryz.underlying9
theorem ud31 : type_of% Tryz.underlying31 := Tryz.underlying31
theorem ud5 : type_of% Tryz.underlying5 := Tryz.underlying5
end Go.Proofs.YtgakgpbmcbegbaaGreatDoor
