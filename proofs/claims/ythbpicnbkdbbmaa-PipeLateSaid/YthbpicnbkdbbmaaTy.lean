/- Types. Printed by lift.py. -/
import Derived.Test.YthbpicnbkdbbmaaProg
import Derived.Test.YthbpicnbkdbbmaaArr
import Derived.KernelRfl
namespace Go.Proofs.Ythbpicnbkdbbmaa
open Go Go.RowKit Fr
set_option linter.unusedVariables false
set_option linter.unusedSimpArgs false
set_option maxRecDepth 20000
structure T_Write where
  Reg : Int
  Value : Int
  Left : Int
structure T_Ins where
  Op : Int
  D : Int
  A : Int
  B : Int
  Imm : Int
  Sym : ByteArray
structure T_State where
  Regs : (List Int)
  Mem : (List Int)
  In_ : (List Int)
  Taken : Int
  Out : (List Int)
  PC : Int
  Stack : (List Int)
  Stop : Int
  Fly : (List T_Write)
  Jump : Int
  Delay : Int
structure T_Script5 where
  P : (List T_Ins)
  S : T_State
  In_ : (List Int)
  N : (List Int)
structure T_Script where
  C : (List (A4 T_Ins))
  S : T_State
  N : (List Int)
structure T_deed where
  has : Bool
  result : Int
  jumps : Bool
  to : Int
  stop : Int
abbrev enc_A5_int (x : (A5 Int)) : List Value := [.int .i64 x.x0, .int .i64 x.x1, .int .i64 x.x2, .int .i64 x.x3, .int .i64 x.x4]
theorem enc_len_A5_int : ∀ z, (enc_A5_int z).length = 5 := fun _ => rfl
theorem enc_one_A5_int (z : (A5 Int)) : ∀ u ∈ enc_A5_int z, u.oneCell' = true := by intro u hu; simp only [List.mem_cons, List.not_mem_nil, or_false] at hu; rcases hu with rfl | rfl | rfl | rfl | rfl <;> rfl
theorem enc_ones_A5_int (zs : List (A5 Int)) : ∀ u ∈ zs.flatMap enc_A5_int, u.oneCell' = true := by intro u hu; obtain ⟨z, _, hz⟩ := List.mem_flatMap.1 hu; exact enc_one_A5_int z u hz
abbrev val_A5_int (x : (A5 Int)) : Value := .agg (enc_A5_int x).toArray
abbrev enc_Bundle (x : (A4 T_Ins)) : List Value := [.int .i64 x.x0.Op, .int .i64 x.x0.D, .int .i64 x.x0.A, .int .i64 x.x0.B, .int .i64 x.x0.Imm, .string x.x0.Sym, .int .i64 x.x1.Op, .int .i64 x.x1.D, .int .i64 x.x1.A, .int .i64 x.x1.B, .int .i64 x.x1.Imm, .string x.x1.Sym, .int .i64 x.x2.Op, .int .i64 x.x2.D, .int .i64 x.x2.A, .int .i64 x.x2.B, .int .i64 x.x2.Imm, .string x.x2.Sym, .int .i64 x.x3.Op, .int .i64 x.x3.D, .int .i64 x.x3.A, .int .i64 x.x3.B, .int .i64 x.x3.Imm, .string x.x3.Sym]
theorem enc_len_Bundle : ∀ z, (enc_Bundle z).length = 24 := fun _ => rfl
theorem enc_one_Bundle (z : (A4 T_Ins)) : ∀ u ∈ enc_Bundle z, u.oneCell' = true := by intro u hu; simp only [List.mem_cons, List.not_mem_nil, or_false] at hu; rcases hu with rfl | rfl | rfl | rfl | rfl | rfl | rfl | rfl | rfl | rfl | rfl | rfl | rfl | rfl | rfl | rfl | rfl | rfl | rfl | rfl | rfl | rfl | rfl | rfl <;> rfl
theorem enc_ones_Bundle (zs : List (A4 T_Ins)) : ∀ u ∈ zs.flatMap enc_Bundle, u.oneCell' = true := by intro u hu; obtain ⟨z, _, hz⟩ := List.mem_flatMap.1 hu; exact enc_one_Bundle z u hz
abbrev val_Bundle (x : (A4 T_Ins)) : Value := .agg (enc_Bundle x).toArray
theorem el_api_Bundle : El Try.prog 22 37 24 224 := El.mk' (z := .agg #[.int .i64 0, .int .i64 0, .int .i64 0, .int .i64 0, .int .i64 0, .string ByteArray.empty, .int .i64 0, .int .i64 0, .int .i64 0, .int .i64 0, .int .i64 0, .string ByteArray.empty, .int .i64 0, .int .i64 0, .int .i64 0, .int .i64 0, .int .i64 0, .string ByteArray.empty, .int .i64 0, .int .i64 0, .int .i64 0, .int .i64 0, .int .i64 0, .string ByteArray.empty]) Try.underlying22 (by kernel_rfl) rfl
abbrev enc_Ins (x : T_Ins) : List Value := [.int .i64 x.Op, .int .i64 x.D, .int .i64 x.A, .int .i64 x.B, .int .i64 x.Imm, .string x.Sym]
theorem enc_len_Ins : ∀ z, (enc_Ins z).length = 6 := fun _ => rfl
theorem enc_one_Ins (z : T_Ins) : ∀ u ∈ enc_Ins z, u.oneCell' = true := by intro u hu; simp only [List.mem_cons, List.not_mem_nil, or_false] at hu; rcases hu with rfl | rfl | rfl | rfl | rfl | rfl <;> rfl
theorem enc_ones_Ins (zs : List T_Ins) : ∀ u ∈ zs.flatMap enc_Ins, u.oneCell' = true := by intro u hu; obtain ⟨z, _, hz⟩ := List.mem_flatMap.1 hu; exact enc_one_Ins z u hz
abbrev val_Ins (x : T_Ins) : Value := .agg (enc_Ins x).toArray
theorem el_api_Ins : El Try.prog 52 31 6 56 := El.mk' (z := .agg #[.int .i64 0, .int .i64 0, .int .i64 0, .int .i64 0, .int .i64 0, .string ByteArray.empty]) Try.underlying52 (by kernel_rfl) rfl
abbrev enc_Write (x : T_Write) : List Value := [.int .i64 x.Reg, .int .u32 x.Value, .int .i64 x.Left]
theorem enc_len_Write : ∀ z, (enc_Write z).length = 3 := fun _ => rfl
theorem enc_one_Write (z : T_Write) : ∀ u ∈ enc_Write z, u.oneCell' = true := by intro u hu; simp only [List.mem_cons, List.not_mem_nil, or_false] at hu; rcases hu with rfl | rfl | rfl <;> rfl
theorem enc_ones_Write (zs : List T_Write) : ∀ u ∈ zs.flatMap enc_Write, u.oneCell' = true := by intro u hu; obtain ⟨z, _, hz⟩ := List.mem_flatMap.1 hu; exact enc_one_Write z u hz
abbrev val_Write (x : T_Write) : Value := .agg (enc_Write x).toArray
theorem el_api_Write : El Try.prog 25 71 3 24 := El.mk' (z := .agg #[.int .i64 0, .int .u32 0, .int .i64 0]) Try.underlying25 (by kernel_rfl) rfl
abbrev enc_int (x : Int) : List Value := [.int .i64 x]
theorem enc_len_int : ∀ z, (enc_int z).length = 1 := fun _ => rfl
theorem enc_one_int (z : Int) : ∀ u ∈ enc_int z, u.oneCell' = true := by intro u hu; simp only [List.mem_cons, List.not_mem_nil, or_false] at hu; rcases hu with rfl <;> rfl
theorem enc_ones_int (zs : List Int) : ∀ u ∈ zs.flatMap enc_int, u.oneCell' = true := by intro u hu; obtain ⟨z, _, hz⟩ := List.mem_flatMap.1 hu; exact enc_one_int z u hz
abbrev val_int (x : Int) : Value := .int .i64 x
theorem el_int : El Try.prog 24 3 1 8 := El.mk' (z := .int .i64 0) Try.underlying24 (by kernel_rfl) rfl
abbrev enc_deed (x : T_deed) : List Value := [.bool x.has, .int .u32 x.result, .bool x.jumps, .int .i64 x.to, .int .i64 x.stop]
theorem enc_len_deed : ∀ z, (enc_deed z).length = 5 := fun _ => rfl
theorem enc_one_deed (z : T_deed) : ∀ u ∈ enc_deed z, u.oneCell' = true := by intro u hu; simp only [List.mem_cons, List.not_mem_nil, or_false] at hu; rcases hu with rfl | rfl | rfl | rfl | rfl <;> rfl
theorem enc_ones_deed (zs : List T_deed) : ∀ u ∈ zs.flatMap enc_deed, u.oneCell' = true := by intro u hu; obtain ⟨z, _, hz⟩ := List.mem_flatMap.1 hu; exact enc_one_deed z u hz
abbrev val_deed (x : T_deed) : Value := .agg (enc_deed x).toArray
abbrev enc_uint32 (x : Int) : List Value := [.int .u32 x]
theorem enc_len_uint32 : ∀ z, (enc_uint32 z).length = 1 := fun _ => rfl
theorem enc_one_uint32 (z : Int) : ∀ u ∈ enc_uint32 z, u.oneCell' = true := by intro u hu; simp only [List.mem_cons, List.not_mem_nil, or_false] at hu; rcases hu with rfl <;> rfl
theorem enc_ones_uint32 (zs : List Int) : ∀ u ∈ zs.flatMap enc_uint32, u.oneCell' = true := by intro u hu; obtain ⟨z, _, hz⟩ := List.mem_flatMap.1 hu; exact enc_one_uint32 z u hz
abbrev val_uint32 (x : Int) : Value := .int .u32 x
theorem el_uint32 : El Try.prog 23 35 1 4 := El.mk' (z := .int .u32 0) Try.underlying23 (by kernel_rfl) rfl
abbrev cl_State (v0 : Value) (v1 : Value) (v2 : Value) (x3 : Int) (v4 : Value) (x5 : Int) (v6 : Value) (x7 : Int) (v8 : Value) (x9 : Int) (x10 : Int) : List Value := [v0, v1, v2, .int .i64 x3, v4, .int .i64 x5, v6, .int .i64 x7, v8, .int .i64 x9, .int .i64 x10]
theorem one_State {v0 : Value} {v1 : Value} {v2 : Value} {x3 : Int} {v4 : Value} {x5 : Int} {v6 : Value} {x7 : Int} {v8 : Value} {x9 : Int} {x10 : Int} (h0 : v0.oneCell' = true) (h1 : v1.oneCell' = true) (h2 : v2.oneCell' = true) (h4 : v4.oneCell' = true) (h6 : v6.oneCell' = true) (h8 : v8.oneCell' = true) : ∀ u ∈ cl_State v0 v1 v2 x3 v4 x5 v6 x7 v8 x9 x10, u.oneCell' = true := by intro u hu; simp only [List.mem_cons, List.not_mem_nil, or_false] at hu; rcases hu with rfl | rfl | rfl | rfl | rfl | rfl | rfl | rfl | rfl | rfl | rfl <;> first | rfl | assumption
abbrev cl_Script5 (v0 : Value) (v1 : Value) (v2 : Value) (v3 : Value) (x4 : Int) (v5 : Value) (x6 : Int) (v7 : Value) (x8 : Int) (v9 : Value) (x10 : Int) (x11 : Int) (v12 : Value) (v13 : Value) : List Value := [v0, v1, v2, v3, .int .i64 x4, v5, .int .i64 x6, v7, .int .i64 x8, v9, .int .i64 x10, .int .i64 x11, v12, v13]
theorem one_Script5 {v0 : Value} {v1 : Value} {v2 : Value} {v3 : Value} {x4 : Int} {v5 : Value} {x6 : Int} {v7 : Value} {x8 : Int} {v9 : Value} {x10 : Int} {x11 : Int} {v12 : Value} {v13 : Value} (h0 : v0.oneCell' = true) (h1 : v1.oneCell' = true) (h2 : v2.oneCell' = true) (h3 : v3.oneCell' = true) (h5 : v5.oneCell' = true) (h7 : v7.oneCell' = true) (h9 : v9.oneCell' = true) (h12 : v12.oneCell' = true) (h13 : v13.oneCell' = true) : ∀ u ∈ cl_Script5 v0 v1 v2 v3 x4 v5 x6 v7 x8 v9 x10 x11 v12 v13, u.oneCell' = true := by intro u hu; simp only [List.mem_cons, List.not_mem_nil, or_false] at hu; rcases hu with rfl | rfl | rfl | rfl | rfl | rfl | rfl | rfl | rfl | rfl | rfl | rfl | rfl | rfl <;> first | rfl | assumption
abbrev cl_Script (v0 : Value) (v1 : Value) (v2 : Value) (v3 : Value) (x4 : Int) (v5 : Value) (x6 : Int) (v7 : Value) (x8 : Int) (v9 : Value) (x10 : Int) (x11 : Int) (v12 : Value) : List Value := [v0, v1, v2, v3, .int .i64 x4, v5, .int .i64 x6, v7, .int .i64 x8, v9, .int .i64 x10, .int .i64 x11, v12]
theorem one_Script {v0 : Value} {v1 : Value} {v2 : Value} {v3 : Value} {x4 : Int} {v5 : Value} {x6 : Int} {v7 : Value} {x8 : Int} {v9 : Value} {x10 : Int} {x11 : Int} {v12 : Value} (h0 : v0.oneCell' = true) (h1 : v1.oneCell' = true) (h2 : v2.oneCell' = true) (h3 : v3.oneCell' = true) (h5 : v5.oneCell' = true) (h7 : v7.oneCell' = true) (h9 : v9.oneCell' = true) (h12 : v12.oneCell' = true) : ∀ u ∈ cl_Script v0 v1 v2 v3 x4 v5 x6 v7 x8 v9 x10 x11 v12, u.oneCell' = true := by intro u hu; simp only [List.mem_cons, List.not_mem_nil, or_false] at hu; rcases hu with rfl | rfl | rfl | rfl | rfl | rfl | rfl | rfl | rfl | rfl | rfl | rfl | rfl <;> first | rfl | assumption
theorem mz_uint32 : ∀ i, Try.prog.info? 35 = some i → ∀ v, i.zero = some v → v.cells.toList = enc_uint32 (0 : Int) := by
  intro i hi v hv
  have h : (Try.prog.info? 35).map (·.zero) = some (some (.int .u32 0)) := by kernel_rfl
  rw [hi] at h
  have h2 : i.zero = some (.int .u32 0) := Option.some.inj h
  rw [hv] at h2
  obtain rfl := Option.some.inj h2
  rfl
theorem fa_api_Ins_0 : ∀ (b o : Nat) (w : World), (Instr.fieldAt 31 (.pointer (some ⟨b, o, none⟩)) 0).run Try.prog w = .ok (.pointer (some ⟨b, o + 0, none⟩)) w := fieldAt_of Try.underlying31 rfl rfl (n := 0) (by kernel_rfl)
theorem fa_api_Ins_1 : ∀ (b o : Nat) (w : World), (Instr.fieldAt 31 (.pointer (some ⟨b, o, none⟩)) 1).run Try.prog w = .ok (.pointer (some ⟨b, o + 1, none⟩)) w := fieldAt_of Try.underlying31 rfl rfl (n := 0) (by kernel_rfl)
theorem fa_api_Ins_2 : ∀ (b o : Nat) (w : World), (Instr.fieldAt 31 (.pointer (some ⟨b, o, none⟩)) 2).run Try.prog w = .ok (.pointer (some ⟨b, o + 2, none⟩)) w := fieldAt_of Try.underlying31 rfl rfl (n := 0) (by kernel_rfl)
theorem fa_api_Ins_3 : ∀ (b o : Nat) (w : World), (Instr.fieldAt 31 (.pointer (some ⟨b, o, none⟩)) 3).run Try.prog w = .ok (.pointer (some ⟨b, o + 3, none⟩)) w := fieldAt_of Try.underlying31 rfl rfl (n := 0) (by kernel_rfl)
theorem fa_api_Ins_4 : ∀ (b o : Nat) (w : World), (Instr.fieldAt 31 (.pointer (some ⟨b, o, none⟩)) 4).run Try.prog w = .ok (.pointer (some ⟨b, o + 4, none⟩)) w := fieldAt_of Try.underlying31 rfl rfl (n := 0) (by kernel_rfl)
theorem fa_api_Ins_5 : ∀ (b o : Nat) (w : World), (Instr.fieldAt 31 (.pointer (some ⟨b, o, none⟩)) 5).run Try.prog w = .ok (.pointer (some ⟨b, o + 5, none⟩)) w := fieldAt_of Try.underlying31 rfl rfl (n := 0) (by kernel_rfl)
theorem fa_api_State_0 : ∀ (b o : Nat) (w : World), (Instr.fieldAt 27 (.pointer (some ⟨b, o, none⟩)) 0).run Try.prog w = .ok (.pointer (some ⟨b, o + 0, none⟩)) w := fieldAt_of Try.underlying27 rfl rfl (n := 0) (by kernel_rfl)
theorem fa_api_State_1 : ∀ (b o : Nat) (w : World), (Instr.fieldAt 27 (.pointer (some ⟨b, o, none⟩)) 1).run Try.prog w = .ok (.pointer (some ⟨b, o + 1, none⟩)) w := fieldAt_of Try.underlying27 rfl rfl (n := 0) (by kernel_rfl)
theorem fa_api_State_2 : ∀ (b o : Nat) (w : World), (Instr.fieldAt 27 (.pointer (some ⟨b, o, none⟩)) 2).run Try.prog w = .ok (.pointer (some ⟨b, o + 2, none⟩)) w := fieldAt_of Try.underlying27 rfl rfl (n := 0) (by kernel_rfl)
theorem fa_api_State_3 : ∀ (b o : Nat) (w : World), (Instr.fieldAt 27 (.pointer (some ⟨b, o, none⟩)) 3).run Try.prog w = .ok (.pointer (some ⟨b, o + 3, none⟩)) w := fieldAt_of Try.underlying27 rfl rfl (n := 0) (by kernel_rfl)
theorem fa_api_State_4 : ∀ (b o : Nat) (w : World), (Instr.fieldAt 27 (.pointer (some ⟨b, o, none⟩)) 4).run Try.prog w = .ok (.pointer (some ⟨b, o + 4, none⟩)) w := fieldAt_of Try.underlying27 rfl rfl (n := 0) (by kernel_rfl)
theorem fa_api_State_5 : ∀ (b o : Nat) (w : World), (Instr.fieldAt 27 (.pointer (some ⟨b, o, none⟩)) 5).run Try.prog w = .ok (.pointer (some ⟨b, o + 5, none⟩)) w := fieldAt_of Try.underlying27 rfl rfl (n := 0) (by kernel_rfl)
theorem fa_api_State_6 : ∀ (b o : Nat) (w : World), (Instr.fieldAt 27 (.pointer (some ⟨b, o, none⟩)) 6).run Try.prog w = .ok (.pointer (some ⟨b, o + 6, none⟩)) w := fieldAt_of Try.underlying27 rfl rfl (n := 0) (by kernel_rfl)
theorem fa_api_State_7 : ∀ (b o : Nat) (w : World), (Instr.fieldAt 27 (.pointer (some ⟨b, o, none⟩)) 7).run Try.prog w = .ok (.pointer (some ⟨b, o + 7, none⟩)) w := fieldAt_of Try.underlying27 rfl rfl (n := 0) (by kernel_rfl)
theorem fa_api_State_8 : ∀ (b o : Nat) (w : World), (Instr.fieldAt 27 (.pointer (some ⟨b, o, none⟩)) 8).run Try.prog w = .ok (.pointer (some ⟨b, o + 8, none⟩)) w := fieldAt_of Try.underlying27 rfl rfl (n := 0) (by kernel_rfl)
theorem fa_api_State_9 : ∀ (b o : Nat) (w : World), (Instr.fieldAt 27 (.pointer (some ⟨b, o, none⟩)) 9).run Try.prog w = .ok (.pointer (some ⟨b, o + 9, none⟩)) w := fieldAt_of Try.underlying27 rfl rfl (n := 0) (by kernel_rfl)
theorem fa_api_State_10 : ∀ (b o : Nat) (w : World), (Instr.fieldAt 27 (.pointer (some ⟨b, o, none⟩)) 10).run Try.prog w = .ok (.pointer (some ⟨b, o + 10, none⟩)) w := fieldAt_of Try.underlying27 rfl rfl (n := 0) (by kernel_rfl)
theorem fa_api_Write_0 : ∀ (b o : Nat) (w : World), (Instr.fieldAt 71 (.pointer (some ⟨b, o, none⟩)) 0).run Try.prog w = .ok (.pointer (some ⟨b, o + 0, none⟩)) w := fieldAt_of Try.underlying71 rfl rfl (n := 0) (by kernel_rfl)
theorem fa_api_Write_1 : ∀ (b o : Nat) (w : World), (Instr.fieldAt 71 (.pointer (some ⟨b, o, none⟩)) 1).run Try.prog w = .ok (.pointer (some ⟨b, o + 1, none⟩)) w := fieldAt_of Try.underlying71 rfl rfl (n := 0) (by kernel_rfl)
theorem fa_api_Write_2 : ∀ (b o : Nat) (w : World), (Instr.fieldAt 71 (.pointer (some ⟨b, o, none⟩)) 2).run Try.prog w = .ok (.pointer (some ⟨b, o + 2, none⟩)) w := fieldAt_of Try.underlying71 rfl rfl (n := 0) (by kernel_rfl)
theorem fa_sledgelaw5_Script5_0 : ∀ (b o : Nat) (w : World), (Instr.fieldAt 54 (.pointer (some ⟨b, o, none⟩)) 0).run Try.prog w = .ok (.pointer (some ⟨b, o + 0, none⟩)) w := fieldAt_of Try.underlying54 rfl rfl (n := 0) (by kernel_rfl)
theorem fa_sledgelaw5_Script5_1 : ∀ (b o : Nat) (w : World), (Instr.fieldAt 54 (.pointer (some ⟨b, o, none⟩)) 1).run Try.prog w = .ok (.pointer (some ⟨b, o + 1, none⟩)) w := fieldAt_of Try.underlying54 rfl rfl (n := 10) (by kernel_rfl)
theorem fa_sledgelaw5_Script5_2 : ∀ (b o : Nat) (w : World), (Instr.fieldAt 54 (.pointer (some ⟨b, o, none⟩)) 2).run Try.prog w = .ok (.pointer (some ⟨b, o + 12, none⟩)) w := fieldAt_of Try.underlying54 rfl rfl (n := 0) (by kernel_rfl)
theorem fa_sledgelaw5_Script5_3 : ∀ (b o : Nat) (w : World), (Instr.fieldAt 54 (.pointer (some ⟨b, o, none⟩)) 3).run Try.prog w = .ok (.pointer (some ⟨b, o + 13, none⟩)) w := fieldAt_of Try.underlying54 rfl rfl (n := 0) (by kernel_rfl)
theorem fa_sledgelaw6_Script_0 : ∀ (b o : Nat) (w : World), (Instr.fieldAt 29 (.pointer (some ⟨b, o, none⟩)) 0).run Try.prog w = .ok (.pointer (some ⟨b, o + 0, none⟩)) w := fieldAt_of Try.underlying29 rfl rfl (n := 0) (by kernel_rfl)
theorem fa_sledgelaw6_Script_1 : ∀ (b o : Nat) (w : World), (Instr.fieldAt 29 (.pointer (some ⟨b, o, none⟩)) 1).run Try.prog w = .ok (.pointer (some ⟨b, o + 1, none⟩)) w := fieldAt_of Try.underlying29 rfl rfl (n := 10) (by kernel_rfl)
theorem fa_sledgelaw6_Script_2 : ∀ (b o : Nat) (w : World), (Instr.fieldAt 29 (.pointer (some ⟨b, o, none⟩)) 2).run Try.prog w = .ok (.pointer (some ⟨b, o + 12, none⟩)) w := fieldAt_of Try.underlying29 rfl rfl (n := 0) (by kernel_rfl)
theorem fa_sledgeref5_deed_0 : ∀ (b o : Nat) (w : World), (Instr.fieldAt 79 (.pointer (some ⟨b, o, none⟩)) 0).run Try.prog w = .ok (.pointer (some ⟨b, o + 0, none⟩)) w := fieldAt_of Try.underlying79 rfl rfl (n := 0) (by kernel_rfl)
theorem fa_sledgeref5_deed_1 : ∀ (b o : Nat) (w : World), (Instr.fieldAt 79 (.pointer (some ⟨b, o, none⟩)) 1).run Try.prog w = .ok (.pointer (some ⟨b, o + 1, none⟩)) w := fieldAt_of Try.underlying79 rfl rfl (n := 0) (by kernel_rfl)
theorem fa_sledgeref5_deed_2 : ∀ (b o : Nat) (w : World), (Instr.fieldAt 79 (.pointer (some ⟨b, o, none⟩)) 2).run Try.prog w = .ok (.pointer (some ⟨b, o + 2, none⟩)) w := fieldAt_of Try.underlying79 rfl rfl (n := 0) (by kernel_rfl)
theorem fa_sledgeref5_deed_3 : ∀ (b o : Nat) (w : World), (Instr.fieldAt 79 (.pointer (some ⟨b, o, none⟩)) 3).run Try.prog w = .ok (.pointer (some ⟨b, o + 3, none⟩)) w := fieldAt_of Try.underlying79 rfl rfl (n := 0) (by kernel_rfl)
theorem fa_sledgeref5_deed_4 : ∀ (b o : Nat) (w : World), (Instr.fieldAt 79 (.pointer (some ⟨b, o, none⟩)) 4).run Try.prog w = .ok (.pointer (some ⟨b, o + 4, none⟩)) w := fieldAt_of Try.underlying79 rfl rfl (n := 0) (by kernel_rfl)
theorem sz_A5_int : (Try.prog.info? 96).map (·.size) = some 5 := by kernel_rfl
theorem sz_S_api_Write : (Try.prog.info? 25).map (·.size) = some 1 := by kernel_rfl
theorem sz_S_int : (Try.prog.info? 24).map (·.size) = some 1 := by kernel_rfl
theorem sz_S_uint32 : (Try.prog.info? 23).map (·.size) = some 1 := by kernel_rfl
theorem sz_api_Bundle : (Try.prog.info? 37).map (·.size) = some 24 := by kernel_rfl
theorem sz_api_Ins : (Try.prog.info? 31).map (·.size) = some 6 := by kernel_rfl
theorem sz_api_State : (Try.prog.info? 27).map (·.size) = some 11 := by kernel_rfl
theorem sz_api_Write : (Try.prog.info? 71).map (·.size) = some 3 := by kernel_rfl
theorem sz_int : (Try.prog.info? 3).map (·.size) = some 1 := by kernel_rfl
theorem sz_sledgelaw6_Script : (Try.prog.info? 29).map (·.size) = some 13 := by kernel_rfl
theorem sz_sledgeref5_deed : (Try.prog.info? 79).map (·.size) = some 5 := by kernel_rfl
theorem sz_uint32 : (Try.prog.info? 35).map (·.size) = some 1 := by kernel_rfl
theorem zr_A5_int : (Try.prog.info? 96).map (·.zero) = some (some (.agg #[.int .i64 0, .int .i64 0, .int .i64 0, .int .i64 0, .int .i64 0])) := by kernel_rfl
theorem zr_api_Bundle : (Try.prog.info? 37).map (·.zero) = some (some (.agg #[.int .i64 0, .int .i64 0, .int .i64 0, .int .i64 0, .int .i64 0, .string ByteArray.empty, .int .i64 0, .int .i64 0, .int .i64 0, .int .i64 0, .int .i64 0, .string ByteArray.empty, .int .i64 0, .int .i64 0, .int .i64 0, .int .i64 0, .int .i64 0, .string ByteArray.empty, .int .i64 0, .int .i64 0, .int .i64 0, .int .i64 0, .int .i64 0, .string ByteArray.empty])) := by kernel_rfl
theorem zr_api_Ins : (Try.prog.info? 31).map (·.zero) = some (some (.agg #[.int .i64 0, .int .i64 0, .int .i64 0, .int .i64 0, .int .i64 0, .string ByteArray.empty])) := by kernel_rfl
theorem zr_api_State : (Try.prog.info? 27).map (·.zero) = some (some (.agg #[.slice none 0 0, .slice none 0 0, .slice none 0 0, .int .i64 0, .slice none 0 0, .int .i64 0, .slice none 0 0, .int .i64 0, .slice none 0 0, .int .i64 0, .int .i64 0])) := by kernel_rfl
theorem zr_api_Write : (Try.prog.info? 71).map (·.zero) = some (some (.agg #[.int .i64 0, .int .u32 0, .int .i64 0])) := by kernel_rfl
theorem zr_sledgeref5_deed : (Try.prog.info? 79).map (·.zero) = some (some (.agg #[.bool false, .int .u32 0, .bool false, .int .i64 0, .int .i64 0])) := by kernel_rfl
def eqb_Write (x y : T_Write) : Bool := decide (x.Reg = y.Reg) && decide (x.Value = y.Value) && decide (x.Left = y.Left)
theorem eqb_Write_iff {x y : T_Write} : eqb_Write x y = true ↔ x = y := by
  constructor
  · intro h
    simp only [eqb_Write, Bool.and_eq_true, decide_eq_true_eq, beq_iff_eq] at h
    cases x; cases y; simp_all
  · rintro rfl; simp [eqb_Write]
theorem eqr_Write (d : Nat) (x y : T_Write) (w : World) : (Op.equalIn (d + 2) 71 (.agg (enc_Write x).toArray) (.agg (enc_Write y).toArray)).run Try.prog w = .ok (eqb_Write x y) w := by
  have hu := Try.underlying71
  rw [run_equalIn_struct w (d + 1) 71 _ _ (by rw [Program.fieldsOf, hu]) (by kernel_rfl), Program.fieldsOf, hu]
  refine (eqFields_of (bs := [decide (x.Reg = y.Reg), decide (x.Value = y.Value), decide (x.Left = y.Left)]) ?_).trans ?_
  · refine .cons (eqf_int Try.underlying3 rfl rfl (by decide)) ?_
    refine .cons (eqf_int Try.underlying35 rfl rfl (by decide)) ?_
    refine .cons (eqf_int Try.underlying3 rfl rfl (by decide)) ?_
    exact .nil
  · simp [eqb_Write, Bool.and_assoc]
theorem y_eql_Write {C : World → Prop} {l : Fm} {d : Nat} {tt : TypeId} {ps : String} {af : Array Edge} {x y : T_Write} {a b : Operand} {t' : TypeId} (ha : ev l a = .agg (enc_Write x).toArray := by (conv => lhs; whnf) <;> exact rfl) (hb : ev l b = .agg (enc_Write y).toArray := by (conv => lhs; whnf) <;> exact rfl) : YV Try.prog C l ⟨some d, .binOp .eql 71 a b t', tt, ps, af, none⟩ (.bool (eqb_Write x y)) := y_steq_eql (by kernel_rfl) (eqr_Write 9998 x y) ha hb
theorem y_neq_Write {C : World → Prop} {l : Fm} {d : Nat} {tt : TypeId} {ps : String} {af : Array Edge} {x y : T_Write} {a b : Operand} {t' : TypeId} (ha : ev l a = .agg (enc_Write x).toArray := by (conv => lhs; whnf) <;> exact rfl) (hb : ev l b = .agg (enc_Write y).toArray := by (conv => lhs; whnf) <;> exact rfl) : YV Try.prog C l ⟨some d, .binOp .neq 71 a b t', tt, ps, af, none⟩ (.bool (!(eqb_Write x y))) := y_steq_neq (by kernel_rfl) (eqr_Write 9998 x y) ha hb
theorem bta_api_Bundle : BTA Try.prog 37 6 [.int .i64 0, .int .i64 0, .int .i64 0, .int .i64 0, .int .i64 0, .string ByteArray.empty, .int .i64 0, .int .i64 0, .int .i64 0, .int .i64 0, .int .i64 0, .string ByteArray.empty, .int .i64 0, .int .i64 0, .int .i64 0, .int .i64 0, .int .i64 0, .string ByteArray.empty, .int .i64 0, .int .i64 0, .int .i64 0, .int .i64 0, .int .i64 0, .string ByteArray.empty] := BTA.of (z := .agg #[.int .i64 0, .int .i64 0, .int .i64 0, .int .i64 0, .int .i64 0, .string ByteArray.empty, .int .i64 0, .int .i64 0, .int .i64 0, .int .i64 0, .int .i64 0, .string ByteArray.empty, .int .i64 0, .int .i64 0, .int .i64 0, .int .i64 0, .int .i64 0, .string ByteArray.empty, .int .i64 0, .int .i64 0, .int .i64 0, .int .i64 0, .int .i64 0, .string ByteArray.empty]) (by kernel_rfl) rfl Try.underlying37 (by kernel_rfl)
theorem bt_api_Ins : BT Try.prog 31 [(0, 1), (1, 1), (2, 1), (3, 1), (4, 1), (5, 1)] [.int .i64 0, .int .i64 0, .int .i64 0, .int .i64 0, .int .i64 0, .string ByteArray.empty] := BT.of (z := .agg #[.int .i64 0, .int .i64 0, .int .i64 0, .int .i64 0, .int .i64 0, .string ByteArray.empty]) (by kernel_rfl) rfl Try.underlying31 (by kernel_rfl)
theorem bt_api_State : BT Try.prog 27 [(0, 1), (1, 1), (2, 1), (3, 1), (4, 1), (5, 1), (6, 1), (7, 1), (8, 1), (9, 1), (10, 1)] [.slice none 0 0, .slice none 0 0, .slice none 0 0, .int .i64 0, .slice none 0 0, .int .i64 0, .slice none 0 0, .int .i64 0, .slice none 0 0, .int .i64 0, .int .i64 0] := BT.of (z := .agg #[.slice none 0 0, .slice none 0 0, .slice none 0 0, .int .i64 0, .slice none 0 0, .int .i64 0, .slice none 0 0, .int .i64 0, .slice none 0 0, .int .i64 0, .int .i64 0]) (by kernel_rfl) rfl Try.underlying27 (by kernel_rfl)
theorem bt_api_Write : BT Try.prog 71 [(0, 1), (1, 1), (2, 1)] [.int .i64 0, .int .u32 0, .int .i64 0] := BT.of (z := .agg #[.int .i64 0, .int .u32 0, .int .i64 0]) (by kernel_rfl) rfl Try.underlying71 (by kernel_rfl)
theorem bt_sledgelaw5_Script5 : BT Try.prog 54 [(0, 1), (1, 11), (12, 1), (13, 1)] [.slice none 0 0, .slice none 0 0, .slice none 0 0, .slice none 0 0, .int .i64 0, .slice none 0 0, .int .i64 0, .slice none 0 0, .int .i64 0, .slice none 0 0, .int .i64 0, .int .i64 0, .slice none 0 0, .slice none 0 0] := BT.of (z := .agg #[.slice none 0 0, .slice none 0 0, .slice none 0 0, .slice none 0 0, .int .i64 0, .slice none 0 0, .int .i64 0, .slice none 0 0, .int .i64 0, .slice none 0 0, .int .i64 0, .int .i64 0, .slice none 0 0, .slice none 0 0]) (by kernel_rfl) rfl Try.underlying54 (by kernel_rfl)
theorem bt_sledgeref5_deed : BT Try.prog 79 [(0, 1), (1, 1), (2, 1), (3, 1), (4, 1)] [.bool false, .int .u32 0, .bool false, .int .i64 0, .int .i64 0] := BT.of (z := .agg #[.bool false, .int .u32 0, .bool false, .int .i64 0, .int .i64 0]) (by kernel_rfl) rfl Try.underlying79 (by kernel_rfl)
abbrev Rd_State (g : Frag) (x : T_State) (v : Value) : Prop := ∃ (v0 v1 v2 v4 v6 v8 : Value), v = .agg (cl_State v0 v1 v2 x.Taken v4 x.PC v6 x.Stop v8 x.Jump x.Delay).toArray ∧ SlT g enc_uint32 1 x.Regs v0 ∧ SlT g enc_uint32 1 x.Mem v1 ∧ SlT g enc_uint32 1 x.In_ v2 ∧ SlT g enc_uint32 1 x.Out v4 ∧ SlT g enc_int 1 x.Stack v6 ∧ SlT g enc_Write 3 x.Fly v8
abbrev Ow_State (x : T_State) (v : Value) (L : Own) : Prop := ∃ (v0 v1 v2 v4 v6 v8 : Value) (X0 X1 X2 X4 X6 X8 : Own), v = .agg (cl_State v0 v1 v2 x.Taken v4 x.PC v6 x.Stop v8 x.Jump x.Delay).toArray ∧ L = (X0 ++ (X1 ++ (X2 ++ (X4 ++ (X6 ++ (X8 ++ [])))))) ∧ OwT 35 enc_uint32 1 x.Regs v0 X0 ∧ OwT 35 enc_uint32 1 x.Mem v1 X1 ∧ OwT 35 enc_uint32 1 x.In_ v2 X2 ∧ OwT 35 enc_uint32 1 x.Out v4 X4 ∧ OwT 3 enc_int 1 x.Stack v6 X6 ∧ OwT 71 enc_Write 3 x.Fly v8 X8
abbrev Bx_State (b : Nat) (x : T_State) (L : Own) : Prop := ∃ (v0 v1 v2 v4 v6 v8 : Value) (X0 X1 X2 X4 X6 X8 : Own), L = (b, blk (cl_State v0 v1 v2 x.Taken v4 x.PC v6 x.Stop v8 x.Jump x.Delay) 27) :: (X0 ++ (X1 ++ (X2 ++ (X4 ++ (X6 ++ (X8 ++ [])))))) ∧ OwT 35 enc_uint32 1 x.Regs v0 X0 ∧ OwT 35 enc_uint32 1 x.Mem v1 X1 ∧ OwT 35 enc_uint32 1 x.In_ v2 X2 ∧ OwT 35 enc_uint32 1 x.Out v4 X4 ∧ OwT 3 enc_int 1 x.Stack v6 X6 ∧ OwT 71 enc_Write 3 x.Fly v8 X8
abbrev Rd_Script5 (g : Frag) (x : T_Script5) (v : Value) : Prop := ∃ (v0 v1 v2 v3 v5 v7 v9 v12 v13 : Value), v = .agg (cl_Script5 v0 v1 v2 v3 x.S.Taken v5 x.S.PC v7 x.S.Stop v9 x.S.Jump x.S.Delay v12 v13).toArray ∧ SlT g enc_Ins 6 x.P v0 ∧ SlT g enc_uint32 1 x.S.Regs v1 ∧ SlT g enc_uint32 1 x.S.Mem v2 ∧ SlT g enc_uint32 1 x.S.In_ v3 ∧ SlT g enc_uint32 1 x.S.Out v5 ∧ SlT g enc_int 1 x.S.Stack v7 ∧ SlT g enc_Write 3 x.S.Fly v9 ∧ SlT g enc_uint32 1 x.In_ v12 ∧ SlT g enc_int 1 x.N v13
abbrev Ow_Script5 (x : T_Script5) (v : Value) (L : Own) : Prop := ∃ (v0 v1 v2 v3 v5 v7 v9 v12 v13 : Value) (X0 X1 X2 X3 X5 X7 X9 X12 X13 : Own), v = .agg (cl_Script5 v0 v1 v2 v3 x.S.Taken v5 x.S.PC v7 x.S.Stop v9 x.S.Jump x.S.Delay v12 v13).toArray ∧ L = (X0 ++ (X1 ++ (X2 ++ (X3 ++ (X5 ++ (X7 ++ (X9 ++ (X12 ++ (X13 ++ []))))))))) ∧ OwT 31 enc_Ins 6 x.P v0 X0 ∧ OwT 35 enc_uint32 1 x.S.Regs v1 X1 ∧ OwT 35 enc_uint32 1 x.S.Mem v2 X2 ∧ OwT 35 enc_uint32 1 x.S.In_ v3 X3 ∧ OwT 35 enc_uint32 1 x.S.Out v5 X5 ∧ OwT 3 enc_int 1 x.S.Stack v7 X7 ∧ OwT 71 enc_Write 3 x.S.Fly v9 X9 ∧ OwT 35 enc_uint32 1 x.In_ v12 X12 ∧ OwT 3 enc_int 1 x.N v13 X13
abbrev Bx_Script5 (b : Nat) (x : T_Script5) (L : Own) : Prop := ∃ (v0 v1 v2 v3 v5 v7 v9 v12 v13 : Value) (X0 X1 X2 X3 X5 X7 X9 X12 X13 : Own), L = (b, blk (cl_Script5 v0 v1 v2 v3 x.S.Taken v5 x.S.PC v7 x.S.Stop v9 x.S.Jump x.S.Delay v12 v13) 54) :: (X0 ++ (X1 ++ (X2 ++ (X3 ++ (X5 ++ (X7 ++ (X9 ++ (X12 ++ (X13 ++ []))))))))) ∧ OwT 31 enc_Ins 6 x.P v0 X0 ∧ OwT 35 enc_uint32 1 x.S.Regs v1 X1 ∧ OwT 35 enc_uint32 1 x.S.Mem v2 X2 ∧ OwT 35 enc_uint32 1 x.S.In_ v3 X3 ∧ OwT 35 enc_uint32 1 x.S.Out v5 X5 ∧ OwT 3 enc_int 1 x.S.Stack v7 X7 ∧ OwT 71 enc_Write 3 x.S.Fly v9 X9 ∧ OwT 35 enc_uint32 1 x.In_ v12 X12 ∧ OwT 3 enc_int 1 x.N v13 X13
abbrev Rd_Script (g : Frag) (x : T_Script) (v : Value) : Prop := ∃ (v0 v1 v2 v3 v5 v7 v9 v12 : Value), v = .agg (cl_Script v0 v1 v2 v3 x.S.Taken v5 x.S.PC v7 x.S.Stop v9 x.S.Jump x.S.Delay v12).toArray ∧ SlT g enc_Bundle 24 x.C v0 ∧ SlT g enc_uint32 1 x.S.Regs v1 ∧ SlT g enc_uint32 1 x.S.Mem v2 ∧ SlT g enc_uint32 1 x.S.In_ v3 ∧ SlT g enc_uint32 1 x.S.Out v5 ∧ SlT g enc_int 1 x.S.Stack v7 ∧ SlT g enc_Write 3 x.S.Fly v9 ∧ SlT g enc_int 1 x.N v12
abbrev Ow_Script (x : T_Script) (v : Value) (L : Own) : Prop := ∃ (v0 v1 v2 v3 v5 v7 v9 v12 : Value) (X0 X1 X2 X3 X5 X7 X9 X12 : Own), v = .agg (cl_Script v0 v1 v2 v3 x.S.Taken v5 x.S.PC v7 x.S.Stop v9 x.S.Jump x.S.Delay v12).toArray ∧ L = (X0 ++ (X1 ++ (X2 ++ (X3 ++ (X5 ++ (X7 ++ (X9 ++ (X12 ++ [])))))))) ∧ OwT 37 enc_Bundle 24 x.C v0 X0 ∧ OwT 35 enc_uint32 1 x.S.Regs v1 X1 ∧ OwT 35 enc_uint32 1 x.S.Mem v2 X2 ∧ OwT 35 enc_uint32 1 x.S.In_ v3 X3 ∧ OwT 35 enc_uint32 1 x.S.Out v5 X5 ∧ OwT 3 enc_int 1 x.S.Stack v7 X7 ∧ OwT 71 enc_Write 3 x.S.Fly v9 X9 ∧ OwT 3 enc_int 1 x.N v12 X12
abbrev Bx_Script (b : Nat) (x : T_Script) (L : Own) : Prop := ∃ (v0 v1 v2 v3 v5 v7 v9 v12 : Value) (X0 X1 X2 X3 X5 X7 X9 X12 : Own), L = (b, blk (cl_Script v0 v1 v2 v3 x.S.Taken v5 x.S.PC v7 x.S.Stop v9 x.S.Jump x.S.Delay v12) 29) :: (X0 ++ (X1 ++ (X2 ++ (X3 ++ (X5 ++ (X7 ++ (X9 ++ (X12 ++ [])))))))) ∧ OwT 37 enc_Bundle 24 x.C v0 X0 ∧ OwT 35 enc_uint32 1 x.S.Regs v1 X1 ∧ OwT 35 enc_uint32 1 x.S.Mem v2 X2 ∧ OwT 35 enc_uint32 1 x.S.In_ v3 X3 ∧ OwT 35 enc_uint32 1 x.S.Out v5 X5 ∧ OwT 3 enc_int 1 x.S.Stack v7 X7 ∧ OwT 71 enc_Write 3 x.S.Fly v9 X9 ∧ OwT 3 enc_int 1 x.N v12 X12
end Go.Proofs.Ythbpicnbkdbbmaa
