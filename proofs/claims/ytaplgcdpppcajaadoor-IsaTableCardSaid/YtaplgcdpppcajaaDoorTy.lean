/- Types. Printed by lift.py. -/
import Derived.Test.YtaplgcdpppcajaaDoorProg
import Derived.Test.YtaplgcdpppcajaaDoorNest
import Derived.Test.YtaplgcdpppcajaaDoorStr
import Derived.Test.YtaplgcdpppcajaaDoorClear
import Derived.KernelRfl
namespace Go.Proofs.YtaplgcdpppcajaaDoor
open Go Go.RowKit Fr
set_option linter.unusedVariables false
set_option linter.unusedSimpArgs false
set_option maxRecDepth 20000
structure T_Ins where
  Op : Int
  D : Int
  A : Int
  B : Int
  Imm : Int
  Sym : ByteArray
structure T_Ask where
  I : (List T_Ins)
  S : (List ByteArray)
abbrev enc_Ins (x : T_Ins) : List Value := [.int .i64 x.Op, .int .i64 x.D, .int .i64 x.A, .int .i64 x.B, .int .i64 x.Imm, .string x.Sym]
theorem enc_len_Ins : ∀ z, (enc_Ins z).length = 6 := fun _ => rfl
theorem enc_one_Ins (z : T_Ins) : ∀ u ∈ enc_Ins z, u.oneCell' = true := by intro u hu; simp only [List.mem_cons, List.not_mem_nil, or_false] at hu; rcases hu with rfl | rfl | rfl | rfl | rfl | rfl <;> rfl
theorem enc_ones_Ins (zs : List T_Ins) : ∀ u ∈ zs.flatMap enc_Ins, u.oneCell' = true := by intro u hu; obtain ⟨z, _, hz⟩ := List.mem_flatMap.1 hu; exact enc_one_Ins z u hz
abbrev val_Ins (x : T_Ins) : Value := .agg (enc_Ins x).toArray
theorem el_api_Ins : El Tryd.prog 22 27 6 56 := El.mk' (z := .agg #[.int .i64 0, .int .i64 0, .int .i64 0, .int .i64 0, .int .i64 0, .string ByteArray.empty]) Tryd.underlying22 (by kernel_rfl) rfl
abbrev enc_int (x : Int) : List Value := [.int .i64 x]
theorem enc_len_int : ∀ z, (enc_int z).length = 1 := fun _ => rfl
theorem enc_one_int (z : Int) : ∀ u ∈ enc_int z, u.oneCell' = true := by intro u hu; simp only [List.mem_cons, List.not_mem_nil, or_false] at hu; rcases hu with rfl <;> rfl
theorem enc_ones_int (zs : List Int) : ∀ u ∈ zs.flatMap enc_int, u.oneCell' = true := by intro u hu; obtain ⟨z, _, hz⟩ := List.mem_flatMap.1 hu; exact enc_one_int z u hz
abbrev val_int (x : Int) : Value := .int .i64 x
theorem el_int : El Tryd.prog 30 3 1 8 := El.mk' (z := .int .i64 0) Tryd.underlying30 (by kernel_rfl) rfl
abbrev enc_string (x : ByteArray) : List Value := [.string x]
theorem enc_len_string : ∀ z, (enc_string z).length = 1 := fun _ => rfl
theorem enc_one_string (z : ByteArray) : ∀ u ∈ enc_string z, u.oneCell' = true := by intro u hu; simp only [List.mem_cons, List.not_mem_nil, or_false] at hu; rcases hu with rfl <;> rfl
theorem enc_ones_string (zs : List ByteArray) : ∀ u ∈ zs.flatMap enc_string, u.oneCell' = true := by intro u hu; obtain ⟨z, _, hz⟩ := List.mem_flatMap.1 hu; exact enc_one_string z u hz
abbrev val_string (x : ByteArray) : Value := .string x
theorem el_string : El Tryd.prog 23 9 1 16 := El.mk' (z := .string ByteArray.empty) Tryd.underlying23 (by kernel_rfl) rfl
abbrev cl_Ask (v0 : Value) (v1 : Value) : List Value := [v0, v1]
theorem one_Ask {v0 : Value} {v1 : Value} (h0 : v0.oneCell' = true) (h1 : v1.oneCell' = true) : ∀ u ∈ cl_Ask v0 v1, u.oneCell' = true := by intro u hu; simp only [List.mem_cons, List.not_mem_nil, or_false] at hu; rcases hu with rfl | rfl <;> first | rfl | assumption
theorem fa_api_Ins_0 : ∀ (b o : Nat) (w : World), (Instr.fieldAt 27 (.pointer (some ⟨b, o, none⟩)) 0).run Tryd.prog w = .ok (.pointer (some ⟨b, o + 0, none⟩)) w := fieldAt_of Tryd.underlying27 rfl rfl (n := 0) (by kernel_rfl)
theorem fa_api_Ins_1 : ∀ (b o : Nat) (w : World), (Instr.fieldAt 27 (.pointer (some ⟨b, o, none⟩)) 1).run Tryd.prog w = .ok (.pointer (some ⟨b, o + 1, none⟩)) w := fieldAt_of Tryd.underlying27 rfl rfl (n := 0) (by kernel_rfl)
theorem fa_api_Ins_2 : ∀ (b o : Nat) (w : World), (Instr.fieldAt 27 (.pointer (some ⟨b, o, none⟩)) 2).run Tryd.prog w = .ok (.pointer (some ⟨b, o + 2, none⟩)) w := fieldAt_of Tryd.underlying27 rfl rfl (n := 0) (by kernel_rfl)
theorem fa_api_Ins_3 : ∀ (b o : Nat) (w : World), (Instr.fieldAt 27 (.pointer (some ⟨b, o, none⟩)) 3).run Tryd.prog w = .ok (.pointer (some ⟨b, o + 3, none⟩)) w := fieldAt_of Tryd.underlying27 rfl rfl (n := 0) (by kernel_rfl)
theorem fa_api_Ins_4 : ∀ (b o : Nat) (w : World), (Instr.fieldAt 27 (.pointer (some ⟨b, o, none⟩)) 4).run Tryd.prog w = .ok (.pointer (some ⟨b, o + 4, none⟩)) w := fieldAt_of Tryd.underlying27 rfl rfl (n := 0) (by kernel_rfl)
theorem fa_api_Ins_5 : ∀ (b o : Nat) (w : World), (Instr.fieldAt 27 (.pointer (some ⟨b, o, none⟩)) 5).run Tryd.prog w = .ok (.pointer (some ⟨b, o + 5, none⟩)) w := fieldAt_of Tryd.underlying27 rfl rfl (n := 0) (by kernel_rfl)
theorem fa_sledgelaw3_Ask_0 : ∀ (b o : Nat) (w : World), (Instr.fieldAt 25 (.pointer (some ⟨b, o, none⟩)) 0).run Tryd.prog w = .ok (.pointer (some ⟨b, o + 0, none⟩)) w := fieldAt_of Tryd.underlying25 rfl rfl (n := 0) (by kernel_rfl)
theorem fa_sledgelaw3_Ask_1 : ∀ (b o : Nat) (w : World), (Instr.fieldAt 25 (.pointer (some ⟨b, o, none⟩)) 1).run Tryd.prog w = .ok (.pointer (some ⟨b, o + 1, none⟩)) w := fieldAt_of Tryd.underlying25 rfl rfl (n := 0) (by kernel_rfl)
theorem sz_S_string : (Tryd.prog.info? 23).map (·.size) = some 1 := by kernel_rfl
theorem sz_api_Ins : (Tryd.prog.info? 27).map (·.size) = some 6 := by kernel_rfl
theorem sz_int : (Tryd.prog.info? 3).map (·.size) = some 1 := by kernel_rfl
theorem sz_string : (Tryd.prog.info? 9).map (·.size) = some 1 := by kernel_rfl
theorem zr_S_string : (Tryd.prog.info? 23).map (·.zero) = some (some (.slice none 0 0)) := by kernel_rfl
theorem zr_api_Ins : (Tryd.prog.info? 27).map (·.zero) = some (some (.agg #[.int .i64 0, .int .i64 0, .int .i64 0, .int .i64 0, .int .i64 0, .string ByteArray.empty])) := by kernel_rfl
theorem zr_int : (Tryd.prog.info? 3).map (·.zero) = some (some (.int .i64 0)) := by kernel_rfl
theorem bt_api_Ins : BT Tryd.prog 27 [(0, 1), (1, 1), (2, 1), (3, 1), (4, 1), (5, 1)] [.int .i64 0, .int .i64 0, .int .i64 0, .int .i64 0, .int .i64 0, .string ByteArray.empty] := BT.of (z := .agg #[.int .i64 0, .int .i64 0, .int .i64 0, .int .i64 0, .int .i64 0, .string ByteArray.empty]) (by kernel_rfl) rfl Tryd.underlying27 (by kernel_rfl)
abbrev Rd_Ask (g : Frag) (x : T_Ask) (v : Value) : Prop := ∃ (v0 v1 : Value), v = .agg (cl_Ask v0 v1).toArray ∧ SlT g enc_Ins 6 x.I v0 ∧ SlT g enc_string 1 x.S v1
abbrev Ow_Ask (x : T_Ask) (v : Value) (L : Own) : Prop := ∃ (v0 v1 : Value) (X0 X1 : Own), v = .agg (cl_Ask v0 v1).toArray ∧ L = (X0 ++ (X1 ++ [])) ∧ OwT 27 enc_Ins 6 x.I v0 X0 ∧ OwT 9 enc_string 1 x.S v1 X1
abbrev Bx_Ask (b : Nat) (x : T_Ask) (L : Own) : Prop := ∃ (v0 v1 : Value) (X0 X1 : Own), L = (b, blk (cl_Ask v0 v1) 25) :: (X0 ++ (X1 ++ [])) ∧ OwT 27 enc_Ins 6 x.I v0 X0 ∧ OwT 9 enc_string 1 x.S v1 X1
abbrev Bx_S_string (b : Nat) (x : (List ByteArray)) (L : Own) : Prop := ∃ (v0 : Value) (X0 : Own), L = (b, blk [v0] 23) :: (X0 ++ []) ∧ OwT 9 enc_string 1 x v0 X0
end Go.Proofs.YtaplgcdpppcajaaDoor
