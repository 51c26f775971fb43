/- Types. Printed by lift.py. -/
import Derived.Test.YtadajdcbeegabaaProg
import Derived.Test.YtadajdcbeegabaaY
import Derived.KernelRfl
namespace Go.Proofs.Ytadajdcbeegabaa
open Go Go.RowKit Fr
set_option linter.unusedVariables false
set_option linter.unusedSimpArgs false
set_option maxRecDepth 20000
structure T_Write where
  Reg : Int
  Value : Int
  Left : Int
structure T_Ins where
  Op : Int
  D : Int
  A : Int
  B : Int
  Imm : Int
  Sym : ByteArray
structure T_State where
  Regs : (List Int)
  Mem : (List Int)
  In_ : (List Int)
  Taken : Int
  Out : (List Int)
  PC : Int
  Stack : (List Int)
  Stop : Int
  Fly : (List T_Write)
  Jump : Int
  Delay : Int
structure T_Script where
  P : (List T_Ins)
  S : T_State
  In_ : (List Int)
  N : (List Int)
structure T_deed where
  has : Bool
  result : Int
  jumps : Bool
  to : Int
  stop : Int
abbrev enc_Ins (x : T_Ins) : List Value := [.int .i64 x.Op, .int .i64 x.D, .int .i64 x.A, .int .i64 x.B, .int .i64 x.Imm, .string x.Sym]
theorem enc_len_Ins : ∀ z, (enc_Ins z).length = 6 := fun _ => rfl
theorem enc_one_Ins (z : T_Ins) : ∀ u ∈ enc_Ins z, u.oneCell' = true := by intro u hu; simp only [List.mem_cons, List.not_mem_nil, or_false] at hu; rcases hu with rfl | rfl | rfl | rfl | rfl | rfl <;> rfl
theorem enc_ones_Ins (zs : List T_Ins) : ∀ u ∈ zs.flatMap enc_Ins, u.oneCell' = true := by intro u hu; obtain ⟨z, _, hz⟩ := List.mem_flatMap.1 hu; exact enc_one_Ins z u hz
abbrev val_Ins (x : T_Ins) : Value := .agg #[.int .i64 x.Op, .int .i64 x.D, .int .i64 x.A, .int .i64 x.B, .int .i64 x.Imm, .string x.Sym]
theorem el_api_Ins : El Try.prog 22 43 6 56 := El.mk' (z := .agg #[.int .i64 0, .int .i64 0, .int .i64 0, .int .i64 0, .int .i64 0, .string ByteArray.empty]) Try.underlying22 (by kernel_rfl) rfl
abbrev enc_Write (x : T_Write) : List Value := [.int .i64 x.Reg, .int .u32 x.Value, .int .i64 x.Left]
theorem enc_len_Write : ∀ z, (enc_Write z).length = 3 := fun _ => rfl
theorem enc_one_Write (z : T_Write) : ∀ u ∈ enc_Write z, u.oneCell' = true := by intro u hu; simp only [List.mem_cons, List.not_mem_nil, or_false] at hu; rcases hu with rfl | rfl | rfl <;> rfl
theorem enc_ones_Write (zs : List T_Write) : ∀ u ∈ zs.flatMap enc_Write, u.oneCell' = true := by intro u hu; obtain ⟨z, _, hz⟩ := List.mem_flatMap.1 hu; exact enc_one_Write z u hz
abbrev val_Write (x : T_Write) : Value := .agg #[.int .i64 x.Reg, .int .u32 x.Value, .int .i64 x.Left]
theorem el_api_Write : El Try.prog 25 71 3 24 := El.mk' (z := .agg #[.int .i64 0, .int .u32 0, .int .i64 0]) Try.underlying25 (by kernel_rfl) rfl
abbrev enc_int (x : Int) : List Value := [.int .i64 x]
theorem enc_len_int : ∀ z, (enc_int z).length = 1 := fun _ => rfl
theorem enc_one_int (z : Int) : ∀ u ∈ enc_int z, u.oneCell' = true := by intro u hu; simp only [List.mem_cons, List.not_mem_nil, or_false] at hu; rcases hu with rfl <;> rfl
theorem enc_ones_int (zs : List Int) : ∀ u ∈ zs.flatMap enc_int, u.oneCell' = true := by intro u hu; obtain ⟨z, _, hz⟩ := List.mem_flatMap.1 hu; exact enc_one_int z u hz
abbrev val_int (x : Int) : Value := .int .i64 x
theorem el_int : El Try.prog 24 3 1 8 := El.mk' (z := .int .i64 0) Try.underlying24 (by kernel_rfl) rfl
abbrev enc_uint32 (x : Int) : List Value := [.int .u32 x]
theorem enc_len_uint32 : ∀ z, (enc_uint32 z).length = 1 := fun _ => rfl
theorem enc_one_uint32 (z : Int) : ∀ u ∈ enc_uint32 z, u.oneCell' = true := by intro u hu; simp only [List.mem_cons, List.not_mem_nil, or_false] at hu; rcases hu with rfl <;> rfl
theorem enc_ones_uint32 (zs : List Int) : ∀ u ∈ zs.flatMap enc_uint32, u.oneCell' = true := by intro u hu; obtain ⟨z, _, hz⟩ := List.mem_flatMap.1 hu; exact enc_one_uint32 z u hz
abbrev val_uint32 (x : Int) : Value := .int .u32 x
theorem el_uint32 : El Try.prog 23 63 1 4 := El.mk' (z := .int .u32 0) Try.underlying23 (by kernel_rfl) rfl
theorem mz_uint32 : ∀ i, Try.prog.info? 63 = some i → ∀ v, i.zero = some v → v.cells.toList = enc_uint32 (0 : Int) := by
  intro i hi v hv
  have h : (Try.prog.info? 63).map (·.zero) = some (some (.int .u32 0)) := by kernel_rfl
  rw [hi] at h
  have h2 : i.zero = some (.int .u32 0) := Option.some.inj h
  rw [hv] at h2
  obtain rfl := Option.some.inj h2
  rfl
theorem fa_api_Ins_0 : ∀ (b o : Nat) (w : World), (Instr.fieldAt 43 (.pointer (some ⟨b, o, none⟩)) 0).run Try.prog w = .ok (.pointer (some ⟨b, o + 0, none⟩)) w := fieldAt_of Try.underlying43 rfl rfl (n := 0) (by kernel_rfl)
theorem fa_api_Ins_1 : ∀ (b o : Nat) (w : World), (Instr.fieldAt 43 (.pointer (some ⟨b, o, none⟩)) 1).run Try.prog w = .ok (.pointer (some ⟨b, o + 1, none⟩)) w := fieldAt_of Try.underlying43 rfl rfl (n := 0) (by kernel_rfl)
theorem fa_api_Ins_2 : ∀ (b o : Nat) (w : World), (Instr.fieldAt 43 (.pointer (some ⟨b, o, none⟩)) 2).run Try.prog w = .ok (.pointer (some ⟨b, o + 2, none⟩)) w := fieldAt_of Try.underlying43 rfl rfl (n := 0) (by kernel_rfl)
theorem fa_api_Ins_3 : ∀ (b o : Nat) (w : World), (Instr.fieldAt 43 (.pointer (some ⟨b, o, none⟩)) 3).run Try.prog w = .ok (.pointer (some ⟨b, o + 3, none⟩)) w := fieldAt_of Try.underlying43 rfl rfl (n := 0) (by kernel_rfl)
theorem fa_api_Ins_4 : ∀ (b o : Nat) (w : World), (Instr.fieldAt 43 (.pointer (some ⟨b, o, none⟩)) 4).run Try.prog w = .ok (.pointer (some ⟨b, o + 4, none⟩)) w := fieldAt_of Try.underlying43 rfl rfl (n := 0) (by kernel_rfl)
theorem fa_api_Ins_5 : ∀ (b o : Nat) (w : World), (Instr.fieldAt 43 (.pointer (some ⟨b, o, none⟩)) 5).run Try.prog w = .ok (.pointer (some ⟨b, o + 5, none⟩)) w := fieldAt_of Try.underlying43 rfl rfl (n := 0) (by kernel_rfl)
theorem fa_api_State_0 : ∀ (b o : Nat) (w : World), (Instr.fieldAt 27 (.pointer (some ⟨b, o, none⟩)) 0).run Try.prog w = .ok (.pointer (some ⟨b, o + 0, none⟩)) w := fieldAt_of Try.underlying27 rfl rfl (n := 0) (by kernel_rfl)
theorem fa_api_State_1 : ∀ (b o : Nat) (w : World), (Instr.fieldAt 27 (.pointer (some ⟨b, o, none⟩)) 1).run Try.prog w = .ok (.pointer (some ⟨b, o + 1, none⟩)) w := fieldAt_of Try.underlying27 rfl rfl (n := 0) (by kernel_rfl)
theorem fa_api_State_2 : ∀ (b o : Nat) (w : World), (Instr.fieldAt 27 (.pointer (some ⟨b, o, none⟩)) 2).run Try.prog w = .ok (.pointer (some ⟨b, o + 2, none⟩)) w := fieldAt_of Try.underlying27 rfl rfl (n := 0) (by kernel_rfl)
theorem fa_api_State_3 : ∀ (b o : Nat) (w : World), (Instr.fieldAt 27 (.pointer (some ⟨b, o, none⟩)) 3).run Try.prog w = .ok (.pointer (some ⟨b, o + 3, none⟩)) w := fieldAt_of Try.underlying27 rfl rfl (n := 0) (by kernel_rfl)
theorem fa_api_State_4 : ∀ (b o : Nat) (w : World), (Instr.fieldAt 27 (.pointer (some ⟨b, o, none⟩)) 4).run Try.prog w = .ok (.pointer (some ⟨b, o + 4, none⟩)) w := fieldAt_of Try.underlying27 rfl rfl (n := 0) (by kernel_rfl)
theorem fa_api_State_5 : ∀ (b o : Nat) (w : World), (Instr.fieldAt 27 (.pointer (some ⟨b, o, none⟩)) 5).run Try.prog w = .ok (.pointer (some ⟨b, o + 5, none⟩)) w := fieldAt_of Try.underlying27 rfl rfl (n := 0) (by kernel_rfl)
theorem fa_api_State_6 : ∀ (b o : Nat) (w : World), (Instr.fieldAt 27 (.pointer (some ⟨b, o, none⟩)) 6).run Try.prog w = .ok (.pointer (some ⟨b, o + 6, none⟩)) w := fieldAt_of Try.underlying27 rfl rfl (n := 0) (by kernel_rfl)
theorem fa_api_State_7 : ∀ (b o : Nat) (w : World), (Instr.fieldAt 27 (.pointer (some ⟨b, o, none⟩)) 7).run Try.prog w = .ok (.pointer (some ⟨b, o + 7, none⟩)) w := fieldAt_of Try.underlying27 rfl rfl (n := 0) (by kernel_rfl)
theorem fa_api_State_8 : ∀ (b o : Nat) (w : World), (Instr.fieldAt 27 (.pointer (some ⟨b, o, none⟩)) 8).run Try.prog w = .ok (.pointer (some ⟨b, o + 8, none⟩)) w := fieldAt_of Try.underlying27 rfl rfl (n := 0) (by kernel_rfl)
theorem fa_api_State_9 : ∀ (b o : Nat) (w : World), (Instr.fieldAt 27 (.pointer (some ⟨b, o, none⟩)) 9).run Try.prog w = .ok (.pointer (some ⟨b, o + 9, none⟩)) w := fieldAt_of Try.underlying27 rfl rfl (n := 0) (by kernel_rfl)
theorem fa_api_State_10 : ∀ (b o : Nat) (w : World), (Instr.fieldAt 27 (.pointer (some ⟨b, o, none⟩)) 10).run Try.prog w = .ok (.pointer (some ⟨b, o + 10, none⟩)) w := fieldAt_of Try.underlying27 rfl rfl (n := 0) (by kernel_rfl)
theorem fa_sledgelaw5_Script_0 : ∀ (b o : Nat) (w : World), (Instr.fieldAt 29 (.pointer (some ⟨b, o, none⟩)) 0).run Try.prog w = .ok (.pointer (some ⟨b, o + 0, none⟩)) w := fieldAt_of Try.underlying29 rfl rfl (n := 0) (by kernel_rfl)
theorem fa_sledgelaw5_Script_1 : ∀ (b o : Nat) (w : World), (Instr.fieldAt 29 (.pointer (some ⟨b, o, none⟩)) 1).run Try.prog w = .ok (.pointer (some ⟨b, o + 1, none⟩)) w := fieldAt_of Try.underlying29 rfl rfl (n := 10) (by kernel_rfl)
theorem fa_sledgelaw5_Script_2 : ∀ (b o : Nat) (w : World), (Instr.fieldAt 29 (.pointer (some ⟨b, o, none⟩)) 2).run Try.prog w = .ok (.pointer (some ⟨b, o + 12, none⟩)) w := fieldAt_of Try.underlying29 rfl rfl (n := 0) (by kernel_rfl)
theorem fa_sledgelaw5_Script_3 : ∀ (b o : Nat) (w : World), (Instr.fieldAt 29 (.pointer (some ⟨b, o, none⟩)) 3).run Try.prog w = .ok (.pointer (some ⟨b, o + 13, none⟩)) w := fieldAt_of Try.underlying29 rfl rfl (n := 0) (by kernel_rfl)
theorem fa_sledgeref5_deed_0 : ∀ (b o : Nat) (w : World), (Instr.fieldAt 82 (.pointer (some ⟨b, o, none⟩)) 0).run Try.prog w = .ok (.pointer (some ⟨b, o + 0, none⟩)) w := fieldAt_of Try.underlying82 rfl rfl (n := 0) (by kernel_rfl)
theorem fa_sledgeref5_deed_1 : ∀ (b o : Nat) (w : World), (Instr.fieldAt 82 (.pointer (some ⟨b, o, none⟩)) 1).run Try.prog w = .ok (.pointer (some ⟨b, o + 1, none⟩)) w := fieldAt_of Try.underlying82 rfl rfl (n := 0) (by kernel_rfl)
theorem fa_sledgeref5_deed_2 : ∀ (b o : Nat) (w : World), (Instr.fieldAt 82 (.pointer (some ⟨b, o, none⟩)) 2).run Try.prog w = .ok (.pointer (some ⟨b, o + 2, none⟩)) w := fieldAt_of Try.underlying82 rfl rfl (n := 0) (by kernel_rfl)
theorem fa_sledgeref5_deed_3 : ∀ (b o : Nat) (w : World), (Instr.fieldAt 82 (.pointer (some ⟨b, o, none⟩)) 3).run Try.prog w = .ok (.pointer (some ⟨b, o + 3, none⟩)) w := fieldAt_of Try.underlying82 rfl rfl (n := 0) (by kernel_rfl)
theorem fa_sledgeref5_deed_4 : ∀ (b o : Nat) (w : World), (Instr.fieldAt 82 (.pointer (some ⟨b, o, none⟩)) 4).run Try.prog w = .ok (.pointer (some ⟨b, o + 4, none⟩)) w := fieldAt_of Try.underlying82 rfl rfl (n := 0) (by kernel_rfl)
theorem sz_S_api_Write : (Try.prog.info? 25).map (·.size) = some 1 := by kernel_rfl
theorem sz_S_int : (Try.prog.info? 24).map (·.size) = some 1 := by kernel_rfl
theorem sz_S_uint32 : (Try.prog.info? 23).map (·.size) = some 1 := by kernel_rfl
theorem sz_api_Ins : (Try.prog.info? 43).map (·.size) = some 6 := by kernel_rfl
theorem sz_api_State : (Try.prog.info? 27).map (·.size) = some 11 := by kernel_rfl
theorem sz_api_Write : (Try.prog.info? 71).map (·.size) = some 3 := by kernel_rfl
theorem sz_int : (Try.prog.info? 3).map (·.size) = some 1 := by kernel_rfl
theorem sz_sledgelaw5_Script : (Try.prog.info? 29).map (·.size) = some 14 := by kernel_rfl
theorem sz_sledgeref5_deed : (Try.prog.info? 82).map (·.size) = some 5 := by kernel_rfl
theorem sz_string : (Try.prog.info? 9).map (·.size) = some 1 := by kernel_rfl
theorem sz_uint32 : (Try.prog.info? 63).map (·.size) = some 1 := by kernel_rfl
theorem zr_api_Ins : (Try.prog.info? 43).map (·.zero) = some (some (.agg #[.int .i64 0, .int .i64 0, .int .i64 0, .int .i64 0, .int .i64 0, .string ByteArray.empty])) := by kernel_rfl
theorem zr_api_State : (Try.prog.info? 27).map (·.zero) = some (some (.agg #[.slice none 0 0, .slice none 0 0, .slice none 0 0, .int .i64 0, .slice none 0 0, .int .i64 0, .slice none 0 0, .int .i64 0, .slice none 0 0, .int .i64 0, .int .i64 0])) := by kernel_rfl
theorem zr_sledgeref5_deed : (Try.prog.info? 82).map (·.zero) = some (some (.agg #[.bool false, .int .u32 0, .bool false, .int .i64 0, .int .i64 0])) := by kernel_rfl
def eqb_Ins (x y : T_Ins) : Bool := decide (x.Op = y.Op) && decide (x.D = y.D) && decide (x.A = y.A) && decide (x.B = y.B) && decide (x.Imm = y.Imm) && decide (x.Sym = y.Sym)
theorem eqb_Ins_iff {x y : T_Ins} : eqb_Ins x y = true ↔ x = y := by
  constructor
  · intro h
    simp only [eqb_Ins, Bool.and_eq_true, decide_eq_true_eq, beq_iff_eq] at h
    cases x; cases y; simp_all
  · rintro rfl; simp [eqb_Ins]
theorem eqr_Ins (x y : T_Ins) (w : World) : (Op.equalIn 10000 43 (.agg #[.int .i64 x.Op, .int .i64 x.D, .int .i64 x.A, .int .i64 x.B, .int .i64 x.Imm, .string x.Sym]) (.agg #[.int .i64 y.Op, .int .i64 y.D, .int .i64 y.A, .int .i64 y.B, .int .i64 y.Imm, .string y.Sym])).run Try.prog w = .ok (eqb_Ins x y) w := by
  have hu := Try.underlying43
  rw [run_equalIn_struct w 9999 43 _ _ (by rw [Program.fieldsOf, hu]) (by kernel_rfl), Program.fieldsOf, hu]
  refine (eqFields_of (bs := [(decide (x.Op = y.Op)), (decide (x.D = y.D)), (decide (x.A = y.A)), (decide (x.B = y.B)), (decide (x.Imm = y.Imm)), (decide (x.Sym = y.Sym))]) ?_).trans ?_
  · refine .cons (eqf_int Try.underlying3 rfl rfl (by decide)) ?_
    refine .cons (eqf_int Try.underlying3 rfl rfl (by decide)) ?_
    refine .cons (eqf_int Try.underlying3 rfl rfl (by decide)) ?_
    refine .cons (eqf_int Try.underlying3 rfl rfl (by decide)) ?_
    refine .cons (eqf_int Try.underlying3 rfl rfl (by decide)) ?_
    refine .cons (eqf_str Try.underlying9 rfl rfl (by decide)) ?_
    exact .nil
  · simp [eqb_Ins, Bool.and_assoc]
theorem y_eql_Ins {C : World → Prop} {l : Fm} {d : Nat} {tt : TypeId} {ps : String} {af : Array Edge} {x y : T_Ins} {a b : Operand} {t' : TypeId} (ha : ev l a = .agg #[.int .i64 x.Op, .int .i64 x.D, .int .i64 x.A, .int .i64 x.B, .int .i64 x.Imm, .string x.Sym] := by (conv => lhs; whnf) <;> exact rfl) (hb : ev l b = .agg #[.int .i64 y.Op, .int .i64 y.D, .int .i64 y.A, .int .i64 y.B, .int .i64 y.Imm, .string y.Sym] := by (conv => lhs; whnf) <;> exact rfl) : YV Try.prog C l ⟨some d, .binOp .eql 43 a b t', tt, ps, af, none⟩ (.bool (eqb_Ins x y)) := y_steq_eql (by kernel_rfl) (eqr_Ins x y) ha hb
theorem y_neq_Ins {C : World → Prop} {l : Fm} {d : Nat} {tt : TypeId} {ps : String} {af : Array Edge} {x y : T_Ins} {a b : Operand} {t' : TypeId} (ha : ev l a = .agg #[.int .i64 x.Op, .int .i64 x.D, .int .i64 x.A, .int .i64 x.B, .int .i64 x.Imm, .string x.Sym] := by (conv => lhs; whnf) <;> exact rfl) (hb : ev l b = .agg #[.int .i64 y.Op, .int .i64 y.D, .int .i64 y.A, .int .i64 y.B, .int .i64 y.Imm, .string y.Sym] := by (conv => lhs; whnf) <;> exact rfl) : YV Try.prog C l ⟨some d, .binOp .neq 43 a b t', tt, ps, af, none⟩ (.bool (!(eqb_Ins x y))) := y_steq_neq (by kernel_rfl) (eqr_Ins x y) ha hb
def eqb_Write (x y : T_Write) : Bool := decide (x.Reg = y.Reg) && decide (x.Value = y.Value) && decide (x.Left = y.Left)
theorem eqb_Write_iff {x y : T_Write} : eqb_Write x y = true ↔ x = y := by
  constructor
  · intro h
    simp only [eqb_Write, Bool.and_eq_true, decide_eq_true_eq, beq_iff_eq] at h
    cases x; cases y; simp_all
  · rintro rfl; simp [eqb_Write]
theorem eqr_Write (x y : T_Write) (w : World) : (Op.equalIn 10000 71 (.agg #[.int .i64 x.Reg, .int .u32 x.Value, .int .i64 x.Left]) (.agg #[.int .i64 y.Reg, .int .u32 y.Value, .int .i64 y.Left])).run Try.prog w = .ok (eqb_Write x y) w := by
  have hu := Try.underlying71
  rw [run_equalIn_struct w 9999 71 _ _ (by rw [Program.fieldsOf, hu]) (by kernel_rfl), Program.fieldsOf, hu]
  refine (eqFields_of (bs := [(decide (x.Reg = y.Reg)), (decide (x.Value = y.Value)), (decide (x.Left = y.Left))]) ?_).trans ?_
  · refine .cons (eqf_int Try.underlying3 rfl rfl (by decide)) ?_
    refine .cons (eqf_int Try.underlying63 rfl rfl (by decide)) ?_
    refine .cons (eqf_int Try.underlying3 rfl rfl (by decide)) ?_
    exact .nil
  · simp [eqb_Write, Bool.and_assoc]
theorem y_eql_Write {C : World → Prop} {l : Fm} {d : Nat} {tt : TypeId} {ps : String} {af : Array Edge} {x y : T_Write} {a b : Operand} {t' : TypeId} (ha : ev l a = .agg #[.int .i64 x.Reg, .int .u32 x.Value, .int .i64 x.Left] := by (conv => lhs; whnf) <;> exact rfl) (hb : ev l b = .agg #[.int .i64 y.Reg, .int .u32 y.Value, .int .i64 y.Left] := by (conv => lhs; whnf) <;> exact rfl) : YV Try.prog C l ⟨some d, .binOp .eql 71 a b t', tt, ps, af, none⟩ (.bool (eqb_Write x y)) := y_steq_eql (by kernel_rfl) (eqr_Write x y) ha hb
theorem y_neq_Write {C : World → Prop} {l : Fm} {d : Nat} {tt : TypeId} {ps : String} {af : Array Edge} {x y : T_Write} {a b : Operand} {t' : TypeId} (ha : ev l a = .agg #[.int .i64 x.Reg, .int .u32 x.Value, .int .i64 x.Left] := by (conv => lhs; whnf) <;> exact rfl) (hb : ev l b = .agg #[.int .i64 y.Reg, .int .u32 y.Value, .int .i64 y.Left] := by (conv => lhs; whnf) <;> exact rfl) : YV Try.prog C l ⟨some d, .binOp .neq 71 a b t', tt, ps, af, none⟩ (.bool (!(eqb_Write x y))) := y_steq_neq (by kernel_rfl) (eqr_Write x y) ha hb
theorem bt_api_Ins : BT Try.prog 43 [(0, 1), (1, 1), (2, 1), (3, 1), (4, 1), (5, 1)] [.int .i64 0, .int .i64 0, .int .i64 0, .int .i64 0, .int .i64 0, .string ByteArray.empty] := BT.of (z := .agg #[.int .i64 0, .int .i64 0, .int .i64 0, .int .i64 0, .int .i64 0, .string ByteArray.empty]) (by kernel_rfl) rfl Try.underlying43 (by kernel_rfl)
theorem bt_api_State : BT Try.prog 27 [(0, 1), (1, 1), (2, 1), (3, 1), (4, 1), (5, 1), (6, 1), (7, 1), (8, 1), (9, 1), (10, 1)] [.slice none 0 0, .slice none 0 0, .slice none 0 0, .int .i64 0, .slice none 0 0, .int .i64 0, .slice none 0 0, .int .i64 0, .slice none 0 0, .int .i64 0, .int .i64 0] := BT.of (z := .agg #[.slice none 0 0, .slice none 0 0, .slice none 0 0, .int .i64 0, .slice none 0 0, .int .i64 0, .slice none 0 0, .int .i64 0, .slice none 0 0, .int .i64 0, .int .i64 0]) (by kernel_rfl) rfl Try.underlying27 (by kernel_rfl)
theorem bt_api_Write : BT Try.prog 71 [(0, 1), (1, 1), (2, 1)] [.int .i64 0, .int .u32 0, .int .i64 0] := BT.of (z := .agg #[.int .i64 0, .int .u32 0, .int .i64 0]) (by kernel_rfl) rfl Try.underlying71 (by kernel_rfl)
theorem bt_sledgeref5_deed : BT Try.prog 82 [(0, 1), (1, 1), (2, 1), (3, 1), (4, 1)] [.bool false, .int .u32 0, .bool false, .int .i64 0, .int .i64 0] := BT.of (z := .agg #[.bool false, .int .u32 0, .bool false, .int .i64 0, .int .i64 0]) (by kernel_rfl) rfl Try.underlying82 (by kernel_rfl)
abbrev Rd_State (g : Frag) (x : T_State) (v : Value) : Prop := ∃ (v0 v1 v2 v4 v6 v8 : Value), v = .agg #[v0, v1, v2, .int .i64 x.Taken, v4, .int .i64 x.PC, v6, .int .i64 x.Stop, v8, .int .i64 x.Jump, .int .i64 x.Delay] ∧ SlT g enc_uint32 1 x.Regs v0 ∧ SlT g enc_uint32 1 x.Mem v1 ∧ SlT g enc_uint32 1 x.In_ v2 ∧ SlT g enc_uint32 1 x.Out v4 ∧ SlT g enc_int 1 x.Stack v6 ∧ SlT g enc_Write 3 x.Fly v8
abbrev Ow_State (x : T_State) (v : Value) (L : Own) : Prop := ∃ (v0 v1 v2 v4 v6 v8 : Value) (X0 X1 X2 X4 X6 X8 : Own), v = .agg #[v0, v1, v2, .int .i64 x.Taken, v4, .int .i64 x.PC, v6, .int .i64 x.Stop, v8, .int .i64 x.Jump, .int .i64 x.Delay] ∧ L = (X0 ++ (X1 ++ (X2 ++ (X4 ++ (X6 ++ (X8 ++ [])))))) ∧ OwT 63 enc_uint32 1 x.Regs v0 X0 ∧ OwT 63 enc_uint32 1 x.Mem v1 X1 ∧ OwT 63 enc_uint32 1 x.In_ v2 X2 ∧ OwT 63 enc_uint32 1 x.Out v4 X4 ∧ OwT 3 enc_int 1 x.Stack v6 X6 ∧ OwT 71 enc_Write 3 x.Fly v8 X8
abbrev Bx_State (b : Nat) (x : T_State) (L : Own) : Prop := ∃ (v0 v1 v2 v4 v6 v8 : Value) (X0 X1 X2 X4 X6 X8 : Own), L = (b, blk [v0, v1, v2, .int .i64 x.Taken, v4, .int .i64 x.PC, v6, .int .i64 x.Stop, v8, .int .i64 x.Jump, .int .i64 x.Delay] 27) :: (X0 ++ (X1 ++ (X2 ++ (X4 ++ (X6 ++ (X8 ++ [])))))) ∧ OwT 63 enc_uint32 1 x.Regs v0 X0 ∧ OwT 63 enc_uint32 1 x.Mem v1 X1 ∧ OwT 63 enc_uint32 1 x.In_ v2 X2 ∧ OwT 63 enc_uint32 1 x.Out v4 X4 ∧ OwT 3 enc_int 1 x.Stack v6 X6 ∧ OwT 71 enc_Write 3 x.Fly v8 X8
abbrev Rd_Script (g : Frag) (x : T_Script) (v : Value) : Prop := ∃ (v0 v1 v2 v3 v5 v7 v9 v12 v13 : Value), v = .agg #[v0, v1, v2, v3, .int .i64 x.S.Taken, v5, .int .i64 x.S.PC, v7, .int .i64 x.S.Stop, v9, .int .i64 x.S.Jump, .int .i64 x.S.Delay, v12, v13] ∧ SlT g enc_Ins 6 x.P v0 ∧ SlT g enc_uint32 1 x.S.Regs v1 ∧ SlT g enc_uint32 1 x.S.Mem v2 ∧ SlT g enc_uint32 1 x.S.In_ v3 ∧ SlT g enc_uint32 1 x.S.Out v5 ∧ SlT g enc_int 1 x.S.Stack v7 ∧ SlT g enc_Write 3 x.S.Fly v9 ∧ SlT g enc_uint32 1 x.In_ v12 ∧ SlT g enc_int 1 x.N v13
abbrev Ow_Script (x : T_Script) (v : Value) (L : Own) : Prop := ∃ (v0 v1 v2 v3 v5 v7 v9 v12 v13 : Value) (X0 X1 X2 X3 X5 X7 X9 X12 X13 : Own), v = .agg #[v0, v1, v2, v3, .int .i64 x.S.Taken, v5, .int .i64 x.S.PC, v7, .int .i64 x.S.Stop, v9, .int .i64 x.S.Jump, .int .i64 x.S.Delay, v12, v13] ∧ L = (X0 ++ (X1 ++ (X2 ++ (X3 ++ (X5 ++ (X7 ++ (X9 ++ (X12 ++ (X13 ++ []))))))))) ∧ OwT 43 enc_Ins 6 x.P v0 X0 ∧ OwT 63 enc_uint32 1 x.S.Regs v1 X1 ∧ OwT 63 enc_uint32 1 x.S.Mem v2 X2 ∧ OwT 63 enc_uint32 1 x.S.In_ v3 X3 ∧ OwT 63 enc_uint32 1 x.S.Out v5 X5 ∧ OwT 3 enc_int 1 x.S.Stack v7 X7 ∧ OwT 71 enc_Write 3 x.S.Fly v9 X9 ∧ OwT 63 enc_uint32 1 x.In_ v12 X12 ∧ OwT 3 enc_int 1 x.N v13 X13
abbrev Bx_Script (b : Nat) (x : T_Script) (L : Own) : Prop := ∃ (v0 v1 v2 v3 v5 v7 v9 v12 v13 : Value) (X0 X1 X2 X3 X5 X7 X9 X12 X13 : Own), L = (b, blk [v0, v1, v2, v3, .int .i64 x.S.Taken, v5, .int .i64 x.S.PC, v7, .int .i64 x.S.Stop, v9, .int .i64 x.S.Jump, .int .i64 x.S.Delay, v12, v13] 29) :: (X0 ++ (X1 ++ (X2 ++ (X3 ++ (X5 ++ (X7 ++ (X9 ++ (X12 ++ (X13 ++ []))))))))) ∧ OwT 43 enc_Ins 6 x.P v0 X0 ∧ OwT 63 enc_uint32 1 x.S.Regs v1 X1 ∧ OwT 63 enc_uint32 1 x.S.Mem v2 X2 ∧ OwT 63 enc_uint32 1 x.S.In_ v3 X3 ∧ OwT 63 enc_uint32 1 x.S.Out v5 X5 ∧ OwT 3 enc_int 1 x.S.Stack v7 X7 ∧ OwT 71 enc_Write 3 x.S.Fly v9 X9 ∧ OwT 63 enc_uint32 1 x.In_ v12 X12 ∧ OwT 3 enc_int 1 x.N v13 X13
end Go.Proofs.Ytadajdcbeegabaa
