/- Texts, what is read and what is written: both the same. The law's own call. -/
import Derived.Test.YtaplgcdpppcajaaDoorIsB
namespace Go.Proofs.YtaplgcdpppcajaaDoor
open Go Fr
set_option linter.unusedVariables false
set_option linter.unusedSimpArgs false
set_option maxRecDepth 20000

/-- What may be, in numbers. -/
structure Ok (x : T_Ins) : Prop where
  op : 0 ≤ x.Op ∧ x.Op ≤ 33
  d : 0 ≤ x.D ∧ x.D ≤ 15
  a : 0 ≤ x.A ∧ x.A ≤ 15
  b : 0 ≤ x.B ∧ x.B ≤ 15
  sym : x.Sym.size ≤ 12
  imm : -131072 ≤ x.Imm ∧ x.Imm ≤ 131072
theorem regB_le {h : Bool} {n : Int} (hr : regB h n = true) : 0 ≤ n ∧ n ≤ 15 := by
  cases h <;> simp [regB] at hr <;> omega
theorem symB_le {f : Int} {x : T_Ins} (hf : 0 ≤ f ∧ f ≤ 9) (h : symB f x = true) : x.Sym.size ≤ 12 ∧ -131072 ≤ x.Imm ∧ x.Imm ≤ 131072 := by
  unfold symB at h
  split at h
  · rename_i hs
    refine ⟨by rw [hs]; decide, ?_⟩
    rcases shapes hf with rfl | rfl | rfl | rfl | rfl | rfl | rfl | rfl | rfl | rfl <;> simp [immB] at h <;> omega
  · simp only [Bool.and_eq_true, Bool.or_eq_true, decide_eq_true_eq] at h
    refine ⟨?_, by omega⟩
    have h1 := h.1
    unfold nameB at h1
    rw [bsize]
    cases hl : x.Sym.data.toList with
    | nil => simp
    | cons c r =>
      rw [hl] at h1
      simp only [nameL, Bool.and_eq_true, decide_eq_true_eq] at h1
      exact h1.1.1
theorem ok_of {x : T_Ins} (h : vB x = true) : Ok x := by
  simp only [vB, Bool.and_eq_true, decide_eq_true_eq] at h
  obtain ⟨⟨⟨⟨ho, hd⟩, ha⟩, hb⟩, hs⟩ := h
  have hs2 := symB_le (form_shape ho).2 hs
  exact ⟨ho, regB_le hd, regB_le ha, regB_le hb, hs2.1, hs2.2⟩
theorem names_at {op : Int} (h : 0 ≤ op ∧ op ≤ 33) : ∃ nm, at' r3_Names op = some nm ∧ nm.size ≤ 30 := by
  rcases ops_cases h with rfl | rfl | rfl | rfl | rfl | rfl | rfl | rfl | rfl | rfl | rfl | rfl | rfl | rfl | rfl | rfl | rfl | rfl | rfl | rfl | rfl | rfl | rfl | rfl | rfl | rfl | rfl | rfl | rfl | rfl | rfl | rfl | rfl | rfl <;> exact ⟨_, rfl, by decide⟩
theorem opl_ok {x : T_Ins} (h : Ok x) {f : Int} (hf : 0 ≤ f ∧ f ≤ 9) : (∀ b ∈ opl f x, b.size ≤ 30) ∧ (opl f x).length ≤ 3 := by
  have hD := rg_size h.d.1 h.d.2
  have hA := rg_size h.a.1 h.a.2
  have hB := rg_size h.b.1 h.b.2
  have hC := cn_size h.sym h.imm.1 h.imm.2
  rcases shapes hf with rfl | rfl | rfl | rfl | rfl | rfl | rfl | rfl | rfl | rfl <;> simp [opl, isa_HasD, isa_HasA, isa_Bits, hD, hA, hB, hC]
theorem tail_text {x : T_Ins} {l : List ByteArray} (hz : ∀ b ∈ l, b.size ≤ 30) (hl : l.length ≤ 3) {nm : ByteArray} (hn : nm.size ≤ 30) :
    (bif decide (0 < (l.length : Int)) then (strings_Join l (ByteArray.mk #[44, 32])).bind fun r => (cat' (ByteArray.mk #[32]) r).bind fun y => (cat' nm y).bind fun z => some (z, (0 : Int)) else some (nm, 0)) = some (tl l nm, 0) := by
  have hS : sS.size = 1 := rfl
  cases l with
  | nil => rfl
  | cons a r =>
    obtain ⟨j, h1, h2, h3⟩ := join_tl hz hl (by simp) hn
    have h0 : decide (0 < ((a :: r).length : Int)) = true := by rw [decide_eq_true_eq, List.length_cons]; omega
    rw [h0, show (ByteArray.mk #[44, 32]) = sC from rfl, show (ByteArray.mk #[32]) = sS from rfl]
    simp only [cond_true, h1, Option.bind_some]
    rw [cat'_le (by omega)]
    simp only [Option.bind_some]
    rw [cat'_le (by rw [bsz_app]; omega), ← h3]; rfl
theorem isa_text {x : T_Ins} (hv : vB x = true) {nm : ByteArray} (hn : at' r3_Names x.Op = some nm) (hz : nm.size ≤ 30) : isa_Text x = some (tl (opl (isa_Shape x.Op) x) nm, 0) := by
  have h := ok_of hv
  obtain ⟨_, hf⟩ := form_shape h.op
  obtain ⟨hs, hl⟩ := opl_ok h hf
  have tB : ∀ (b : Bool) (l : List ByteArray), l.length ≤ 8 → isa_Text_1 b x.B l = some (if b then l ++ [rg x.B] else l) := fun b l => text_1 b h.b.1 h.b.2
  have tA : ∀ (b : Bool) (l : List ByteArray), l.length ≤ 8 → isa_Text_1 b x.A l = some (if b then l ++ [rg x.A] else l) := fun b l => text_1 b h.a.1 h.a.2
  have tD : ∀ (b : Bool) (l : List ByteArray), l.length ≤ 8 → isa_Text_1 b x.D l = some (if b then l ++ [rg x.D] else l) := fun b l => text_1 b h.d.1 h.d.2
  have hc := const_text h.sym h.imm.1 h.imm.2
  unfold isa_Text
  simp only [isa_ins, hv, Option.bind_some, Bool.not_true, cond_false, names_eq, hn]
  generalize isa_Shape x.Op = f at hf hs hl
  have key : ∀ l : List ByteArray, l = opl f x → (bif decide (0 < (l.length : Int)) then (strings_Join l (ByteArray.mk #[44, 32])).bind fun r => (cat' (ByteArray.mk #[32]) r).bind fun y => (cat' nm y).bind fun z => some (z, (0 : Int)) else some (nm, 0)) = some (tl (opl f x) nm, 0) := fun l e => by
    subst e; exact tail_text (x := x) hs hl hz
  rcases shapes hf with rfl | rfl | rfl | rfl | rfl | rfl | rfl | rfl | rfl | rfl
  all_goals (
    rw [tB _ _ (Nat.le_of_ble_eq_true rfl)]
    simp only [Option.bind_some]
    rw [tD _ _ (Nat.le_of_ble_eq_true rfl)]
    simp only [Option.bind_some]
    rw [tA _ _ (Nat.le_of_ble_eq_true rfl)]
    simp only [Option.bind_some]
    rw [tB _ _ (Nat.le_of_ble_eq_true rfl)]
    simp only [Option.bind_some])
  all_goals first
    | (rw [show decide (0 < isa_Bits 0) = false from rfl]; simp only [cond_false]; exact key _ rfl)
    | (rw [show decide (0 < isa_Bits 1) = false from rfl]; simp only [cond_false]; exact key _ rfl)
    | (rw [show decide (0 < isa_Bits 2) = false from rfl]; simp only [cond_false]; exact key _ rfl)
    | (rw [show decide (0 < isa_Bits 6) = false from rfl]; simp only [cond_false]; exact key _ rfl)
    | (rw [show decide (0 < isa_Bits 7) = false from rfl]; simp only [cond_false]; exact key _ rfl)
    | (rw [show decide (0 < isa_Bits 3) = true from rfl]; simp only [cond_true, hc, Option.bind_some]; rw [app'_le (Nat.le_of_ble_eq_true rfl)]; exact key _ rfl)
    | (rw [show decide (0 < isa_Bits 4) = true from rfl]; simp only [cond_true, hc, Option.bind_some]; rw [app'_le (Nat.le_of_ble_eq_true rfl)]; exact key _ rfl)
    | (rw [show decide (0 < isa_Bits 5) = true from rfl]; simp only [cond_true, hc, Option.bind_some]; rw [app'_le (Nat.le_of_ble_eq_true rfl)]; exact key _ rfl)
    | (rw [show decide (0 < isa_Bits 8) = true from rfl]; simp only [cond_true, hc, Option.bind_some]; rw [app'_le (Nat.le_of_ble_eq_true rfl)]; exact key _ rfl)
    | (rw [show decide (0 < isa_Bits 9) = true from rfl]; simp only [cond_true, hc, Option.bind_some]; rw [app'_le (Nat.le_of_ble_eq_true rfl)]; exact key _ rfl)

theorem cut_next {σ ρ : Type} {s : σ} {k : σ → Option ρ} : cut (some (Step.next s)) k = k s := rfl
theorem r3_const {x : T_Ins} {l : List ByteArray} (h : Ok x) (hl : l.length ≤ 8) {f : Int} (hb : decide (0 < r3_Bits f) = true) : r3_Text_k4 f x l = r3_Text_k5 x (l ++ [cn x]) := by
  have hi := it_size h.imm.1 h.imm.2
  have h3 : sP.size = 1 := rfl
  have hsy := h.sym
  have ha : ∀ y : ByteArray, app' l [y] = some (l ++ [y]) := fun y => app'_le (by simp; omega)
  unfold r3_Text_k4
  simp only [hb, cond_true, itoa_some h.imm.1 h.imm.2, Option.bind_some]
  unfold cn
  by_cases he : x.Sym = ByteArray.mk #[]
  · simp only [he, decide_true, Bool.not_true, cond_false, ha, Option.bind_some, cut_next, if_true]
  · by_cases hp : 0 < x.Imm
    · have hm : ¬ x.Imm < 0 := by omega
      simp only [he, hp, hm, decide_true, decide_false, Bool.not_false, cond_true, cond_false, if_false, if_true]
      rw [show (ByteArray.mk #[43]) = sP from rfl, cat'_le (by omega)]
      simp only [Option.bind_some]
      rw [cat'_le (by rw [bsz_app]; omega)]
      simp only [Option.bind_some, ha, cut_next]
    · by_cases hm : x.Imm < 0
      · simp only [he, hp, hm, decide_true, decide_false, Bool.not_false, cond_true, cond_false, if_false, if_true]
        rw [cat'_le (by omega)]
        simp only [Option.bind_some, ha, cut_next]
      · simp only [he, hp, hm, decide_false, Bool.not_false, cond_true, cond_false, ha, Option.bind_some, cut_next, if_false]
theorem r3_noconst {x : T_Ins} {l : List ByteArray} {f : Int} (hb : decide (0 < r3_Bits f) = false) : r3_Text_k4 f x l = r3_Text_k5 x l := by
  unfold r3_Text_k4
  simp only [hb, cond_false, cut_next]
theorem r3_text {x : T_Ins} (hv : vB x = true) {nm : ByteArray} (hn : at' r3_Names x.Op = some nm) (hz : nm.size ≤ 30) : r3_Text x = some (tl (opl (isa_Shape x.Op) x) nm) := by
  have h := ok_of hv
  obtain ⟨h1, hf⟩ := form_shape h.op
  obtain ⟨hs, hl⟩ := opl_ok h hf
  have hD := reg_text h.d.1 h.d.2
  have hA := reg_text h.a.1 h.a.2
  have hB := reg_text h.b.1 h.b.2
  have k5 : ∀ l : List ByteArray, l = opl (isa_Shape x.Op) x → r3_Text_k5 x l = some (tl (opl (isa_Shape x.Op) x) nm) := fun l e => by
    subst e
    unfold r3_Text_k5
    simp only [hn, Option.bind_some]
    exact loop_tl hs hl hz
  unfold r3_Text
  simp only [h1, hD, Option.bind_some]
  generalize isa_Shape x.Op = f at hf k5
  rcases shapes hf with rfl | rfl | rfl | rfl | rfl | rfl | rfl | rfl | rfl | rfl
  · show r3_Text_k4 0 x [] = _
    exact (r3_noconst rfl).trans (k5 _ rfl)
  · rw [show r3_HasD 1 = true from rfl, cond_true, app'_le (Nat.le_of_ble_eq_true rfl), Option.bind_some, cut_next]
    show r3_Text_k2 1 x [rg x.D] = _
    unfold r3_Text_k2
    rw [show r3_HasA 1 = true from rfl, cond_true, hA, Option.bind_some, app'_le (Nat.le_of_ble_eq_true rfl), Option.bind_some, cut_next]
    unfold r3_Text_k3
    rw [show decide ((1 : Int) = 1) = true from rfl, cond_true, hB, Option.bind_some, app'_le (Nat.le_of_ble_eq_true rfl), Option.bind_some, cut_next]
    exact (r3_noconst rfl).trans (k5 _ rfl)
  · rw [show r3_HasD 2 = true from rfl, cond_true, app'_le (Nat.le_of_ble_eq_true rfl), Option.bind_some, cut_next]
    show r3_Text_k2 2 x [rg x.D] = _
    unfold r3_Text_k2
    rw [show r3_HasA 2 = true from rfl, cond_true, hA, Option.bind_some, app'_le (Nat.le_of_ble_eq_true rfl), Option.bind_some, cut_next]
    show r3_Text_k4 2 x _ = _
    exact (r3_noconst rfl).trans (k5 _ rfl)
  · rw [show r3_HasD 3 = true from rfl, cond_true, app'_le (Nat.le_of_ble_eq_true rfl), Option.bind_some, cut_next]
    show r3_Text_k2 3 x [rg x.D] = _
    unfold r3_Text_k2
    rw [show r3_HasA 3 = true from rfl, cond_true, hA, Option.bind_some, app'_le (Nat.le_of_ble_eq_true rfl), Option.bind_some, cut_next]
    show r3_Text_k4 3 x _ = _
    exact (r3_const h (by simp) rfl).trans (k5 _ rfl)
  · rw [show r3_HasD 4 = true from rfl, cond_true, app'_le (Nat.le_of_ble_eq_true rfl), Option.bind_some, cut_next]
    show r3_Text_k4 4 x [rg x.D] = _
    exact (r3_const h (by simp) rfl).trans (k5 _ rfl)
  · rw [show r3_HasD 5 = false from rfl, cond_false, cut_next]
    unfold r3_Text_k1
    rw [show decide ((5 : Int) = 5) = true from rfl, cond_true, hB, Option.bind_some, app'_le (Nat.le_of_ble_eq_true rfl), Option.bind_some, cut_next]
    unfold r3_Text_k2
    rw [show r3_HasA 5 = true from rfl, cond_true, hA, Option.bind_some, app'_le (Nat.le_of_ble_eq_true rfl), Option.bind_some, cut_next]
    show r3_Text_k4 5 x _ = _
    exact (r3_const h (by simp) rfl).trans (k5 _ rfl)
  · rw [show r3_HasD 6 = true from rfl, cond_true, app'_le (Nat.le_of_ble_eq_true rfl), Option.bind_some, cut_next]
    show r3_Text_k4 6 x [rg x.D] = _
    exact (r3_noconst rfl).trans (k5 _ rfl)
  · rw [show r3_HasD 7 = false from rfl, cond_false, cut_next]
    show r3_Text_k2 7 x [] = _
    unfold r3_Text_k2
    rw [show r3_HasA 7 = true from rfl, cond_true, hA, Option.bind_some, app'_le (Nat.le_of_ble_eq_true rfl), Option.bind_some, cut_next]
    show r3_Text_k4 7 x _ = _
    exact (r3_noconst rfl).trans (k5 _ rfl)
  · show r3_Text_k4 8 x [] = _
    exact (r3_const h (by simp) rfl).trans (k5 _ rfl)
  · rw [show r3_HasD 9 = false from rfl, cond_false, cut_next]
    show r3_Text_k2 9 x [] = _
    unfold r3_Text_k2
    rw [show r3_HasA 9 = true from rfl, cond_true, hA, Option.bind_some, app'_le (Nat.le_of_ble_eq_true rfl), Option.bind_some, cut_next]
    show r3_Text_k4 9 x _ = _
    exact (r3_const h (by simp) rfl).trans (k5 _ rfl)

/-- What is read. -/
def rdl (x : T_Ins) : List Int := (if isa_HasA (isa_Shape x.Op) then [x.A] else []) ++ (if isa_HasB (isa_Shape x.Op) then [x.B] else [])
theorem isa_read (x : T_Ins) : isa_Read x = some (rdl x) := by
  unfold isa_Read rdl
  cases isa_HasA (isa_Shape x.Op) <;> cases isa_HasB (isa_Shape x.Op) <;> rfl
theorem r3_read {x : T_Ins} (h : 0 ≤ x.Op ∧ x.Op ≤ 33) : r3_Reads x = some (rdl x) := by
  obtain ⟨h1, h2⟩ := form_shape h
  unfold r3_Reads rdl
  simp only [h1, Option.bind_some, hasA_eq h2, hasB_eq h2]
  cases isa_HasA (isa_Shape x.Op) <;> cases isa_HasB (isa_Shape x.Op) <;> rfl
theorem eqn (a : List Int) (h : a.length ≤ 140737488351232) : r0_EqNumbers a a = some true := by
  have := loop_same (b := r0_EqNumbers_b1 a a) (xs := a) (ys := a) h rfl (fun i => by
    unfold r0_EqNumbers_b1
    cases decide (i < (a.length : Int))
    · rfl
    · simp only [cond_true]
      cases at' a i with
      | none => rfl
      | some y => simp)
  unfold r0_EqNumbers
  simp [this]

theorem wakes_true : l3_wakes = some true := by
  have hv : vB (⟨25, 0, 2, 1, 4, ByteArray.empty⟩ : T_Ins) = true := by decide
  have h2 : ix (ByteArray.mk #[104, 97, 108, 116]) r3_Names 0 = 33 := by decide
  have h3 : tl (opl 5 (⟨25, 0, 2, 1, 4, ByteArray.empty⟩ : T_Ins)) (ByteArray.mk #[115, 116]) = ByteArray.mk #[115, 116, 32, 114, 49, 44, 32, 114, 50, 44, 32, 52] := by
    have d : ∀ n : Nat, n < 10 → it (n : Int) = ⟨#[UInt8.ofNat (48 + n)]⟩ := fun n hn => by
      have h0 : ¬ (n : Int) < 0 := by omega
      unfold it Lib.itoa
      rw [if_neg h0, Lib.decDigits, dif_pos (by omega)]; rfl
    have e1 := d 1 (by decide)
    have e2 := d 2 (by decide)
    have e4 := d 4 (by decide)
    have hc : cn (⟨25, 0, 2, 1, 4, ByteArray.empty⟩ : T_Ins) = it 4 := rfl
    show tl [rg 1, rg 2, cn _] _ = _
    rw [hc, rg, rg, show (1 : Int) = ((1 : Nat) : Int) from rfl, show (2 : Int) = ((2 : Nat) : Int) from rfl, show (4 : Int) = ((4 : Nat) : Int) from rfl, e1, e2, e4]
    rfl
  have ht := isa_text hv (nm := ByteArray.mk #[115, 116]) rfl (by decide)
  rw [show isa_Shape (⟨25, 0, 2, 1, 4, ByteArray.empty⟩ : T_Ins).Op = 5 from rfl, h3] at ht
  unfold l3_wakes isa_Op
  simp only [ht, Option.bind_some, names_eq, index_ix _ _ (show r3_Names.length ≤ 4294967296 by decide), h2]
  rfl
end Go.Proofs.YtaplgcdpppcajaaDoor
