/- Texts of instructions: both the same. The law's own call. -/
import Derived.Test.YtaplgcdpppcajaaDoorIsA
namespace Go.Proofs.YtaplgcdpppcajaaDoor
open Go Fr
set_option linter.unusedVariables false
set_option linter.unusedSimpArgs false
set_option maxRecDepth 20000

theorem names_eq : isa_names = some r3_Names := by kernel_rfl

/-- Where a text is among others; -1: nowhere. -/
def ix (s : ByteArray) : List ByteArray → Int → Int
  | [], _ => -1
  | y :: l, i => if y = s then i else ix s l (i + 1)
theorem loop_ix {b : Int → Option (Step Int Int)} {xs : List ByteArray} {s : ByteArray} (hl : xs.length ≤ 4294967296)
    (hs : ∀ (i : Nat) (h : i < xs.length), b i = some (bif decide (xs[i] = s) then .done (i : Int) else .next ((i + 1 : Nat) : Int)))
    (he : b xs.length = some (.done (-1))) : ∀ (m i : Nat), i + m = xs.length → loop b (i : Int) = some (ix s (xs.drop i) i)
  | 0, i, h => by
    obtain rfl : i = xs.length := by omega
    rw [loop_done he, List.drop_length]; rfl
  | m + 1, i, h => by
    have hi : i < xs.length := by omega
    have h1 := hs i hi
    rw [List.drop_eq_getElem_cons hi, ix]
    by_cases hq : xs[i] = s
    · rw [decide_eq_true hq] at h1
      rw [loop_done h1, if_pos hq]
    · rw [decide_eq_false hq] at h1
      rw [loop_next h1, if_neg hq]
      exact loop_ix hl hs he m (i + 1) (by omega)
theorem index_ix (xs : List ByteArray) (s : ByteArray) (hl : xs.length ≤ 4294967296) : slices_Index_string_string xs s = some (ix s xs 0) := by
  have := loop_ix (b := slices_Index_string_string_b1 xs s) (xs := xs) (s := s) hl (fun i h => ?_) ?_ xs.length 0 (by omega)
  · unfold slices_Index_string_string; simpa using this
  · have h1 : decide ((i : Int) < (xs.length : Int)) = true := by simpa using h
    have h2 : decide (s = xs[i]) = decide (xs[i] = s) := by rw [decide_eq_decide]; exact eq_comm
    simp only [slices_Index_string_string_b1, h1, cond_true, at'_nat h, Option.bind_some, wrap_nat (show i < 9223372036854775807 by omega), h2]
    cases decide (xs[i] = s) <;> rfl
  · simp [slices_Index_string_string_b1]

theorem digits_len : ∀ (k u : Nat), u < 10 ^ (k + 1) → (Lib.decDigits u).length ≤ k + 1
  | 0, u, h => by
    have h2 : u < 10 := by simpa using h
    rw [Lib.decDigits, dif_pos h2]; simp
  | k + 1, u, h => by
    by_cases h2 : u < 10
    · rw [Lib.decDigits, dif_pos h2]; simp
    · rw [Lib.decDigits, dif_neg h2, List.length_append]
      have := digits_len k (u / 10) (by rw [Nat.pow_succ] at h; omega)
      simp; omega
def it (n : Int) : ByteArray := ⟨(Lib.itoa n).toArray⟩
theorem itoa_some {n : Int} (h0 : -131072 ≤ n) (h1 : n ≤ 131072) : strconv_Itoa n = some (it n) := by
  unfold strconv_Itoa
  rw [if_pos (by omega)]; rfl
theorem it_size {n : Int} (h0 : -131072 ≤ n) (h1 : n ≤ 131072) : (it n).size ≤ 7 := by
  show (Lib.itoa n).toArray.size ≤ 7
  rw [List.size_toArray]
  unfold Lib.itoa
  split
  · have := digits_len 5 n.natAbs (by omega)
    simp; omega
  · have := digits_len 5 n.toNat (by omega)
    omega

theorem bsz_app (a b : ByteArray) : (a ++ b).size = a.size + b.size := ByteArray.size_append
theorem cat'_le {a b : ByteArray} (h : a.size + b.size ≤ 9223372036854775807) : cat' a b = some (a ++ b) := by
  unfold cat'; rw [if_pos h]
def sR : ByteArray := ByteArray.mk #[114]
def sP : ByteArray := ByteArray.mk #[43]
def sS : ByteArray := ByteArray.mk #[32]
def sC : ByteArray := ByteArray.mk #[44, 32]
/-- A register's text. -/
def rg (n : Int) : ByteArray := sR ++ it n
theorem rg_size {n : Int} (h0 : 0 ≤ n) (h1 : n ≤ 15) : (rg n).size ≤ 30 := by
  have := it_size (n := n) (by omega) (by omega)
  rw [rg, bsz_app]
  have : sR.size = 1 := rfl
  omega
theorem reg_text {n : Int} (h0 : 0 ≤ n) (h1 : n ≤ 15) : r3_register n = some (rg n) := by
  have h2 := it_size (n := n) (by omega) (by omega)
  have h3 : sR.size = 1 := rfl
  simp only [r3_register, itoa_some (n := n) (by omega) (by omega), Option.bind_some]
  rw [show (ByteArray.mk #[114]) = sR from rfl, cat'_le (by omega)]; rfl
theorem text_1 {n : Int} {l : List ByteArray} (b : Bool) (h0 : 0 ≤ n) (h1 : n ≤ 15) (hl : l.length ≤ 8) : isa_Text_1 b n l = some (if b then l ++ [rg n] else l) := by
  have h2 := it_size (n := n) (by omega) (by omega)
  have h3 : sR.size = 1 := rfl
  cases b
  · rfl
  · simp only [isa_Text_1, cond_true, itoa_some (n := n) (by omega) (by omega), Option.bind_some]
    rw [show (ByteArray.mk #[114]) = sR from rfl, cat'_le (by omega)]
    simp only [Option.bind_some]
    rw [app'_le (by simp; omega)]; rfl
/-- An Imm's text, and its Sym's. -/
def cn (x : T_Ins) : ByteArray :=
  if x.Sym = ByteArray.mk #[] then it x.Imm else if 0 < x.Imm then (x.Sym ++ sP) ++ it x.Imm else if x.Imm < 0 then x.Sym ++ it x.Imm else x.Sym
theorem cn_size {x : T_Ins} (hs : x.Sym.size ≤ 12) (h0 : -131072 ≤ x.Imm) (h1 : x.Imm ≤ 131072) : (cn x).size ≤ 30 := by
  have h2 := it_size h0 h1
  have h3 : sP.size = 1 := rfl
  unfold cn
  split
  · omega
  · split
    · rw [bsz_app, bsz_app]; omega
    · split
      · rw [bsz_app]; omega
      · omega
theorem const_text {x : T_Ins} (hs : x.Sym.size ≤ 12) (h0 : -131072 ≤ x.Imm) (h1 : x.Imm ≤ 131072) : isa_constant x = some (cn x) := by
  have h2 := it_size h0 h1
  have h3 : sP.size = 1 := rfl
  unfold isa_constant cn
  by_cases he : x.Sym = ByteArray.mk #[]
  · simp only [he, decide_true, cond_true, itoa_some h0 h1, Option.bind_some, if_true]
  · by_cases hp : 0 < x.Imm
    · simp only [he, hp, decide_true, decide_false, cond_true, cond_false, itoa_some h0 h1, Option.bind_some, if_false, if_true]
      rw [show (ByteArray.mk #[43]) = sP from rfl, cat'_le (by omega)]
      simp only [Option.bind_some]
      rw [cat'_le (by rw [bsz_app]; omega)]; rfl
    · by_cases hm : x.Imm < 0
      · simp only [he, hp, hm, decide_true, decide_false, cond_true, cond_false, itoa_some h0 h1, Option.bind_some, if_false, if_true]
        rw [cat'_le (by omega)]; rfl
      · simp only [he, hp, hm, decide_false, cond_false, if_false]

/-- What stands behind the op's name. -/
def tl : List ByteArray → ByteArray → ByteArray
  | [], n => n
  | a :: r, n => r.foldl (fun s b => (s ++ sC) ++ b) ((n ++ sS) ++ a)
/-- The operands. -/
def opl (f : Int) (x : T_Ins) : List ByteArray :=
  (if f = 5 then [rg x.B] else []) ++ (if isa_HasD f then [rg x.D] else []) ++ (if isa_HasA f then [rg x.A] else []) ++ (if f = 1 then [rg x.B] else []) ++ (if 0 < isa_Bits f then [cn x] else [])
theorem tx_first {l : List ByteArray} {s a : ByteArray} (hi : at' l 0 = some a) (hs : s.size + a.size ≤ 1000) : r3_Text_b6 l (s, 0) = some (.next ((s ++ sS) ++ a, 1)) := by
  have hS : sS.size = 1 := rfl
  have hl : 0 < l.length := by obtain ⟨h, _⟩ := at'_lt hi; exact Nat.lt_of_le_of_lt (Nat.zero_le _) h
  have h1 : decide ((0 : Int) < (l.length : Int)) = true := by simpa using hl
  have w1 : IntKind.i64.wrap (0 + 1) = 1 := by decide
  simp only [r3_Text_b6, h1, cond_true, w1, decide_true, hi, Option.bind_some]
  rw [show (ByteArray.mk #[32]) = sS from rfl, cat'_le (by omega)]
  simp only [Option.bind_some]
  rw [cat'_le (by rw [bsz_app]; omega)]; rfl
theorem tx_more {l : List ByteArray} {s a : ByteArray} {i : Nat} (h0 : 0 < i) (hn : i < 100) (hi : at' l (i : Int) = some a) (hs : s.size + a.size ≤ 1000) : r3_Text_b6 l (s, (i : Int)) = some (.next ((s ++ sC) ++ a, ((i + 1 : Nat) : Int))) := by
  have hC : sC.size = 2 := rfl
  have hl : i < l.length := by obtain ⟨h, _⟩ := at'_lt hi; simpa using h
  have h1 : decide ((i : Int) < (l.length : Int)) = true := by simpa using hl
  have h2 : decide ((i : Int) = 0) = false := by rw [decide_eq_false_iff_not]; omega
  simp only [r3_Text_b6, h1, h2, cond_true, cond_false, wrap_nat (show i < 9223372036854775807 by omega), hi, Option.bind_some]
  rw [show (ByteArray.mk #[44, 32]) = sC from rfl, cat'_le (by omega)]
  simp only [Option.bind_some]
  rw [cat'_le (by rw [bsz_app]; omega)]; rfl
theorem tx_end {l : List ByteArray} {s : ByteArray} : r3_Text_b6 l (s, (l.length : Int)) = some (.done s) := by simp [r3_Text_b6]
theorem loop_tl {l : List ByteArray} (hz : ∀ b ∈ l, b.size ≤ 30) (hl : l.length ≤ 3) {n : ByteArray} (hn : n.size ≤ 30) : loop (r3_Text_b6 l) (n, 0) = some (tl l n) := by
  have hS : sS.size = 1 := rfl
  have hC : sC.size = 2 := rfl
  match l, hl, hz with
  | [], _, _ => exact loop_done tx_end
  | [a], _, hz =>
    have ha := hz a (by simp)
    rw [loop_next (tx_first (a := a) rfl (by omega))]
    exact loop_done tx_end
  | [a, b], _, hz =>
    have ha := hz a (by simp)
    have hb := hz b (by simp)
    rw [loop_next (tx_first (a := a) rfl (by omega)), show (1 : Int) = ((1 : Nat) : Int) from rfl, loop_next (tx_more (a := b) (by decide) (by decide) rfl (by rw [bsz_app, bsz_app]; omega))]
    exact loop_done tx_end
  | [a, b, c], _, hz =>
    have ha := hz a (by simp)
    have hb := hz b (by simp)
    have hc := hz c (by simp)
    rw [loop_next (tx_first (a := a) rfl (by omega)), show (1 : Int) = ((1 : Nat) : Int) from rfl, loop_next (tx_more (a := b) (by decide) (by decide) rfl (by rw [bsz_app, bsz_app]; omega)), loop_next (tx_more (a := c) (by decide) (by decide) rfl (by rw [bsz_app, bsz_app, bsz_app, bsz_app]; omega))]
    exact loop_done tx_end

theorem ba_ext {a b : ByteArray} (h : a.data.toList = b.data.toList) : a = b := by
  cases a; cases b; simp only [ByteArray.mk.injEq]; exact Array.toList_inj.1 h
theorem ba_app (a b : ByteArray) : (a ++ b).data.toList = a.data.toList ++ b.data.toList := by rw [ByteArray.data_append, Array.toList_append]
theorem join_tl {l : List ByteArray} (hz : ∀ b ∈ l, b.size ≤ 30) (hl : l.length ≤ 3) (h1 : l ≠ []) {n : ByteArray} (hn : n.size ≤ 30) :
    ∃ j, strings_Join l sC = some j ∧ j.size ≤ 120 ∧ n ++ (sS ++ j) = tl l n := by
  have key : ∃ j : ByteArray, j.data.toList = Lib.join (l.map (·.data.toList)) sC.data.toList ∧ j.size ≤ 120 ∧ n ++ (sS ++ j) = tl l n := by
    have hC : sC.size = 2 := rfl
    match l, hl, hz, h1 with
    | [a], _, hz, _ =>
      have ha := hz a (by simp)
      refine ⟨a, ?_, by omega, ?_⟩
      · simp [Lib.join_one]
      · apply ba_ext; simp [tl, ba_app]
    | [a, b], _, hz, _ =>
      have ha := hz a (by simp)
      have hb := hz b (by simp)
      refine ⟨(a ++ sC) ++ b, ?_, by rw [bsz_app, bsz_app]; omega, ?_⟩
      · simp [Lib.join_cons, Lib.joinTail, ba_app]
      · apply ba_ext; simp [tl, ba_app]
    | [a, b, c], _, hz, _ =>
      have ha := hz a (by simp)
      have hb := hz b (by simp)
      have hc := hz c (by simp)
      refine ⟨(((a ++ sC) ++ b) ++ sC) ++ c, ?_, by rw [bsz_app, bsz_app, bsz_app, bsz_app]; omega, ?_⟩
      · simp [Lib.join_cons, Lib.joinTail, ba_app]
      · apply ba_ext; simp [tl, ba_app]
  obtain ⟨j, hj, hs, ht⟩ := key
  refine ⟨j, ?_, hs, ht⟩
  unfold strings_Join
  rw [← hj, if_pos ⟨by omega, by rw [← bsize]; omega⟩]
end Go.Proofs.YtaplgcdpppcajaaDoor
