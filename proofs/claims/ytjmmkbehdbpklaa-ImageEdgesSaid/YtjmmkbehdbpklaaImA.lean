/- Images: may they be; the states in which they begin; the same? -/
import Derived.Test.YtjmmkbehdbpklaaPiA
namespace Go.Proofs.Ytjmmkbehdbpklaa
open Go Fr
set_option linter.unusedVariables false
set_option linter.unusedSimpArgs false
set_option maxRecDepth 20000

theorem loop_refl {α : Type} {b : Int → Option (Step Int Bool)} {xs : List α} {t : α → α → Bool} (ht : ∀ x, t x x = false) (hl : xs.length ≤ 140737488351232)
    (hb : ∀ i, b i = bif decide (i < (xs.length : Int)) then (at' xs i).bind fun x => (at' xs i).bind fun y => bif t x y then some (.done false) else some (.next (IntKind.i64.wrap (i + 1))) else some (.done true)) :
    loop b 0 = some true := by
  have h := loop_list (b := b) (xs := xs) (q := fun _ => true) (no := false) (yes := true) (fun i h => ?_) ?_
  · rw [h]; simp
  · rw [hb]
    have h1 : decide ((i : Int) < xs.length) = true := by simpa using h
    rw [h1, at'_nat h]
    simp only [cond_true, Option.bind_some, ht, cond_false]
    rw [wrap_nat (by omega)]
  · rw [hb]; simp
theorem copyWords {xs : List Int} (h : xs.length ≤ 4294967296) : r0_CopyWords xs = some xs := loop_copied h fun _ _ => rfl
theorem eqWords {xs : List Int} (hl : xs.length ≤ 140737488351232) : r0_EqWords xs xs = some true := by
  simp only [r0_EqWords, ne_eq, not_true_eq_false, decide_false, cond_false]
  exact loop_refl (t := fun x y => decide (x ≠ y)) (fun x => by simp) hl fun _ => rfl
theorem eqNumbers {xs : List Int} (hl : xs.length ≤ 140737488351232) : r0_EqNumbers xs xs = some true := by
  simp only [r0_EqNumbers, ne_eq, not_true_eq_false, decide_false, cond_false]
  exact loop_refl (t := fun x y => decide (x ≠ y)) (fun x => by simp) hl fun _ => rfl
theorem eqFlies {xs : List T_Write} (hl : xs.length ≤ 140737488351232) : r0_EqFlies xs xs = some true := by
  simp only [r0_EqFlies, ne_eq, not_true_eq_false, decide_false, cond_false]
  exact loop_refl (t := fun x y => !(eqb_Write x y)) (fun x => by simp [eqb_Write_iff.2 (Eq.refl x)]) hl fun _ => rfl
def fresh (xs : List Int) : T_State := ⟨List.replicate 16 0, List.replicate 256 0, xs, 0, [], 0, [], 0, [], 0, 0⟩
theorem make16 : make' 16 (0 : Int) = some (List.replicate 16 0) := rfl
theorem make256 : make' 256 (0 : Int) = some (List.replicate 256 0) := by simp only [make']; rw [if_pos (by decide)]; rfl
theorem r5_new {xs : List Int} (h : xs.length ≤ 4294967296) : r5_New xs = some (fresh xs) := by
  simp only [r5_New, make16, make256, copyWords h, Option.bind_some, fresh]
def none' : T_State := ⟨[], [], [], 0, [], 0, [], 0, [], 0, 0⟩
theorem eqBundles {xs : List (A4 T_Ins)} (hl : xs.length ≤ 140737488351232) : r0_EqBundles xs xs = some true := by
  simp only [r0_EqBundles, ne_eq, not_true_eq_false, decide_false, cond_false]
  exact loop_refl (t := fun x y => !(eqb_Bundle x y)) (fun x => by simp [eqb_Bundle_iff.2 (Eq.refl x)]) hl fun _ => rfl
def imgB (x : T_Image) : Bool := pcodB x.Code && (decide (x.Data.length ≤ 256) && numB x.Code.length x.Entry)
theorem len_le {α : Type} {xs : List α} {k : Nat} : decide ((xs.length : Int) ≤ (k : Int)) = decide (xs.length ≤ k) := by
  by_cases h : xs.length ≤ k <;> simp [h]
theorem link_may_b {x : T_Image} (hw : ∀ z ∈ x.Code, Wf_Bundle z) : link_May x = some (imgB x) := by
  have h2 : decide ((x.Data.length : Int) ≤ 256) = decide (x.Data.length ≤ 256) := len_le (k := 256)
  simp only [link_May, pipe_code_b hw, Option.bind_some, imgB, h2, numB]
  cases pcodB x.Code <;> cases decide (x.Data.length ≤ 256) <;> by_cases h3 : 0 ≤ x.Entry <;> by_cases h4 : x.Entry ≤ x.Code.length <;> simp [h3, h4]
theorem r19_image_b {x : T_Image} (hw : ∀ z ∈ x.Code, Wf_Bundle z) : r19_Image x = some (imgB x) := by
  have h2 : decide ((x.Data.length : Int) ≤ 256) = decide (x.Data.length ≤ 256) := len_le (k := 256)
  simp only [r19_Image, r3_code_b hw, Option.bind_some, imgB, h2, num_eq]
  cases pcodB x.Code <;> cases decide (x.Data.length ≤ 256) <;> rfl
theorem seq_new {xs : List Int} (h : xs.length ≤ 100) : seq_New xs = some (fresh xs, 0) := by
  have h1 : decide (100 < (xs.length : Int)) = false := by simp; omega
  have h2 : app' [] xs = some xs := by rw [app'_le (by simp; omega)]; rfl
  simp only [seq_New, h1, cond_false, make16, make256, slices_Clone_uint32, h2, Option.bind_some, fresh]
def ld (data : List Int) (entry : Int) (xs : List Int) : T_State := { fresh xs with Mem := data ++ (List.replicate 256 (0 : Int)).drop data.length, PC := entry }
theorem loaded_eq {data xs : List Int} {entry : Int} (hd : data.length ≤ 256) (hx : xs.length ≤ 100) : image_loaded data entry xs = some (ld data entry xs, 0) := by
  have h : cop (List.replicate 256 (0 : Int)) data = data ++ (List.replicate 256 (0 : Int)).drop data.length := by
    simp only [cop]; rw [List.take_of_length_le (by simpa using hd)]
  simp only [image_loaded, seq_new hx, Option.bind_some, ne_eq, not_true_eq_false, decide_false, cond_false, fresh, h, ld]
theorem r19_load {data xs : List Int} {entry : Int} (hd : data.length ≤ 256) (hx : xs.length ≤ 4294967296) : r19_Load data entry xs = some (ld data entry xs) := by
  have key : ∀ m i : Nat, i + m = data.length → loop (r19_Load_b2 data) ((i : Int), data.take i ++ (List.replicate 256 (0 : Int)).drop i) = some (.next (data ++ (List.replicate 256 (0 : Int)).drop data.length)) := by
    intro m
    induction m with
    | zero =>
      intro i h
      obtain rfl : i = data.length := by omega
      refine loop_done ?_
      simp [r19_Load_b2]
    | succ m ih =>
      intro i h
      have hi : i < data.length := by omega
      have h1 : decide ((i : Int) < data.length) = true := by simpa using hi
      rw [← ih (i + 1) (by omega)]
      refine loop_next ?_
      have hl : (data.take i).length = i := by rw [List.length_take]; omega
      have hset : set' (data.take i ++ (List.replicate 256 (0 : Int)).drop i) (i : Int) data[i] = some (data.take (i + 1) ++ (List.replicate 256 (0 : Int)).drop (i + 1)) := by
        rw [set'_int (by omega) (by simp; omega)]
        have e1 : (List.replicate 256 (0 : Int)).drop i = 0 :: (List.replicate 256 (0 : Int)).drop (i + 1) := by
          rw [List.drop_eq_getElem_cons (by rw [List.length_replicate]; omega), List.getElem_replicate]
        rw [e1, Int.toNat_natCast, List.set_append_right _ _ (by omega), hl, Nat.sub_self, List.set_cons_zero, List.take_succ_eq_append_getElem hi, List.append_assoc]
        rfl
      simp only [r19_Load_b2, h1, cond_true, at'_nat hi, Option.bind_some, hset]
      rw [wrap_nat (by omega)]
  have k0 := key data.length 0 (by omega)
  have k0' : loop (r19_Load_b2 data) (0, List.replicate 256 (0 : Int)) = some (.next (data ++ (List.replicate 256 (0 : Int)).drop data.length)) := k0
  simp only [r19_Load, r5_new hx, Option.bind_some, fresh, k0', cut, r19_Load_k1, ld]
end Go.Proofs.Ytjmmkbehdbpklaa
