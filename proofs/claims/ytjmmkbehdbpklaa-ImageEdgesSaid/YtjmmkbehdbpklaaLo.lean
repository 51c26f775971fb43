/- Plain laws of plain loops. -/
import Derived.Test.YtjmmkbehdbpklaaPure
namespace Go.Proofs.Ytjmmkbehdbpklaa
open Go Fr
set_option linter.unusedVariables false

theorem at'_nat {α : Type} {xs : List α} {i : Nat} (h : i < xs.length) : at' xs (i : Int) = some xs[i] := by
  simp [at', List.getElem?_eq_getElem h]
theorem at'_int {α : Type} {xs : List α} {i : Int} (h0 : 0 ≤ i) (h : i < xs.length) : ∃ hl : i.toNat < xs.length, at' xs i = some xs[i.toNat] :=
  ⟨by omega, by simp [at', h0, List.getElem?_eq_getElem (show i.toNat < xs.length by omega)]⟩
theorem set'_int {α : Type} {xs : List α} {i : Int} {x : α} (h0 : 0 ≤ i) (h : i < xs.length) : set' xs i x = some (xs.set i.toNat x) := by
  simp only [set']
  rw [if_pos ⟨h0, by omega⟩]
theorem app'_le {α : Type} {xs ys : List α} (h : xs.length + ys.length ≤ 4294967296) : app' xs ys = some (xs ++ ys) := by
  simp only [app']
  rw [if_pos h]
theorem wrap_nat {i : Nat} (h : i < 9223372036854775807) : IntKind.i64.wrap ((i : Int) + 1) = ((i + 1 : Nat) : Int) := by
  rw [wrap_i64 (by omega) (by omega)]; omega

/-- A loop that ends. -/
theorem loop_ex {σ ρ : Type} {b : σ → Option (Step σ ρ)} (inv : σ → Prop) (μ : σ → Nat) (post : ρ → Prop)
    (h : ∀ s, inv s → (∃ s', b s = some (.next s') ∧ inv s' ∧ μ s' < μ s) ∨ ∃ r, b s = some (.done r) ∧ post r) :
    ∀ (n : Nat) (s : σ), μ s < n → inv s → ∃ r, loop b s = some r ∧ post r
  | 0, _, hn, _ => by omega
  | n + 1, s, hn, hi => by
    rcases h s hi with ⟨s', h1, h2, h3⟩ | ⟨r, h1, h2⟩
    · rw [loop_next h1]
      exact loop_ex inv μ post h n s' (by omega) h2
    · exact ⟨r, loop_done h1, h2⟩

/-- A test at every place of a list. -/
theorem loop_list' {α ρ : Type} {b : Int → Option (Step Int ρ)} {xs : List α} {q : α → Bool} {no : Nat → ρ} {yes : ρ}
    (hs : ∀ (i : Nat) (h : i < xs.length), b i = some (bif q xs[i] then .next ((i + 1 : Nat) : Int) else .done (no i)))
    (he : b xs.length = some (.done yes)) : ∀ (m i : Nat), i + m = xs.length → ∃ j, loop b (i : Int) = some (bif (xs.drop i).all q then yes else no j)
  | 0, i, h => by
    obtain rfl : i = xs.length := by omega
    exact ⟨0, by simp [loop_done he]⟩
  | m + 1, i, h => by
    have hi : i < xs.length := by omega
    have h1 := hs i hi
    have hd : xs.drop i = xs[i] :: xs.drop (i + 1) := List.drop_eq_getElem_cons hi
    rw [hd, List.all_cons]
    cases hq : q xs[i] with
    | false =>
      rw [hq] at h1
      exact ⟨i, by rw [loop_done h1]; rfl⟩
    | true =>
      rw [hq] at h1
      obtain ⟨j, hj⟩ := loop_list' hs he m (i + 1) (by omega)
      refine ⟨j, ?_⟩
      rw [loop_next h1, hj]
      rfl
theorem loop_list {α ρ : Type} {b : Int → Option (Step Int ρ)} {xs : List α} {q : α → Bool} {no yes : ρ}
    (hs : ∀ (i : Nat) (h : i < xs.length), b i = some (bif q xs[i] then .next ((i + 1 : Nat) : Int) else .done no))
    (he : b xs.length = some (.done yes)) : loop b 0 = some (bif xs.all q then yes else no) := by
  obtain ⟨j, h⟩ := loop_list' (no := fun _ => no) hs he xs.length 0 (by omega)
  simpa using h
theorem loop_find {α : Type} {b : Int → Option (Step Int Int)} {xs : List α} {q : α → Bool}
    (hs : ∀ (i : Nat) (h : i < xs.length), b i = some (bif q xs[i] then .next ((i + 1 : Nat) : Int) else .done (i : Int)))
    (he : b xs.length = some (.done (-1))) : ∃ r, loop b 0 = some r ∧ decide (0 ≤ r) = !(xs.all q) := by
  obtain ⟨j, h⟩ := loop_list' (no := fun i => (i : Int)) hs he xs.length 0 (by omega)
  refine ⟨_, h, ?_⟩
  simp only [List.drop_zero]
  cases xs.all q <;> simp <;> omega
/-- A list copied one by one. -/
theorem loop_copy' {α : Type} {b : List α × Int → Option (Step (List α × Int) (List α))} {xs : List α}
    (hs : ∀ (i : Nat) (h : i < xs.length), b (xs.take i, (i : Int)) = some (.next (xs.take i ++ [xs[i]], ((i + 1 : Nat) : Int))))
    (he : b (xs, (xs.length : Int)) = some (.done xs)) : ∀ (m i : Nat), i + m = xs.length → loop b (xs.take i, (i : Int)) = some xs
  | 0, i, h => by
    obtain rfl : i = xs.length := by omega
    rw [List.take_length]
    exact loop_done he
  | m + 1, i, h => by
    have hi : i < xs.length := by omega
    rw [loop_next (hs i hi)]
    have : xs.take i ++ [xs[i]] = xs.take (i + 1) := by rw [List.take_succ_eq_append_getElem hi]
    rw [this]
    exact loop_copy' hs he m (i + 1) (by omega)
theorem loop_copy {α : Type} {b : List α × Int → Option (Step (List α × Int) (List α))} {xs : List α}
    (hs : ∀ (i : Nat) (h : i < xs.length), b (xs.take i, (i : Int)) = some (.next (xs.take i ++ [xs[i]], ((i + 1 : Nat) : Int))))
    (he : b (xs, (xs.length : Int)) = some (.done xs)) : loop b ([], 0) = some xs := by
  have := loop_copy' hs he xs.length 0 (by omega)
  simpa using this
/-- The usual body of such a copy. -/
theorem loop_copied {α : Type} {b : List α × Int → Option (Step (List α × Int) (List α))} {xs : List α} (hl : xs.length ≤ 4294967296)
    (hb : ∀ zs i, b (zs, i) = bif decide (i < (xs.length : Int)) then (at' xs i).bind fun x => (app' zs [x]).bind fun zs' => some (.next (zs', IntKind.i64.wrap (i + 1))) else some (.done zs)) :
    loop b ([], 0) = some xs := by
  refine loop_copy (fun i h => ?_) ?_
  · rw [hb]
    have h1 : decide ((i : Int) < xs.length) = true := by simpa using h
    rw [h1, at'_nat h]
    simp only [cond_true, Option.bind_some]
    rw [app'_le (by simp; omega)]
    simp only [Option.bind_some]
    rw [wrap_nat (by omega)]
  · rw [hb]
    simp
/-- Two lists compared one by one. -/
theorem loop_same {α : Type} {b : Int → Option (Step Int Bool)} {xs ys : List α} [DecidableEq α] (hl : xs.length ≤ 140737488351232) (he : xs.length = ys.length)
    (hb : ∀ i, b i = bif decide (i < (xs.length : Int)) then (at' xs i).bind fun x => (at' ys i).bind fun y => bif !(decide (x = y)) then some (.done false) else some (.next (IntKind.i64.wrap (i + 1))) else some (.done true)) :
    loop b 0 = some (decide (xs = ys)) := by
  have h := loop_list (b := b) (xs := xs.zip ys) (q := fun p => decide (p.1 = p.2)) (no := false) (yes := true) (fun i h => ?_) ?_
  · rw [h]
    congr 1
    have : ∀ {xs ys : List α}, xs.length = ys.length → (xs.zip ys).all (fun p => decide (p.1 = p.2)) = decide (xs = ys) := by
      intro xs
      induction xs with
      | nil => intro ys h; cases ys with
        | nil => simp
        | cons y ys => simp at h
      | cons x xs ih => intro ys h; cases ys with
        | nil => simp at h
        | cons y ys =>
          simp only [List.zip_cons_cons, List.all_cons, List.cons.injEq]
          rw [ih (by simpa using h)]
          by_cases h1 : x = y <;> by_cases h2 : xs = ys <;> simp [h1, h2]
    rw [this he]
    cases decide (xs = ys) <;> rfl
  · have hx : i < xs.length := by simp at h; omega
    have hy : i < ys.length := by omega
    rw [hb]
    have h1 : decide ((i : Int) < xs.length) = true := by simpa using hx
    rw [h1, at'_nat hx, at'_nat hy]
    simp only [cond_true, Option.bind_some, List.getElem_zip]
    rw [wrap_nat (by omega)]
    cases decide (xs[i] = ys[i]) <;> rfl
  · rw [hb]
    simp [he]
theorem loop_eqd {α : Type} {b : Int → Option (Step Int Bool)} {xs ys : List α} [DecidableEq α] (hl : xs.length ≤ 140737488351232)
    (hb : ∀ i, b i = bif decide (i < (xs.length : Int)) then (at' xs i).bind fun x => (at' ys i).bind fun y => bif !(decide (x = y)) then some (.done false) else some (.next (IntKind.i64.wrap (i + 1))) else some (.done true)) :
    (bif decide ((xs.length : Int) ≠ (ys.length : Int)) then some false else loop b 0) = some (decide (xs = ys)) := by
  by_cases he : xs.length = ys.length
  · rw [loop_same hl he hb]
    simp [he]
  · have h1 : ¬ xs = ys := fun h => he (by rw [h])
    have h2 : ¬ (xs.length : Int) = ys.length := by omega
    simp [h1, h2]
end Go.Proofs.Ytjmmkbehdbpklaa
