/- Plain words for what is printed: reads, writes, appends that may fail, loops. -/
import Derived.Test.YtgakgpbmcbegbaaGreatDoorMore
namespace Go.Proofs.YtgakgpbmcbegbaaGreatDoor
open Go
set_option linter.unusedVariables false
def at' {α : Type} (xs : List α) (i : Int) : Option α := if 0 ≤ i then xs[i.toNat]? else none
theorem at'_some {α : Type} {xs : List α} {i : Int} {x : α} (h : at' xs i = some x) : 0 ≤ i ∧ xs[i.toNat]? = some x := by
  unfold at' at h; split at h
  · exact ⟨by assumption, h⟩
  · cases h
theorem at'_lt {α : Type} {xs : List α} {i : Int} {x : α} (h : at' xs i = some x) : ∃ hl : i.toNat < xs.length, xs[i.toNat] = x :=
  List.getElem?_eq_some_iff.1 (at'_some h).2
def set' {α : Type} (xs : List α) (i : Int) (x : α) : Option (List α) := if 0 ≤ i ∧ i.toNat < xs.length then some (xs.set i.toNat x) else none
theorem set'_some {α : Type} {xs ys : List α} {i : Int} {x : α} (h : set' xs i x = some ys) : 0 ≤ i ∧ i.toNat < xs.length ∧ ys = xs.set i.toNat x := by
  unfold set' at h; split at h
  · cases h; rename_i h; exact ⟨h.1, h.2, rfl⟩
  · cases h
def app' {α : Type} (xs ys : List α) : Option (List α) := if xs.length + ys.length ≤ 4294967296 then some (xs ++ ys) else none
theorem app'_some {α : Type} {xs ys zs : List α} (h : app' xs ys = some zs) : xs.length + ys.length ≤ 4294967296 ∧ zs = xs ++ ys := by
  unfold app' at h; split at h
  · cases h; exact ⟨by assumption, rfl⟩
  · cases h
def upto' {α : Type} (xs : List α) (i : Int) : Option (List α) := if 0 ≤ i ∧ i.toNat ≤ xs.length then some (xs.take i.toNat) else none
theorem upto'_some {α : Type} {xs ys : List α} {i : Int} (h : upto' xs i = some ys) : 0 ≤ i ∧ i.toNat ≤ xs.length ∧ ys = xs.take i.toNat := by
  unfold upto' at h; split at h
  · cases h; rename_i h; exact ⟨h.1, h.2, rfl⟩
  · cases h
def sub' {α : Type} (xs : List α) (lo hi : Int) : Option (List α) := if 0 ≤ lo ∧ lo ≤ hi ∧ hi.toNat ≤ xs.length then some ((xs.take hi.toNat).drop lo.toNat) else none
theorem sub'_some {α : Type} {xs ys : List α} {lo hi : Int} (h : sub' xs lo hi = some ys) : 0 ≤ lo ∧ lo ≤ hi ∧ hi.toNat ≤ xs.length ∧ ys = (xs.take hi.toNat).drop lo.toNat := by
  unfold sub' at h; split at h
  · cases h; rename_i h; exact ⟨h.1, h.2.1, h.2.2, rfl⟩
  · cases h
def quo' (k : IntKind) (a b : Int) : Option Int := if b = 0 then none else some (k.wrap (a.tdiv b))
theorem quo'_some {k : IntKind} {a b c : Int} (h : quo' k a b = some c) : b ≠ 0 ∧ c = k.wrap (a.tdiv b) := by
  unfold quo' at h; split at h
  · cases h
  · cases h; exact ⟨by assumption, rfl⟩
def shl' (k : IntKind) (a b : Int) : Option Int := if 0 ≤ b then some (k.wrap (a * 2 ^ min b.toNat k.bits)) else none
theorem shl'_some {k : IntKind} {a b c : Int} (h : shl' k a b = some c) : 0 ≤ b ∧ c = k.wrap (a * 2 ^ min b.toNat k.bits) := by
  unfold shl' at h; split at h
  · cases h; exact ⟨by assumption, rfl⟩
  · cases h
def make' {α : Type} (n : Int) (z : α) : Option (List α) := if 0 ≤ n ∧ n ≤ 65536 then some (List.replicate n.toNat z) else none
theorem make'_some {α : Type} {n : Int} {z : α} {ys : List α} (h : make' n z = some ys) : 0 ≤ n ∧ n ≤ 65536 ∧ ys = List.replicate n.toNat z := by
  unfold make' at h; split at h
  · cases h; rename_i h; exact ⟨h.1, h.2, rfl⟩
  · cases h
inductive Step (σ ρ : Type) where
  | next (s : σ)
  | done (r : ρ)
noncomputable def iter {σ ρ : Type} (b : σ → Option (Step σ ρ)) (n : Nat) : σ → Option ρ :=
  Nat.rec (fun _ => none) (fun _ ih s => match b s with
    | none => none
    | some (.next s') => ih s'
    | some (.done r) => some r) n
theorem iter_s {σ ρ : Type} (b : σ → Option (Step σ ρ)) (n : Nat) (s : σ) : iter b (n + 1) s = (match b s with
    | none => none
    | some (.next s') => iter b n s'
    | some (.done r) => some r) := rfl
theorem iter_up {σ ρ : Type} {b : σ → Option (Step σ ρ)} {r : ρ} : ∀ {n : Nat} {s : σ}, iter b n s = some r → iter b (n + 1) s = some r
  | 0, _, h => nomatch (show (none : Option ρ) = some r from h)
  | n + 1, s, h => by
    rw [iter_s] at h ⊢
    cases hb : b s with
    | none => simp [hb] at h
    | some z =>
      cases z with
      | next s' => simp only [hb] at h ⊢; exact iter_up h
      | done r' => simpa [hb] using h
theorem iter_add {σ ρ : Type} {b : σ → Option (Step σ ρ)} {r : ρ} {n : Nat} {s : σ} (m : Nat) (h : iter b n s = some r) : iter b (n + m) s = some r := by
  induction m with
  | zero => exact h
  | succ m ih => exact iter_up ih
theorem iter_one {σ ρ : Type} {b : σ → Option (Step σ ρ)} {r r' : ρ} {n m : Nat} {s : σ} (h : iter b n s = some r) (h' : iter b m s = some r') : r = r' := by
  have h1 := iter_add m h
  have h2 := iter_add n h'
  rw [Nat.add_comm] at h2
  rw [h1] at h2
  exact Option.some.inj h2
open Classical in
noncomputable def loop {σ ρ : Type} (b : σ → Option (Step σ ρ)) (s : σ) : Option ρ :=
  match iter b 1099511627776 s with
  | some r => some r
  | none => if h : ∃ r n, iter b n s = some r then some (Classical.choose h) else none
theorem loop_iff {σ ρ : Type} {b : σ → Option (Step σ ρ)} {s : σ} {r : ρ} : loop b s = some r ↔ ∃ n, iter b n s = some r := by
  unfold loop
  constructor
  · intro h
    split at h
    · rename_i r' hr
      exact ⟨_, hr.trans h⟩
    · split at h
      · rename_i hx
        have := Classical.choose_spec hx
        rw [Option.some.inj h] at this
        exact this
      · cases h
  · rintro ⟨n, hn⟩
    split
    · rename_i r' hr
      rw [iter_one hr hn]
    · have hx : ∃ r n, iter b n s = some r := ⟨r, n, hn⟩
      rw [dif_pos hx]
      obtain ⟨m, hm⟩ := Classical.choose_spec hx
      rw [iter_one hm hn]
theorem loop_of {σ ρ : Type} {b : σ → Option (Step σ ρ)} {s : σ} {r : ρ} (n : Nat) (h : iter b n s = some r) : loop b s = some r := loop_iff.2 ⟨n, h⟩
theorem loop_next {σ ρ : Type} {b : σ → Option (Step σ ρ)} {s s' : σ} (h : b s = some (.next s')) : loop b s = loop b s' := by
  have e : ∀ n, iter b (n + 1) s = iter b n s' := fun n => by rw [iter_s, h]
  cases hl : loop b s' with
  | some r =>
    obtain ⟨n, hn⟩ := loop_iff.1 hl
    exact loop_of (n + 1) ((e n).trans hn)
  | none =>
    cases hl2 : loop b s with
    | none => rfl
    | some r =>
      obtain ⟨n, hn⟩ := loop_iff.1 hl2
      have := iter_up hn
      rw [e] at this
      rw [loop_of n this] at hl
      cases hl
theorem loop_done {σ ρ : Type} {b : σ → Option (Step σ ρ)} {s : σ} {r : ρ} (h : b s = some (.done r)) : loop b s = some r := loop_of 1 (by rw [iter_s, h])
def Fin {σ ρ : Type} (b : σ → Option (Step σ ρ)) (n : Nat) (e : ρ) : Step σ ρ → Prop
  | .next s => iter b n s = some e
  | .done r => r = e
theorem iter_step {σ ρ : Type} {b : σ → Option (Step σ ρ)} {n : Nat} {s : σ} {e : ρ} (h : iter b (n + 1) s = some e) : ∃ z, b s = some z ∧ Fin b n e z := by
  rw [iter_s] at h
  cases hb : b s with
  | none => simp [hb] at h
  | some z =>
    refine ⟨z, rfl, ?_⟩
    cases z with
    | next s' => simp only [hb] at h; exact h
    | done r => simp only [hb] at h; exact Option.some.inj h
def cut {σ ρ : Type} (x : Option (Step σ ρ)) (k : σ → Option ρ) : Option ρ :=
  match x with
  | none => none
  | some (.next s) => k s
  | some (.done r) => some r
def Cn {σ ρ : Type} (k : σ → Option ρ) (e : ρ) : Step σ ρ → Prop
  | .next s => k s = some e
  | .done r => r = e
theorem cut_step {σ ρ : Type} {x : Option (Step σ ρ)} {k : σ → Option ρ} {e : ρ} (h : cut x k = some e) : ∃ z, x = some z ∧ Cn k e z := by
  cases x with
  | none => cases h
  | some z =>
    refine ⟨z, rfl, ?_⟩
    cases z with
    | next s => exact h
    | done r => exact Option.some.inj h
theorem osi {α : Type} {a b : α} (h : some a = some b) : a = b := Option.some.inj h
theorem ob {α β : Type} {x : Option α} {f : α → Option β} {r : β} (h : x.bind f = some r) : ∃ a, x = some a ∧ f a = some r := by
  cases x with
  | none => cases h
  | some a => exact ⟨a, rfl, h⟩
theorem bt {α : Type} {c : Bool} {a b r : α} (h : c = true) (e : (bif c then a else b) = r) : a = r := by subst h; exact e
theorem bf {α : Type} {c : Bool} {a b r : α} (h : c = false) (e : (bif c then a else b) = r) : b = r := by subst h; exact e
end Go.Proofs.YtgakgpbmcbegbaaGreatDoor
