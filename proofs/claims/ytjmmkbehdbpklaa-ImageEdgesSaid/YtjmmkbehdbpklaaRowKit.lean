/- From a contract of the layer to a given row: what came in, as slices; what is left of memory. -/
import Derived.Test.YtjmmkbehdbpklaaMore
import Derived.ProofKit
import Derived.OpenShut
import Derived.ChangeOld
import Derived.ChangeSlices
import Derived.SizedLaws
import Derived.Carry
import Derived.Lib.SmallJoins
namespace Go.Proofs.Ytjmmkbehdbpklaa.Fr
open Go.RowKit Go.ChangeShapes Go.WideShapes
set_option linter.unusedVariables false

/-- All memory, to be read. -/
abbrev all (W : World) : Frag := fun b => W.heap[b]?

theorem LCs.row {P : Program} {f : FuncId} {args : Array Value} {W : World} {r : Value} (h : LCs P f args (all W) r) : Calls P f args W fun e w' => e = .returned r ∧ Below W.heap.size W w' := by
  have hS : St W (all W) [] [] W := ⟨rfl, rfl, rfl, Nat.le_refl _, fun _ _ _ => rfl, fun b o hb => ⟨hb, by simp⟩, (fun b o hb => by cases hb), by simp⟩
  refine (h W hS).mono ?_
  rintro e w' ⟨v, L', rfl, hs, rfl, rfl⟩
  exact ⟨rfl, hs.os, hs.tape, hs.output, hs.size, fun k hk => hs.keep k hk (by simp)⟩

theorem SlR.of_cells {W : World} {x : Addr} {n c sz : Nat} {xs : List Value} (hl : xs.length = n * sz) (hnc : n ≤ c) (hsz : 0 < sz) (hc : ∀ j u, xs[j]? = some u → W.cell? (x.add j) = some u) : SlR (all W) sz n xs (.slice (some x) n c) := by
  refine ⟨some x, c, rfl, ⟨hnc, fun e => by cases e⟩, hl, ?_⟩
  by_cases hn : n = 0
  · exact .inl hn
  · right
    have hpos : 0 < xs.length := by rw [hl]; exact Nat.mul_pos (by omega) hsz
    have h0 := hc 0 xs[0] (by simp [hpos])
    obtain ⟨b, o, sp⟩ := x
    have hx0 : (⟨b, o, sp⟩ : Addr).add 0 = ⟨b, o, sp⟩ := by simp [Addr.add]
    rw [hx0] at h0
    have hsp : sp = none := by
      cases sp with
      | none => rfl
      | some s => simp only [World.cell?] at h0; split at h0 <;> simp at h0
    subst hsp
    cases hq : W.heap[b]? with
    | none => simp [World.cell?, hq] at h0
    | some ob =>
      cases ob with
      | cells cs e fz =>
        refine ⟨b, o, cs, e, fz, rfl, hq, fun j u hj => ?_⟩
        have := hc j u hj
        rw [Addr.add_mid, cell_of_row W b (o + j) cs e fz hq] at this
        exact this
      | _ => simp [World.cell?, hq] at h0

section
variable {H : Type} {enc : TypeId × Value → H} {P : Program} {W : World} {base : Nat} {spare : Nat → Bool} {held : Bool}

/-- A slice of whole numbers that came in. -/
theorem ints_in {t e n : TypeId} {k : IntKind} {v : Value} {y : DataW H × List MemPlace} (ht : P.underlying t = some (.slice e)) (he : P.underlying e = some (.int k)) (hc : P.cellsOf e = 1) {B : Nat} (hB : P.bytesOf e = B)
    {ts : List TypeId} {ds : List (DataW H)} {j : Nat} (hsz : (DataW.weightsEach P ts ds).all (· ≤ reachBytes) = true) (htj : ts[j]? = some t) (hdj : ds[j]? = some y.1)
    (h : DataW.trod enc P W base spare held n t [v] = some y) :
    ∃ zs : List Int, SlT (all W) (fun z => [.int k z]) 1 zs v ∧ (∀ z ∈ zs, (Lit.int k z).wf = true) ∧ zs.length * B ≤ 140737488351232 ∧ (∀ c, v = .slice none zs.length c → c = 0 ∧ zs.length = 0) := by
  have flat : ∀ l : List Int, l.flatMap (fun z => [Value.int k z]) = l.map (Value.int k) := fun l => by induction l <;> simp_all
  rcases open_ints ht he hc h with ⟨hcs, _⟩ | ⟨x, len, cap, zs, hcs, _, hl, hm, hz, hx, hcell, hwz⟩
  · obtain rfl : v = .slice none 0 0 := by simpa using hcs
    exact ⟨[], SlR.nil _ _, by simp, by simp, by rintro c hc; cases hc; exact ⟨rfl, rfl⟩⟩
  · obtain rfl : v = .slice (some x) len cap := by simpa using hcs
    have hlen : len ≤ zs.length := by rw [hz]; split <;> omega
    have ht' : (zs.take len).length = len := by rw [List.length_take]; omega
    refine ⟨zs.take len, ?_, fun z hz => hwz z (List.mem_of_mem_take hz), ?_, fun c hc => by cases hc⟩
    · unfold SlT
      rw [ht', flat]
      refine SlR.of_cells (by simp; omega) hl (by omega) fun j u hj => ?_
      rw [List.getElem?_map] at hj
      obtain ⟨z, hz', rfl⟩ := Option.map_eq_some_iff.1 hj
      have hj2 : j < (zs.take len).length := (List.getElem?_eq_some_iff.1 hz').1
      rw [ht'] at hj2
      rw [hcell j (by omega)]
      rw [List.getElem?_take_of_lt (by omega)] at hz'
      simp [List.getD, hz']
    · rw [ht']
      have hd : ds[j]? = some (.slice (lits k (zs.take len)) (lits k (zs.drop len))) := by rw [hdj, hx]
      have z := sized_slice hsz htj hd ht
      rw [hB] at z
      refine Nat.le_trans (Nat.mul_le_mul_right _ ?_) z
      simp [lits]
      omega
end
end Go.Proofs.Ytjmmkbehdbpklaa.Fr
