/- The library's functions that the laws call, as contracts of my own layer. -/
import Derived.Test.YtaplgcdpppcajaaDoorShf
import Derived.Test.YtaplgcdpppcajaaDoorTy
namespace Go.Proofs.YtaplgcdpppcajaaDoor
open Go Go.RowKit Fr
set_option linter.unusedVariables false

/-- What is read holds the two tables. -/
def GT (g : Frag) : Prop := ∀ w : World, (∀ b o, g b = some o → w.heap[b]? = some o) → Lib.TabIs Tryd.prog w "strings.asciiSpace" .u8 Lib.asciiSpaceTab ∧ Lib.TabIs Tryd.prog w "internal/strconv.uint64pow10" .u64 Lib.pow10Tab
theorem GT.plus {g : Frag} {L : Own} (h : GT g) : GT (g.plus L) := fun w hw => h w fun b o hb => hw b o (Frag.le_plus _ _ b o hb)
theorem St.gt {W w : World} {g : Frag} {L0 L : Own} (hS : St W g L0 L w) (h : GT g) : Lib.TabIs Tryd.prog w "strings.asciiSpace" .u8 Lib.asciiSpaceTab ∧ Lib.TabIs Tryd.prog w "internal/strconv.uint64pow10" .u64 Lib.pow10Tab := h w fun b o hb => hS.block hb
theorem St.below {g : Frag} {w w' : World} (hS : St w g [] [] w) (h : Below w.heap.size w w') : St w g [] [] w' :=
  ⟨h.os, h.tape, h.output, h.size, fun b hb _ => h.block b hb, fun b o hb => ⟨(h.block b (hS.lt hb)).trans (hS.block hb), by simp⟩, (fun b o hb => by cases hb), (by simp)⟩

theorem below_grow (w : World) (k : Nat) (os : Array Obj) : Below w.heap.size w (Go.Sort.grow (w.drewN k) os) :=
  ⟨rfl, rfl, rfl, by show w.heap.size ≤ (w.heap ++ os).size; simp, fun j hj => by show (w.heap ++ os)[j]? = w.heap[j]?; exact Array.getElem?_append_left hj⟩

def strconv_Itoa (n : Int) : Option ByteArray := if -9223372036854775808 ≤ n ∧ n ≤ 9223372036854775807 then some ⟨(Lib.itoa n).toArray⟩ else none
theorem w_strconv_Itoa {g : Frag} {a0 : Int} {r : ByteArray} (hG : GT g) (hF : strconv_Itoa a0 = some r) : LCs Tryd.prog 49 #[.int .i64 a0] g (.string r) := by
  unfold strconv_Itoa at hF
  split at hF
  · rename_i h
    obtain rfl := Option.some.inj hF
    intro w hS
    refine (Tryd.strconv_Itoa a0 h.1 h.2 w (St.gt hS hG).2).mono ?_
    rintro e w' ⟨rfl, k, os, rfl⟩
    exact ⟨_, [], rfl, St.below hS (below_grow w k os), rfl, rfl⟩
  · cases hF

theorem flat_str : ∀ l : List ByteArray, l.flatMap enc_string = l.map fun x => Value.string x
  | [] => rfl
  | y :: l => by rw [List.flatMap_cons, flat_str l]; rfl
def strings_Join (xs : List ByteArray) (sep : ByteArray) : Option ByteArray :=
  if xs.length ≤ 140737488355328 ∧ (Lib.join (xs.map (·.data.toList)) sep.data.toList).length ≤ 140737488355328 then some ⟨(Lib.join (xs.map (·.data.toList)) sep.data.toList).toArray⟩ else none
theorem w_strings_Join {g : Frag} {a0 : List ByteArray} {a1 : ByteArray} {v0_ : Value} {r : ByteArray} (h0 : SlT g enc_string 1 a0 v0_) (hF : strings_Join a0 a1 = some r) : LCs Tryd.prog 55 #[v0_, .string a1] g (.string r) := by
  unfold strings_Join at hF
  split at hF
  · rename_i h
    obtain rfl := Option.some.inj hF
    intro w hS
    obtain ⟨A, c, rfl, hc, hl, h3⟩ := h0
    rcases h3 with h3 | ⟨b, o, cs, e, fz, rfl, hb, hcs⟩
    · obtain rfl := List.length_eq_zero_iff.1 h3
      refine (Tryd.strings_Join_none A c a1 w).mono ?_
      rintro e w' ⟨rfl, rfl⟩
      exact ⟨_, [], rfl, hS, rfl, rfl⟩
    · have hbl := hS.block hb
      refine (Tryd.strings_Join b o c a0 a1 w (fun j x hj => ?_) (hS.lt hb) h.1 hc.1 h.2).mono ?_
      · have h5 : (a0.flatMap enc_string)[j]? = some (.string x) := by
          rw [flat_str a0, List.getElem?_map, hj]; rfl
        have h6 := hcs j _ h5
        simp only [World.cell?, hbl]
        exact h6
      · rintro e w' ⟨rfl, hbel⟩
        exact ⟨_, [], rfl, St.below hS hbel, rfl, rfl⟩
  · cases hF

def strings_Fields (s : ByteArray) : Option (List ByteArray) :=
  if s.size < 4294967281 ∧ (s.data.toList.all fun b => decide (b.toNat < 128)) = true ∧ (Lib.fields s.data.toList).length ≤ maxLen then some ((Lib.fields s.data.toList).map fun l => ⟨l.toArray⟩) else none
theorem w_strings_Fields {g : Frag} {a0 : ByteArray} {r : List ByteArray} (hG : GT g) (hF : strings_Fields a0 = some r) : LC Tryd.prog 69 #[.string a0] g [] (fun v L => ∃ (u0 : Value) (M0 : Own), u0 = v ∧ L = (M0 ++ []) ∧ OwT 9 enc_string 1 r u0 M0) := by
  unfold strings_Fields at hF
  split at hF
  · rename_i h
    obtain rfl := Option.some.inj hF
    intro w hS
    refine (Tryd.strings_Fields a0 w h.1 (fun j b hj => by simpa using List.all_eq_true.1 h.2.1 b (List.mem_of_getElem? hj)) (St.gt hS hG).1).mono ?_
    rintro e w' ⟨rfl, rfl⟩
    have e1 : ((Lib.fields a0.data.toList).map fun l => (⟨l.toArray⟩ : ByteArray)).flatMap enc_string = (Lib.fields a0.data.toList).map fun l => Value.string ⟨l.toArray⟩ := by
      rw [flat_str, List.map_map]; rfl
    refine ⟨_, _, rfl, St.alloc hS _, _, [(w.heap.size, blk (((Lib.fields a0.data.toList).map fun l => (⟨l.toArray⟩ : ByteArray)).flatMap enc_string) 9)], rfl, ?_, ?_⟩
    · rw [e1]; rfl
    · refine .inr ⟨w.heap.size, (Lib.fields a0.data.toList).length, _, by rw [List.length_map], rfl, by rw [List.length_map]; exact Nat.le_refl _, h.2.2, ?_, ?_, ?_⟩
      · rw [e1, List.length_map, Nat.mul_one]
      · rw [e1, List.length_map, List.length_map, Nat.mul_one]
      · rw [List.length_map, Nat.mul_one, e1]; exact List.take_of_length_le (by rw [List.length_map]; exact Nat.le_refl _)
  · cases hF
end Go.Proofs.YtaplgcdpppcajaaDoor
