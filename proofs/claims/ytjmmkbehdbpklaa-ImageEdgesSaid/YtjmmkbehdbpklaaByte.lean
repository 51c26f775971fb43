/- Bytes: as strings and back; parts of strings; a row of bytes whose head may be frozen, appended to. -/
import Derived.Test.YtjmmkbehdbpklaaStr
import Derived.Test.YtjmmkbehdbpklaaCopy
import Derived.Laws.BytesArg
import Derived.Laws.IdiomStrings
import Derived.Laws.IdiomCopy
import Derived.Laws.Strings2
import Derived.Laws.Strings3
import Derived.Lib.UnsafeStr
import Derived.Lib.ConvBytes
namespace Go.Proofs.Ytjmmkbehdbpklaa
open Go Fr
set_option linter.unusedVariables false
set_option linter.unusedSimpArgs false

theorem Fr.St.pb {W w : World} {g : Frag} {L0 L : Own} (h : St W g L0 L w) {b : Nat} {o : Obj} (hb : g.plus L b = some o) : w.heap[b]? = some o := by
  unfold Frag.plus at hb
  cases hg : g b with
  | some o' => simp only [hg, Option.some.injEq] at hb; subst hb; exact h.block hg
  | none => simp only [hg] at hb; exact h.own (Own.mem_of_look' hb)
theorem Fr.CB.pb {w : World} {g : Frag} {L : Own} (h : CB g L w) {b : Nat} {o : Obj} (hb : g.plus L b = some o) : w.heap[b]? = some o := by
  unfold Frag.plus at hb
  cases hg : g b with
  | some o' => simp only [hg, Option.some.injEq] at hb; subst hb; exact h.block hg
  | none => simp only [hg] at hb; exact h.own (Own.mem_of_look' hb)
/-- A string's bytes, as numbers. -/
def bytesOf (s : ByteArray) : List Int := s.data.toList.map fun b => (b.toNat : Int)
/-- A part of a string. -/
def ssub (s : ByteArray) (lo hi : Int) : Option ByteArray := if 0 ≤ lo ∧ lo ≤ hi ∧ hi ≤ s.size then some (s.extract lo.toNat hi.toNat) else none
theorem ssub_some {s c : ByteArray} {lo hi : Int} (h : ssub s lo hi = some c) : 0 ≤ lo ∧ lo ≤ hi ∧ hi ≤ s.size ∧ c = s.extract lo.toNat hi.toNat := by
  unfold ssub at h; split at h
  · cases h; rename_i h; exact ⟨h.1, h.2.1, h.2.2, rfl⟩
  · cases h
section
variable {P : Program} {C : World → Prop} {l : Fm} {d : Nat} {ty : TypeId} {ps : String} {af : Array Edge}
theorem y_ssB {s c : ByteArray} {lo hi : Int} {k k' : IntKind} {x a b : Operand} {t : TypeId} (hc : ssub s lo hi = some c) (ht : P.underlying t = some .string) (hx : ev l x = .string s := by (conv => lhs; whnf) <;> exact rfl) (ha : ev l a = .int k lo := by (conv => lhs; whnf) <;> exact rfl) (hb : ev l b = .int k' hi := by (conv => lhs; whnf) <;> exact rfl) : YV P C l ⟨some d, .slice t x (some a) (some b) none, ty, ps, af, none⟩ (.string c) := fun w hw => by
  obtain ⟨h0, h1, h2, rfl⟩ := ssub_some hc
  simp [execOp, hx, ha, hb, Instr.sliceAt, run_underlying ht, run_slice_string w t s k k' lo hi ht h0 h1 h2]
theorem y_ssU {s c : ByteArray} {hi : Int} {k' : IntKind} {x b : Operand} {t : TypeId} (hc : ssub s 0 hi = some c) (ht : P.underlying t = some .string) (hx : ev l x = .string s := by (conv => lhs; whnf) <;> exact rfl) (hb : ev l b = .int k' hi := by (conv => lhs; whnf) <;> exact rfl) : YV P C l ⟨some d, .slice t x none (some b) none, ty, ps, af, none⟩ (.string c) := fun w hw => by
  obtain ⟨h0, h1, h2, rfl⟩ := ssub_some hc
  simp [execOp, hx, hb, Instr.sliceAt, run_underlying ht, run_slice_string_to_if w t s k' hi ht, h1, h2]
theorem y_ssD {s c : ByteArray} {lo : Int} {k : IntKind} {x a : Operand} {t : TypeId} (hc : ssub s lo (s.size : Int) = some c) (ht : P.underlying t = some .string) (hx : ev l x = .string s := by (conv => lhs; whnf) <;> exact rfl) (ha : ev l a = .int k lo := by (conv => lhs; whnf) <;> exact rfl) : YV P C l ⟨some d, .slice t x (some a) none none, ty, ps, af, none⟩ (.string c) := fun w hw => by
  obtain ⟨h0, h1, h2, rfl⟩ := ssub_some hc
  simp [execOp, hx, ha, Instr.sliceAt, run_underlying ht, run_slice_string_from_if w t s k lo ht, h0, h1]
theorem flat_u8 {enc : Int → List Value} (he : ∀ z, enc z = [.int .u8 z]) : ∀ xs : List Int, xs.flatMap enc = xs.map (Value.int .u8)
  | [] => rfl
  | x :: xs => by rw [List.flatMap_cons, flat_u8 he xs, he]; rfl
theorem y_b2s {enc : Int → List Value} {g' : Frag} {xs : List Int} {v : Value} {x : Operand} {src dst e : TypeId} (hr : SlT g' enc 1 xs v) (he : ∀ z, enc z = [.int .u8 z]) (hg : ∀ w, C w → ∀ {b o}, g' b = some o → w.heap[b]? = some o)
    (hs : P.underlying src = some (.slice e)) (hu : P.underlying e = some (.int .u8)) (hd : P.underlying dst = some .string) (hx : ev l x = v := by (conv => lhs; whnf) <;> exact rfl) : YV P C l ⟨some d, .convert src dst x, ty, ps, af, none⟩ (.string (strOfNums xs)) := fun w hw => by
  obtain ⟨A, c, rfl, _, hl, h3⟩ := hr
  have key : (convert src dst (.slice A xs.length c)).run P w = .ok (.string (strOfNums xs)) w := by
    rcases h3 with h3 | ⟨b, o, cs, e', fz, rfl, hb, hcs⟩
    · obtain rfl := List.length_eq_zero_iff.1 h3
      cases A with
      | none => exact run_convert_bytes_nil w src e hs hu _ _ dst hd
      | some a =>
        rw [run_convert_bytes_string w src dst e _ _ c hs hu hd, run_bytesToString w a _ c [] (by simp [loadCells, loadCellsFrom])]
        rfl
    · refine run_convert_bytes_arg w src e hs hu b o xs.length c xs rfl (fun i hi => ?_) dst hd
      rw [cell_of_row w b (o + i) cs e' fz (hg w hw hb)]
      refine hcs i _ ?_
      rw [flat_u8 he, List.getElem?_map, List.getElem?_eq_getElem hi]
      simp [List.getD, List.getElem?_eq_getElem hi]
  simp [execOp, hx, key]
end
section
variable {P : Program} {ops : Array Oper} {Q : Exit → Act → World → Prop} {rest : List Oper} {l : Fm} {w : World} {d : Nat} {ty : TypeId} {ps : String} {af : Array Edge}
variable {W : World} {g : Frag} {L0 L : Own}
/-- A string as bytes: a new block, from here on only read. -/
theorem o_s2b {enc : Int → List Value} {s : ByteArray} {x : Operand} {src dst e : TypeId} (hS : St W g L0 L w) (he : ∀ z, enc z = [.int .u8 z]) (hs : P.underlying src = some .string) (hd : P.underlying dst = some (.slice e)) (hu : P.underlying e = some (.int .u8))
    (h : ∀ v LX w', SlT (g.plus LX) enc 1 (bytesOf s) v → St W (g.plus LX) L0 L w' → WL P ops Q rest (Ac (l.upd d v)) w') (hx : ev l x = .string s := by (conv => lhs; whnf) <;> exact rfl) :
    WL P ops Q (⟨some d, .convert src dst x, ty, ps, af, none⟩ :: rest) (Ac l) w := by
  have hr := Go.Lib.run_convert_string_bytes (P := P) w src dst e s hs hd hu
  have hn := Go.Lib.bytesWorld_at_new w e s
  have hS2 : St W g L0 ([(w.heap.size, .cells (Go.Lib.bytesCells w e s) e ((Go.Lib.bytesCells w e s).size, (Go.Lib.bytesCells w e s).size + 1))] ++ L) (Go.Lib.bytesWorld w e s) := hS.grow rfl rfl rfl (by rw [Go.Lib.bytesWorld_size]; omega) (fun k hk => Go.Lib.bytesWorld_at_old w e s k hk) hn (Nat.le_refl _)
  have hS3 := St.freeze hS2
  have hlen : (bytesOf s).length = s.size := by rw [bytesOf, List.length_map, Array.length_toList]; rfl
  have hr' : (execOp (ev l) ⟨some d, .convert src dst x, ty, ps, af, none⟩).run P w = .ok (.value (.slice (some ⟨w.heap.size, 0, none⟩) s.size (grownCap w s.size 0 e))) (Go.Lib.bytesWorld w e s) := by
    simp [execOp, hx, hr]
  have hV : SlT (g.plus [(w.heap.size, .cells (Go.Lib.bytesCells w e s) e ((Go.Lib.bytesCells w e s).size, (Go.Lib.bytesCells w e s).size + 1))]) enc 1 (bytesOf s) (.slice (some ⟨w.heap.size, 0, none⟩) s.size (grownCap w s.size 0 e)) := by
    refine ⟨some ⟨w.heap.size, 0, none⟩, grownCap w s.size 0 e, by rw [hlen], ⟨by rw [hlen]; exact grownCap_ge w s.size 0 e, fun h => by cases h⟩, by rw [flat_u8 he, List.length_map, Nat.mul_one], .inr ⟨w.heap.size, 0, _, e, _, rfl, plus_own (fun b o hb hm => (hS2.ro b o hb).2 (by rw [List.map_append]; exact List.mem_append_left _ hm)) (by simp) List.mem_cons_self, fun j u hj => ?_⟩⟩
    rw [flat_u8 he, bytesOf, List.map_map, List.getElem?_map] at hj
    obtain ⟨z, hz, rfl⟩ := Option.map_eq_some_iff.1 hj
    have hj2 : j < s.data.size := by have := (List.getElem?_eq_some_iff.1 hz).1; simpa using this
    have hz2 : s.data[j]? = some z := by rw [← hz]; simp
    simp [Go.Lib.bytesCells, Array.getElem?_append, hj2, hz2]
    intro h
    have : s.size = s.data.size := rfl
    omega
  refine ⟨wpList_plain rfl fun K hK => ?_⟩
  unfold Oper.wp
  rw [eval_ev, hr', Oper.upon_value, put_ac]
  exact hK _ _ (h _ _ _ hV hS3).out

/-- A row of bytes of one's own, whose head may be frozen. -/
def SlF (e : TypeId) (bs : List Int) (v : Value) (LX : Own) : Prop :=
  (v = .slice none 0 0 ∧ bs = [] ∧ LX = []) ∨
  ∃ (b c : Nat) (cl : List Value) (k : Nat), v = .slice (some ⟨b, 0, none⟩) bs.length c ∧ LX = [(b, .cells cl.toArray e (0, k))] ∧ bs.length ≤ c ∧ c ≤ maxLen ∧ cl.length = c ∧ k ≤ bs.length ∧ cl.take bs.length = bs.map (Value.int .u8)
theorem St.setF {b o k : Nat} {cl vs : List Value} {e : TypeId} (h : St W g L0 ((b, .cells cl.toArray e (0, k)) :: L) w) : St W g L0 ((b, .cells (wr cl o vs).toArray e (0, k)) :: L) (w.setCells b o vs) := by
  obtain ⟨h1, h2, h3, h4, h5⟩ := setCells_rest b vs o w
  have hu : Upd b (.cells cl.toArray e (0, k)) (.cells (wr cl o vs).toArray e (0, k)) ((b, .cells cl.toArray e (0, k)) :: L) ((b, .cells (wr cl o vs).toArray e (0, k)) :: L) := Upd.here L
  have := h.write hu.mem h1 h2 h3 (Nat.le_of_eq h4.symm) (fun k _ hk => h5 k hk) (heap_setCells vs o w cl (h.loc _ _ hu.mem).1)
  rwa [hu.put h.nd] at this
/-- What is appended: so many cells. -/
structure Src (P : Program) (u : TypeId) (src : Value) (w : World) (ns : List Int) : Prop where
  und : (∃ e', P.underlying u = some (.slice e')) ∨ P.underlying u = some .string
  len : ∀ w', (Builtin.lenOf src).run P w' = .ok ns.length w'
  first : ∀ w' : World, w'.heap = w.heap → (Builtin.firstCells 1 ns.length src).run P w' = .ok (ns.map (Value.int .u8)).toArray w'
theorem append_F {t u e ty : Nat} {src : Value} {bs ns : List Int} {v : Value} {LX Lr : Own} (he : El P t e 1 1) (hz : (P.info? e).map (·.zero) = some (some (.int .u8 0))) (hv : SlF e bs v LX) (hS : St W g L0 (LX ++ Lr) w) (hsrc : Src P u src w ns) (hb : bs.length + ns.length ≤ 4294967296) :
    ∃ v' LX' w', (Builtin.append_ #[t, u] ty #[v, src]).run P w = .ok v' w' ∧ SlF e (bs ++ ns) v' LX' ∧ St W g L0 (LX' ++ Lr) w' := by
  obtain ⟨hu, i, z, hi, hz', hi1, hb1, hzs⟩ := he
  have hq : i.zero = some (.int .u8 0) := by rw [hi] at hz; exact Option.some.inj hz
  have grow : ∀ (A : Option Addr) (cp : Nat), v = .slice A bs.length cp → cp < bs.length + ns.length → (Builtin.firstCells 1 bs.length v).run P w.drew = .ok (bs.map (Value.int .u8)).toArray w.drew →
      (∀ L2, St W g L0 (LX ++ L2) w → ∀ o, St W g L0 ((w.heap.size, o) :: L2) (w.drew.alloc o)) →
      ∃ v' LX' w', (Builtin.append_ #[t, u] ty #[v, src]).run P w = .ok v' w' ∧ SlF e (bs ++ ns) v' LX' ∧ St W g L0 (LX' ++ Lr) w' := by
    intro A cp hA hcp hfo hSt
    subst hA
    have hn : ¬ (bs.length + ns.length ≤ cp) := by omega
    have h63' : ¬ (9223372036854775807 < ((bs.length : Int) + (ns.length : Int))) := by omega
    have h48' : ¬ (281474976710656 < Builtin.nextslicecap (bs.length + ns.length) cp * 1) := by
      have := growslice_fits (need := bs.length + ns.length) (old := cp) (bytes := 1) (by omega) (by omega)
      omega
    have hf := hsrc.first w.drew rfl
    have hl := hsrc.len
    have hge := grownCap_ge w (bs.length + ns.length) cp e
    have hcm := grownCap_le_maxLen w (bs.length + ns.length) cp e (by simp only [maxLen]; omega)
    obtain ⟨zl, hzl, hzn⟩ := zeroCells_toList #[Value.int .u8 0] (grownCap w (bs.length + ns.length) cp e - (bs.length + ns.length))
    refine ⟨.slice (some ⟨w.heap.size, 0, none⟩) (bs.length + ns.length) (grownCap w (bs.length + ns.length) cp e), [(w.heap.size, .cells ((bs.map (Value.int .u8)) ++ (ns.map (Value.int .u8)) ++ zl).toArray e (0, 0))], _, ?_, ?_, hSt Lr hS _⟩
    · have hzl2 : Builtin.zeroCells #[Value.int .u8 0] (grownCap w (bs.length + ns.length) cp e - (bs.length + ns.length)) = zl.toArray := hzl
      simp only [grownCap] at hzl2
      rcases hsrc.und with ⟨e', hdu⟩ | hdu
      · simp [Builtin.append_, run_underlying hu, run_underlying hdu, sizeOf, typeInfo, zeroValue, hi, hq, hi1, hb1, hl, hn, h63', h48', Question.forced, hf, hfo, newRow, grownCap, Value.cells, hzl2]
        intro h; omega
      · simp [Builtin.append_, run_underlying hu, run_underlying hdu, sizeOf, typeInfo, zeroValue, hi, hq, hi1, hb1, hl, hn, h63', h48', Question.forced, hf, hfo, newRow, grownCap, Value.cells, hzl2]
        intro h; omega
    · refine .inr ⟨w.heap.size, _, _, 0, by rw [List.length_append], rfl, by rw [List.length_append]; exact hge, hcm, ?_, Nat.zero_le _, ?_⟩
      · have h1 : #[Value.int .u8 0].size = 1 := rfl
        rw [h1] at hzn
        simp only [List.length_append, List.length_map]
        omega
      · rw [List.map_append, List.length_append]
        exact List.take_left' (by rw [List.length_append, List.length_map, List.length_map])
  rcases hv with ⟨rfl, rfl, rfl⟩ | ⟨b, c, cl, k, rfl, rfl, h3, h4, h5, h6, h7⟩
  · by_cases hm : ns = []
    · subst hm
      refine ⟨.slice none 0 0, [], w, ?_, .inl ⟨rfl, rfl, rfl⟩, hS⟩
      have hf := hsrc.first w rfl
      have hl := hsrc.len
      simp only [List.length_nil] at hf hl
      rcases hsrc.und with ⟨e', hdu⟩ | hdu <;> simp [Builtin.append_, run_underlying hu, run_underlying hdu, sizeOf, typeInfo, hi, hi1, hl, hf]
    · have hpos : 0 < ns.length := List.length_pos_iff.2 hm
      refine grow none 0 rfl (by simp; omega) (by simp [Builtin.firstCells]) (fun L2 h2 o => ?_)
      have h2' : St W g L0 L2 w := h2
      exact h2'.grow rfl rfl rfl (by simp) (fun k hk => heap_alloc_old w.drew _ hk) (heap_alloc_new w.drew _) (Nat.le_refl _)
  · have hown : w.heap[b]? = some (.cells cl.toArray e (0, k)) := hS.own (List.mem_append_left _ List.mem_cons_self)
    by_cases hroom : bs.length + ns.length ≤ c
    · have hl := hsrc.len
      have hf := hsrc.first w rfl
      have hst := run_storeCells_cells (P := P) b bs.length (ns.map (Value.int .u8)) 0 w (fun j hj => by
          rw [List.length_map] at hj
          rw [cell_of_row w b _ _ e _ hown]
          simp; omega) (fun j hj => by
          simp only [World.frozen?, hown]
          simp; omega) (fun v hv => by
          obtain ⟨z, _, rfl⟩ := List.mem_map.1 hv; rfl)
      simp only [Nat.add_zero] at hst
      refine ⟨.slice (some ⟨b, 0, none⟩) (bs.length + ns.length) c, [(b, .cells (wr cl bs.length (ns.map (Value.int .u8))).toArray e (0, k))], w.setCells b bs.length (ns.map (Value.int .u8)), ?_, ?_, St.setF hS⟩
      · rcases hsrc.und with ⟨e', hdu⟩ | hdu <;> simp [Builtin.append_, run_underlying hu, run_underlying hdu, sizeOf, typeInfo, hi, hi1, hl, hf, hroom, Addr.add_mid, hst]
      · have hcl : cl = bs.map (Value.int .u8) ++ cl.drop bs.length := by rw [← h7, List.take_append_drop]
        have hw : wr cl bs.length (ns.map (Value.int .u8)) = bs.map (Value.int .u8) ++ (ns.map (Value.int .u8) ++ (cl.drop bs.length).drop ns.length) := by
          have := wr_app (ns.map (Value.int .u8)) (bs.map (Value.int .u8)) (cl.drop bs.length) (by rw [List.length_map, List.length_drop]; omega)
          rw [← hcl, List.length_map, List.length_map] at this
          exact this
        refine .inr ⟨b, c, _, k, by rw [List.length_append], rfl, by rw [List.length_append]; exact hroom, h4, by rw [wr_length]; exact h5, by rw [List.length_append]; omega, ?_⟩
        rw [hw, List.map_append, List.length_append, ← List.append_assoc]
        exact List.take_left' (by rw [List.length_append, List.length_map, List.length_map])
    · refine grow (some ⟨b, 0, none⟩) c rfl (by omega) ?_ (fun L2 h2 o => ?_)
      · have := run_firstCells_some (P := P) w.drew 1 bs.length ⟨b, 0, none⟩ bs.length c (bs.map (Value.int .u8)) (by simp) (fun j u hj => by
          rw [Addr.add_mid, cell_of_row w.drew b (0 + j) _ e _ hown]
          rw [← h7, List.getElem?_take] at hj
          split at hj
          · simpa using hj
          · cases hj)
        exact this
      · exact St.swapHead h2 rfl rfl rfl (by simp) (fun k hk => heap_alloc_old w.drew _ hk) (heap_alloc_new w.drew _) (Nat.le_refl _)
end
end Go.Proofs.Ytjmmkbehdbpklaa
