/- BenchFaults: its deeds, told by tables. -/
import Derived.Test.YtgakgpbmcbegbaaGreatDoorBase
import Derived.KernelRfl
namespace Go.Proofs.YtgakgpbmcbegbaaGreatDoor
open Go Go.RowKit Fr
set_option linter.unusedVariables false
set_option linter.unusedSimpArgs false
set_option maxRecDepth 20000
def incF (t : Int) : Int := 1000 + t
def tzF (c : Int) : Option Bool := bif decide (c = 0) then some true else none
def dF (xs : List Int) (c : Int) : Int := bif decide (1000 ≤ c) then gOf xs (c - 1000) else c
def M0 : List Int := cop (List.replicate 256 0) []
def mF (xs : List Int) (m : List Int) : List Int := bif decide (m = [0]) then M0 else bif decide (m = [1]) then M0.set (gOf xs 0).toNat (gOf xs 1) else []
def tldF (z : Nat) (op imm a b : Int) (m : List Int) : Option (List Int × Int × Int) :=
  bif decide (op = 25 ∧ imm = 0 ∧ a = 1000 ∧ b = 1001 ∧ m = [0]) then (bif decide (z = 0) then some (m, 0, 2) else some ([1], 1001, 0))
  else bif decide (op = 24 ∧ imm = 3 ∧ a = 1000 ∧ m = [1]) then (bif decide (z = 1) then some (m, 0, 2) else bif decide (z = 0) then none else some (m, 0, 0))
  else bif decide (op = 16 ∧ a = 0 ∧ b = 1001) then (bif decide (z = 2) then some (m, 0, 3) else bif decide (z = 3) then some (m, 0, 0) else none)
  else none
theorem gOf_w {xs : List Int} (hw : ∀ w ∈ xs, 0 ≤ w ∧ w ≤ 4294967295) (t : Int) : 0 ≤ gOf xs t ∧ gOf xs t ≤ 4294967295 := by
  unfold gOf
  cases h : at' xs t with
  | none => exact ⟨by decide, by decide⟩
  | some v =>
    obtain ⟨hl, he⟩ := at'_lt h
    exact hw v (he ▸ List.getElem_mem hl)
theorem told_F {xs : List Int} (h : xs.length ≤ 100) : Told (dF xs) xs incF tzF where
  hl := h
  h0 := rfl
  hin t ht := by
    unfold dF incF
    rw [decide_eq_true (by omega), cond_true, show 1000 + t - 1000 = t by omega]
  hz a z e := by
    unfold tzF at e
    by_cases q : a = 0
    · subst q; cases e; rfl
    · rw [decide_eq_false q] at e; cases e
theorem d_x (xs : List Int) : dF xs 1000 = gOf xs 0 := rfl
theorem d_y (xs : List Int) : dF xs 1001 = gOf xs 1 := rfl
theorem m_0 (xs : List Int) : mF xs [0] = M0 := rfl
theorem m_1 (xs : List Int) : mF xs [1] = M0.set (gOf xs 0).toNat (gOf xs 1) := rfl
theorem m_len (xs : List Int) (m : List Int) : (mF xs m).length ≤ 1000 := by
  have e : M0.length = 256 := by kernel_rfl
  unfold mF
  cases decide (m = [0])
  · cases decide (m = [1])
    · exact Nat.zero_le _
    · rw [cond_false, cond_true, List.length_set, e]; decide
  · rw [cond_true, e]; decide
theorem u32w {n : Int} (h0 : 0 ≤ n) (h1 : n ≤ 4294967295) : IntKind.u32.wrap n = n := by
  simp only [IntKind.wrap, IntKind.bits, IntKind.signed]
  simp only [Int.reducePow, Bool.false_and, Bool.false_eq_true, if_false]
  omega
theorem i32w {n : Int} (h0 : 0 ≤ n) (h1 : n ≤ 4294967295) : IntKind.i32.wrap n = if n < 2147483648 then n else n - 4294967296 := by
  simp only [IntKind.wrap, IntKind.bits, IntKind.signed]
  simp only [Int.reducePow, Nat.reduceSub, Bool.true_and, decide_eq_true_eq, ge_iff_le]
  split <;> split <;> omega
theorem i32nz {n : Int} (h0 : 0 ≤ n) (h1 : n ≤ 4294967295) (h : n ≠ 0) : IntKind.i32.wrap n ≠ 0 := by
  rw [i32w h0 h1]; split <;> omega
/-- Which case it is. -/
def Case (xs : List Int) (z : Nat) : Prop := (z = 0 ∧ 256 ≤ gOf xs 0) ∨ (z = 1 ∧ gOf xs 0 ≤ 255 ∧ 253 ≤ gOf xs 0) ∨ (z = 2 ∧ gOf xs 0 ≤ 252 ∧ gOf xs 1 = 0) ∨ (z = 3 ∧ gOf xs 0 ≤ 252 ∧ gOf xs 1 ≠ 0)
theorem M0_at {i : Int} (h0 : 0 ≤ i) (h1 : i ≤ 255) : at' M0 i = some 0 := by
  obtain ⟨n, rfl⟩ := Int.eq_ofNat_of_zero_le h0
  have e : M0 = List.replicate 256 0 := by kernel_rfl
  rw [e, at'_nat (by rw [List.length_replicate]; omega), List.getElem_replicate]
section
variable {xs : List Int} (hw : ∀ w ∈ xs, 0 ≤ w ∧ w ≤ 4294967295) {z : Nat} (hc : Case xs z)
include hw hc
theorem told_A : ToldA (dF xs) (mF xs) xs (tldF z) := by
  intro S i a b r h
  obtain ⟨x0, x1⟩ := gOf_w hw 0
  obtain ⟨y0, y1⟩ := gOf_w hw 1
  unfold tldF at h
  by_cases e : i.Op = 25 ∧ i.Imm = 0 ∧ a = 1000 ∧ b = 1001 ∧ S.Mem = [0]
  · obtain ⟨e1, e2, rfl, rfl, e5⟩ := e
    have wa : IntKind.u32.wrap (gOf xs 0 + IntKind.u32.wrap 0) = gOf xs 0 := by rw [show IntKind.u32.wrap 0 = 0 from rfl, Int.add_zero, u32w x0 x1]
    simp only [e1, e2, e5, and_self, decide_true, cond_true] at h
    by_cases q : z = 0
    · subst q
      have g : 256 ≤ gOf xs 0 := by rcases hc with hc | hc | hc | hc <;> omega
      cases h
      simp [seq_Act, seq_Act_k1, seq_Act_k2, seq_memory, seq_memory_k1,  e1, e2, e5, fa, memS, d_x, d_y, m_0, cut, wa, g, show pair_Has 25 = false from rfl, show word_Has 25 = false from rfl, show dF xs 0 = 0 from rfl]
    · have g : ¬ 256 ≤ gOf xs 0 := by rcases hc with hc | hc | hc | hc <;> omega
      have e : M0.length = 256 := by kernel_rfl
      have hs : set' M0 (gOf xs 0) (gOf xs 1) = some (M0.set (gOf xs 0).toNat (gOf xs 1)) := by rw [set', if_pos ⟨x0, by rw [e]; omega⟩]
      have ha : at' (M0.set (gOf xs 0).toNat (gOf xs 1)) (gOf xs 0) = some (gOf xs 1) := by
        rw [at', if_pos x0, List.getElem?_set_self (by rw [e]; omega)]
      rw [decide_eq_false q, cond_false] at h
      cases h
      simp [seq_Act, seq_Act_k1, seq_Act_k2, seq_memory, seq_memory_k1,  e1, e2, e5, fa, memS, d_x, d_y, m_0, m_1, cut, wa, g, hs, ha, show pair_Has 25 = false from rfl, show word_Has 25 = false from rfl]
  · rw [decide_eq_false e, cond_false] at h
    by_cases e : i.Op = 24 ∧ i.Imm = 3 ∧ a = 1000 ∧ S.Mem = [1]
    · obtain ⟨e1, e2, rfl, e5⟩ := e
      simp only [e1, e2, e5, and_self, decide_true, cond_true] at h
      by_cases q : z = 1
      · subst q
        have g : 253 ≤ gOf xs 0 ∧ gOf xs 0 ≤ 255 := by rcases hc with hc | hc | hc | hc <;> omega
        have wa : IntKind.u32.wrap (gOf xs 0 + IntKind.u32.wrap 3) = gOf xs 0 + 3 := by rw [show IntKind.u32.wrap 3 = 3 from rfl, u32w (by omega) (by omega)]
        have g2 : 256 ≤ gOf xs 0 + 3 := by omega
        cases h
        simp [seq_Act, seq_Act_k1, seq_Act_k2, seq_memory, seq_memory_k1,  e1, e2, e5, fa, memS, d_x, m_1, cut, wa, g2, show pair_Has 24 = false from rfl, show word_Has 24 = false from rfl, show dF xs 0 = 0 from rfl]
      · rw [decide_eq_false q, cond_false] at h
        by_cases q0 : z = 0
        · rw [decide_eq_true q0, cond_true] at h; cases h
        · rw [decide_eq_false q0, cond_false] at h
          have g : gOf xs 0 ≤ 252 := by rcases hc with hc | hc | hc | hc <;> omega
          have wa : IntKind.u32.wrap (gOf xs 0 + IntKind.u32.wrap 3) = gOf xs 0 + 3 := by rw [show IntKind.u32.wrap 3 = 3 from rfl, u32w (by omega) (by omega)]
          have g2 : ¬ 256 ≤ gOf xs 0 + 3 := by omega
          have ha : at' (M0.set (gOf xs 0).toNat (gOf xs 1)) (gOf xs 0 + 3) = some 0 := by
            rw [at', if_pos (by omega), List.getElem?_set_ne (by omega)]
            have := M0_at (i := gOf xs 0 + 3) (by omega) (by omega)
            rwa [at', if_pos (by omega)] at this
          cases h
          simp [seq_Act, seq_Act_k1, seq_Act_k2, seq_memory, seq_memory_k1,  e1, e2, e5, fa, memS, d_x, m_1, cut, wa, g2, ha, show pair_Has 24 = false from rfl, show word_Has 24 = false from rfl, show dF xs 0 = 0 from rfl]
    · rw [decide_eq_false e, cond_false] at h
      by_cases e : i.Op = 16 ∧ a = 0 ∧ b = 1001
      · obtain ⟨e1, rfl, rfl⟩ := e
        simp only [e1, and_self, decide_true, cond_true] at h
        by_cases q : z = 2
        · subst q
          have g : gOf xs 1 = 0 := by rcases hc with hc | hc | hc | hc <;> omega
          cases h
          simp [seq_Act, word_Of, e1, d_y, g, memS, show pair_Has 16 = false from rfl, show word_Has 16 = true from rfl, show dF xs 0 = 0 from rfl]
        · rw [decide_eq_false q, cond_false] at h
          by_cases q3 : z = 3
          · rw [decide_eq_true q3, cond_true] at h
            have g : gOf xs 1 ≠ 0 := by rcases hc with hc | hc | hc | hc <;> omega
            have n0 := i32nz y0 y1 g
            cases h
            simp [seq_Act, word_Of, word_product, quo', e1, d_y, g, n0, memS, show pair_Has 16 = false from rfl, show word_Has 16 = true from rfl, show dF xs 0 = 0 from rfl, show IntKind.i32.wrap 0 = 0 from rfl, show IntKind.u32.wrap 0 = 0 from rfl]
          · rw [decide_eq_false q3, cond_false] at h; cases h
      · rw [decide_eq_false e, cond_false] at h; cases h
theorem told_D : ToldD (dF xs) (mF xs) xs (tldF z) := by
  intro S i a b c r h
  obtain ⟨x0, x1⟩ := gOf_w hw 0
  obtain ⟨y0, y1⟩ := gOf_w hw 1
  unfold tldF at h
  by_cases e : i.Op = 25 ∧ i.Imm = 0 ∧ a = 1000 ∧ b = 1001 ∧ S.Mem = [0]
  · obtain ⟨e1, e2, rfl, rfl, e5⟩ := e
    have wa : IntKind.u32.wrap (gOf xs 0 + IntKind.u32.wrap 0) = gOf xs 0 := by rw [show IntKind.u32.wrap 0 = 0 from rfl, Int.add_zero, u32w x0 x1]
    simp only [e1, e2, e5, and_self, decide_true, cond_true] at h
    by_cases q : z = 0
    · subst q
      have g : 256 ≤ gOf xs 0 := by rcases hc with hc | hc | hc | hc <;> omega
      cases h
      simp [r5_do, r5_do_k1,  e1, e2, e5, fa, memS, d_x, d_y, m_0, cut, wa, g, show r1_Has 25 = false from rfl, show r1_Paired 25 = false from rfl]
    · have g : ¬ 256 ≤ gOf xs 0 := by rcases hc with hc | hc | hc | hc <;> omega
      have e : M0.length = 256 := by kernel_rfl
      have hs : set' M0 (gOf xs 0) (gOf xs 1) = some (M0.set (gOf xs 0).toNat (gOf xs 1)) := by rw [set', if_pos ⟨x0, by rw [e]; omega⟩]
      rw [decide_eq_false q, cond_false] at h
      cases h
      simp [r5_do, r5_do_k1,  e1, e2, e5, fa, memS, d_x, d_y, m_0, m_1, cut, wa, g, hs, show r1_Has 25 = false from rfl, show r1_Paired 25 = false from rfl]
  · rw [decide_eq_false e, cond_false] at h
    by_cases e : i.Op = 24 ∧ i.Imm = 3 ∧ a = 1000 ∧ S.Mem = [1]
    · obtain ⟨e1, e2, rfl, e5⟩ := e
      simp only [e1, e2, e5, and_self, decide_true, cond_true] at h
      by_cases q : z = 1
      · subst q
        have g : 253 ≤ gOf xs 0 ∧ gOf xs 0 ≤ 255 := by rcases hc with hc | hc | hc | hc <;> omega
        have wa : IntKind.u32.wrap (gOf xs 0 + IntKind.u32.wrap 3) = gOf xs 0 + 3 := by rw [show IntKind.u32.wrap 3 = 3 from rfl, u32w (by omega) (by omega)]
        have g2 : 256 ≤ gOf xs 0 + 3 := by omega
        cases h
        simp [r5_do, r5_do_k1,  e1, e2, e5, fa, memS, d_x, m_1, cut, wa, g2, show r1_Has 24 = false from rfl, show r1_Paired 24 = false from rfl]
      · rw [decide_eq_false q, cond_false] at h
        by_cases q0 : z = 0
        · rw [decide_eq_true q0, cond_true] at h; cases h
        · rw [decide_eq_false q0, cond_false] at h
          have g : gOf xs 0 ≤ 252 := by rcases hc with hc | hc | hc | hc <;> omega
          have wa : IntKind.u32.wrap (gOf xs 0 + IntKind.u32.wrap 3) = gOf xs 0 + 3 := by rw [show IntKind.u32.wrap 3 = 3 from rfl, u32w (by omega) (by omega)]
          have g2 : ¬ 256 ≤ gOf xs 0 + 3 := by omega
          have ha : at' (M0.set (gOf xs 0).toNat (gOf xs 1)) (gOf xs 0 + 3) = some 0 := by
            rw [at', if_pos (by omega), List.getElem?_set_ne (by omega)]
            have := M0_at (i := gOf xs 0 + 3) (by omega) (by omega)
            rwa [at', if_pos (by omega)] at this
          cases h
          simp [r5_do, r5_do_k1,  e1, e2, e5, fa, memS, d_x, m_1, cut, wa, g2, ha, show r1_Has 24 = false from rfl, show r1_Paired 24 = false from rfl, show dF xs 0 = 0 from rfl]
    · rw [decide_eq_false e, cond_false] at h
      by_cases e : i.Op = 16 ∧ a = 0 ∧ b = 1001
      · obtain ⟨e1, rfl, rfl⟩ := e
        simp only [e1, and_self, decide_true, cond_true] at h
        by_cases q : z = 2
        · subst q
          have g : gOf xs 1 = 0 := by rcases hc with hc | hc | hc | hc <;> omega
          cases h
          simp [r5_do, r1_Of, e1, d_y, g, memS, show r1_Has 16 = true from rfl, show dF xs 0 = 0 from rfl, show IntKind.i32.wrap 0 = 0 from rfl, show IntKind.i64.wrap 0 = 0 from rfl]
        · rw [decide_eq_false q, cond_false] at h
          by_cases q3 : z = 3
          · rw [decide_eq_true q3, cond_true] at h
            have g : gOf xs 1 ≠ 0 := by rcases hc with hc | hc | hc | hc <;> omega
            have n0 := i32nz y0 y1 g
            have n1 : IntKind.i64.wrap (IntKind.i32.wrap (gOf xs 1)) = IntKind.i32.wrap (gOf xs 1) := by
              have := i32w y0 y1
              exact wrap_i64 (by rw [this]; split <;> omega) (by rw [this]; split <;> omega)
            cases h
            simp [r5_do, r1_Of, quo', e1, d_y, g, n0, n1, memS, show r1_Has 16 = true from rfl, show dF xs 0 = 0 from rfl, show IntKind.i32.wrap 0 = 0 from rfl, show IntKind.i64.wrap 0 = 0 from rfl, show IntKind.u32.wrap 0 = 0 from rfl]
          · rw [decide_eq_false q3, cond_false] at h; cases h
      · rw [decide_eq_false e, cond_false] at h; cases h
end
theorem case_of {xs : List Int} (hw : ∀ w ∈ xs, 0 ≤ w ∧ w ≤ 4294967295) : ∃ z : Nat, z < 4 ∧ Case xs z := by
  obtain ⟨x0, x1⟩ := gOf_w hw 0
  by_cases h1 : 256 ≤ gOf xs 0
  · exact ⟨0, by decide, .inl ⟨rfl, h1⟩⟩
  · by_cases h2 : 253 ≤ gOf xs 0
    · exact ⟨1, by decide, .inr (.inl ⟨rfl, by omega, h2⟩)⟩
    · by_cases h3 : gOf xs 1 = 0
      · exact ⟨2, by decide, .inr (.inr (.inl ⟨rfl, by omega, h3⟩))⟩
      · exact ⟨3, by decide, .inr (.inr (.inr ⟨rfl, by omega, h3⟩))⟩
def nums : List Nat := [0, 1, 2, 3, 5, 7, 10, 14, 19, 26, 35, 47, 63, 85, 114, 153]
theorem cks : (List.range 4).all (fun z => nums.all fun n => chk0 incF tzF (tldF z) n) = true := by kernel_rfl
theorem all0 {xs : List Int} (h : xs.length ≤ 100) (hw : ∀ w ∈ xs, 0 ≤ w ∧ w ≤ 4294967295) : l23_alike txt0 xs = some true := by
  obtain ⟨z, hz, hc⟩ := case_of hw
  have q := List.all_eq_true.1 (List.all_eq_true.1 cks z (List.mem_range.2 hz))
  have f : ∀ n ∈ nums, n ≤ 200 → Fine imx0 flx0 (n : Int) xs := fun n hn hn2 => fc0 (told_F h) (told_F h) (told_A hw hc) (told_D hw hc) (m_len xs) (m_len xs) hn2 rfl rfl rfl rfl (q n hn)
  exact alike0 ⟨f 0 (by decide) (by decide), f 1 (by decide) (by decide), f 2 (by decide) (by decide), f 3 (by decide) (by decide), f 5 (by decide) (by decide), f 7 (by decide) (by decide), f 10 (by decide) (by decide), f 14 (by decide) (by decide), f 19 (by decide) (by decide), f 26 (by decide) (by decide), f 35 (by decide) (by decide), f 47 (by decide) (by decide), f 63 (by decide) (by decide), f 85 (by decide) (by decide), f 114 (by decide) (by decide), f 153 (by decide) (by decide)⟩
end Go.Proofs.YtgakgpbmcbegbaaGreatDoor
namespace Go.Proofs.YtgakgpbmcbegbaaGreatDoor
open Go Go.RowKit Fr
set_option linter.unusedVariables false
set_option maxRecDepth 20000
def sev : List (List Int) := [[], [3, 4, 0], [5, 1, 2, 0, 7, 7, 0], [1, 0, 0], [4294967295, 2147483648, 1], [250, 9, 9, 9], [65538, 2147450880, 5]]
theorem pure_BenchFaults (x : T_Ask) (hx : Wf_Ask x) : l23_BenchFaults x = some true := by
  have key : ∀ l : List (List Int), (∀ z ∈ l, z.length ≤ 100 ∧ ∀ w ∈ z, 0 ≤ w ∧ w ≤ 4294967295) → ∀ n : Nat, n + l.length ≤ 100 → ∀ p : List (List Int), p.length = n → loop (l23_BenchFaults_b1 (p ++ l)) (n : Int) = some true := by
    intro l
    induction l with
    | nil =>
      intro _ n hn p hp
      refine loop_done ?_
      rw [l23_BenchFaults_b1, List.append_nil, hp, wakes_ok]
      simp
    | cons z l ih =>
      intro hl n hn p hp
      have a : at' (p ++ z :: l) (n : Int) = some z := by
        rw [at'_nat (by simp only [List.length_append, List.length_cons]; omega)]
        subst hp
        simp
      have b : l23_BenchFaults_b1 (p ++ z :: l) (n : Int) = some (.next ((n + 1 : Nat) : Int)) := by
        have c : decide ((n : Int) < ((p ++ z :: l).length : Int)) = true := decide_eq_true (by simp only [List.length_append, List.length_cons]; omega)
        rw [l23_BenchFaults_b1, c, a]
        have r0 : l23_alike (ByteArray.mk #[109, 97, 105, 110, 58, 32, 105, 110, 32, 114, 49, 10, 105, 110, 32, 114, 50, 10, 115, 116, 32, 114, 50, 44, 32, 114, 49, 44, 32, 48, 10, 111, 117, 116, 32, 114, 50, 10, 108, 100, 32, 114, 51, 44, 32, 114, 49, 44, 32, 51, 10, 111, 117, 116, 32, 114, 51, 10, 100, 105, 118, 32, 114, 52, 44, 32, 114, 51, 44, 32, 114, 50, 10, 111, 117, 116, 32, 114, 52, 10, 98, 122, 32, 114, 52, 44, 32, 100, 101, 101, 112, 10, 99, 97, 108, 108, 32, 109, 97, 105, 110, 10, 100, 101, 101, 112, 58, 32, 99, 97, 108, 108, 32, 100, 101, 101, 112]) z = some true := all0 (hl z List.mem_cons_self).1 (hl z List.mem_cons_self).2
        simp only [cond_true, Option.bind_some, r0, Bool.not_true, cond_false]
        rw [wrap_nat (by simp only [List.length_cons] at hn; omega)]
      rw [loop_next b, show p ++ z :: l = (p ++ [z]) ++ l by simp]
      exact ih (fun z hz => hl z (List.mem_cons_of_mem _ hz)) (n + 1) (by simp only [List.length_cons] at hn; omega) (p ++ [z]) (by simp [hp])
  have h7 : ∀ z ∈ sev, z.length ≤ 100 ∧ ∀ w ∈ z, 0 ≤ w ∧ w ≤ 4294967295 := by decide
  rw [l23_BenchFaults]
  by_cases h : x.In_.length ≤ 100
  · have e : l23_ins x = some (sev ++ [x.In_]) := by
      rw [l23_ins, decide_eq_true (show (x.In_.length : Int) ≤ 100 by omega)]; rfl
    rw [e, Option.bind_some]
    exact key (sev ++ [x.In_]) (fun z hz => by
      rcases List.mem_append.1 hz with hz | hz
      · exact h7 z hz
      · rw [List.mem_singleton] at hz; subst hz; exact ⟨h, hx.h3⟩) 0 (by simp [sev]) [] rfl
  · have e : l23_ins x = some sev := by
      rw [l23_ins, decide_eq_false (show ¬ (x.In_.length : Int) ≤ 100 by omega)]; rfl
    rw [e, Option.bind_some]
    exact key sev h7 0 (by decide) [] rfl
end Go.Proofs.YtgakgpbmcbegbaaGreatDoor
