/- Bytes of images: written, the page's and the program's. -/
import Derived.Test.YtjmmkbehdbpklaaImA
import Derived.Test.YtjmmkbehdbpklaaMAgree
namespace Go.Proofs.Ytjmmkbehdbpklaa
open Go Fr
set_option linter.unusedVariables false
set_option linter.unusedSimpArgs false
set_option maxRecDepth 20000

theorem u8_eq (n : Int) : IntKind.u8.wrap n = n % 256 := by
  simp only [IntKind.wrap, IntKind.bits, IntKind.signed]
  simp only [Int.reducePow, Bool.false_and, Bool.false_eq_true, if_false]
/-- Four bytes of a number, the highest first. -/
def be4 (n : Int) : List Int := [n / 16777216 % 256, n / 65536 % 256, n / 256 % 256, n % 256]
def By (bs : List Int) : Prop := ∀ z ∈ bs, 0 ≤ z ∧ z < 256
theorem By.app {a b : List Int} (ha : By a) (hb : By b) : By (a ++ b) := fun z hz => by
  rcases List.mem_append.1 hz with h | h
  · exact ha z h
  · exact hb z h
theorem by_be4 (n : Int) : By (be4 n) := fun z hz => by
  simp only [be4, List.mem_cons, List.not_mem_nil, or_false] at hz
  rcases hz with rfl | rfl | rfl | rfl <;> omega
theorem by_flat {l : List Int} : By (l.flatMap be4) := fun z hz => by
  obtain ⟨x, _, hx⟩ := List.mem_flatMap.1 hz
  exact by_be4 x z hx
theorem be4_len (n : Int) : (be4 n).length = 4 := rfl
theorem flat_be4 (l : List Int) : (l.flatMap be4).length = 4 * l.length := by
  induction l with
  | nil => rfl
  | cons x l ih => rw [List.flatMap_cons, List.length_append, ih, be4_len, List.length_cons]; omega
theorem shr_u {k : IntKind} (hk : k = .u32 ∨ k = .i64) (n : Int) : shr' k n 24 = some (n / 16777216) ∧ shr' k n 16 = some (n / 65536) ∧ shr' k n 8 = some (n / 256) := by
  have h : ∀ m : Nat, m ≤ 32 → shr' k n (m : Int) = some (n / 2 ^ m) := fun m hm => by
    unfold shr'
    rw [if_pos (by omega)]
    congr 1
    have hb : min (m : Int).toNat k.bits = m := by
      rcases hk with rfl | rfl
      · show min (m : Int).toNat 32 = m
        omega
      · show min (m : Int).toNat 64 = m
        omega
    rw [hb]
    exact Int.fdiv_eq_ediv_of_nonneg n (Int.pow_nonneg (by decide))
  exact ⟨by simpa using h 24 (by decide), by simpa using h 16 (by decide), by simpa using h 8 (by decide)⟩
theorem number_w {a : List Int} {n : Int} (ha : a.length ≤ 100000) : object_Writer_Number a n = some (a ++ be4 n) := by
  obtain ⟨h1, h2, h3⟩ := shr_u (k := .u32) (.inl rfl) n
  simp only [object_Writer_Number, h1, h2, h3, Option.bind_some, u8_eq, Builder_Write]
  rw [app'_le (by simp; omega)]
  rfl
theorem number_r {n : Int} : r16_Number n = some (strOfNums (be4 n)) := by
  obtain ⟨h1, h2, h3⟩ := shr_u (k := .i64) (.inr rfl) n
  simp only [r16_Number, h1, h2, h3, Option.bind_some, u8_eq]
  rfl
theorem ba_ext {a b : ByteArray} (h : a.data.toList = b.data.toList) : a = b := by
  cases a; cases b; simp only [ByteArray.mk.injEq]; exact Array.toList_inj.1 h
theorem str_app (a b : List Int) : strOfNums a ++ strOfNums b = strOfNums (a ++ b) := by
  apply ba_ext
  rw [ByteArray.data_append, Array.toList_append, strOfNums_data, strOfNums_data, strOfNums_data, List.map_append]
theorem cat_str {a b : List Int} (h : a.length + b.length ≤ 1000000) : cat' (strOfNums a) (strOfNums b) = some (strOfNums (a ++ b)) := by
  unfold cat'
  rw [if_pos (by rw [strOfNums_size, strOfNums_size]; omega), str_app]
theorem byte_back {z : Int} (h : 0 ≤ z ∧ z < 256) : ((UInt8.ofNat z.toNat).toNat : Int) = z := by
  have : (UInt8.ofNat z.toNat).toNat = z.toNat := by simp; omega
  omega
theorem byte_str {bs : List Int} (hb : By bs) {i : Nat} (h : i < bs.length) : byte' (strOfNums bs) (i : Int) = some bs[i] := by
  have h1 : i < (strOfNums bs).size := by rw [strOfNums_size]; exact h
  have h3 : (strOfNums bs).data.toList[i]? = some (UInt8.ofNat bs[i].toNat) := by
    rw [strOfNums_data, List.getElem?_map, List.getElem?_eq_getElem h]; rfl
  have h2 : (strOfNums bs)[i]? = some (UInt8.ofNat bs[i].toNat) := by
    rw [getElem?_pos (strOfNums bs) i h1, ByteArray.getElem_eq_getElem_data]
    have := List.getElem?_eq_some_iff.1 h3
    obtain ⟨q, hq⟩ := this
    rw [← hq]
    simp
  simp only [byte']
  rw [if_pos (by omega), Int.toNat_natCast, h2]
  simp only [Option.map_some]
  rw [byte_back (hb _ (List.getElem_mem h))]
theorem loop_seq {σ ρ : Type} {b : σ → Option (Step σ ρ)} (S : Nat → σ) {n : Nat} {r : ρ} (hs : ∀ i, i < n → b (S i) = some (.next (S (i + 1)))) (he : b (S n) = some (.done r)) : loop b (S 0) = some r := by
  have key : ∀ m i : Nat, i + m = n → loop b (S i) = some r := by
    intro m
    induction m with
    | zero => intro i h; obtain rfl : i = n := by omega
              exact loop_done he
    | succ m ih => intro i h; rw [loop_next (hs i (by omega))]; exact ih (i + 1) (by omega)
  exact key n 0 (by omega)
theorem lt_dec {i n : Nat} (h : i < n) : decide ((i : Int) < (n : Int)) = true := by simpa using h
theorem nlt_dec (n : Nat) : decide ((n : Int) < (n : Int)) = false := by simp
theorem numbers_w {a xs : List Int} (ha : a.length ≤ 50000) (hx : xs.length ≤ 5000) : object_Writer_Numbers a xs = some (a ++ be4 (IntKind.u32.wrap (xs.length : Int)) ++ xs.flatMap be4) := by
  simp only [object_Writer_Numbers, number_w (show a.length ≤ 100000 by omega), Option.bind_some]
  have := loop_seq (b := object_Writer_Numbers_b1 xs) (fun i => ((i : Int), (a ++ be4 (IntKind.u32.wrap (xs.length : Int))) ++ (xs.take i).flatMap be4)) (n := xs.length) (r := (a ++ be4 (IntKind.u32.wrap (xs.length : Int))) ++ xs.flatMap be4) (fun i hi => by
    have hl : ((xs.take i).flatMap be4).length ≤ 20000 := by rw [flat_be4, List.length_take]; omega
    simp only [object_Writer_Numbers_b1, lt_dec hi, cond_true, at'_nat hi, Option.bind_some]
    rw [number_w (by rw [List.length_append, List.length_append, be4_len]; omega)]
    simp only [Option.bind_some]
    rw [wrap_nat (by omega), List.take_succ_eq_append_getElem hi, List.flatMap_append, List.append_assoc (a ++ _)]
    simp) (by simp [object_Writer_Numbers_b1])
  simpa using this
theorem datas_r {xs : List Int} (hx : xs.length ≤ 5000) (hr : ∀ z ∈ xs, 0 ≤ z ∧ z < 4294967296) : r16_Datas xs = some (strOfNums (be4 (xs.length : Int) ++ xs.flatMap be4)) := by
  simp only [r16_Datas, number_r, Option.bind_some]
  have := loop_seq (b := r16_Datas_b1 xs) (fun i => (strOfNums (be4 (xs.length : Int) ++ (xs.take i).flatMap be4), (i : Int))) (n := xs.length) (r := strOfNums (be4 (xs.length : Int) ++ xs.flatMap be4)) (fun i hi => by
    have hl : ((xs.take i).flatMap be4).length ≤ 20000 := by rw [flat_be4, List.length_take]; omega
    have hz := hr _ (List.getElem_mem hi)
    simp only [r16_Datas_b1, lt_dec hi, cond_true, at'_nat hi, Option.bind_some, number_r]
    rw [wrap_i64 (by omega) (by omega), cat_str (by rw [List.length_append, be4_len, be4_len]; omega)]
    simp only [Option.bind_some]
    rw [wrap_nat (by omega), List.take_succ_eq_append_getElem hi, List.flatMap_append, List.append_assoc]
    simp) (by simp [r16_Datas_b1])
  simpa using this

/-- The word of a nop, and of halt. -/
def wd (x : T_Ins) : Int := if x.Op = 33 then 2214592512 else 0
def wdb (b : A4 T_Ins) : List Int := [wd b.x0, wd b.x1, wd b.x2, wd b.x3]
structure Gx (x : T_Ins) : Prop where
  pack : bits_Pack x = some (wd x)
  word : r3_Word x = some (wd x)
structure Gb (b : A4 T_Ins) : Prop where
  x0 : Gx b.x0
  x1 : Gx b.x1
  x2 : Gx b.x2
  x3 : Gx b.x3
  back : bits_Bundle (wdb b) = some (b, 0)
  wf : Wf_Bundle b
theorem wd_in (x : T_Ins) : 0 ≤ wd x ∧ wd x < 4294967296 := by unfold wd; split <;> omega
theorem flat_wdb (c : List (A4 T_Ins)) : (c.flatMap wdb).length = 4 * c.length := by
  induction c with
  | nil => rfl
  | cons x l ih => rw [List.flatMap_cons, List.length_append, ih, List.length_cons]; simp [wdb]; omega
theorem words_p {c : List (A4 T_Ins)} (hc : ∀ b ∈ c, Gb b) (hl : c.length ≤ 1024) : emit_Words c = some (c.flatMap wdb) := by
  have inner : ∀ (i : Nat) (b : A4 T_Ins) (acc : List Int), Gb b → i < 1024 → acc.length ≤ 5000 → loop (emit_Words_b2 b (i : Int)) (acc, 0) = some (.next (acc ++ wdb b, ((i + 1 : Nat) : Int))) := fun i b acc hb hi ha => by
    have step : ∀ (j : Nat) (x : T_Ins) (a2 : List Int), j < 4 → at' [b.x0, b.x1, b.x2, b.x3] (j : Int) = some x → Gx x → a2.length ≤ 6000 → emit_Words_b2 b (i : Int) (a2, (j : Int)) = some (.next (a2 ++ [wd x], ((j + 1 : Nat) : Int))) := fun j x a2 hj hx hg h2 => by
      have h1 : decide ((j : Int) < 4) = true := by simp; omega
      simp only [emit_Words_b2, h1, cond_true, hx, hg.pack, Option.bind_some]
      rw [app'_le (by simp; omega), wrap_nat (by omega)]; rfl
    rw [show (0 : Int) = ((0 : Nat) : Int) from rfl, loop_next (step 0 b.x0 acc (by decide) rfl hb.x0 (by omega)), loop_next (step 1 b.x1 _ (by decide) rfl hb.x1 (by simp; omega)), loop_next (step 2 b.x2 _ (by decide) rfl hb.x2 (by simp; omega)), loop_next (step 3 b.x3 _ (by decide) rfl hb.x3 (by simp; omega))]
    refine loop_done ?_
    simp only [emit_Words_b2]
    rw [show decide (((3 + 1 : Nat) : Int) < 4) = false from rfl, cond_false, wrap_nat (by omega)]
    simp [wdb]
  have := loop_seq (b := emit_Words_b1 c) (fun i => ((c.take i).flatMap wdb, (i : Int))) (n := c.length) (r := c.flatMap wdb) (fun i hi => by
    have hlen : ((c.take i).flatMap wdb).length ≤ 5000 := by rw [flat_wdb, List.length_take]; omega
    simp only [emit_Words_b1, lt_dec hi, cond_true, at'_nat hi, Option.bind_some]
    rw [inner i c[i] _ (hc _ (List.getElem_mem hi)) (by omega) hlen, List.take_succ_eq_append_getElem hi, List.flatMap_append]
    simp) (by simp [emit_Words_b1])
  simpa [emit_Words] using this
theorem words_r {c : List (A4 T_Ins)} (hc : ∀ b ∈ c, Gb b) (hl : c.length ≤ 1024) : r16_Words c = some (strOfNums (be4 (c.length : Int) ++ (c.flatMap wdb).flatMap be4)) := by
  have inner : ∀ (i : Nat) (hi : i < c.length) (acc : List Int), acc.length ≤ 20000 → loop (r16_Words_b2 c (i : Int)) (strOfNums acc, 0) = some (.next (strOfNums (acc ++ (wdb c[i]).flatMap be4), ((i + 1 : Nat) : Int))) := fun i hi acc ha => by
    have hb := hc _ (List.getElem_mem hi)
    have hat := at'_nat hi
    generalize c[i] = b at hb hat
    have step : ∀ (j : Nat) (x : T_Ins) (a2 : List Int), j < 4 → at' [b.x0, b.x1, b.x2, b.x3] (j : Int) = some x → Gx x → a2.length ≤ 30000 → r16_Words_b2 c (i : Int) (strOfNums a2, (j : Int)) = some (.next (strOfNums (a2 ++ be4 (wd x)), ((j + 1 : Nat) : Int))) := fun j x a2 hj hx hg h2 => by
      have h1 : decide ((j : Int) < 4) = true := by simp; omega
      have hw := wd_in x
      simp only [r16_Words_b2, h1, cond_true, hat, hx, hg.word, Option.bind_some, number_r]
      rw [wrap_i64 (by omega) (by omega), cat_str (by rw [be4_len]; omega)]
      simp only [Option.bind_some]
      rw [wrap_nat (by omega)]
    rw [show (0 : Int) = ((0 : Nat) : Int) from rfl, loop_next (step 0 b.x0 acc (by decide) rfl hb.x0 (by omega)), loop_next (step 1 b.x1 _ (by decide) rfl hb.x1 (by rw [List.length_append, be4_len]; omega)), loop_next (step 2 b.x2 _ (by decide) rfl hb.x2 (by simp only [List.length_append, be4_len]; omega)), loop_next (step 3 b.x3 _ (by decide) rfl hb.x3 (by simp only [List.length_append, be4_len]; omega))]
    refine loop_done ?_
    simp only [r16_Words_b2]
    rw [show decide (((3 + 1 : Nat) : Int) < 4) = false from rfl, cond_false, wrap_nat (by omega)]
    simp [wdb]
  simp only [r16_Words, number_r, Option.bind_some]
  have := loop_seq (b := r16_Words_b1 c) (fun i => (strOfNums (be4 (c.length : Int) ++ ((c.take i).flatMap wdb).flatMap be4), (i : Int))) (n := c.length) (r := strOfNums (be4 (c.length : Int) ++ (c.flatMap wdb).flatMap be4)) (fun i hi => by
    have hlen : (((c.take i).flatMap wdb).flatMap be4).length ≤ 17000 := by rw [flat_be4, flat_wdb, List.length_take]; omega
    simp only [r16_Words_b1, lt_dec hi, cond_true]
    rw [inner i hi _ (by rw [List.length_append, be4_len]; omega), List.take_succ_eq_append_getElem hi, List.flatMap_append, List.flatMap_append, List.append_assoc]
    simp) (by simp [r16_Words_b1])
  simpa using this
theorem sum_by {bs : List Int} (h : By bs) : 0 ≤ bs.sum ∧ bs.sum ≤ 255 * bs.length := by
  induction bs with
  | nil => simp
  | cons x l ih =>
    have h1 := h x (by simp)
    have h2 := ih fun z hz => h z (List.mem_cons_of_mem _ hz)
    simp only [List.sum_cons, List.length_cons]
    omega
theorem sum_take {bs : List Int} (h : By bs) (i : Nat) (hi : i < bs.length) : (bs.take (i + 1)).sum = (bs.take i).sum + bs[i] := by
  rw [List.take_succ_eq_append_getElem hi, List.sum_append]; simp
/-- The sum of bytes. -/
def sm (bs : List Int) : Int := bs.sum.tmod 65521
theorem sm_in {bs : List Int} (h : By bs) : 0 ≤ sm bs ∧ sm bs < 65521 := by
  have := (sum_by h).1
  exact ⟨Int.tmod_nonneg _ this, Int.tmod_lt_of_pos _ (by decide)⟩
theorem by_take {bs : List Int} (h : By bs) (i : Nat) : By (bs.take i) := fun z hz => h z (List.mem_of_mem_take hz)
theorem sum_p {bs : List Int} (h : By bs) (hl : bs.length ≤ 100000) : object_sum (strOfNums bs) = some (sm bs) := by
  have hs := sum_by h
  have hm := sm_in h
  have := loop_seq (b := object_sum_b1 (strOfNums bs)) (fun i => ((bs.take i).sum, (i : Int))) (n := bs.length) (r := sm bs) (fun i hi => by
    have h1 := sum_by (by_take h i)
    have hz := h _ (List.getElem_mem hi)
    have hlt : (bs.take i).length ≤ 100000 := by rw [List.length_take]; omega
    simp only [object_sum_b1, strOfNums_size, lt_dec hi, cond_true, byte_str h hi, Option.bind_some]
    rw [wrap_i64 (n := bs[i]) (by omega) (by omega), wrap_i64 (by omega) (by omega), wrap_nat (by omega), sum_take h i hi]) (by
    simp only [object_sum_b1, strOfNums_size, nlt_dec, cond_false, List.take_length]
    have : rem' bs.sum 65521 = some (sm bs) := rfl
    rw [this]
    simp only [Option.bind_some]
    rw [M.u32_eq, Int.emod_eq_of_lt (by omega) (by omega)])
  simpa [object_sum] using this
theorem summed_r {bs : List Int} (h : By bs) (hl : bs.length ≤ 100000) : r16_Summed (strOfNums bs) = some (strOfNums (bs ++ be4 (sm bs))) := by
  have hs := sum_by h
  have := loop_seq (b := r16_Summed_b2 (strOfNums bs)) (fun i => ((bs.take i).sum, (i : Int))) (n := bs.length) (r := .next bs.sum) (fun i hi => by
    have h1 := sum_by (by_take h i)
    have hz := h _ (List.getElem_mem hi)
    have hlt : (bs.take i).length ≤ 100000 := by rw [List.length_take]; omega
    simp only [r16_Summed_b2, strOfNums_size, lt_dec hi, cond_true, byte_str h hi, Option.bind_some]
    rw [wrap_i64 (n := bs[i]) (by omega) (by omega), wrap_i64 (by omega) (by omega), wrap_nat (by omega), sum_take h i hi]) (by
    simp only [r16_Summed_b2, strOfNums_size, nlt_dec, cond_false, List.take_length])
  have this' : loop (r16_Summed_b2 (strOfNums bs)) (0, 0) = some (.next bs.sum) := by simpa using this
  unfold r16_Summed
  rw [this']
  simp only [cut, r16_Summed_k1]
  have hr : rem' bs.sum 65521 = some (sm bs) := rfl
  rw [hr]
  simp only [Option.bind_some, number_r]
  rw [cat_str (by rw [be4_len]; omega)]; rfl
theorem string_p {bs : List Int} (h : By bs) (h0 : bs ≠ []) : Builder_String bs = some (bs, strOfNums bs) := by
  unfold Builder_String
  rw [if_pos ⟨h0, List.all_eq_true.2 fun z hz => by simpa using h z hz⟩]

/-- An image's bytes, without their sum. -/
def body (c : List (A4 T_Ins)) (d : List Int) (e : Int) : List Int :=
  [5, 105, 109, 97, 103, 101] ++ be4 (c.length : Int) ++ (c.flatMap wdb).flatMap be4 ++ be4 (d.length : Int) ++ d.flatMap be4 ++ be4 e
def all' (c : List (A4 T_Ins)) (d : List Int) (e : Int) : List Int := body c d e ++ be4 (sm (body c d e))
theorem by_head : By [5, 105, 109, 97, 103, 101] := fun z hz => by
  simp only [List.mem_cons, List.not_mem_nil, or_false] at hz
  rcases hz with rfl | rfl | rfl | rfl | rfl | rfl <;> omega
theorem by_body (c : List (A4 T_Ins)) (d : List Int) (e : Int) : By (body c d e) := ((((by_head.app (by_be4 _)).app by_flat).app (by_be4 _)).app by_flat).app (by_be4 _)
theorem body_len (c : List (A4 T_Ins)) (d : List Int) (e : Int) : (body c d e).length = 18 + 16 * c.length + 4 * d.length := by
  simp only [body, List.length_append, be4_len, flat_be4, flat_wdb, List.length_cons, List.length_nil]; omega
theorem u32_id {n : Int} (h : 0 ≤ n ∧ n < 4294967296) : IntKind.u32.wrap n = n := by rw [M.u32_eq, Int.emod_eq_of_lt h.1 h.2]
theorem spelt_p {c : List (A4 T_Ins)} {d : List Int} {e : Int} (hc : ∀ b ∈ c, Gb b) (hl : c.length ≤ 1024) (hd : d.length ≤ 256) (he : 0 ≤ e ∧ e ≤ 1024) : image_spelt ⟨c, d, e⟩ = some (strOfNums (all' c d e)) := by
  have ht : object_Writer_Text [] (ByteArray.mk #[105, 109, 97, 103, 101]) = some [5, 105, 109, 97, 103, 101] := rfl
  have hcode : object_Writer_Code [5, 105, 109, 97, 103, 101] c = some ([5, 105, 109, 97, 103, 101] ++ be4 (c.length : Int) ++ (c.flatMap wdb).flatMap be4) := by
    have hw : (c.flatMap wdb).length ≤ 5000 := by rw [flat_wdb]; omega
    generalize hg : c.flatMap wdb = ws at hw
    simp only [object_Writer_Code, number_w (a := [5, 105, 109, 97, 103, 101]) (by decide), words_p hc hl, hg, Option.bind_some, u32_id (n := (c.length : Int)) (by omega)]
    have := loop_seq (b := object_Writer_Code_b1 ws) (fun i => ((i : Int), ([5, 105, 109, 97, 103, 101] ++ be4 (c.length : Int)) ++ (ws.take i).flatMap be4)) (n := ws.length) (r := ([5, 105, 109, 97, 103, 101] ++ be4 (c.length : Int)) ++ ws.flatMap be4) (fun i hi => by
      have hl : ((ws.take i).flatMap be4).length ≤ 20000 := by rw [flat_be4, List.length_take]; omega
      simp only [object_Writer_Code_b1, lt_dec hi, cond_true, at'_nat hi, Option.bind_some]
      rw [number_w (by rw [List.length_append, List.length_append, be4_len]; simp only [List.length_cons, List.length_nil]; omega)]
      simp only [Option.bind_some]
      rw [wrap_nat (by omega), List.take_succ_eq_append_getElem hi, List.flatMap_append]
      simp) (by simp [object_Writer_Code_b1])
    simpa using this
  have hb := by_body c d e
  have hlen := body_len c d e
  have hne : body c d e ≠ [] := by intro h; rw [h] at hlen; simp at hlen; omega
  have hw2 : (c.flatMap wdb).length ≤ 5000 := by rw [flat_wdb]; omega
  simp only [image_spelt, ht, hcode, Option.bind_some]
  rw [numbers_w (by simp only [List.length_append, be4_len, flat_be4, List.length_cons, List.length_nil]; omega) (by omega), u32_id (n := (d.length : Int)) (by omega)]
  simp only [Option.bind_some]
  rw [number_w (by simp only [List.length_append, be4_len, flat_be4, List.length_cons, List.length_nil]; omega), u32_id (n := e) (by omega)]
  simp only [Option.bind_some]
  rw [show [5, 105, 109, 97, 103, 101] ++ be4 (c.length : Int) ++ (c.flatMap wdb).flatMap be4 ++ be4 (d.length : Int) ++ d.flatMap be4 ++ be4 e = body c d e from rfl]
  simp only [object_Writer_End, string_p hb hne, Option.bind_some, sum_p hb (by omega)]
  rw [number_w (by omega)]
  simp only [Option.bind_some]
  rw [string_p (hb.app (by_be4 _)) (by simp [be4])]; rfl
theorem write_r {c : List (A4 T_Ins)} {d : List Int} {e : Int} (hc : ∀ b ∈ c, Gb b) (hl : c.length ≤ 1024) (hd : d.length ≤ 256) (hr : ∀ z ∈ d, 0 ≤ z ∧ z < 4294967296) : r19_Write ⟨c, d, e⟩ = some (strOfNums (all' c d e)) := by
  have ht : r16_Text (ByteArray.mk #[105, 109, 97, 103, 101]) = some (strOfNums [5, 105, 109, 97, 103, 101]) := rfl
  have hlen := body_len c d e
  have hw2 : ((c.flatMap wdb).flatMap be4).length ≤ 17000 := by rw [flat_be4, flat_wdb]; omega
  have hd2 : (d.flatMap be4).length ≤ 2000 := by rw [flat_be4]; omega
  simp only [r19_Write, ht, words_r hc hl, datas_r (show d.length ≤ 5000 by omega) hr, Option.bind_some, number_r]
  rw [cat_str (by simp only [List.length_append, be4_len, List.length_cons, List.length_nil]; omega)]
  simp only [Option.bind_some]
  rw [cat_str (by simp only [List.length_append, be4_len, List.length_cons, List.length_nil]; omega)]
  simp only [Option.bind_some]
  rw [cat_str (by simp only [List.length_append, be4_len, List.length_cons, List.length_nil]; omega)]
  simp only [Option.bind_some]
  rw [show [5, 105, 109, 97, 103, 101] ++ (be4 (c.length : Int) ++ (c.flatMap wdb).flatMap be4) ++ (be4 (d.length : Int) ++ d.flatMap be4) ++ be4 e = body c d e by simp [body]]
  rw [summed_r (by_body c d e) (by omega)]; rfl
end Go.Proofs.Ytjmmkbehdbpklaa
