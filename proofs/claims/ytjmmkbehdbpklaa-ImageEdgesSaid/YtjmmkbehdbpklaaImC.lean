/- Bytes of images: read back. -/
import Derived.Test.YtjmmkbehdbpklaaImB
import Derived.Laws.BitsAllLaws
namespace Go.Proofs.Ytjmmkbehdbpklaa
open Go Fr
set_option linter.unusedVariables false
set_option linter.unusedSimpArgs false
set_option maxRecDepth 20000

theorem extract_str (l : List Int) (a b : Nat) : (strOfNums l).extract a b = strOfNums ((l.drop a).take (b - a)) := by
  unfold strOfNums
  rw [ByteArray.extract_mk, List.map_take, List.map_drop]
theorem ssub_str {l : List Int} {a b : Int} (h0 : 0 ≤ a) (h1 : a ≤ b) (h2 : b ≤ l.length) : ssub (strOfNums l) a b = some (strOfNums ((l.drop a.toNat).take (b.toNat - a.toNat))) := by
  unfold ssub
  rw [if_pos ⟨h0, h1, by rw [strOfNums_size]; exact h2⟩, extract_str]
theorem ssub_head {x r : List Int} : ssub (strOfNums (x ++ r)) 0 (x.length : Int) = some (strOfNums x) := by
  rw [ssub_str (by omega) (by omega) (by rw [List.length_append]; omega)]
  simp
theorem ssub_tail {x r : List Int} : ssub (strOfNums (x ++ r)) (x.length : Int) ((strOfNums (x ++ r)).size : Int) = some (strOfNums r) := by
  rw [strOfNums_size, ssub_str (by omega) (by rw [List.length_append]; omega) (by omega)]
  congr 2
  rw [show (((x ++ r).length : Nat) : Int).toNat = x.length + r.length from by rw [Int.toNat_natCast, List.length_append], Int.toNat_natCast, List.drop_left, Nat.add_sub_cancel_left, List.take_length]
theorem bytes_read {x r : List Int} {bad : Bool} {n : Int} (hn : n = x.length) : object_Reader_bytes ⟨strOfNums (x ++ r), bad⟩ n = some (⟨strOfNums r, bad⟩, strOfNums x) := by
  subst hn
  have h1 : decide ((x.length : Int) < 0) = false := by simp
  have h2 : decide (((strOfNums (x ++ r)).size : Int) < (x.length : Int)) = false := by rw [strOfNums_size, List.length_append]; simp; omega
  simp only [object_Reader_bytes, h1, h2, cond_false, ssub_head, ssub_tail, Option.bind_some]
theorem bytesOf_str {bs : List Int} (h : By bs) : bytesOf (strOfNums bs) = bs := by
  unfold bytesOf
  rw [strOfNums_data, List.map_map]
  conv => rhs; rw [← List.map_id bs]
  refine List.map_congr_left fun z hz => ?_
  exact byte_back (h z hz)
theorem or8 {x y : Int} (hx : 0 ≤ x ∧ x < 16777216) (hy : 0 ≤ y ∧ y < 256) : shl' .u32 x 8 = some (x * 256) ∧ bits .or .u32 (x * 256) (IntKind.u32.wrap y) = x * 256 + y := by
  constructor
  · have : shl' .u32 x 8 = some (IntKind.u32.wrap (x * 256)) := by
      unfold shl'
      rw [if_pos (by decide)]
      rfl
    rw [this, u32_id (by omega)]
  · rw [u32_id (by omega)]
    obtain ⟨m, rfl⟩ := Int.eq_ofNat_of_zero_le hx.1
    obtain ⟨n, rfl⟩ := Int.eq_ofNat_of_zero_le hy.1
    have h := u32_or_nat (m * 256) n (by omega) (by omega)
    have h2 : m * 256 ||| n = m * 256 + n := by
      have := Nat.two_pow_add_eq_or_of_lt (i := 8) (b := n) (by omega) m
      rw [Nat.mul_comm m 256]
      simpa using this.symm
    rw [h2] at h
    have e : (((m * 256 : Nat) : Int)) = (m : Int) * 256 := by push_cast; rfl
    rw [e] at h
    rw [h]; push_cast; rfl
theorem number_read {n : Int} {r : List Int} {bad : Bool} (h : 0 ≤ n ∧ n < 4294967296) : object_Reader_Number ⟨strOfNums (be4 n ++ r), bad⟩ = some (⟨strOfNums r, bad⟩, n) := by
  unfold object_Reader_Number
  rw [bytes_read (x := be4 n) (n := 4) rfl]
  simp only [Option.bind_some]
  have hB := bytesOf_str (by_be4 n)
  have step : ∀ (j : Nat) (v y : Int), j < 4 → at' (be4 n) (j : Int) = some y → (0 ≤ v ∧ v < 16777216) → (0 ≤ y ∧ y < 256) → object_Reader_Number_b1 (⟨strOfNums r, bad⟩, strOfNums (be4 n)) (v, (j : Int)) = some (.next (v * 256 + y, ((j + 1 : Nat) : Int))) := fun j v y hj hy hv hy2 => by
    obtain ⟨o1, o2⟩ := or8 hv hy2
    have h1 : decide ((j : Int) < ((be4 n).length : Int)) = true := by rw [be4_len]; simp; omega
    simp only [object_Reader_Number_b1, hB, h1, cond_true, hy, o1, o2, Option.bind_some]
    rw [wrap_nat (by omega)]
  have e := be4_len n
  rw [show ((0 : Int), (0 : Int)) = ((0 : Int), ((0 : Nat) : Int)) from rfl, loop_next (step 0 0 (n / 16777216 % 256) (by decide) rfl (by omega) (by omega)), loop_next (step 1 _ (n / 65536 % 256) (by decide) rfl (by omega) (by omega)), loop_next (step 2 _ (n / 256 % 256) (by decide) rfl (by omega) (by omega)), loop_next (step 3 _ (n % 256) (by decide) rfl (by omega) (by omega))]
  refine loop_done ?_
  have h1 : decide (((3 + 1 : Nat) : Int) < ((be4 n).length : Int)) = false := rfl
  simp only [object_Reader_Number_b1, hB, h1, cond_false]
  congr 3
  omega
theorem many_read {n : Int} {k : Nat} {r : List Int} {bad : Bool} (h : 0 ≤ n ∧ n < 4294967296) (hk : k ≤ 16) (hr : n * k ≤ r.length) (hl : r.length ≤ 100000) : object_Reader_many ⟨strOfNums (be4 n ++ r), bad⟩ (k : Int) = some (⟨strOfNums r, bad⟩, n) := by
  have hn : n * k ≤ 100000 := by omega
  have hnk : 0 ≤ n * k := Int.mul_nonneg h.1 (by omega)
  have u64 : ∀ z : Int, 0 ≤ z → z < 18446744073709551616 → IntKind.u64.wrap z = z := fun z h0 h1 => by
    simp only [IntKind.wrap, IntKind.bits, IntKind.signed]
    simp only [Int.reducePow, Bool.false_and, Bool.false_eq_true, if_false]
    exact Int.emod_eq_of_lt h0 h1
  have hd : decide ((r.length : Int) < n * k) = false := by simp; omega
  simp only [object_Reader_many, number_read h, Option.bind_some, strOfNums_size, u64 n h.1 (by omega), u64 (k : Int) (by omega) (by omega), u64 (n * k) hnk (by omega), u64 (r.length : Int) (by omega) (by omega), hd, cond_false]
  rw [wrap_i64 (by omega) (by omega)]
theorem code_read {c : List (A4 T_Ins)} {r : List Int} (hc : ∀ b ∈ c, Gb b) (hl : c.length ≤ 1024) (hr : r.length ≤ 50000) : object_Reader_Code ⟨strOfNums (be4 (c.length : Int) ++ ((c.flatMap wdb).flatMap be4 ++ r)), false⟩ = some (⟨strOfNums r, false⟩, c) := by
  have hlen : ((c.flatMap wdb).flatMap be4).length = 16 * c.length := by rw [flat_be4, flat_wdb]; omega
  have hm := many_read (n := (c.length : Int)) (k := 16) (r := (c.flatMap wdb).flatMap be4 ++ r) (bad := false) (by omega) (by decide) (by rw [List.length_append, hlen]; push_cast; omega) (by rw [List.length_append, hlen]; omega)
  unfold object_Reader_Code
  rw [show (16 : Int) = ((16 : Nat) : Int) from rfl, hm]
  simp only [Option.bind_some]
  have := loop_seq (b := object_Reader_Code_b1 (⟨strOfNums ((c.flatMap wdb).flatMap be4 ++ r), false⟩, (c.length : Int))) (fun i => (c.take i, (i : Int), strOfNums (((c.drop i).flatMap wdb).flatMap be4 ++ r), false)) (n := c.length) (r := (⟨strOfNums r, false⟩, c)) (fun i hi => by
    have hg := hc _ (List.getElem_mem hi)
    rw [List.drop_eq_getElem_cons hi, List.take_succ_eq_append_getElem hi]
    generalize hb : c[i] = b at hg
    have w0 := wd_in b.x0
    have w1 := wd_in b.x1
    have w2 := wd_in b.x2
    have w3 := wd_in b.x3
    have e : ((b :: c.drop (i + 1)).flatMap wdb).flatMap be4 ++ r = be4 (wd b.x0) ++ (be4 (wd b.x1) ++ (be4 (wd b.x2) ++ (be4 (wd b.x3) ++ (((c.drop (i + 1)).flatMap wdb).flatMap be4 ++ r)))) := by
      simp [wdb]
    rw [e]
    have hback : bits_Bundle [wd b.x0, wd b.x1, wd b.x2, wd b.x3] = some (b, 0) := hg.back
    simp only [object_Reader_Code_b1, lt_dec hi, cond_true, number_read w0, number_read w1, number_read w2, number_read w3, Option.bind_some, hback, cond_false]
    rw [app'_le (by rw [List.length_take]; simp; omega)]
    simp only [Option.bind_some]
    rw [wrap_nat (by omega)]
    rfl) (by simp [object_Reader_Code_b1])
  simpa using this
theorem numbers_read {d : List Int} {r : List Int} (hd : d.length ≤ 256) (hv : ∀ z ∈ d, 0 ≤ z ∧ z < 4294967296) (hr : r.length ≤ 50000) : object_Reader_Numbers ⟨strOfNums (be4 (d.length : Int) ++ (d.flatMap be4 ++ r)), false⟩ = some (⟨strOfNums r, false⟩, d) := by
  have hlen : (d.flatMap be4).length = 4 * d.length := flat_be4 d
  have hm := many_read (n := (d.length : Int)) (k := 4) (r := d.flatMap be4 ++ r) (bad := false) (by omega) (by decide) (by rw [List.length_append, hlen]; push_cast; omega) (by rw [List.length_append, hlen]; omega)
  unfold object_Reader_Numbers
  rw [show (4 : Int) = ((4 : Nat) : Int) from rfl, hm]
  simp only [Option.bind_some]
  have := loop_seq (b := object_Reader_Numbers_b1 (⟨strOfNums (d.flatMap be4 ++ r), false⟩, (d.length : Int))) (fun i => (d.take i, (i : Int), strOfNums ((d.drop i).flatMap be4 ++ r), false)) (n := d.length) (r := (⟨strOfNums r, false⟩, d)) (fun i hi => by
    have hz := hv _ (List.getElem_mem hi)
    rw [List.drop_eq_getElem_cons hi, List.take_succ_eq_append_getElem hi]
    rw [List.flatMap_cons, List.append_assoc]
    simp only [object_Reader_Numbers_b1, lt_dec hi, cond_true, number_read hz, Option.bind_some]
    rw [app'_le (by rw [List.length_take]; simp; omega)]
    simp only [Option.bind_some]
    rw [wrap_nat (by omega)]) (by simp [object_Reader_Numbers_b1])
  simpa using this
theorem begun_read {bs : List Int} (h : By bs) (hl : bs.length ≤ 90000) : object_Begun (strOfNums (bs ++ be4 (sm bs))) = some ⟨strOfNums bs, false⟩ := by
  have hs := sm_in h
  have hsz : (strOfNums (bs ++ be4 (sm bs))).size = bs.length + 4 := by rw [strOfNums_size, List.length_append, be4_len]
  have hn : IntKind.i64.wrap (((strOfNums (bs ++ be4 (sm bs))).size : Int) - 4) = (bs.length : Int) := by
    rw [hsz, wrap_i64 (by omega) (by omega)]; omega
  have h0 : decide ((bs.length : Int) < 0) = false := by simp
  have hr := number_read (n := sm bs) (r := []) (bad := false) (by omega)
  rw [List.append_nil] at hr
  simp only [object_Begun, hn, h0, cond_false, ssub_head, ssub_tail, Option.bind_some, hr, sum_p h (show bs.length ≤ 100000 by omega)]
  simp
theorem text_read {r : List Int} : object_Reader_Text ⟨strOfNums ([5, 105, 109, 97, 103, 101] ++ r), false⟩ = some (⟨strOfNums r, false⟩, strOfNums [105, 109, 97, 103, 101]) := by
  have h1 : object_Reader_one ⟨strOfNums ([5, 105, 109, 97, 103, 101] ++ r), false⟩ = some (⟨strOfNums ([105, 109, 97, 103, 101] ++ r), false⟩, 5) := by
    unfold object_Reader_one
    rw [show [5, 105, 109, 97, 103, 101] ++ r = [5] ++ ([105, 109, 97, 103, 101] ++ r) from rfl, bytes_read (x := [5]) (n := 1) rfl]
    rfl
  unfold object_Reader_Text
  rw [h1]
  simp only [Option.bind_some]
  rw [bytes_read (x := [105, 109, 97, 103, 101]) (n := 5) rfl]
  rfl
theorem image_read {c : List (A4 T_Ins)} {d : List Int} {e : Int} (hc : ∀ b ∈ c, Gb b) (hl : c.length ≤ 1024) (hd : d.length ≤ 256) (hv : ∀ z ∈ d, 0 ≤ z ∧ z < 4294967296) (he : 0 ≤ e ∧ e ≤ 1024) (hm : link_May ⟨c, d, e⟩ = some true) :
    image_Read (strOfNums (all' c d e)) = some (⟨c, d, e⟩, 0) := by
  have hlen := body_len c d e
  have hsz : decide ((60000 : Int) < ((strOfNums (all' c d e)).size : Int)) = false := by
    rw [strOfNums_size, all', List.length_append, be4_len]; simp; omega
  have hb : body c d e = [5, 105, 109, 97, 103, 101] ++ (be4 (c.length : Int) ++ ((c.flatMap wdb).flatMap be4 ++ (be4 (d.length : Int) ++ (d.flatMap be4 ++ (be4 e ++ []))))) := by simp [body]
  have hdl : (d.flatMap be4).length ≤ 2000 := by rw [flat_be4]; omega
  have hov : (strOfNums ([] : List Int)) = ByteArray.mk #[] := rfl
  have him : decide (strOfNums [105, 109, 97, 103, 101] = ByteArray.mk #[105, 109, 97, 103, 101]) = true := by decide
  have hbeg := begun_read (by_body c d e) (show (body c d e).length ≤ 90000 by omega)
  rw [← all'] at hbeg
  unfold image_Read
  rw [hsz, cond_false, hbeg, Option.bind_some, hb, text_read]
  simp only [Option.bind_some]
  rw [code_read hc hl (by simp only [List.length_append, be4_len, List.length_nil]; omega)]
  simp only [Option.bind_some]
  rw [numbers_read hd hv (by simp [be4_len])]
  simp only [Option.bind_some]
  rw [number_read (by omega)]
  simp only [Option.bind_some, cond_false, object_Reader_Over, hov, decide_true, Bool.not_true, him]
  rw [wrap_i64 (by omega) (by omega), hm]
  simp only [Option.bind_some, Bool.not_true, cond_false]
  rw [spelt_p hc hl hd he]
  simp
theorem image_write {c : List (A4 T_Ins)} {d : List Int} {e : Int} (hc : ∀ b ∈ c, Gb b) (hl : c.length ≤ 1024) (hd : d.length ≤ 256) (he : 0 ≤ e ∧ e ≤ 1024) (hm : link_May ⟨c, d, e⟩ = some true) :
    image_Write ⟨c, d, e⟩ = some (strOfNums (all' c d e), 0) := by
  unfold image_Write
  rw [hm]
  simp only [Option.bind_some, Bool.not_true, cond_false]
  rw [spelt_p hc hl hd he]
  rfl
end Go.Proofs.Ytjmmkbehdbpklaa
