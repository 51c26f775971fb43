/- The statements' own functions, walked. -/
import Derived.Test.YthpnbgkhoocadaaProg
import Derived.Test.YthpnbgkhoocadaaWWord2
import Derived.Test.YthpnbgkhoocadaaHeld
import Derived.Test.YthpnbgkhoocadaaMore
import Derived.Test.YthpnbgkhoocadaaMAgree
import Derived.KernelRfl
namespace Go.Proofs.Ythpnbgkhoocadaa
open Go.RowKit Fr
set_option linter.unusedVariables false
set_option linter.unusedSimpArgs false
set_option maxRecDepth 20000
theorem fa_sledgelaw1_Ask_0 : ∀ (b o : Nat) (w : World), (Instr.fieldAt 25 (.pointer (some ⟨b, o, none⟩)) 0).run Try.prog w = .ok (.pointer (some ⟨b, o + 0, none⟩)) w := fieldAt_of Try.underlying25 rfl rfl (n := 0) (by kernel_rfl)
theorem fa_sledgelaw1_Ask_1 : ∀ (b o : Nat) (w : World), (Instr.fieldAt 25 (.pointer (some ⟨b, o, none⟩)) 1).run Try.prog w = .ok (.pointer (some ⟨b, o + 1, none⟩)) w := fieldAt_of Try.underlying25 rfl rfl (n := 0) (by kernel_rfl)
theorem el_uint32 : El Try.prog 22 28 1 4 := El.mk' (z := .int .u32 0) Try.underlying22 (by kernel_rfl) rfl
theorem el_int : El Try.prog 23 3 1 8 := El.mk' (z := .int .i64 0) Try.underlying23 (by kernel_rfl) rfl
theorem sz_uint32 : (Try.prog.info? 28).map (·.size) = some 1 := by kernel_rfl
theorem sz_int : (Try.prog.info? 3).map (·.size) = some 1 := by kernel_rfl
theorem sz_sledgelaw1_Ask : (Try.prog.info? 25).map (·.size) = some 2 := by kernel_rfl

abbrev eW (z : Int) : List Value := [.int .u32 z]
abbrev eN (z : Int) : List Value := [.int .i64 z]
theorem eW_len : ∀ z, (eW z).length = 1 := fun _ => rfl
theorem eN_len : ∀ z, (eN z).length = 1 := fun _ => rfl
theorem eW_one (zs : List Int) : ∀ u ∈ zs.flatMap eW, u.oneCell' = true := by
  intro u hu
  simp only [List.mem_flatMap, List.mem_singleton] at hu
  obtain ⟨z, _, rfl⟩ := hu
  rfl
theorem eN_one (zs : List Int) : ∀ u ∈ zs.flatMap eN, u.oneCell' = true := by
  intro u hu
  simp only [List.mem_flatMap, List.mem_singleton] at hu
  obtain ⟨z, _, rfl⟩ := hu
  rfl
def U32s (zs : List Int) : Prop := ∀ z ∈ zs, 0 ≤ z ∧ z < 4294967296
def ten : List Int := [0, 1, 2, 31, 32, 2147483647, 2147483648, 4294967295, 65535, 65536]
/-- What came in. -/
structure AskIn (g : Frag) (zs ns : List Int) (vW vN : Value) : Prop where
  w : SlT g eW 1 zs vW
  n : SlT g eN 1 ns vN
  rw : U32s zs
  bw : zs.length * 4 ≤ 140737488351232
  bn : ns.length * 8 ≤ 140737488351232
  w0 : ∀ c, vW = .slice none zs.length c → c = 0 ∧ zs.length = 0
  n0 : ∀ c, vN = .slice none ns.length c → c = 0 ∧ ns.length = 0
  rn : ∀ z ∈ ns, -9223372036854775808 ≤ z ∧ z ≤ 9223372036854775807
theorem words_u32 {zs : List Int} (h : U32s zs) : U32s ((ten ++ zs).take 22) := by
  intro z hz
  rcases List.mem_append.1 (List.mem_of_mem_take hz) with hz | hz
  · exact (show ∀ z ∈ ten, 0 ≤ z ∧ z < 4294967296 by decide) z hz
  · exact h z hz
theorem u32_range (n : Int) : 0 ≤ IntKind.u32.wrap n ∧ IntKind.u32.wrap n < 4294967296 := by
  simp only [IntKind.wrap, IntKind.bits, IntKind.signed]
  simp only [Int.reducePow, Bool.false_and, Bool.false_eq_true, if_false]
  omega
theorem u32_app {zs : List Int} (h : U32s zs) {a b c : Int} : U32s (zs ++ [IntKind.u32.wrap a, IntKind.u32.wrap b, IntKind.u32.wrap c]) := by
  intro z hz
  rcases List.mem_append.1 hz with hz | hz
  · exact h z hz
  · simp only [List.mem_cons, List.not_mem_nil, or_false] at hz
    rcases hz with rfl | rfl | rfl <;> exact u32_range _
theorem AskIn.plus {g : Frag} {L : Own} {zs ns : List Int} {vW vN : Value} (h : AskIn g zs ns vW vN) : AskIn (g.plus L) zs ns vW vN := ⟨h.w.plus, h.n.plus, h.rw, h.bw, h.bn, h.w0, h.n0, h.rn⟩

set_option maxHeartbeats 1000000 in
theorem l1_words {g : Frag} {zs ns : List Int} {vW vN : Value} (hA : AskIn g zs ns vW vN) : LC Try.prog 12 #[.agg #[vW, vN]] g [] fun r L => OwT 28 eW 1 ((ten ++ zs).take 22) r L := by
  have hbw := hA.bw
  refine lc_body (k := 14) (av := [.agg #[vW, vN]]) Try.func12 rfl rfl (h := fun W hS => ?_)
  refine c_seq ?_
  refine c_region ?_
  refine o_box hS (h := ?_)
  clear hS; intro b1 w hS
  refine o_assign (h := ?_)
  refine n_thenN (h := ?_)
  refine c_seq ?_
  refine c_region ?_
  refine o_buildT (.int .u32) ten hS el_uint32 (fun _ => rfl) eW_len (by omega) rfl (by decide) (hp := rfl) (h := ?_)
  clear hS; intro b4 w hS ho
  refine o_field (hf := fa_sledgelaw1_Ask_0) (h := ?_)
  refine o_load (hb := (hS.own (by repeat (first | exact List.mem_cons_self | apply List.mem_cons_of_mem | apply List.mem_append_right)))) (hu := Try.underlying22) (hd := rfl) (hv := rfl) (h := ?_)
  refine o_appAll (LX := [(b4, blk (ten.flatMap eW) 28)]) (hS := hS) (he := el_uint32) (hv := ho) (hu := hA.w.plus) (hu0 := hA.w0) (h1 := eW_one zs) (hb := by simp [ten]; omega) (h63 := by simp [ten, maxLen]; omega) (h := ?_)
  clear hS; intro v7 LX w ho2 hS
  refine o_assign (h := ?_)
  refine n_thenN (h := ?_)
  refine c_seq ?_
  refine c_seq ?_
  refine c_region ?_
  refine o_move (h := ?_)
  refine o_lenO (hr := ho2) (ht := Try.underlying22) (h := ?_)
  refine o_bin (h := ?_)
  refine n_thenN (h := ?_)
  refine c_if (ht := fun c1 => ?_) (hf := fun c1 => ?_)
  · try simp only [decide_eq_true_eq, decide_eq_false_iff_not, Bool.not_eq_true', Bool.not_eq_false', Bool.and_eq_true, Bool.or_eq_true, Bool.and_eq_false_iff, Bool.or_eq_false_iff, Decidable.not_not, ne_eq] at c1
    refine c_region ?_
    refine o_move (h := ?_)
    refine o_upto (hv := ho2) (he := eW_len) (ht := Try.underlying22) (hsz := el_uint32.size) (m := 22) (hm0 := by omega) (hm1 := by omega) (h := ?_)
    intro v12 ho3
    refine o_assign (h := ?_)
    refine n_thenN (h := ?_)
    refine c_seq ?_
    refine c_region ?_
    refine o_move (h := ?_)
    refine o_assign (h := ?_)
    refine n_thenN (h := ?_)
    refine wp_ret (r_ret1 (hS.drop (List.sublist_append_left _ _)) rfl (hR := ?_))
    first | exact ho3 | (rw [List.take_of_length_le (by simp only [ten, List.length_append, List.length_cons, List.length_nil] at *; omega)]; exact ho2)
  · try simp only [decide_eq_true_eq, decide_eq_false_iff_not, Bool.not_eq_true', Bool.not_eq_false', Bool.and_eq_true, Bool.or_eq_true, Bool.and_eq_false_iff, Bool.or_eq_false_iff, Decidable.not_not, ne_eq] at c1
    refine wp_skip ?_
    try change Code.wp _ _ _ _ _
    refine c_seq ?_
    refine c_region ?_
    refine o_move (h := ?_)
    refine o_assign (h := ?_)
    refine n_thenN (h := ?_)
    refine wp_ret (r_ret1 (hS.drop (List.sublist_append_left _ _)) rfl (hR := ?_))
    first | exact ho3 | (rw [List.take_of_length_le (by simp only [ten, List.length_append, List.length_cons, List.length_nil] at *; omega)]; exact ho2)

set_option maxHeartbeats 1000000 in
theorem l1_num {g : Frag} {n : Int} : LCs Try.prog 17 #[.int .i64 n] g (.int .i64 n) := by
  refine lc_body (k := 4) (av := [.int .i64 n]) Try.func17 rfl rfl (h := fun W hS => ?_)
  refine c_seq ?_
  refine c_region ?_
  refine o_assign (h := ?_)
  refine n_thenN (h := ?_)
  refine c_seq ?_
  refine c_region ?_
  refine o_move (h := ?_)
  refine o_assign (h := ?_)
  refine n_thenN (h := ?_)
  refine wp_ret (r_retS1 hS rfl (hR := ?_))
  rfl

set_option maxHeartbeats 1000000 in
theorem l1_wakes {g : Frag}  : LCs Try.prog 18 #[] g (.bool true) := by
  refine lc_body (k := 39) (av := []) Try.func18 rfl rfl (h := fun W hS => ?_)
  refine c_seq ?_
  refine c_region ?_
  refine o_assign (h := ?_)
  refine n_thenN (h := ?_)
  refine c_seq ?_
  refine c_region ?_
  refine o_callS hS Try.func15 rfl rfl (hc := ((w_Of (op := 16) (a := 4294967289) (b := 2) (by omega) (by omega)).eq (r' := .tuple #[.int .u32 4294967293, .int .i64 0]) (by rw [show M.wOf 16 4294967289 2 = (4294967293, 0) from by decide]))) (h := ?_)
  clear hS; intro w hS
  refine o_move (h := ?_)
  refine o_extract (hv := rfl) (h := ?_)
  refine o_extract (hv := rfl) (h := ?_)
  refine o_assign (h := ?_)
  refine o_assign (h := ?_)
  refine n_thenN (h := ?_)
  refine c_seq ?_
  refine c_region ?_
  refine o_callS hS Try.func15 rfl rfl (hc := ((w_Of (op := 17) (a := 7) (b := 0) (by omega) (by omega)).eq (r' := .tuple #[.int .u32 0, .int .i64 7]) (by rw [show M.wOf 17 7 0 = (0, 7) from by decide]))) (h := ?_)
  clear hS; intro w hS
  refine o_move (h := ?_)
  refine o_extract (hv := rfl) (h := ?_)
  refine o_extract (hv := rfl) (h := ?_)
  refine o_assign (h := ?_)
  refine o_assign (h := ?_)
  refine n_thenN (h := ?_)
  refine c_seq ?_
  refine c_region ?_
  refine o_callS hS Try.func21 rfl rfl (hc := ((w_Fits (n := 7) (b := 4)).eq (r' := .tuple #[.bool true, .int .i64 0]) (by rw [show M.fits 7 4 = (true, 0) from by decide]))) (h := ?_)
  clear hS; intro w hS
  refine o_move (h := ?_)
  refine o_extract (hv := rfl) (h := ?_)
  refine o_extract (hv := rfl) (h := ?_)
  refine o_assign (h := ?_)
  refine o_assign (h := ?_)
  refine n_thenN (h := ?_)
  refine c_seq ?_
  refine c_region ?_
  refine o_move (h := ?_)
  refine o_callS hS Try.func17 rfl rfl (hc := l1_num) (h := ?_)
  clear hS; intro w hS
  refine o_bin (h := ?_)
  refine o_split (ht := fun c1 => ?_) (hf := fun c1 => ?_)
  · try simp only [decide_eq_true_eq, decide_eq_false_iff_not, Bool.not_eq_true', Bool.not_eq_false', Bool.and_eq_true, Bool.or_eq_true, Bool.and_eq_false_iff, Bool.or_eq_false_iff, Decidable.not_not, ne_eq] at c1
    refine o_guard (hj := rfl) (hd := rfl) (hb := rfl) (h := ?_)
    refine o_move (h := ?_)
    refine o_guard (hj := rfl) (hd := rfl) (hb := rfl) (h := ?_)
    refine o_callS hS Try.func17 rfl rfl (hc := l1_num) (h := ?_)
    clear hS; intro w hS
    refine o_guard (hj := rfl) (hd := rfl) (hb := rfl) (h := ?_)
    refine o_bin (h := ?_)
    refine o_pickT (h := ?_)
    refine o_split (ht := fun c2 => ?_) (hf := fun c2 => ?_)
    · try simp only [decide_eq_true_eq, decide_eq_false_iff_not, Bool.not_eq_true', Bool.not_eq_false', Bool.and_eq_true, Bool.or_eq_true, Bool.and_eq_false_iff, Bool.or_eq_false_iff, Decidable.not_not, ne_eq] at c2
      refine o_guard (hj := rfl) (hd := rfl) (hb := rfl) (h := ?_)
      refine o_move (h := ?_)
      refine o_guard (hj := rfl) (hd := rfl) (hb := rfl) (h := ?_)
      refine o_callS hS Try.func17 rfl rfl (hc := l1_num) (h := ?_)
      clear hS; intro w hS
      refine o_guard (hj := rfl) (hd := rfl) (hb := rfl) (h := ?_)
      refine o_bin (h := ?_)
      refine o_pickT (h := ?_)
      refine o_split (ht := fun c3 => ?_) (hf := fun c3 => ?_)
      · try simp only [decide_eq_true_eq, decide_eq_false_iff_not, Bool.not_eq_true', Bool.not_eq_false', Bool.and_eq_true, Bool.or_eq_true, Bool.and_eq_false_iff, Bool.or_eq_false_iff, Decidable.not_not, ne_eq] at c3
        refine o_guard (hj := rfl) (hd := rfl) (hb := rfl) (h := ?_)
        refine o_move (h := ?_)
        refine o_guard (hj := rfl) (hd := rfl) (hb := rfl) (h := ?_)
        refine o_bin (h := ?_)
        refine o_pickT (h := ?_)
        refine o_split (ht := fun c4 => ?_) (hf := fun c4 => ?_)
        · try simp only [decide_eq_true_eq, decide_eq_false_iff_not, Bool.not_eq_true', Bool.not_eq_false', Bool.and_eq_true, Bool.or_eq_true, Bool.and_eq_false_iff, Bool.or_eq_false_iff, Decidable.not_not, ne_eq] at c4
          refine o_guard (hj := rfl) (hd := rfl) (hb := rfl) (h := ?_)
          refine o_move (h := ?_)
          refine o_pickT (h := ?_)
          refine o_assign (h := ?_)
          refine n_thenN (h := ?_)
          refine wp_ret (r_retS1 hS rfl (hR := ?_))
          rfl
        · try simp only [decide_eq_true_eq, decide_eq_false_iff_not, Bool.not_eq_true', Bool.not_eq_false', Bool.and_eq_true, Bool.or_eq_true, Bool.and_eq_false_iff, Bool.or_eq_false_iff, Decidable.not_not, ne_eq] at c4
          exact absurd c4 (by decide)
      · try simp only [decide_eq_true_eq, decide_eq_false_iff_not, Bool.not_eq_true', Bool.not_eq_false', Bool.and_eq_true, Bool.or_eq_true, Bool.and_eq_false_iff, Bool.or_eq_false_iff, Decidable.not_not, ne_eq] at c3
        exact absurd c3 (by decide)
    · try simp only [decide_eq_true_eq, decide_eq_false_iff_not, Bool.not_eq_true', Bool.not_eq_false', Bool.and_eq_true, Bool.or_eq_true, Bool.and_eq_false_iff, Bool.or_eq_false_iff, Decidable.not_not, ne_eq] at c2
      exact absurd c2 (by decide)
  · try simp only [decide_eq_true_eq, decide_eq_false_iff_not, Bool.not_eq_true', Bool.not_eq_false', Bool.and_eq_true, Bool.or_eq_true, Bool.and_eq_false_iff, Bool.or_eq_false_iff, Decidable.not_not, ne_eq] at c1
    exact absurd c1 (by decide)

set_option maxHeartbeats 40000000 in
theorem l1_ops {g : Frag} {low high : Int} (hl : 1 ≤ low) (hh : high ≤ 17) {zs ns : List Int} {vW vN : Value} (hA : AskIn g zs ns vW vN) : LCs Try.prog 19 #[.agg #[vW, vN], .int .i64 low, .int .i64 high] g (.bool true) := by
  refine lc_body (k := 90) (av := [.agg #[vW, vN], .int .i64 low, .int .i64 high]) Try.func19 rfl rfl (h := fun W hS => ?_)
  refine c_seq ?_
  refine c_region ?_
  refine o_box hS (h := ?_)
  clear hS; intro b3 w hS
  refine o_assign (h := ?_)
  refine n_thenN (h := ?_)
  refine c_seq ?_
  refine c_region ?_
  refine o_loadW (hb := (hS.own (by repeat (first | exact List.mem_cons_self | apply List.mem_cons_of_mem | apply List.mem_append_right)))) (hu := Try.underlying25) (hd := rfl) (hi := by exact sz_sledgelaw1_Ask) (h := ?_)
  refine o_call (L1 := []) hS Try.func12 rfl rfl (hc := l1_words hA.plus) (h := ?_)
  clear hS; intro v17 LX17 w hS hr17
  refine o_assign (h := ?_)
  refine n_thenN (h := ?_)
  refine c_seq ?_
  refine c_seq ?_
  refine c_region ?_
  refine o_assign (h := ?_)
  refine n_thenN (h := ?_)
  refine c_block ?_
  refine c_loop (fun n a w' => ∃ k zs' r LX, n = (40 - k).toNat ∧ 0 ≤ k ∧ OwT 28 eW 1 zs' r LX ∧ zs'.length ≤ 22 + k.toNat ∧ U32s zs' ∧ k ≤ 40 ∧ (∃ s : Nat → Value, a = Ac (.lit 90 [.agg #[vW, vN], .int .i64 low, .int .i64 high, s 3, s 4, s 5, .bool false, r, .int .i64 k, s 9, s 10, s 11, s 12, s 13, s 14, s 15, s 16, s 17, s 18, s 19, s 20, s 21, s 22, s 23, s 24, s 25, s 26, s 27, s 28, s 29, s 30, s 31, s 32, s 33, s 34, s 35, s 36, s 37, s 38, s 39, s 40, s 41, s 42, s 43, s 44, s 45, s 46, s 47, s 48, s 49, s 50, s 51, s 52, s 53, s 54, s 55, s 56, s 57, s 58, s 59, s 60, s 61, s 62, s 63, s 64, s 65, s 66, s 67, s 68, s 69, s 70, s 71, s 72, s 73, s 74, s 75, s 76, s 77, s 78, s 79, s 80, s 81, s 82, s 83, s 84, s 85, s 86, s 87, s 88, s 89])) ∧ St W g [] (LX ++ []) w') (40) ⟨0, _, _, _, rfl, by omega, hr17, by rw [List.length_take]; omega, words_u32 hA.rw, by omega, mk_ex, (hS.drop (List.Sublist.append_left (List.nil_sublist _) _))⟩ ?_
  clear hS
  rintro n a w ⟨k, zs', r, LX, rfl, hk, hr, hlen, hu, hk2, ⟨s, rfl⟩, hS⟩
  refine c_seq ?_
  refine c_seq ?_
  refine c_region ?_
  refine o_move (h := ?_)
  refine o_bin (h := ?_)
  refine n_thenN (h := ?_)
  refine c_if (ht := fun c1 => ?_) (hf := fun c1 => ?_)
  · try simp only [decide_eq_true_eq, decide_eq_false_iff_not, Bool.not_eq_true', Bool.not_eq_false', Bool.and_eq_true, Bool.or_eq_true, Bool.and_eq_false_iff, Bool.or_eq_false_iff, Decidable.not_not, ne_eq] at c1
    refine wp_skip ?_
    try change Code.wp _ _ _ _ _
    refine c_seq ?_
    refine c_block ?_
    refine c_held (fun _ => True) (by kernel_rfl) hS 11 rfl ?_
    clear hS; intro w hS
    refine h_move (j := 0) (hi := rfl) (hfr := by kernel_rfl) (hQ := by rintro c a w ⟨_, _, _, h, _⟩; cases h) (hw := trivial) (h := ?_)
    refine h_move (j := 1) (hi := rfl) (hfr := by kernel_rfl) (hQ := by rintro c a w ⟨_, _, _, h, _⟩; cases h) (hw := trivial) (h := ?_)
    refine h_shl (j := 2) (hi := rfl) (hfr := by kernel_rfl) (hQ := by rintro c a w ⟨_, _, _, h, _⟩; cases h) (hw := trivial) (h0 := by omega) (h := ?_)
    refine h_move (j := 3) (hi := rfl) (hfr := by kernel_rfl) (hQ := by rintro c a w ⟨_, _, _, h, _⟩; cases h) (hw := trivial) (h := ?_)
    refine h_shl (j := 4) (hi := rfl) (hfr := by kernel_rfl) (hQ := by rintro c a w ⟨_, _, _, h, _⟩; cases h) (hw := trivial) (h0 := by omega) (h := ?_)
    refine h_bin (j := 5) (hi := rfl) (hfr := by kernel_rfl) (hQ := by rintro c a w ⟨_, _, _, h, _⟩; cases h) (hw := trivial) (h := ?_)
    refine h_move (j := 6) (hi := rfl) (hfr := by kernel_rfl) (hQ := by rintro c a w ⟨_, _, _, h, _⟩; cases h) (hw := trivial) (h := ?_)
    refine h_shl (j := 7) (hi := rfl) (hfr := by kernel_rfl) (hQ := by rintro c a w ⟨_, _, _, h, _⟩; cases h) (hw := trivial) (h0 := by omega) (h := ?_)
    refine h_heavy (j := 8) rfl rfl (by kernel_rfl) (by rintro c a w ⟨_, _, _, h, _⟩; cases h) (by rintro ⟨a, w, _, _, h, _⟩; cases h) ?_
    refine o_buildT (.int .u32) [_, _, _] hS el_uint32 (fun _ => rfl) eW_len (by omega) rfl (by decide) (hp := rfl) (h := ?_)
    clear hS; intro b30 w hS hb30
    refine n_next trivial ?_
    refine h_heavy (j := 9) rfl rfl (by kernel_rfl) (by rintro c a w ⟨_, _, _, h, _⟩; cases h) (by rintro ⟨a, w, _, _, h, _⟩; cases h) ?_
    refine o_appT3 hS el_uint32 hr (hen := rfl) (h1 := eW_one _) (hb := by omega) (h63 := by simp only [maxLen]; omega) (h := ?_)
    clear hS; intro v31 LX31 w hr31 hS
    refine n_next trivial ?_
    refine h_assign (j := 10) (hi := rfl) (hfr := by kernel_rfl) (hQ := by rintro c a w ⟨_, _, _, h, _⟩; cases h) (hw := trivial) (h := ?_)
    refine h_doneN (hr := by kernel_rfl) (h := ?_)
    try change Code.wp _ _ _ _ _
    try change Code.wp _ _ _ _ _
    refine c_region ?_
    refine o_move (h := ?_)
    refine o_add (h0 := by omega) (h1 := by omega) (h := ?_)
    refine o_assign (h := ?_)
    refine n_thenN (h := ?_)
    refine ⟨(40 - (k + 3)).toNat, by omega, k + 3, _, _, _, rfl, by omega, hr31, by simp; omega, u32_app hu, by omega, mk_ex, hS⟩
  · try simp only [decide_eq_true_eq, decide_eq_false_iff_not, Bool.not_eq_true', Bool.not_eq_false', Bool.and_eq_true, Bool.or_eq_true, Bool.and_eq_false_iff, Bool.or_eq_false_iff, Decidable.not_not, ne_eq] at c1
    refine wp_exit ?_
    have hS1 : St W g [] LX w := by simpa using hS
    have hv := OwT.plus hr hS1 (fun p h => h)
    have hS := St.freeze (L2 := []) hS
    clear hS1
    change Code.wp _ _ _ _ _
    refine c_seq ?_
    refine c_seq ?_
    refine c_region ?_
    refine o_move (h := ?_)
    refine o_assign (h := ?_)
    refine n_thenN (h := ?_)
    refine c_block ?_
    refine c_loop (fun n a w' => ∃ op, n = (high + 1 - op).toNat ∧ 1 ≤ op ∧ (∃ s : Nat → Value, a = Ac (.lit 90 [.agg #[vW, vN], .int .i64 low, .int .i64 high, s 3, s 4, s 5, .bool false, r, s 8, .int .i64 op, s 10, s 11, s 12, s 13, s 14, s 15, s 16, s 17, s 18, s 19, s 20, s 21, s 22, s 23, s 24, s 25, s 26, s 27, s 28, s 29, s 30, s 31, s 32, s 33, s 34, s 35, s 36, s 37, s 38, s 39, s 40, s 41, s 42, s 43, s 44, s 45, s 46, s 47, s 48, s 49, s 50, s 51, s 52, s 53, s 54, s 55, s 56, s 57, s 58, s 59, s 60, s 61, s 62, s 63, s 64, s 65, s 66, s 67, s 68, s 69, s 70, s 71, s 72, s 73, s 74, s 75, s 76, s 77, s 78, s 79, s 80, s 81, s 82, s 83, s 84, s 85, s 86, s 87, s 88, s 89])) ∧ St W (g.plus LX) [] ([]) w') ((high + 1 - low).toNat) ⟨_, rfl, by omega, mk_ex, hS⟩ ?_
    clear hS
    rintro n a w ⟨op, rfl, ho1, ⟨s, rfl⟩, hS⟩
    refine c_seq ?_
    refine c_seq ?_
    refine c_region ?_
    refine o_move (h := ?_)
    refine o_move (h := ?_)
    refine o_bin (h := ?_)
    refine n_thenN (h := ?_)
    refine c_if (ht := fun c2 => ?_) (hf := fun c2 => ?_)
    · try simp only [decide_eq_true_eq, decide_eq_false_iff_not, Bool.not_eq_true', Bool.not_eq_false', Bool.and_eq_true, Bool.or_eq_true, Bool.and_eq_false_iff, Bool.or_eq_false_iff, Decidable.not_not, ne_eq] at c2
      refine wp_skip ?_
      try change Code.wp _ _ _ _ _
      refine c_seq ?_
      refine c_block ?_
      refine c_seq ?_
      refine c_region ?_
      refine o_assign (h := ?_)
      refine n_thenN (h := ?_)
      refine c_block ?_
      refine c_loop (fun n a w' => ∃ (i : Nat), n = zs'.length - i ∧ i ≤ zs'.length ∧ (∃ s : Nat → Value, a = Ac (.lit 90 [.agg #[vW, vN], .int .i64 low, .int .i64 high, s 3, s 4, s 5, .bool false, r, s 8, .int .i64 op, .int .i64 (i : Nat), s 11, s 12, s 13, s 14, s 15, s 16, s 17, s 18, s 19, s 20, s 21, s 22, s 23, s 24, s 25, s 26, s 27, s 28, s 29, s 30, s 31, s 32, s 33, s 34, s 35, s 36, s 37, s 38, s 39, s 40, s 41, s 42, s 43, s 44, s 45, s 46, s 47, s 48, s 49, s 50, s 51, s 52, s 53, s 54, s 55, s 56, s 57, s 58, s 59, s 60, s 61, s 62, s 63, s 64, s 65, s 66, s 67, s 68, s 69, s 70, s 71, s 72, s 73, s 74, s 75, s 76, s 77, s 78, s 79, s 80, s 81, s 82, s 83, s 84, s 85, s 86, s 87, s 88, s 89])) ∧ St W (g.plus LX) [] ([]) w') (zs'.length) ⟨0, by omega, by omega, mk_ex, hS⟩ ?_
      clear hS
      rintro n a w ⟨i, rfl, hi1, ⟨s, rfl⟩, hS⟩
      refine c_seq ?_
      refine c_seq ?_
      refine c_region ?_
      refine o_move (h := ?_)
      refine o_move (h := ?_)
      refine o_lenT (hr := hv) (ht := Try.underlying22) (h := ?_)
      refine o_bin (h := ?_)
      refine n_thenN (h := ?_)
      refine c_if (ht := fun c3 => ?_) (hf := fun c3 => ?_)
      · try simp only [decide_eq_true_eq, decide_eq_false_iff_not, Bool.not_eq_true', Bool.not_eq_false', Bool.and_eq_true, Bool.or_eq_true, Bool.and_eq_false_iff, Bool.or_eq_false_iff, Decidable.not_not, ne_eq] at c3
        refine wp_skip ?_
        try change Code.wp _ _ _ _ _
        refine c_seq ?_
        refine c_block ?_
        refine c_seq ?_
        refine c_region ?_
        refine o_assign (h := ?_)
        refine n_thenN (h := ?_)
        refine c_block ?_
        refine c_loop (fun n a w' => ∃ (k : Nat), n = zs'.length - k ∧ k ≤ zs'.length ∧ (∃ s : Nat → Value, a = Ac (.lit 90 [.agg #[vW, vN], .int .i64 low, .int .i64 high, s 3, s 4, s 5, .bool false, r, s 8, .int .i64 op, .int .i64 (i : Nat), .int .i64 (k : Nat), s 12, s 13, s 14, s 15, s 16, s 17, s 18, s 19, s 20, s 21, s 22, s 23, s 24, s 25, s 26, s 27, s 28, s 29, s 30, s 31, s 32, s 33, s 34, s 35, s 36, s 37, s 38, s 39, s 40, s 41, s 42, s 43, s 44, s 45, s 46, s 47, s 48, s 49, s 50, s 51, s 52, s 53, s 54, s 55, s 56, s 57, s 58, s 59, s 60, s 61, s 62, s 63, s 64, s 65, s 66, s 67, s 68, s 69, s 70, s 71, s 72, s 73, s 74, s 75, s 76, s 77, s 78, s 79, s 80, s 81, s 82, s 83, s 84, s 85, s 86, s 87, s 88, s 89])) ∧ St W (g.plus LX) [] ([]) w') (zs'.length) ⟨0, by omega, by omega, mk_ex, hS⟩ ?_
        clear hS
        rintro n a w ⟨k, rfl, hk1, ⟨s, rfl⟩, hS⟩
        refine c_seq ?_
        refine c_seq ?_
        refine c_region ?_
        refine o_move (h := ?_)
        refine o_move (h := ?_)
        refine o_lenT (hr := hv) (ht := Try.underlying22) (h := ?_)
        refine o_bin (h := ?_)
        refine n_thenN (h := ?_)
        refine c_if (ht := fun c4 => ?_) (hf := fun c4 => ?_)
        · try simp only [decide_eq_true_eq, decide_eq_false_iff_not, Bool.not_eq_true', Bool.not_eq_false', Bool.and_eq_true, Bool.or_eq_true, Bool.and_eq_false_iff, Bool.or_eq_false_iff, Decidable.not_not, ne_eq] at c4
          refine wp_skip ?_
          try change Code.wp _ _ _ _ _
          refine c_seq ?_
          refine c_block ?_
          refine c_seq ?_
          refine c_quiet (by kernel_rfl) (by kernel_rfl) hS ?_
          refine q_move (h := ?_)
          refine q_move (h := ?_)
          refine q_move (h := ?_)
          refine q_indexT (hr := hv) (he := eW_len) (ht := Try.underlying22) (hsz := el_uint32.size) (h0 := by omega) (h1 := by omega) (h := ?_)
          intro b54 o54 cs54 e54 fz54 hb54 hc54
          refine q_load (hb := (fun w hS => hS.block hb54)) (hu := Try.underlying28) (hd := rfl) (hv := (hc54 0 _ rfl)) (h := ?_)
          refine q_move (h := ?_)
          refine q_move (h := ?_)
          refine q_indexT (hr := hv) (he := eW_len) (ht := Try.underlying22) (hsz := el_uint32.size) (h0 := by omega) (h1 := by omega) (h := ?_)
          intro b58 o58 cs58 e58 fz58 hb58 hc58
          refine q_load (hb := (fun w hS => hS.block hb58)) (hu := Try.underlying28) (hd := rfl) (hv := (hc58 0 _ rfl)) (h := ?_)
          refine q_callS Try.func15 rfl rfl (hc := (w_Of (hu _ (List.getElem_mem _)) (hu _ (List.getElem_mem _)))) (h := ?_)
          refine q_move (h := ?_)
          refine q_extract (hv := rfl) (h := ?_)
          refine q_extract (hv := rfl) (h := ?_)
          refine q_assign (h := ?_)
          refine q_assign (h := ?_)
          refine q_nilN (h := ?_)
          clear hS; intro w hS
          try change Code.wp _ _ _ _ _
          refine c_seq ?_
          refine c_quiet (by kernel_rfl) (by kernel_rfl) hS ?_
          refine q_move (h := ?_)
          refine q_move (h := ?_)
          refine q_move (h := ?_)
          refine q_indexT (hr := hv) (he := eW_len) (ht := Try.underlying22) (hsz := el_uint32.size) (h0 := by omega) (h1 := by omega) (h := ?_)
          intro b67 o67 cs67 e67 fz67 hb67 hc67
          refine q_load (hb := (fun w hS => hS.block hb67)) (hu := Try.underlying28) (hd := rfl) (hv := (hc67 0 _ rfl)) (h := ?_)
          refine q_move (h := ?_)
          refine q_move (h := ?_)
          refine q_indexT (hr := hv) (he := eW_len) (ht := Try.underlying22) (hsz := el_uint32.size) (h0 := by omega) (h1 := by omega) (h := ?_)
          intro b71 o71 cs71 e71 fz71 hb71 hc71
          refine q_load (hb := (fun w hS => hS.block hb71)) (hu := Try.underlying28) (hd := rfl) (hv := (hc71 0 _ rfl)) (h := ?_)
          refine q_callS Try.func16 rfl rfl (hc := (r1_Of (hu _ (List.getElem_mem _)) (hu _ (List.getElem_mem _)))) (h := ?_)
          refine q_move (h := ?_)
          refine q_extract (hv := rfl) (h := ?_)
          refine q_extract (hv := rfl) (h := ?_)
          refine q_assign (h := ?_)
          refine q_assign (h := ?_)
          refine q_nilN (h := ?_)
          clear hS; intro w hS
          try change Code.wp _ _ _ _ _
          refine c_seq ?_
          refine c_region ?_
          refine o_move (h := ?_)
          refine o_move (h := ?_)
          refine o_callS hS Try.func17 rfl rfl (hc := l1_num) (h := ?_)
          clear hS; intro w hS
          refine o_bin (h := ?_)
          refine o_bneq (ht := Try.underlying4) (h := ?_)
          refine o_split (ht := fun c5 => ?_) (hf := fun c5 => ?_)
          · try simp only [decide_eq_true_eq, decide_eq_false_iff_not, Bool.not_eq_true', Bool.not_eq_false', Bool.and_eq_true, Bool.or_eq_true, Bool.and_eq_false_iff, Bool.or_eq_false_iff, Decidable.not_not, ne_eq] at c5
            exact absurd c5 (by rw [(M.of_agree (op := op) ⟨by omega, by omega⟩ (hu _ (List.getElem_mem _))).1]; simp)
          · try simp only [decide_eq_true_eq, decide_eq_false_iff_not, Bool.not_eq_true', Bool.not_eq_false', Bool.and_eq_true, Bool.or_eq_true, Bool.and_eq_false_iff, Bool.or_eq_false_iff, Decidable.not_not, ne_eq] at c5
            refine o_guard (hj := rfl) (hd := rfl) (hb := rfl) (h := ?_)
            refine o_move (h := ?_)
            refine o_guard (hj := rfl) (hd := rfl) (hb := rfl) (h := ?_)
            refine o_split (ht := fun c6 => ?_) (hf := fun c6 => ?_)
            · try simp only [decide_eq_true_eq, decide_eq_false_iff_not, Bool.not_eq_true', Bool.not_eq_false', Bool.and_eq_true, Bool.or_eq_true, Bool.and_eq_false_iff, Bool.or_eq_false_iff, Decidable.not_not, ne_eq] at c6
              refine o_guard (hj := rfl) (hd := rfl) (hb := rfl) (h := ?_)
              refine o_move (h := ?_)
              refine o_guard (hj := rfl) (hd := rfl) (hb := rfl) (h := ?_)
              refine o_move (h := ?_)
              refine o_guard (hj := rfl) (hd := rfl) (hb := rfl) (h := ?_)
              refine o_bin (h := ?_)
              refine o_guard (hj := rfl) (hd := rfl) (hb := rfl) (h := ?_)
              refine o_pickT (h := ?_)
              refine o_pickF (h := ?_)
              refine n_thenN (h := ?_)
              refine c_if (ht := fun c7 => ?_) (hf := fun c7 => ?_)
              · try simp only [decide_eq_true_eq, decide_eq_false_iff_not, Bool.not_eq_true', Bool.not_eq_false', Bool.and_eq_true, Bool.or_eq_true, Bool.and_eq_false_iff, Bool.or_eq_false_iff, Decidable.not_not, ne_eq] at c7
                exact absurd ((M.of_agree (op := op) ⟨by omega, by omega⟩ (hu _ (List.getElem_mem _))).2 c6) c7
              · try simp only [decide_eq_true_eq, decide_eq_false_iff_not, Bool.not_eq_true', Bool.not_eq_false', Bool.and_eq_true, Bool.or_eq_true, Bool.and_eq_false_iff, Bool.or_eq_false_iff, Decidable.not_not, ne_eq] at c7
                refine wp_skip ?_
                try change Code.wp _ _ _ _ _
                try change Code.wp _ _ _ _ _
                refine c_region ?_
                refine o_move (h := ?_)
                refine o_add (h0 := by omega) (h1 := by omega) (h := ?_)
                refine o_assign (h := ?_)
                refine n_thenN (h := ?_)
                refine ⟨zs'.length - (k + 1), by omega, k + 1, rfl, by omega, mk_ex, hS⟩
            · try simp only [decide_eq_true_eq, decide_eq_false_iff_not, Bool.not_eq_true', Bool.not_eq_false', Bool.and_eq_true, Bool.or_eq_true, Bool.and_eq_false_iff, Bool.or_eq_false_iff, Decidable.not_not, ne_eq] at c6
              refine o_skip (hj := rfl) (hd := rfl) (hb := by decide) (h := ?_)
              refine o_skip (hj := rfl) (hd := rfl) (hb := by decide) (h := ?_)
              refine o_skip (hj := rfl) (hd := rfl) (hb := by decide) (h := ?_)
              refine o_guard (hj := rfl) (hd := rfl) (hb := rfl) (h := ?_)
              refine o_pickF (h := ?_)
              refine o_pickF (h := ?_)
              refine n_thenN (h := ?_)
              refine c_if_false (h := ?_)
              refine wp_skip ?_
              try change Code.wp _ _ _ _ _
              try change Code.wp _ _ _ _ _
              refine c_region ?_
              refine o_move (h := ?_)
              refine o_add (h0 := by omega) (h1 := by omega) (h := ?_)
              refine o_assign (h := ?_)
              refine n_thenN (h := ?_)
              refine ⟨zs'.length - (k + 1), by omega, k + 1, rfl, by omega, mk_ex, hS⟩
        · try simp only [decide_eq_true_eq, decide_eq_false_iff_not, Bool.not_eq_true', Bool.not_eq_false', Bool.and_eq_true, Bool.or_eq_true, Bool.and_eq_false_iff, Bool.or_eq_false_iff, Decidable.not_not, ne_eq] at c4
          refine wp_exit ?_
          change Code.wp _ _ _ _ _
          try change Code.wp _ _ _ _ _
          refine c_region ?_
          refine o_move (h := ?_)
          refine o_add (h0 := by omega) (h1 := by omega) (h := ?_)
          refine o_assign (h := ?_)
          refine n_thenN (h := ?_)
          refine ⟨zs'.length - (i + 1), by omega, i + 1, rfl, by omega, mk_ex, hS⟩
      · try simp only [decide_eq_true_eq, decide_eq_false_iff_not, Bool.not_eq_true', Bool.not_eq_false', Bool.and_eq_true, Bool.or_eq_true, Bool.and_eq_false_iff, Bool.or_eq_false_iff, Decidable.not_not, ne_eq] at c3
        refine wp_exit ?_
        change Code.wp _ _ _ _ _
        try change Code.wp _ _ _ _ _
        refine c_region ?_
        refine o_move (h := ?_)
        refine o_add (h0 := by omega) (h1 := by omega) (h := ?_)
        refine o_assign (h := ?_)
        refine n_thenN (h := ?_)
        refine ⟨(high + 1 - (op + 1)).toNat, by omega, op + 1, rfl, by omega, mk_ex, hS⟩
    · try simp only [decide_eq_true_eq, decide_eq_false_iff_not, Bool.not_eq_true', Bool.not_eq_false', Bool.and_eq_true, Bool.or_eq_true, Bool.and_eq_false_iff, Bool.or_eq_false_iff, Decidable.not_not, ne_eq] at c2
      refine wp_exit ?_
      change Code.wp _ _ _ _ _
      refine c_seq ?_
      refine c_region ?_
      refine o_callS hS Try.func18 rfl rfl (hc := l1_wakes) (h := ?_)
      clear hS; intro w hS
      refine o_assign (h := ?_)
      refine n_thenN (h := ?_)
      refine wp_ret (r_retS1 (hS.less (Frag.le_plus _ _)) rfl (hR := ?_))
      rfl


end Go.Proofs.Ythpnbgkhoocadaa
