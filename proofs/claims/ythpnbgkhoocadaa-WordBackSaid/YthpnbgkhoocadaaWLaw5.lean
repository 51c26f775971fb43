/- WordBack, walked. -/
import Derived.Test.YthpnbgkhoocadaaProg
import Derived.Test.YthpnbgkhoocadaaWLaw1
import Derived.Test.YthpnbgkhoocadaaMBack
import Derived.KernelRfl
namespace Go.Proofs.Ythpnbgkhoocadaa
open Go.RowKit Fr
set_option linter.unusedVariables false
set_option linter.unusedSimpArgs false
set_option maxRecDepth 20000

set_option maxHeartbeats 8000000 in
theorem law_WordBack {g : Frag} {zs ns : List Int} {vW vN : Value} (hA : AskIn g zs ns vW vN) : LCs Try.prog 11 #[.agg #[vW, vN]] g (.bool true) := by
  refine lc_body (k := 222) (av := [.agg #[vW, vN]]) Try.func11 rfl rfl (h := fun W hS => ?_)
  refine c_seq ?_
  refine c_region ?_
  refine o_box hS (h := ?_)
  clear hS; intro b1 w hS
  refine o_assign (h := ?_)
  refine n_thenN (h := ?_)
  refine c_seq ?_
  refine c_region ?_
  refine o_loadW (hb := (hS.own (by repeat (first | exact List.mem_cons_self | apply List.mem_cons_of_mem | apply List.mem_append_right)))) (hu := Try.underlying25) (hd := rfl) (hi := by exact sz_sledgelaw1_Ask) (h := ?_)
  refine o_call (L1 := []) hS Try.func12 rfl rfl (hc := l1_words hA.plus) (h := ?_)
  clear hS; intro v25 LX w hS hr
  have hS : St W g [] (LX ++ []) w := hS.drop (List.Sublist.append_left (List.nil_sublist _) _)
  have hS1 : St W g [] LX w := by simpa using hS
  have hv := OwT.plus hr hS1 (fun p h => h)
  have hS := St.freeze (L2 := []) hS
  clear hS1
  have hu := words_u32 hA.rw
  have hlen : ((ten ++ zs).take 22).length ≤ 22 := by rw [List.length_take]; omega
  generalize (ten ++ zs).take 22 = zs' at *
  refine o_assign (h := ?_)
  refine n_thenN (h := ?_)
  refine c_seq ?_
  refine c_seq ?_
  refine c_region ?_
  refine o_assign (h := ?_)
  refine n_thenN (h := ?_)
  refine c_block ?_
  refine c_loop (fun n a w' => ∃ (i : Nat), n = zs'.length - i ∧ i ≤ zs'.length ∧ (∃ s : Nat → Value, a = Ac (.lit 222 [.agg #[vW, vN], s 1, .bool false, v25, .int .i64 (i : Nat), s 5, s 6, s 7, s 8, s 9, s 10, s 11, s 12, s 13, s 14, s 15, s 16, s 17, s 18, s 19, s 20, s 21, s 22, s 23, s 24, s 25, s 26, s 27, s 28, s 29, s 30, s 31, s 32, s 33, s 34, s 35, s 36, s 37, s 38, s 39, s 40, s 41, s 42, s 43, s 44, s 45, s 46, s 47, s 48, s 49, s 50, s 51, s 52, s 53, s 54, s 55, s 56, s 57, s 58, s 59, s 60, s 61, s 62, s 63, s 64, s 65, s 66, s 67, s 68, s 69, s 70, s 71, s 72, s 73, s 74, s 75, s 76, s 77, s 78, s 79, s 80, s 81, s 82, s 83, s 84, s 85, s 86, s 87, s 88, s 89, s 90, s 91, s 92, s 93, s 94, s 95, s 96, s 97, s 98, s 99, s 100, s 101, s 102, s 103, s 104, s 105, s 106, s 107, s 108, s 109, s 110, s 111, s 112, s 113, s 114, s 115, s 116, s 117, s 118, s 119, s 120, s 121, s 122, s 123, s 124, s 125, s 126, s 127, s 128, s 129, s 130, s 131, s 132, s 133, s 134, s 135, s 136, s 137, s 138, s 139, s 140, s 141, s 142, s 143, s 144, s 145, s 146, s 147, s 148, s 149, s 150, s 151, s 152, s 153, s 154, s 155, s 156, s 157, s 158, s 159, s 160, s 161, s 162, s 163, s 164, s 165, s 166, s 167, s 168, s 169, s 170, s 171, s 172, s 173, s 174, s 175, s 176, s 177, s 178, s 179, s 180, s 181, s 182, s 183, s 184, s 185, s 186, s 187, s 188, s 189, s 190, s 191, s 192, s 193, s 194, s 195, s 196, s 197, s 198, s 199, s 200, s 201, s 202, s 203, s 204, s 205, s 206, s 207, s 208, s 209, s 210, s 211, s 212, s 213, s 214, s 215, s 216, s 217, s 218, s 219, s 220, s 221])) ∧ St W (g.plus LX) [] ([]) w') (zs'.length) ⟨0, by omega, by omega, mk_ex, hS⟩ ?_
  clear hS
  rintro n a w ⟨i, rfl, hi1, ⟨s, rfl⟩, hS⟩
  refine c_seq ?_
  refine c_seq ?_
  refine c_region ?_
  refine o_move (h := ?_)
  refine o_move (h := ?_)
  refine o_lenT (hr := hv) (ht := Try.underlying22) (h := ?_)
  refine o_bin (h := ?_)
  refine n_thenN (h := ?_)
  refine c_if (ht := fun c1 => ?_) (hf := fun c1 => ?_)
  · try simp only [decide_eq_true_eq, decide_eq_false_iff_not, Bool.not_eq_true', Bool.not_eq_false', Bool.and_eq_true, Bool.or_eq_true, Bool.and_eq_false_iff, Bool.or_eq_false_iff, Decidable.not_not, ne_eq] at c1
    refine wp_skip ?_
    try change Code.wp _ _ _ _ _
    refine c_seq ?_
    refine c_block ?_
    refine c_seq ?_
    refine c_region ?_
    refine o_move (h := ?_)
    refine o_move (h := ?_)
    refine o_indexT (hr := hv) (he := eW_len) (ht := Try.underlying22) (hsz := el_uint32.size) (h0 := by omega) (h1 := by omega) (h := ?_)
    intro b34 o34 cs34 e34 fz34 hb34 hc34
    refine o_load (hb := (hS.block hb34)) (hu := Try.underlying28) (hd := rfl) (hv := (hc34 0 _ rfl)) (h := ?_)
    refine o_conv (hs := Try.underlying28) (ht := Try.underlying21) (h := ?_)
    refine o_conv (hs := Try.underlying21) (ht := Try.underlying3) (h := ?_)
    refine o_assign (h := ?_)
    refine n_thenN (h := ?_)
    refine c_seq ?_
    refine c_seq ?_
    refine c_region ?_
    refine o_assign (h := ?_)
    refine n_thenN (h := ?_)
    refine c_block ?_
    refine c_loop (fun n a w' => ∃ b, n = (33 - b).toNat ∧ 1 ≤ b ∧ (∃ s : Nat → Value, a = Ac (.lit 222 [.agg #[vW, vN], s 1, .bool false, v25, .int .i64 (i : Nat), .int .i64 (IntKind.i64.wrap (IntKind.i32.wrap zs'[i])), .int .i64 b, s 7, s 8, s 9, s 10, s 11, s 12, s 13, s 14, s 15, s 16, s 17, s 18, s 19, s 20, s 21, s 22, s 23, s 24, s 25, s 26, s 27, s 28, s 29, s 30, s 31, s 32, s 33, s 34, s 35, s 36, s 37, s 38, s 39, s 40, s 41, s 42, s 43, s 44, s 45, s 46, s 47, s 48, s 49, s 50, s 51, s 52, s 53, s 54, s 55, s 56, s 57, s 58, s 59, s 60, s 61, s 62, s 63, s 64, s 65, s 66, s 67, s 68, s 69, s 70, s 71, s 72, s 73, s 74, s 75, s 76, s 77, s 78, s 79, s 80, s 81, s 82, s 83, s 84, s 85, s 86, s 87, s 88, s 89, s 90, s 91, s 92, s 93, s 94, s 95, s 96, s 97, s 98, s 99, s 100, s 101, s 102, s 103, s 104, s 105, s 106, s 107, s 108, s 109, s 110, s 111, s 112, s 113, s 114, s 115, s 116, s 117, s 118, s 119, s 120, s 121, s 122, s 123, s 124, s 125, s 126, s 127, s 128, s 129, s 130, s 131, s 132, s 133, s 134, s 135, s 136, s 137, s 138, s 139, s 140, s 141, s 142, s 143, s 144, s 145, s 146, s 147, s 148, s 149, s 150, s 151, s 152, s 153, s 154, s 155, s 156, s 157, s 158, s 159, s 160, s 161, s 162, s 163, s 164, s 165, s 166, s 167, s 168, s 169, s 170, s 171, s 172, s 173, s 174, s 175, s 176, s 177, s 178, s 179, s 180, s 181, s 182, s 183, s 184, s 185, s 186, s 187, s 188, s 189, s 190, s 191, s 192, s 193, s 194, s 195, s 196, s 197, s 198, s 199, s 200, s 201, s 202, s 203, s 204, s 205, s 206, s 207, s 208, s 209, s 210, s 211, s 212, s 213, s 214, s 215, s 216, s 217, s 218, s 219, s 220, s 221])) ∧ St W (g.plus LX) [] ([]) w') (32) ⟨1, rfl, by omega, mk_ex, hS⟩ ?_
    clear hS
    rintro n a w ⟨b, rfl, hb1, ⟨s, rfl⟩, hS⟩
    refine c_seq ?_
    refine c_seq ?_
    refine c_region ?_
    refine o_move (h := ?_)
    refine o_bin (h := ?_)
    refine n_thenN (h := ?_)
    refine c_if (ht := fun c2 => ?_) (hf := fun c2 => ?_)
    · try simp only [decide_eq_true_eq, decide_eq_false_iff_not, Bool.not_eq_true', Bool.not_eq_false', Bool.and_eq_true, Bool.or_eq_true, Bool.and_eq_false_iff, Bool.or_eq_false_iff, Decidable.not_not, ne_eq] at c2
      refine wp_skip ?_
      try change Code.wp _ _ _ _ _
      refine c_seq ?_
      refine c_block ?_
      refine c_seq ?_
      refine c_region ?_
      refine o_move (h := ?_)
      refine o_move (h := ?_)
      refine o_callS hS Try.func22 rfl rfl (hc := w_Cut) (h := ?_)
      clear hS; intro w hS
      refine o_move (h := ?_)
      refine o_extract (hv := rfl) (h := ?_)
      refine o_extract (hv := rfl) (h := ?_)
      refine o_assign (h := ?_)
      refine o_assign (h := ?_)
      refine n_thenN (h := ?_)
      refine c_seq ?_
      refine c_seq ?_
      refine c_region ?_
      refine o_move (h := ?_)
      refine o_callS hS Try.func17 rfl rfl (hc := l1_num) (h := ?_)
      clear hS; intro w hS
      refine o_bin (h := ?_)
      refine n_thenN (h := ?_)
      refine c_if (ht := fun c3 => ?_) (hf := fun c3 => ?_)
      · try simp only [decide_eq_true_eq, decide_eq_false_iff_not, Bool.not_eq_true', Bool.not_eq_false', Bool.and_eq_true, Bool.or_eq_true, Bool.and_eq_false_iff, Bool.or_eq_false_iff, Decidable.not_not, ne_eq] at c3
        refine wp_exit ?_
        change Code.wp _ _ _ _ _
        refine c_region ?_
        refine o_move (h := ?_)
        refine o_add (h0 := by omega) (h1 := by omega) (h := ?_)
        refine o_assign (h := ?_)
        refine n_thenN (h := ?_)
        refine ⟨(33 - (b + 1)).toNat, by omega, b + 1, rfl, by omega, mk_ex, hS⟩
      · try simp only [decide_eq_true_eq, decide_eq_false_iff_not, Bool.not_eq_true', Bool.not_eq_false', Bool.and_eq_true, Bool.or_eq_true, Bool.and_eq_false_iff, Bool.or_eq_false_iff, Decidable.not_not, ne_eq] at c3
        refine wp_skip ?_
        try change Code.wp _ _ _ _ _
        refine c_seq ?_
        refine c_region ?_
        refine o_move (h := ?_)
        refine o_move (h := ?_)
        refine o_callS hS Try.func24 rfl rfl (hc := w_Sign) (h := ?_)
        clear hS; intro w hS
        refine o_move (h := ?_)
        refine o_extract (hv := rfl) (h := ?_)
        refine o_extract (hv := rfl) (h := ?_)
        refine o_assign (h := ?_)
        refine o_assign (h := ?_)
        refine n_thenN (h := ?_)
        refine c_seq ?_
        refine c_region ?_
        refine o_move (h := ?_)
        refine o_callS hS Try.func17 rfl rfl (hc := l1_num) (h := ?_)
        clear hS; intro w hS
        refine o_bin (h := ?_)
        refine o_split (ht := fun c4 => ?_) (hf := fun c4 => ?_)
        · try simp only [decide_eq_true_eq, decide_eq_false_iff_not, Bool.not_eq_true', Bool.not_eq_false', Bool.and_eq_true, Bool.or_eq_true, Bool.and_eq_false_iff, Bool.or_eq_false_iff, Decidable.not_not, ne_eq] at c4
          exact absurd (congrArg Prod.snd (M.back ⟨by omega, by omega⟩ c3)) c4
        · try simp only [decide_eq_true_eq, decide_eq_false_iff_not, Bool.not_eq_true', Bool.not_eq_false', Bool.and_eq_true, Bool.or_eq_true, Bool.and_eq_false_iff, Bool.or_eq_false_iff, Decidable.not_not, ne_eq] at c4
          refine o_guard (hj := rfl) (hd := rfl) (hb := rfl) (h := ?_)
          refine o_move (h := ?_)
          refine o_guard (hj := rfl) (hd := rfl) (hb := rfl) (h := ?_)
          refine o_move (h := ?_)
          refine o_guard (hj := rfl) (hd := rfl) (hb := rfl) (h := ?_)
          refine o_bin (h := ?_)
          refine o_pickF (h := ?_)
          refine n_thenN (h := ?_)
          refine c_if (ht := fun c5 => ?_) (hf := fun c5 => ?_)
          · try simp only [decide_eq_true_eq, decide_eq_false_iff_not, Bool.not_eq_true', Bool.not_eq_false', Bool.and_eq_true, Bool.or_eq_true, Bool.and_eq_false_iff, Bool.or_eq_false_iff, Decidable.not_not, ne_eq] at c5
            exact absurd (congrArg Prod.fst (M.back ⟨by omega, by omega⟩ c3)) c5
          · try simp only [decide_eq_true_eq, decide_eq_false_iff_not, Bool.not_eq_true', Bool.not_eq_false', Bool.and_eq_true, Bool.or_eq_true, Bool.and_eq_false_iff, Bool.or_eq_false_iff, Decidable.not_not, ne_eq] at c5
            refine wp_skip ?_
            try change Code.wp _ _ _ _ _
            try change Code.wp _ _ _ _ _
            refine c_region ?_
            refine o_move (h := ?_)
            refine o_add (h0 := by omega) (h1 := by omega) (h := ?_)
            refine o_assign (h := ?_)
            refine n_thenN (h := ?_)
            refine ⟨(33 - (b + 1)).toNat, by omega, b + 1, rfl, by omega, mk_ex, hS⟩
    · try simp only [decide_eq_true_eq, decide_eq_false_iff_not, Bool.not_eq_true', Bool.not_eq_false', Bool.and_eq_true, Bool.or_eq_true, Bool.and_eq_false_iff, Bool.or_eq_false_iff, Decidable.not_not, ne_eq] at c2
      refine wp_exit ?_
      change Code.wp _ _ _ _ _
      refine c_seq ?_
      refine c_region ?_
      refine o_assign (h := ?_)
      refine n_thenN (h := ?_)
      refine c_block ?_
      refine c_loop (fun n a w' => ∃ (k : Nat), n = zs'.length - k ∧ k ≤ zs'.length ∧ (∃ s : Nat → Value, a = Ac (.lit 222 [.agg #[vW, vN], s 1, .bool false, v25, .int .i64 (i : Nat), s 5, s 6, s 7, s 8, s 9, s 10, .int .i64 (k : Nat), s 12, s 13, s 14, s 15, s 16, s 17, s 18, s 19, s 20, s 21, s 22, s 23, s 24, s 25, s 26, s 27, s 28, s 29, s 30, s 31, s 32, s 33, s 34, s 35, s 36, s 37, s 38, s 39, s 40, s 41, s 42, s 43, s 44, s 45, s 46, s 47, s 48, s 49, s 50, s 51, s 52, s 53, s 54, s 55, s 56, s 57, s 58, s 59, s 60, s 61, s 62, s 63, s 64, s 65, s 66, s 67, s 68, s 69, s 70, s 71, s 72, s 73, s 74, s 75, s 76, s 77, s 78, s 79, s 80, s 81, s 82, s 83, s 84, s 85, s 86, s 87, s 88, s 89, s 90, s 91, s 92, s 93, s 94, s 95, s 96, s 97, s 98, s 99, s 100, s 101, s 102, s 103, s 104, s 105, s 106, s 107, s 108, s 109, s 110, s 111, s 112, s 113, s 114, s 115, s 116, s 117, s 118, s 119, s 120, s 121, s 122, s 123, s 124, s 125, s 126, s 127, s 128, s 129, s 130, s 131, s 132, s 133, s 134, s 135, s 136, s 137, s 138, s 139, s 140, s 141, s 142, s 143, s 144, s 145, s 146, s 147, s 148, s 149, s 150, s 151, s 152, s 153, s 154, s 155, s 156, s 157, s 158, s 159, s 160, s 161, s 162, s 163, s 164, s 165, s 166, s 167, s 168, s 169, s 170, s 171, s 172, s 173, s 174, s 175, s 176, s 177, s 178, s 179, s 180, s 181, s 182, s 183, s 184, s 185, s 186, s 187, s 188, s 189, s 190, s 191, s 192, s 193, s 194, s 195, s 196, s 197, s 198, s 199, s 200, s 201, s 202, s 203, s 204, s 205, s 206, s 207, s 208, s 209, s 210, s 211, s 212, s 213, s 214, s 215, s 216, s 217, s 218, s 219, s 220, s 221])) ∧ St W (g.plus LX) [] ([]) w') (zs'.length) ⟨0, by omega, by omega, mk_ex, hS⟩ ?_
      clear hS
      rintro n a w ⟨k, rfl, hk1, ⟨s, rfl⟩, hS⟩
      refine c_seq ?_
      refine c_seq ?_
      refine c_region ?_
      refine o_move (h := ?_)
      refine o_move (h := ?_)
      refine o_lenT (hr := hv) (ht := Try.underlying22) (h := ?_)
      refine o_bin (h := ?_)
      refine n_thenN (h := ?_)
      refine c_if (ht := fun c6 => ?_) (hf := fun c6 => ?_)
      · try simp only [decide_eq_true_eq, decide_eq_false_iff_not, Bool.not_eq_true', Bool.not_eq_false', Bool.and_eq_true, Bool.or_eq_true, Bool.and_eq_false_iff, Bool.or_eq_false_iff, Decidable.not_not, ne_eq] at c6
        refine wp_skip ?_
        try change Code.wp _ _ _ _ _
        refine c_seq ?_
        refine c_block ?_
        refine c_seq ?_
        refine c_quiet (by kernel_rfl) (by kernel_rfl) hS ?_
        refine q_move (h := ?_)
        refine q_move (h := ?_)
        refine q_indexT (hr := hv) (he := eW_len) (ht := Try.underlying22) (hsz := el_uint32.size) (h0 := by omega) (h1 := by omega) (h := ?_)
        intro b74 o74 cs74 e74 fz74 hb74 hc74
        refine q_load (hb := (fun w hS => hS.block hb74)) (hu := Try.underlying28) (hd := rfl) (hv := (hc74 0 _ rfl)) (h := ?_)
        refine q_move (h := ?_)
        refine q_move (h := ?_)
        refine q_indexT (hr := hv) (he := eW_len) (ht := Try.underlying22) (hsz := el_uint32.size) (h0 := by omega) (h1 := by omega) (h := ?_)
        intro b78 o78 cs78 e78 fz78 hb78 hc78
        refine q_load (hb := (fun w hS => hS.block hb78)) (hu := Try.underlying28) (hd := rfl) (hv := (hc78 0 _ rfl)) (h := ?_)
        refine q_callS Try.func15 rfl rfl (hc := (w_Of (hu _ (List.getElem_mem _)) (hu _ (List.getElem_mem _)))) (h := ?_)
        refine q_move (h := ?_)
        refine q_extract (hv := rfl) (h := ?_)
        refine q_extract (hv := rfl) (h := ?_)
        refine q_assign (h := ?_)
        refine q_assign (h := ?_)
        refine q_nilN (h := ?_)
        clear hS; intro w hS
        try change Code.wp _ _ _ _ _
        refine c_seq ?_
        refine c_region ?_
        refine o_move (h := ?_)
        refine o_move (h := ?_)
        refine o_move (h := ?_)
        refine o_indexT (hr := hv) (he := eW_len) (ht := Try.underlying22) (hsz := el_uint32.size) (h0 := by omega) (h1 := by omega) (h := ?_)
        intro b87 o87 cs87 e87 fz87 hb87 hc87
        refine o_load (hb := (hS.block hb87)) (hu := Try.underlying28) (hd := rfl) (hv := (hc87 0 _ rfl)) (h := ?_)
        refine o_callS hS Try.func15 rfl rfl (hc := (w_Of (M.first1 _ _) (hu _ (List.getElem_mem _)))) (h := ?_)
        clear hS; intro w hS
        refine o_move (h := ?_)
        refine o_extract (hv := rfl) (h := ?_)
        refine o_extract (hv := rfl) (h := ?_)
        refine o_assign (h := ?_)
        refine o_assign (h := ?_)
        refine n_thenN (h := ?_)
        refine c_seq ?_
        refine c_quiet (by kernel_rfl) (by kernel_rfl) hS ?_
        refine q_move (h := ?_)
        refine q_move (h := ?_)
        refine q_indexT (hr := hv) (he := eW_len) (ht := Try.underlying22) (hsz := el_uint32.size) (h0 := by omega) (h1 := by omega) (h := ?_)
        intro b95 o95 cs95 e95 fz95 hb95 hc95
        refine q_load (hb := (fun w hS => hS.block hb95)) (hu := Try.underlying28) (hd := rfl) (hv := (hc95 0 _ rfl)) (h := ?_)
        refine q_move (h := ?_)
        refine q_move (h := ?_)
        refine q_indexT (hr := hv) (he := eW_len) (ht := Try.underlying22) (hsz := el_uint32.size) (h0 := by omega) (h1 := by omega) (h := ?_)
        intro b99 o99 cs99 e99 fz99 hb99 hc99
        refine q_load (hb := (fun w hS => hS.block hb99)) (hu := Try.underlying28) (hd := rfl) (hv := (hc99 0 _ rfl)) (h := ?_)
        refine q_callS Try.func15 rfl rfl (hc := (w_Of (hu _ (List.getElem_mem _)) (hu _ (List.getElem_mem _)))) (h := ?_)
        refine q_move (h := ?_)
        refine q_extract (hv := rfl) (h := ?_)
        refine q_extract (hv := rfl) (h := ?_)
        refine q_assign (h := ?_)
        refine q_assign (h := ?_)
        refine q_nilN (h := ?_)
        clear hS; intro w hS
        try change Code.wp _ _ _ _ _
        refine c_seq ?_
        refine c_quiet (by kernel_rfl) (by kernel_rfl) hS ?_
        refine q_move (h := ?_)
        refine q_move (h := ?_)
        refine q_indexT (hr := hv) (he := eW_len) (ht := Try.underlying22) (hsz := el_uint32.size) (h0 := by omega) (h1 := by omega) (h := ?_)
        intro b107 o107 cs107 e107 fz107 hb107 hc107
        refine q_load (hb := (fun w hS => hS.block hb107)) (hu := Try.underlying28) (hd := rfl) (hv := (hc107 0 _ rfl)) (h := ?_)
        refine q_move (h := ?_)
        refine q_move (h := ?_)
        refine q_indexT (hr := hv) (he := eW_len) (ht := Try.underlying22) (hsz := el_uint32.size) (h0 := by omega) (h1 := by omega) (h := ?_)
        intro b111 o111 cs111 e111 fz111 hb111 hc111
        refine q_load (hb := (fun w hS => hS.block hb111)) (hu := Try.underlying28) (hd := rfl) (hv := (hc111 0 _ rfl)) (h := ?_)
        refine q_callS Try.func15 rfl rfl (hc := (w_Of (hu _ (List.getElem_mem _)) (hu _ (List.getElem_mem _)))) (h := ?_)
        refine q_move (h := ?_)
        refine q_extract (hv := rfl) (h := ?_)
        refine q_extract (hv := rfl) (h := ?_)
        refine q_assign (h := ?_)
        refine q_assign (h := ?_)
        refine q_nilN (h := ?_)
        clear hS; intro w hS
        try change Code.wp _ _ _ _ _
        refine c_seq ?_
        refine c_quiet (by kernel_rfl) (by kernel_rfl) hS ?_
        refine q_move (h := ?_)
        refine q_move (h := ?_)
        refine q_indexT (hr := hv) (he := eW_len) (ht := Try.underlying22) (hsz := el_uint32.size) (h0 := by omega) (h1 := by omega) (h := ?_)
        intro b119 o119 cs119 e119 fz119 hb119 hc119
        refine q_load (hb := (fun w hS => hS.block hb119)) (hu := Try.underlying28) (hd := rfl) (hv := (hc119 0 _ rfl)) (h := ?_)
        refine q_move (h := ?_)
        refine q_move (h := ?_)
        refine q_indexT (hr := hv) (he := eW_len) (ht := Try.underlying22) (hsz := el_uint32.size) (h0 := by omega) (h1 := by omega) (h := ?_)
        intro b123 o123 cs123 e123 fz123 hb123 hc123
        refine q_load (hb := (fun w hS => hS.block hb123)) (hu := Try.underlying28) (hd := rfl) (hv := (hc123 0 _ rfl)) (h := ?_)
        refine q_callS Try.func15 rfl rfl (hc := (w_Of (hu _ (List.getElem_mem _)) (hu _ (List.getElem_mem _)))) (h := ?_)
        refine q_move (h := ?_)
        refine q_extract (hv := rfl) (h := ?_)
        refine q_extract (hv := rfl) (h := ?_)
        refine q_assign (h := ?_)
        refine q_assign (h := ?_)
        refine q_nilN (h := ?_)
        clear hS; intro w hS
        try change Code.wp _ _ _ _ _
        refine c_seq ?_
        refine c_region ?_
        refine o_move (h := ?_)
        refine o_move (h := ?_)
        refine o_move (h := ?_)
        refine o_indexT (hr := hv) (he := eW_len) (ht := Try.underlying22) (hsz := el_uint32.size) (h0 := by omega) (h1 := by omega) (h := ?_)
        intro b132 o132 cs132 e132 fz132 hb132 hc132
        refine o_load (hb := (hS.block hb132)) (hu := Try.underlying28) (hd := rfl) (hv := (hc132 0 _ rfl)) (h := ?_)
        refine o_callS hS Try.func15 rfl rfl (hc := (w_Of (M.first6 _ _) (hu _ (List.getElem_mem _)))) (h := ?_)
        clear hS; intro w hS
        refine o_move (h := ?_)
        refine o_extract (hv := rfl) (h := ?_)
        refine o_extract (hv := rfl) (h := ?_)
        refine o_assign (h := ?_)
        refine o_assign (h := ?_)
        refine n_thenN (h := ?_)
        refine c_seq ?_
        refine c_quiet (by kernel_rfl) (by kernel_rfl) hS ?_
        refine q_move (h := ?_)
        refine q_callS Try.func17 rfl rfl (hc := l1_num) (h := ?_)
        refine q_bin (h := ?_)
        refine q_split (ht := fun c7 => ?_) (hf := fun c7 => ?_)
        · try simp only [decide_eq_true_eq, decide_eq_false_iff_not, Bool.not_eq_true', Bool.not_eq_false', Bool.and_eq_true, Bool.or_eq_true, Bool.and_eq_false_iff, Bool.or_eq_false_iff, Decidable.not_not, ne_eq] at c7
          exact absurd (congrArg Prod.snd (M.of_1 _ _)) c7
        · try simp only [decide_eq_true_eq, decide_eq_false_iff_not, Bool.not_eq_true', Bool.not_eq_false', Bool.and_eq_true, Bool.or_eq_true, Bool.and_eq_false_iff, Bool.or_eq_false_iff, Decidable.not_not, ne_eq] at c7
          refine q_guard (hj := rfl) (hd := rfl) (hb := rfl) (h := ?_)
          refine q_move (h := ?_)
          refine q_guard (hj := rfl) (hd := rfl) (hb := rfl) (h := ?_)
          refine q_callS Try.func17 rfl rfl (hc := l1_num) (h := ?_)
          refine q_guard (hj := rfl) (hd := rfl) (hb := rfl) (h := ?_)
          refine q_bin (h := ?_)
          refine q_pickF (h := ?_)
          refine q_split (ht := fun c8 => ?_) (hf := fun c8 => ?_)
          · try simp only [decide_eq_true_eq, decide_eq_false_iff_not, Bool.not_eq_true', Bool.not_eq_false', Bool.and_eq_true, Bool.or_eq_true, Bool.and_eq_false_iff, Bool.or_eq_false_iff, Decidable.not_not, ne_eq] at c8
            exact absurd (congrArg Prod.snd (M.of_2 _ _)) c8
          · try simp only [decide_eq_true_eq, decide_eq_false_iff_not, Bool.not_eq_true', Bool.not_eq_false', Bool.and_eq_true, Bool.or_eq_true, Bool.and_eq_false_iff, Bool.or_eq_false_iff, Decidable.not_not, ne_eq] at c8
            refine q_guard (hj := rfl) (hd := rfl) (hb := rfl) (h := ?_)
            refine q_move (h := ?_)
            refine q_guard (hj := rfl) (hd := rfl) (hb := rfl) (h := ?_)
            refine q_move (h := ?_)
            refine q_guard (hj := rfl) (hd := rfl) (hb := rfl) (h := ?_)
            refine q_move (h := ?_)
            refine q_guard (hj := rfl) (hd := rfl) (hb := rfl) (h := ?_)
            refine q_indexT (hr := hv) (he := eW_len) (ht := Try.underlying22) (hsz := el_uint32.size) (h0 := by omega) (h1 := by omega) (h := ?_)
            intro b149 o149 cs149 e149 fz149 hb149 hc149
            refine q_guard (hj := rfl) (hd := rfl) (hb := rfl) (h := ?_)
            refine q_load (hb := (fun w hS => hS.block hb149)) (hu := Try.underlying28) (hd := rfl) (hv := (hc149 0 _ rfl)) (h := ?_)
            refine q_guard (hj := rfl) (hd := rfl) (hb := rfl) (h := ?_)
            refine q_bin (h := ?_)
            refine q_pickF (h := ?_)
            refine q_split (ht := fun c9 => ?_) (hf := fun c9 => ?_)
            · try simp only [decide_eq_true_eq, decide_eq_false_iff_not, Bool.not_eq_true', Bool.not_eq_false', Bool.and_eq_true, Bool.or_eq_true, Bool.and_eq_false_iff, Bool.or_eq_false_iff, Decidable.not_not, ne_eq] at c9
              exact absurd (M.sum_back (hu _ (List.getElem_mem _))) c9
            · try simp only [decide_eq_true_eq, decide_eq_false_iff_not, Bool.not_eq_true', Bool.not_eq_false', Bool.and_eq_true, Bool.or_eq_true, Bool.and_eq_false_iff, Bool.or_eq_false_iff, Decidable.not_not, ne_eq] at c9
              refine q_guard (hj := rfl) (hd := rfl) (hb := rfl) (h := ?_)
              refine q_move (h := ?_)
              refine q_guard (hj := rfl) (hd := rfl) (hb := rfl) (h := ?_)
              refine q_callS Try.func17 rfl rfl (hc := l1_num) (h := ?_)
              refine q_guard (hj := rfl) (hd := rfl) (hb := rfl) (h := ?_)
              refine q_move (h := ?_)
              refine q_guard (hj := rfl) (hd := rfl) (hb := rfl) (h := ?_)
              refine q_callS Try.func17 rfl rfl (hc := l1_num) (h := ?_)
              refine q_guard (hj := rfl) (hd := rfl) (hb := rfl) (h := ?_)
              refine q_bin (h := ?_)
              refine q_pickF (h := ?_)
              refine q_split (ht := fun c10 => ?_) (hf := fun c10 => ?_)
              · try simp only [decide_eq_true_eq, decide_eq_false_iff_not, Bool.not_eq_true', Bool.not_eq_false', Bool.and_eq_true, Bool.or_eq_true, Bool.and_eq_false_iff, Bool.or_eq_false_iff, Decidable.not_not, ne_eq] at c10
                exact absurd (M.halts_alike _ _) c10
              · try simp only [decide_eq_true_eq, decide_eq_false_iff_not, Bool.not_eq_true', Bool.not_eq_false', Bool.and_eq_true, Bool.or_eq_true, Bool.and_eq_false_iff, Bool.or_eq_false_iff, Decidable.not_not, ne_eq] at c10
                refine q_guard (hj := rfl) (hd := rfl) (hb := rfl) (h := ?_)
                refine q_move (h := ?_)
                refine q_guard (hj := rfl) (hd := rfl) (hb := rfl) (h := ?_)
                refine q_callS Try.func17 rfl rfl (hc := l1_num) (h := ?_)
                refine q_guard (hj := rfl) (hd := rfl) (hb := rfl) (h := ?_)
                refine q_bin (h := ?_)
                refine q_guard (hj := rfl) (hd := rfl) (hb := rfl) (h := ?_)
                refine q_move (h := ?_)
                refine q_guard (hj := rfl) (hd := rfl) (hb := rfl) (h := ?_)
                refine q_move (h := ?_)
                refine q_guard (hj := rfl) (hd := rfl) (hb := rfl) (h := ?_)
                refine q_indexT (hr := hv) (he := eW_len) (ht := Try.underlying22) (hsz := el_uint32.size) (h0 := by omega) (h1 := by omega) (h := ?_)
                intro b166 o166 cs166 e166 fz166 hb166 hc166
                refine q_guard (hj := rfl) (hd := rfl) (hb := rfl) (h := ?_)
                refine q_load (hb := (fun w hS => hS.block hb166)) (hu := Try.underlying28) (hd := rfl) (hv := (hc166 0 _ rfl)) (h := ?_)
                refine q_guard (hj := rfl) (hd := rfl) (hb := rfl) (h := ?_)
                refine q_bin (h := ?_)
                refine q_guard (hj := rfl) (hd := rfl) (hb := rfl) (h := ?_)
                refine q_bneq (ht := Try.underlying4) (h := ?_)
                refine q_pickF (h := ?_)
                refine q_split (ht := fun c11 => ?_) (hf := fun c11 => ?_)
                · try simp only [decide_eq_true_eq, decide_eq_false_iff_not, Bool.not_eq_true', Bool.not_eq_false', Bool.and_eq_true, Bool.or_eq_true, Bool.and_eq_false_iff, Bool.or_eq_false_iff, Decidable.not_not, ne_eq] at c11
                  exact absurd c11 (by rw [M.or_nought2]; decide)
                · try simp only [decide_eq_true_eq, decide_eq_false_iff_not, Bool.not_eq_true', Bool.not_eq_false', Bool.and_eq_true, Bool.or_eq_true, Bool.and_eq_false_iff, Bool.or_eq_false_iff, Decidable.not_not, ne_eq] at c11
                  refine q_guard (hj := rfl) (hd := rfl) (hb := rfl) (h := ?_)
                  refine q_move (h := ?_)
                  refine q_guard (hj := rfl) (hd := rfl) (hb := rfl) (h := ?_)
                  refine q_callS Try.func17 rfl rfl (hc := l1_num) (h := ?_)
                  refine q_guard (hj := rfl) (hd := rfl) (hb := rfl) (h := ?_)
                  refine q_bin (h := ?_)
                  refine q_guard (hj := rfl) (hd := rfl) (hb := rfl) (h := ?_)
                  refine q_split (ht := fun c12 => ?_) (hf := fun c12 => ?_)
                  · try simp only [decide_eq_true_eq, decide_eq_false_iff_not, Bool.not_eq_true', Bool.not_eq_false', Bool.and_eq_true, Bool.or_eq_true, Bool.and_eq_false_iff, Bool.or_eq_false_iff, Decidable.not_not, ne_eq] at c12
                    refine q_guard (hj := rfl) (hd := rfl) (hb := rfl) (h := ?_)
                    refine q_move (h := ?_)
                    refine q_guard (hj := rfl) (hd := rfl) (hb := rfl) (h := ?_)
                    refine q_move (h := ?_)
                    refine q_guard (hj := rfl) (hd := rfl) (hb := rfl) (h := ?_)
                    refine q_move (h := ?_)
                    refine q_guard (hj := rfl) (hd := rfl) (hb := rfl) (h := ?_)
                    refine q_indexT (hr := hv) (he := eW_len) (ht := Try.underlying22) (hsz := el_uint32.size) (h0 := by omega) (h1 := by omega) (h := ?_)
                    intro b179 o179 cs179 e179 fz179 hb179 hc179
                    refine q_guard (hj := rfl) (hd := rfl) (hb := rfl) (h := ?_)
                    refine q_load (hb := (fun w hS => hS.block hb179)) (hu := Try.underlying28) (hd := rfl) (hv := (hc179 0 _ rfl)) (h := ?_)
                    refine q_guard (hj := rfl) (hd := rfl) (hb := rfl) (h := ?_)
                    refine q_bin (h := ?_)
                    refine q_guard (hj := rfl) (hd := rfl) (hb := rfl) (h := ?_)
                    refine q_move (h := ?_)
                    refine q_guard (hj := rfl) (hd := rfl) (hb := rfl) (h := ?_)
                    refine q_bin (h := ?_)
                    refine q_guard (hj := rfl) (hd := rfl) (hb := rfl) (h := ?_)
                    refine q_move (h := ?_)
                    refine q_guard (hj := rfl) (hd := rfl) (hb := rfl) (h := ?_)
                    refine q_move (h := ?_)
                    refine q_guard (hj := rfl) (hd := rfl) (hb := rfl) (h := ?_)
                    refine q_indexT (hr := hv) (he := eW_len) (ht := Try.underlying22) (hsz := el_uint32.size) (h0 := by omega) (h1 := by omega) (h := ?_)
                    intro b186 o186 cs186 e186 fz186 hb186 hc186
                    refine q_guard (hj := rfl) (hd := rfl) (hb := rfl) (h := ?_)
                    refine q_load (hb := (fun w hS => hS.block hb186)) (hu := Try.underlying28) (hd := rfl) (hv := (hc186 0 _ rfl)) (h := ?_)
                    refine q_guard (hj := rfl) (hd := rfl) (hb := rfl) (h := ?_)
                    refine q_bin (h := ?_)
                    refine q_guard (hj := rfl) (hd := rfl) (hb := rfl) (h := ?_)
                    refine q_pickT (h := ?_)
                    refine q_pickF (h := ?_)
                    refine q_split (ht := fun c13 => ?_) (hf := fun c13 => ?_)
                    · try simp only [decide_eq_true_eq, decide_eq_false_iff_not, Bool.not_eq_true', Bool.not_eq_false', Bool.and_eq_true, Bool.or_eq_true, Bool.and_eq_false_iff, Bool.or_eq_false_iff, Decidable.not_not, ne_eq] at c13
                      exact absurd (M.rest_back (hu _ (List.getElem_mem _)) (hu _ (List.getElem_mem _)) c12) c13
                    · try simp only [decide_eq_true_eq, decide_eq_false_iff_not, Bool.not_eq_true', Bool.not_eq_false', Bool.and_eq_true, Bool.or_eq_true, Bool.and_eq_false_iff, Bool.or_eq_false_iff, Decidable.not_not, ne_eq] at c13
                      refine q_guard (hj := rfl) (hd := rfl) (hb := rfl) (h := ?_)
                      refine q_move (h := ?_)
                      refine q_guard (hj := rfl) (hd := rfl) (hb := rfl) (h := ?_)
                      refine q_callS Try.func17 rfl rfl (hc := l1_num) (h := ?_)
                      refine q_guard (hj := rfl) (hd := rfl) (hb := rfl) (h := ?_)
                      refine q_bin (h := ?_)
                      refine q_pickF (h := ?_)
                      refine q_split (ht := fun c14 => ?_) (hf := fun c14 => ?_)
                      · try simp only [decide_eq_true_eq, decide_eq_false_iff_not, Bool.not_eq_true', Bool.not_eq_false', Bool.and_eq_true, Bool.or_eq_true, Bool.and_eq_false_iff, Bool.or_eq_false_iff, Decidable.not_not, ne_eq] at c14
                        exact absurd (M.of_6s _ _) c14
                      · try simp only [decide_eq_true_eq, decide_eq_false_iff_not, Bool.not_eq_true', Bool.not_eq_false', Bool.and_eq_true, Bool.or_eq_true, Bool.and_eq_false_iff, Bool.or_eq_false_iff, Decidable.not_not, ne_eq] at c14
                        refine q_guard (hj := rfl) (hd := rfl) (hb := rfl) (h := ?_)
                        refine q_move (h := ?_)
                        refine q_guard (hj := rfl) (hd := rfl) (hb := rfl) (h := ?_)
                        refine q_callS Try.func17 rfl rfl (hc := l1_num) (h := ?_)
                        refine q_guard (hj := rfl) (hd := rfl) (hb := rfl) (h := ?_)
                        refine q_bin (h := ?_)
                        refine q_pickF (h := ?_)
                        refine q_split (ht := fun c15 => ?_) (hf := fun c15 => ?_)
                        · try simp only [decide_eq_true_eq, decide_eq_false_iff_not, Bool.not_eq_true', Bool.not_eq_false', Bool.and_eq_true, Bool.or_eq_true, Bool.and_eq_false_iff, Bool.or_eq_false_iff, Decidable.not_not, ne_eq] at c15
                          exact absurd (M.of_7s _ _) c15
                        · try simp only [decide_eq_true_eq, decide_eq_false_iff_not, Bool.not_eq_true', Bool.not_eq_false', Bool.and_eq_true, Bool.or_eq_true, Bool.and_eq_false_iff, Bool.or_eq_false_iff, Decidable.not_not, ne_eq] at c15
                          refine q_guard (hj := rfl) (hd := rfl) (hb := rfl) (h := ?_)
                          refine q_move (h := ?_)
                          refine q_guard (hj := rfl) (hd := rfl) (hb := rfl) (h := ?_)
                          refine q_move (h := ?_)
                          refine q_guard (hj := rfl) (hd := rfl) (hb := rfl) (h := ?_)
                          refine q_move (h := ?_)
                          refine q_guard (hj := rfl) (hd := rfl) (hb := rfl) (h := ?_)
                          refine q_indexT (hr := hv) (he := eW_len) (ht := Try.underlying22) (hsz := el_uint32.size) (h0 := by omega) (h1 := by omega) (h := ?_)
                          intro b205 o205 cs205 e205 fz205 hb205 hc205
                          refine q_guard (hj := rfl) (hd := rfl) (hb := rfl) (h := ?_)
                          refine q_load (hb := (fun w hS => hS.block hb205)) (hu := Try.underlying28) (hd := rfl) (hv := (hc205 0 _ rfl)) (h := ?_)
                          refine q_guard (hj := rfl) (hd := rfl) (hb := rfl) (h := ?_)
                          refine q_move (h := ?_)
                          refine q_guard (hj := rfl) (hd := rfl) (hb := rfl) (h := ?_)
                          refine q_move (h := ?_)
                          refine q_guard (hj := rfl) (hd := rfl) (hb := rfl) (h := ?_)
                          refine q_indexT (hr := hv) (he := eW_len) (ht := Try.underlying22) (hsz := el_uint32.size) (h0 := by omega) (h1 := by omega) (h := ?_)
                          intro b209 o209 cs209 e209 fz209 hb209 hc209
                          refine q_guard (hj := rfl) (hd := rfl) (hb := rfl) (h := ?_)
                          refine q_load (hb := (fun w hS => hS.block hb209)) (hu := Try.underlying28) (hd := rfl) (hv := (hc209 0 _ rfl)) (h := ?_)
                          refine q_guard (hj := rfl) (hd := rfl) (hb := rfl) (h := ?_)
                          refine q_bin (h := ?_)
                          refine q_guard (hj := rfl) (hd := rfl) (hb := rfl) (h := ?_)
                          refine q_shl (h0 := by first | omega | exact M.and31 _ (hu _ (List.getElem_mem _)).1) (h := ?_)
                          refine q_guard (hj := rfl) (hd := rfl) (hb := rfl) (h := ?_)
                          refine q_move (h := ?_)
                          refine q_guard (hj := rfl) (hd := rfl) (hb := rfl) (h := ?_)
                          refine q_move (h := ?_)
                          refine q_guard (hj := rfl) (hd := rfl) (hb := rfl) (h := ?_)
                          refine q_indexT (hr := hv) (he := eW_len) (ht := Try.underlying22) (hsz := el_uint32.size) (h0 := by omega) (h1 := by omega) (h := ?_)
                          intro b215 o215 cs215 e215 fz215 hb215 hc215
                          refine q_guard (hj := rfl) (hd := rfl) (hb := rfl) (h := ?_)
                          refine q_load (hb := (fun w hS => hS.block hb215)) (hu := Try.underlying28) (hd := rfl) (hv := (hc215 0 _ rfl)) (h := ?_)
                          refine q_guard (hj := rfl) (hd := rfl) (hb := rfl) (h := ?_)
                          refine q_bin (h := ?_)
                          refine q_guard (hj := rfl) (hd := rfl) (hb := rfl) (h := ?_)
                          refine q_shr (h0 := by first | omega | exact M.and31 _ (hu _ (List.getElem_mem _)).1) (h := ?_)
                          refine q_guard (hj := rfl) (hd := rfl) (hb := rfl) (h := ?_)
                          refine q_bin (h := ?_)
                          refine q_pickF (h := ?_)
                          refine q_nilN (h := ?_)
                          clear hS; intro w hS
                          try change Code.wp _ _ _ _ _
                          refine c_if (ht := fun c16 => ?_) (hf := fun c16 => ?_)
                          · try simp only [decide_eq_true_eq, decide_eq_false_iff_not, Bool.not_eq_true', Bool.not_eq_false', Bool.and_eq_true, Bool.or_eq_true, Bool.and_eq_false_iff, Bool.or_eq_false_iff, Decidable.not_not, ne_eq] at c16
                            exact absurd (M.shift_back (hu _ (List.getElem_mem _))) c16
                          · try simp only [decide_eq_true_eq, decide_eq_false_iff_not, Bool.not_eq_true', Bool.not_eq_false', Bool.and_eq_true, Bool.or_eq_true, Bool.and_eq_false_iff, Bool.or_eq_false_iff, Decidable.not_not, ne_eq] at c16
                            refine wp_skip ?_
                            try change Code.wp _ _ _ _ _
                            try change Code.wp _ _ _ _ _
                            refine c_region ?_
                            refine o_move (h := ?_)
                            refine o_add (h0 := by omega) (h1 := by omega) (h := ?_)
                            refine o_assign (h := ?_)
                            refine n_thenN (h := ?_)
                            refine ⟨zs'.length - (k + 1), by omega, k + 1, rfl, by omega, mk_ex, hS⟩
                  · try simp only [decide_eq_true_eq, decide_eq_false_iff_not, Bool.not_eq_true', Bool.not_eq_false', Bool.and_eq_true, Bool.or_eq_true, Bool.and_eq_false_iff, Bool.or_eq_false_iff, Decidable.not_not, ne_eq] at c12
                    refine q_skip (hj := rfl) (hd := rfl) (hb := by decide) (h := ?_)
                    refine q_skip (hj := rfl) (hd := rfl) (hb := by decide) (h := ?_)
                    refine q_skip (hj := rfl) (hd := rfl) (hb := by decide) (h := ?_)
                    refine q_skip (hj := rfl) (hd := rfl) (hb := by decide) (h := ?_)
                    refine q_skip (hj := rfl) (hd := rfl) (hb := by decide) (h := ?_)
                    refine q_skip (hj := rfl) (hd := rfl) (hb := by decide) (h := ?_)
                    refine q_skip (hj := rfl) (hd := rfl) (hb := by decide) (h := ?_)
                    refine q_skip (hj := rfl) (hd := rfl) (hb := by decide) (h := ?_)
                    refine q_skip (hj := rfl) (hd := rfl) (hb := by decide) (h := ?_)
                    refine q_skip (hj := rfl) (hd := rfl) (hb := by decide) (h := ?_)
                    refine q_skip (hj := rfl) (hd := rfl) (hb := by decide) (h := ?_)
                    refine q_skip (hj := rfl) (hd := rfl) (hb := by decide) (h := ?_)
                    refine q_skip (hj := rfl) (hd := rfl) (hb := by decide) (h := ?_)
                    refine q_guard (hj := rfl) (hd := rfl) (hb := rfl) (h := ?_)
                    refine q_pickF (h := ?_)
                    refine q_pickF (h := ?_)
                    refine q_move (h := ?_)
                    refine q_guard (hj := rfl) (hd := rfl) (hb := rfl) (h := ?_)
                    refine q_move (h := ?_)
                    refine q_guard (hj := rfl) (hd := rfl) (hb := rfl) (h := ?_)
                    refine q_callS Try.func17 rfl rfl (hc := l1_num) (h := ?_)
                    refine q_guard (hj := rfl) (hd := rfl) (hb := rfl) (h := ?_)
                    refine q_bin (h := ?_)
                    refine q_pickF (h := ?_)
                    refine q_split (ht := fun c17 => ?_) (hf := fun c17 => ?_)
                    · try simp only [decide_eq_true_eq, decide_eq_false_iff_not, Bool.not_eq_true', Bool.not_eq_false', Bool.and_eq_true, Bool.or_eq_true, Bool.and_eq_false_iff, Bool.or_eq_false_iff, Decidable.not_not, ne_eq] at c17
                      exact absurd (M.of_6s _ _) c17
                    · try simp only [decide_eq_true_eq, decide_eq_false_iff_not, Bool.not_eq_true', Bool.not_eq_false', Bool.and_eq_true, Bool.or_eq_true, Bool.and_eq_false_iff, Bool.or_eq_false_iff, Decidable.not_not, ne_eq] at c17
                      refine q_guard (hj := rfl) (hd := rfl) (hb := rfl) (h := ?_)
                      refine q_move (h := ?_)
                      refine q_guard (hj := rfl) (hd := rfl) (hb := rfl) (h := ?_)
                      refine q_callS Try.func17 rfl rfl (hc := l1_num) (h := ?_)
                      refine q_guard (hj := rfl) (hd := rfl) (hb := rfl) (h := ?_)
                      refine q_bin (h := ?_)
                      refine q_pickF (h := ?_)
                      refine q_split (ht := fun c18 => ?_) (hf := fun c18 => ?_)
                      · try simp only [decide_eq_true_eq, decide_eq_false_iff_not, Bool.not_eq_true', Bool.not_eq_false', Bool.and_eq_true, Bool.or_eq_true, Bool.and_eq_false_iff, Bool.or_eq_false_iff, Decidable.not_not, ne_eq] at c18
                        exact absurd (M.of_7s _ _) c18
                      · try simp only [decide_eq_true_eq, decide_eq_false_iff_not, Bool.not_eq_true', Bool.not_eq_false', Bool.and_eq_true, Bool.or_eq_true, Bool.and_eq_false_iff, Bool.or_eq_false_iff, Decidable.not_not, ne_eq] at c18
                        refine q_guard (hj := rfl) (hd := rfl) (hb := rfl) (h := ?_)
                        refine q_move (h := ?_)
                        refine q_guard (hj := rfl) (hd := rfl) (hb := rfl) (h := ?_)
                        refine q_move (h := ?_)
                        refine q_guard (hj := rfl) (hd := rfl) (hb := rfl) (h := ?_)
                        refine q_move (h := ?_)
                        refine q_guard (hj := rfl) (hd := rfl) (hb := rfl) (h := ?_)
                        refine q_indexT (hr := hv) (he := eW_len) (ht := Try.underlying22) (hsz := el_uint32.size) (h0 := by omega) (h1 := by omega) (h := ?_)
                        intro b205 o205 cs205 e205 fz205 hb205 hc205
                        refine q_guard (hj := rfl) (hd := rfl) (hb := rfl) (h := ?_)
                        refine q_load (hb := (fun w hS => hS.block hb205)) (hu := Try.underlying28) (hd := rfl) (hv := (hc205 0 _ rfl)) (h := ?_)
                        refine q_guard (hj := rfl) (hd := rfl) (hb := rfl) (h := ?_)
                        refine q_move (h := ?_)
                        refine q_guard (hj := rfl) (hd := rfl) (hb := rfl) (h := ?_)
                        refine q_move (h := ?_)
                        refine q_guard (hj := rfl) (hd := rfl) (hb := rfl) (h := ?_)
                        refine q_indexT (hr := hv) (he := eW_len) (ht := Try.underlying22) (hsz := el_uint32.size) (h0 := by omega) (h1 := by omega) (h := ?_)
                        intro b209 o209 cs209 e209 fz209 hb209 hc209
                        refine q_guard (hj := rfl) (hd := rfl) (hb := rfl) (h := ?_)
                        refine q_load (hb := (fun w hS => hS.block hb209)) (hu := Try.underlying28) (hd := rfl) (hv := (hc209 0 _ rfl)) (h := ?_)
                        refine q_guard (hj := rfl) (hd := rfl) (hb := rfl) (h := ?_)
                        refine q_bin (h := ?_)
                        refine q_guard (hj := rfl) (hd := rfl) (hb := rfl) (h := ?_)
                        refine q_shl (h0 := by first | omega | exact M.and31 _ (hu _ (List.getElem_mem _)).1) (h := ?_)
                        refine q_guard (hj := rfl) (hd := rfl) (hb := rfl) (h := ?_)
                        refine q_move (h := ?_)
                        refine q_guard (hj := rfl) (hd := rfl) (hb := rfl) (h := ?_)
                        refine q_move (h := ?_)
                        refine q_guard (hj := rfl) (hd := rfl) (hb := rfl) (h := ?_)
                        refine q_indexT (hr := hv) (he := eW_len) (ht := Try.underlying22) (hsz := el_uint32.size) (h0 := by omega) (h1 := by omega) (h := ?_)
                        intro b215 o215 cs215 e215 fz215 hb215 hc215
                        refine q_guard (hj := rfl) (hd := rfl) (hb := rfl) (h := ?_)
                        refine q_load (hb := (fun w hS => hS.block hb215)) (hu := Try.underlying28) (hd := rfl) (hv := (hc215 0 _ rfl)) (h := ?_)
                        refine q_guard (hj := rfl) (hd := rfl) (hb := rfl) (h := ?_)
                        refine q_bin (h := ?_)
                        refine q_guard (hj := rfl) (hd := rfl) (hb := rfl) (h := ?_)
                        refine q_shr (h0 := by first | omega | exact M.and31 _ (hu _ (List.getElem_mem _)).1) (h := ?_)
                        refine q_guard (hj := rfl) (hd := rfl) (hb := rfl) (h := ?_)
                        refine q_bin (h := ?_)
                        refine q_pickF (h := ?_)
                        refine q_nilN (h := ?_)
                        clear hS; intro w hS
                        try change Code.wp _ _ _ _ _
                        refine c_if (ht := fun c19 => ?_) (hf := fun c19 => ?_)
                        · try simp only [decide_eq_true_eq, decide_eq_false_iff_not, Bool.not_eq_true', Bool.not_eq_false', Bool.and_eq_true, Bool.or_eq_true, Bool.and_eq_false_iff, Bool.or_eq_false_iff, Decidable.not_not, ne_eq] at c19
                          exact absurd (M.shift_back (hu _ (List.getElem_mem _))) c19
                        · try simp only [decide_eq_true_eq, decide_eq_false_iff_not, Bool.not_eq_true', Bool.not_eq_false', Bool.and_eq_true, Bool.or_eq_true, Bool.and_eq_false_iff, Bool.or_eq_false_iff, Decidable.not_not, ne_eq] at c19
                          refine wp_skip ?_
                          try change Code.wp _ _ _ _ _
                          try change Code.wp _ _ _ _ _
                          refine c_region ?_
                          refine o_move (h := ?_)
                          refine o_add (h0 := by omega) (h1 := by omega) (h := ?_)
                          refine o_assign (h := ?_)
                          refine n_thenN (h := ?_)
                          refine ⟨zs'.length - (k + 1), by omega, k + 1, rfl, by omega, mk_ex, hS⟩
      · try simp only [decide_eq_true_eq, decide_eq_false_iff_not, Bool.not_eq_true', Bool.not_eq_false', Bool.and_eq_true, Bool.or_eq_true, Bool.and_eq_false_iff, Bool.or_eq_false_iff, Decidable.not_not, ne_eq] at c6
        refine wp_exit ?_
        change Code.wp _ _ _ _ _
        try change Code.wp _ _ _ _ _
        refine c_region ?_
        refine o_move (h := ?_)
        refine o_add (h0 := by omega) (h1 := by omega) (h := ?_)
        refine o_assign (h := ?_)
        refine n_thenN (h := ?_)
        refine ⟨zs'.length - (i + 1), by omega, i + 1, rfl, by omega, mk_ex, hS⟩
  · try simp only [decide_eq_true_eq, decide_eq_false_iff_not, Bool.not_eq_true', Bool.not_eq_false', Bool.and_eq_true, Bool.or_eq_true, Bool.and_eq_false_iff, Bool.or_eq_false_iff, Decidable.not_not, ne_eq] at c1
    refine wp_exit ?_
    change Code.wp _ _ _ _ _
    refine c_seq ?_
    refine c_region ?_
    refine o_callS hS Try.func18 rfl rfl (hc := l1_wakes) (h := ?_)
    clear hS; intro w hS
    refine o_assign (h := ?_)
    refine n_thenN (h := ?_)
    refine wp_ret (r_retS1 (hS.less (Frag.le_plus _ _)) rfl (hR := ?_))
    rfl


end Go.Proofs.Ythpnbgkhoocadaa
