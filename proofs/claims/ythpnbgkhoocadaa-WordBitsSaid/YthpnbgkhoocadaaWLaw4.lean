/- WordBits, walked. -/
import Derived.Test.YthpnbgkhoocadaaProg
import Derived.Test.YthpnbgkhoocadaaWLaw1
import Derived.Test.YthpnbgkhoocadaaMBits
import Derived.KernelRfl
namespace Go.Proofs.Ythpnbgkhoocadaa
open Go.RowKit Fr
set_option linter.unusedVariables false
set_option linter.unusedSimpArgs false
set_option maxRecDepth 20000

theorem M.between_1_32 {b : Int} (h : M.between b 1 32 = true) : 1 ≤ b ∧ b ≤ 32 := by
  simp only [M.between, Bool.and_eq_true, decide_eq_true_eq] at h
  exact h

set_option maxHeartbeats 4000000 in
theorem law_WordBits {g : Frag} {zs ns : List Int} {vW vN : Value} (hA : AskIn g zs ns vW vN) : LCs Try.prog 10 #[.agg #[vW, vN]] g (.bool true) := by
  have hbn := hA.bn
  refine lc_body (k := 139) (av := [.agg #[vW, vN]]) Try.func10 rfl rfl (h := fun W hS => ?_)
  refine c_seq ?_
  refine c_region ?_
  refine o_box hS (h := ?_)
  clear hS; intro b1 w hS
  refine o_assign (h := ?_)
  refine n_thenN (h := ?_)
  refine c_seq ?_
  refine c_region ?_
  refine o_buildT (.int .i64) [0, 1, -1, 2147483648, -2147483648, 2147483647, 4611686018427387904] hS el_int (fun _ => rfl) eN_len (by omega) rfl (by decide) (hp := rfl) (h := ?_)
  clear hS; intro b21 w hS ho
  refine o_field (hf := fa_sledgelaw1_Ask_1) (h := ?_)
  refine o_load (hb := (hS.own (by repeat (first | exact List.mem_cons_self | apply List.mem_cons_of_mem | apply List.mem_append_right)))) (hu := Try.underlying23) (hd := rfl) (hv := rfl) (h := ?_)
  refine o_appAll (LX := [(b21, blk ([0, 1, -1, 2147483648, -2147483648, 2147483647, 4611686018427387904].flatMap eN) 3)]) (hS := hS) (he := el_int) (hv := ho) (hu := hA.n.plus) (hu0 := hA.n0) (h1 := eN_one ns) (hb := by simp; omega) (h63 := by simp [maxLen]; omega) (h := ?_)
  clear hS; intro v24 LX w ho2 hS
  refine o_assign (h := ?_)
  refine n_thenN (h := ?_)
  refine c_seq ?_
  refine c_region ?_
  refine o_loadW (hb := (hS.own (by repeat (first | exact List.mem_cons_self | apply List.mem_cons_of_mem | apply List.mem_append_right)))) (hu := Try.underlying25) (hd := rfl) (hi := by exact sz_sledgelaw1_Ask) (h := ?_)
  refine o_call (L1 := []) hS Try.func12 rfl rfl (hc := l1_words hA.plus) (h := ?_)
  clear hS; intro v26 LX26 w hS hr
  have hS : St W g [] ((LX26 ++ LX) ++ []) w := hS.drop (by simp only [List.append_nil, List.append_assoc]; exact List.Sublist.append_left (List.sublist_append_left _ _) _)
  have hS1 : St W g [] (LX26 ++ LX) w := by simpa using hS
  have hv := OwT.plus hr hS1 (fun p h => List.mem_append_left _ h)
  have hz := OwT.plus ho2 hS1 (fun p h => List.mem_append_right _ h)
  have hS := St.freeze (L2 := []) hS
  clear hS1
  have hu := words_u32 hA.rw
  have hlen : ((ten ++ zs).take 22).length ≤ 22 := by rw [List.length_take]; omega
  generalize (ten ++ zs).take 22 = ws at *
  have hn : ([0, 1, -1, 2147483648, -2147483648, 2147483647, 4611686018427387904] ++ ns).length ≤ 17592186044050 := by simp; omega
  generalize [0, 1, -1, 2147483648, -2147483648, 2147483647, 4611686018427387904] ++ ns = zs' at *
  refine o_assign (h := ?_)
  refine n_thenN (h := ?_)
  refine c_seq ?_
  refine c_seq ?_
  refine c_region ?_
  refine o_assign (h := ?_)
  refine n_thenN (h := ?_)
  refine c_block ?_
  refine c_loop (fun n a w' => ∃ b, n = (34 - b).toNat ∧ -1 ≤ b ∧ (∃ s : Nat → Value, a = Ac (.lit 139 [.agg #[vW, vN], s 1, .bool false, v24, v26, .int .i64 b, s 6, s 7, s 8, s 9, s 10, s 11, s 12, s 13, s 14, s 15, s 16, s 17, s 18, s 19, s 20, s 21, s 22, s 23, s 24, s 25, s 26, s 27, s 28, s 29, s 30, s 31, s 32, s 33, s 34, s 35, s 36, s 37, s 38, s 39, s 40, s 41, s 42, s 43, s 44, s 45, s 46, s 47, s 48, s 49, s 50, s 51, s 52, s 53, s 54, s 55, s 56, s 57, s 58, s 59, s 60, s 61, s 62, s 63, s 64, s 65, s 66, s 67, s 68, s 69, s 70, s 71, s 72, s 73, s 74, s 75, s 76, s 77, s 78, s 79, s 80, s 81, s 82, s 83, s 84, s 85, s 86, s 87, s 88, s 89, s 90, s 91, s 92, s 93, s 94, s 95, s 96, s 97, s 98, s 99, s 100, s 101, s 102, s 103, s 104, s 105, s 106, s 107, s 108, s 109, s 110, s 111, s 112, s 113, s 114, s 115, s 116, s 117, s 118, s 119, s 120, s 121, s 122, s 123, s 124, s 125, s 126, s 127, s 128, s 129, s 130, s 131, s 132, s 133, s 134, s 135, s 136, s 137, s 138])) ∧ St W (g.plus (LX26 ++ LX)) [] ([]) w') (35) ⟨-1, rfl, by omega, mk_ex, hS⟩ ?_
  clear hS
  rintro n a w ⟨b, rfl, hb1, ⟨s, rfl⟩, hS⟩
  refine c_seq ?_
  refine c_seq ?_
  refine c_region ?_
  refine o_move (h := ?_)
  refine o_bin (h := ?_)
  refine n_thenN (h := ?_)
  refine c_if (ht := fun c1 => ?_) (hf := fun c1 => ?_)
  · try simp only [decide_eq_true_eq, decide_eq_false_iff_not, Bool.not_eq_true', Bool.not_eq_false', Bool.and_eq_true, Bool.or_eq_true, Bool.and_eq_false_iff, Bool.or_eq_false_iff, Decidable.not_not, ne_eq] at c1
    refine wp_skip ?_
    try change Code.wp _ _ _ _ _
    refine c_seq ?_
    refine c_block ?_
    refine c_seq ?_
    refine c_region ?_
    refine o_move (h := ?_)
    refine o_callS hS Try.func20 rfl rfl (hc := z_Between) (h := ?_)
    clear hS; intro w hS
    refine o_assign (h := ?_)
    refine n_thenN (h := ?_)
    refine c_seq ?_
    refine c_seq ?_
    refine c_region ?_
    refine o_assign (h := ?_)
    refine n_thenN (h := ?_)
    refine c_block ?_
    refine c_loop (fun n a w' => ∃ (i : Nat), n = zs'.length - i ∧ i ≤ zs'.length ∧ (∃ s : Nat → Value, a = Ac (.lit 139 [.agg #[vW, vN], s 1, .bool false, v24, v26, .int .i64 b, .bool (M.between b 1 32), .int .i64 (i : Nat), s 8, s 9, s 10, s 11, s 12, s 13, s 14, s 15, s 16, s 17, s 18, s 19, s 20, s 21, s 22, s 23, s 24, s 25, s 26, s 27, s 28, s 29, s 30, s 31, s 32, s 33, s 34, s 35, s 36, s 37, s 38, s 39, s 40, s 41, s 42, s 43, s 44, s 45, s 46, s 47, s 48, s 49, s 50, s 51, s 52, s 53, s 54, s 55, s 56, s 57, s 58, s 59, s 60, s 61, s 62, s 63, s 64, s 65, s 66, s 67, s 68, s 69, s 70, s 71, s 72, s 73, s 74, s 75, s 76, s 77, s 78, s 79, s 80, s 81, s 82, s 83, s 84, s 85, s 86, s 87, s 88, s 89, s 90, s 91, s 92, s 93, s 94, s 95, s 96, s 97, s 98, s 99, s 100, s 101, s 102, s 103, s 104, s 105, s 106, s 107, s 108, s 109, s 110, s 111, s 112, s 113, s 114, s 115, s 116, s 117, s 118, s 119, s 120, s 121, s 122, s 123, s 124, s 125, s 126, s 127, s 128, s 129, s 130, s 131, s 132, s 133, s 134, s 135, s 136, s 137, s 138])) ∧ St W (g.plus (LX26 ++ LX)) [] ([]) w') (zs'.length) ⟨0, by omega, by omega, mk_ex, hS⟩ ?_
    clear hS
    rintro n a w ⟨i, rfl, hi1, ⟨s, rfl⟩, hS⟩
    refine c_seq ?_
    refine c_seq ?_
    refine c_region ?_
    refine o_move (h := ?_)
    refine o_move (h := ?_)
    refine o_lenT (hr := hz) (ht := Try.underlying23) (h := ?_)
    refine o_bin (h := ?_)
    refine o_split (ht := fun c2 => ?_) (hf := fun c2 => ?_)
    · try simp only [decide_eq_true_eq, decide_eq_false_iff_not, Bool.not_eq_true', Bool.not_eq_false', Bool.and_eq_true, Bool.or_eq_true, Bool.and_eq_false_iff, Bool.or_eq_false_iff, Decidable.not_not, ne_eq] at c2
      refine o_guard (hj := rfl) (hd := rfl) (hb := rfl) (h := ?_)
      refine o_move (h := ?_)
      refine o_guard (hj := rfl) (hd := rfl) (hb := rfl) (h := ?_)
      refine o_bin (h := ?_)
      refine o_pickT (h := ?_)
      refine n_thenN (h := ?_)
      refine c_if (ht := fun c3 => ?_) (hf := fun c3 => ?_)
      · try simp only [decide_eq_true_eq, decide_eq_false_iff_not, Bool.not_eq_true', Bool.not_eq_false', Bool.and_eq_true, Bool.or_eq_true, Bool.and_eq_false_iff, Bool.or_eq_false_iff, Decidable.not_not, ne_eq] at c3
        refine wp_skip ?_
        try change Code.wp _ _ _ _ _
        refine c_seq ?_
        refine c_block ?_
        refine c_seq ?_
        refine c_region ?_
        refine o_move (h := ?_)
        refine o_move (h := ?_)
        refine o_indexT (hr := hz) (he := eN_len) (ht := Try.underlying23) (hsz := el_int.size) (h0 := by omega) (h1 := by omega) (h := ?_)
        intro b46 o46 cs46 e46 fz46 hb46 hc46
        refine o_load (hb := (hS.block hb46)) (hu := Try.underlying3) (hd := rfl) (hv := (hc46 0 _ rfl)) (h := ?_)
        refine o_move (h := ?_)
        refine o_callS hS Try.func21 rfl rfl (hc := w_Fits) (h := ?_)
        clear hS; intro w hS
        refine o_move (h := ?_)
        refine o_extract (hv := rfl) (h := ?_)
        refine o_extract (hv := rfl) (h := ?_)
        refine o_assign (h := ?_)
        refine o_assign (h := ?_)
        refine n_thenN (h := ?_)
        refine c_seq ?_
        refine c_region ?_
        refine o_move (h := ?_)
        refine o_move (h := ?_)
        refine o_indexT (hr := hz) (he := eN_len) (ht := Try.underlying23) (hsz := el_int.size) (h0 := by omega) (h1 := by omega) (h := ?_)
        intro b55 o55 cs55 e55 fz55 hb55 hc55
        refine o_load (hb := (hS.block hb55)) (hu := Try.underlying3) (hd := rfl) (hv := (hc55 0 _ rfl)) (h := ?_)
        refine o_move (h := ?_)
        refine o_callS hS Try.func22 rfl rfl (hc := w_Cut) (h := ?_)
        clear hS; intro w hS
        refine o_move (h := ?_)
        refine o_extract (hv := rfl) (h := ?_)
        refine o_extract (hv := rfl) (h := ?_)
        refine o_assign (h := ?_)
        refine o_assign (h := ?_)
        refine n_thenN (h := ?_)
        refine c_seq ?_
        refine c_region ?_
        refine o_assign (h := ?_)
        refine o_assign (h := ?_)
        refine o_assign (h := ?_)
        refine o_assign (h := ?_)
        refine n_thenN (h := ?_)
        refine c_seq ?_
        refine c_seq ?_
        refine c_region ?_
        refine o_move (h := ?_)
        refine n_thenN (h := ?_)
        refine c_if (ht := fun c4 => ?_) (hf := fun c4 => ?_)
        · try simp only [decide_eq_true_eq, decide_eq_false_iff_not, Bool.not_eq_true', Bool.not_eq_false', Bool.and_eq_true, Bool.or_eq_true, Bool.and_eq_false_iff, Bool.or_eq_false_iff, Decidable.not_not, ne_eq] at c4
          have hb2 := M.between_1_32 c4
          refine c_seq ?_
          refine c_region ?_
          refine o_move (h := ?_)
          refine o_move (h := ?_)
          refine o_indexT (hr := hz) (he := eN_len) (ht := Try.underlying23) (hsz := el_int.size) (h0 := by omega) (h1 := by omega) (h := ?_)
          intro b64 o64 cs64 e64 fz64 hb64 hc64
          refine o_load (hb := (hS.block hb64)) (hu := Try.underlying3) (hd := rfl) (hv := (hc64 0 _ rfl)) (h := ?_)
          refine o_move (h := ?_)
          refine o_callS hS Try.func23 rfl rfl (hc := (r1_Fits (M.between_1_32 (by assumption)))) (h := ?_)
          clear hS; intro w hS
          refine o_assign (h := ?_)
          refine o_assign (h := ?_)
          refine o_assign (h := ?_)
          refine n_thenN (h := ?_)
          refine c_seq ?_
          refine c_region ?_
          refine o_move (h := ?_)
          refine n_thenN (h := ?_)
          refine c_if (ht := fun c5 => ?_) (hf := fun c5 => ?_)
          · try simp only [decide_eq_true_eq, decide_eq_false_iff_not, Bool.not_eq_true', Bool.not_eq_false', Bool.and_eq_true, Bool.or_eq_true, Bool.and_eq_false_iff, Bool.or_eq_false_iff, Decidable.not_not, ne_eq] at c5
            refine c_quiet (by kernel_rfl) (by kernel_rfl) hS ?_
            refine q_move (h := ?_)
            refine q_move (h := ?_)
            refine q_indexT (hr := hz) (he := eN_len) (ht := Try.underlying23) (hsz := el_int.size) (h0 := by omega) (h1 := by omega) (h := ?_)
            intro b71 o71 cs71 e71 fz71 hb71 hc71
            refine q_load (hb := (fun w hS => hS.block hb71)) (hu := Try.underlying3) (hd := rfl) (hv := (hc71 0 _ rfl)) (h := ?_)
            refine q_conv (hs := Try.underlying3) (ht := Try.underlying43) (h := ?_)
            refine q_move (h := ?_)
            refine q_shl (h0 := by omega) (h := ?_)
            refine q_bin (h := ?_)
            refine q_bin (h := ?_)
            refine q_conv (hs := Try.underlying43) (ht := Try.underlying28) (h := ?_)
            refine q_assign (h := ?_)
            refine q_assign (h := ?_)
            refine q_nilN (h := ?_)
            clear hS; intro w hS
            try change Code.wp _ _ _ _ _
            refine c_seq ?_
            refine c_region ?_
            refine o_move (h := ?_)
            refine o_callS hS Try.func17 rfl rfl (hc := l1_num) (h := ?_)
            clear hS; intro w hS
            refine o_move (h := ?_)
            refine o_bin (h := ?_)
            refine o_split (ht := fun c6 => ?_) (hf := fun c6 => ?_)
            · try simp only [decide_eq_true_eq, decide_eq_false_iff_not, Bool.not_eq_true', Bool.not_eq_false', Bool.and_eq_true, Bool.or_eq_true, Bool.and_eq_false_iff, Bool.or_eq_false_iff, Decidable.not_not, ne_eq] at c6
              exact absurd (congrArg Prod.snd (M.fits_eq hb2)) c6
            · try simp only [decide_eq_true_eq, decide_eq_false_iff_not, Bool.not_eq_true', Bool.not_eq_false', Bool.and_eq_true, Bool.or_eq_true, Bool.and_eq_false_iff, Bool.or_eq_false_iff, Decidable.not_not, ne_eq] at c6
              refine o_guard (hj := rfl) (hd := rfl) (hb := rfl) (h := ?_)
              refine o_move (h := ?_)
              refine o_guard (hj := rfl) (hd := rfl) (hb := rfl) (h := ?_)
              refine o_move (h := ?_)
              refine o_guard (hj := rfl) (hd := rfl) (hb := rfl) (h := ?_)
              refine o_bneq (ht := Try.underlying4) (h := ?_)
              refine o_pickF (h := ?_)
              refine o_split (ht := fun c7 => ?_) (hf := fun c7 => ?_)
              · try simp only [decide_eq_true_eq, decide_eq_false_iff_not, Bool.not_eq_true', Bool.not_eq_false', Bool.and_eq_true, Bool.or_eq_true, Bool.and_eq_false_iff, Bool.or_eq_false_iff, Decidable.not_not, ne_eq] at c7
                (rw [M.fits_eq hb2] at c7; simp at c7)
              · try simp only [decide_eq_true_eq, decide_eq_false_iff_not, Bool.not_eq_true', Bool.not_eq_false', Bool.and_eq_true, Bool.or_eq_true, Bool.and_eq_false_iff, Bool.or_eq_false_iff, Decidable.not_not, ne_eq] at c7
                refine o_guard (hj := rfl) (hd := rfl) (hb := rfl) (h := ?_)
                refine o_move (h := ?_)
                refine o_guard (hj := rfl) (hd := rfl) (hb := rfl) (h := ?_)
                refine o_callS hS Try.func17 rfl rfl (hc := l1_num) (h := ?_)
                clear hS; intro w hS
                refine o_guard (hj := rfl) (hd := rfl) (hb := rfl) (h := ?_)
                refine o_move (h := ?_)
                refine o_guard (hj := rfl) (hd := rfl) (hb := rfl) (h := ?_)
                refine o_bin (h := ?_)
                refine o_pickF (h := ?_)
                refine o_split (ht := fun c8 => ?_) (hf := fun c8 => ?_)
                · try simp only [decide_eq_true_eq, decide_eq_false_iff_not, Bool.not_eq_true', Bool.not_eq_false', Bool.and_eq_true, Bool.or_eq_true, Bool.and_eq_false_iff, Bool.or_eq_false_iff, Decidable.not_not, ne_eq] at c8
                  exact absurd (congrArg Prod.snd (M.cut_go hb2 c5)) c8
                · try simp only [decide_eq_true_eq, decide_eq_false_iff_not, Bool.not_eq_true', Bool.not_eq_false', Bool.and_eq_true, Bool.or_eq_true, Bool.and_eq_false_iff, Bool.or_eq_false_iff, Decidable.not_not, ne_eq] at c8
                  refine o_guard (hj := rfl) (hd := rfl) (hb := rfl) (h := ?_)
                  refine o_move (h := ?_)
                  refine o_guard (hj := rfl) (hd := rfl) (hb := rfl) (h := ?_)
                  refine o_move (h := ?_)
                  refine o_guard (hj := rfl) (hd := rfl) (hb := rfl) (h := ?_)
                  refine o_bin (h := ?_)
                  refine o_pickF (h := ?_)
                  refine n_thenN (h := ?_)
                  refine c_if (ht := fun c9 => ?_) (hf := fun c9 => ?_)
                  · try simp only [decide_eq_true_eq, decide_eq_false_iff_not, Bool.not_eq_true', Bool.not_eq_false', Bool.and_eq_true, Bool.or_eq_true, Bool.and_eq_false_iff, Bool.or_eq_false_iff, Decidable.not_not, ne_eq] at c9
                    exact absurd ((congrArg Prod.fst (M.cut_go hb2 c5)).trans (M.low_eq hb2)) c9
                  · try simp only [decide_eq_true_eq, decide_eq_false_iff_not, Bool.not_eq_true', Bool.not_eq_false', Bool.and_eq_true, Bool.or_eq_true, Bool.and_eq_false_iff, Bool.or_eq_false_iff, Decidable.not_not, ne_eq] at c9
                    refine wp_skip ?_
                    try change Code.wp _ _ _ _ _
                    try change Code.wp _ _ _ _ _
                    refine c_region ?_
                    refine o_move (h := ?_)
                    refine o_add (h0 := by omega) (h1 := by omega) (h := ?_)
                    refine o_assign (h := ?_)
                    refine n_thenN (h := ?_)
                    refine ⟨zs'.length - (i + 1), by omega, i + 1, rfl, by omega, mk_ex, hS⟩
          · try simp only [decide_eq_true_eq, decide_eq_false_iff_not, Bool.not_eq_true', Bool.not_eq_false', Bool.and_eq_true, Bool.or_eq_true, Bool.and_eq_false_iff, Bool.or_eq_false_iff, Decidable.not_not, ne_eq] at c5
            refine wp_skip ?_
            try change Code.wp _ _ _ _ _
            refine c_seq ?_
            refine c_region ?_
            refine o_move (h := ?_)
            refine o_callS hS Try.func17 rfl rfl (hc := l1_num) (h := ?_)
            clear hS; intro w hS
            refine o_move (h := ?_)
            refine o_bin (h := ?_)
            refine o_split (ht := fun c10 => ?_) (hf := fun c10 => ?_)
            · try simp only [decide_eq_true_eq, decide_eq_false_iff_not, Bool.not_eq_true', Bool.not_eq_false', Bool.and_eq_true, Bool.or_eq_true, Bool.and_eq_false_iff, Bool.or_eq_false_iff, Decidable.not_not, ne_eq] at c10
              exact absurd (congrArg Prod.snd (M.fits_eq hb2)) c10
            · try simp only [decide_eq_true_eq, decide_eq_false_iff_not, Bool.not_eq_true', Bool.not_eq_false', Bool.and_eq_true, Bool.or_eq_true, Bool.and_eq_false_iff, Bool.or_eq_false_iff, Decidable.not_not, ne_eq] at c10
              refine o_guard (hj := rfl) (hd := rfl) (hb := rfl) (h := ?_)
              refine o_move (h := ?_)
              refine o_guard (hj := rfl) (hd := rfl) (hb := rfl) (h := ?_)
              refine o_move (h := ?_)
              refine o_guard (hj := rfl) (hd := rfl) (hb := rfl) (h := ?_)
              refine o_bneq (ht := Try.underlying4) (h := ?_)
              refine o_pickF (h := ?_)
              refine o_split (ht := fun c11 => ?_) (hf := fun c11 => ?_)
              · try simp only [decide_eq_true_eq, decide_eq_false_iff_not, Bool.not_eq_true', Bool.not_eq_false', Bool.and_eq_true, Bool.or_eq_true, Bool.and_eq_false_iff, Bool.or_eq_false_iff, Decidable.not_not, ne_eq] at c11
                (rw [M.fits_eq hb2] at c11; simp at c11)
              · try simp only [decide_eq_true_eq, decide_eq_false_iff_not, Bool.not_eq_true', Bool.not_eq_false', Bool.and_eq_true, Bool.or_eq_true, Bool.and_eq_false_iff, Bool.or_eq_false_iff, Decidable.not_not, ne_eq] at c11
                refine o_guard (hj := rfl) (hd := rfl) (hb := rfl) (h := ?_)
                refine o_move (h := ?_)
                refine o_guard (hj := rfl) (hd := rfl) (hb := rfl) (h := ?_)
                refine o_callS hS Try.func17 rfl rfl (hc := l1_num) (h := ?_)
                clear hS; intro w hS
                refine o_guard (hj := rfl) (hd := rfl) (hb := rfl) (h := ?_)
                refine o_move (h := ?_)
                refine o_guard (hj := rfl) (hd := rfl) (hb := rfl) (h := ?_)
                refine o_bin (h := ?_)
                refine o_pickF (h := ?_)
                refine o_split (ht := fun c12 => ?_) (hf := fun c12 => ?_)
                · try simp only [decide_eq_true_eq, decide_eq_false_iff_not, Bool.not_eq_true', Bool.not_eq_false', Bool.and_eq_true, Bool.or_eq_true, Bool.and_eq_false_iff, Bool.or_eq_false_iff, Decidable.not_not, ne_eq] at c12
                  exact absurd (congrArg Prod.snd (M.cut_no hb2 c5)) c12
                · try simp only [decide_eq_true_eq, decide_eq_false_iff_not, Bool.not_eq_true', Bool.not_eq_false', Bool.and_eq_true, Bool.or_eq_true, Bool.and_eq_false_iff, Bool.or_eq_false_iff, Decidable.not_not, ne_eq] at c12
                  refine o_guard (hj := rfl) (hd := rfl) (hb := rfl) (h := ?_)
                  refine o_move (h := ?_)
                  refine o_guard (hj := rfl) (hd := rfl) (hb := rfl) (h := ?_)
                  refine o_move (h := ?_)
                  refine o_guard (hj := rfl) (hd := rfl) (hb := rfl) (h := ?_)
                  refine o_bin (h := ?_)
                  refine o_pickF (h := ?_)
                  refine n_thenN (h := ?_)
                  refine c_if (ht := fun c13 => ?_) (hf := fun c13 => ?_)
                  · try simp only [decide_eq_true_eq, decide_eq_false_iff_not, Bool.not_eq_true', Bool.not_eq_false', Bool.and_eq_true, Bool.or_eq_true, Bool.and_eq_false_iff, Bool.or_eq_false_iff, Decidable.not_not, ne_eq] at c13
                    exact absurd (congrArg Prod.fst (M.cut_no hb2 c5)) c13
                  · try simp only [decide_eq_true_eq, decide_eq_false_iff_not, Bool.not_eq_true', Bool.not_eq_false', Bool.and_eq_true, Bool.or_eq_true, Bool.and_eq_false_iff, Bool.or_eq_false_iff, Decidable.not_not, ne_eq] at c13
                    refine wp_skip ?_
                    try change Code.wp _ _ _ _ _
                    try change Code.wp _ _ _ _ _
                    refine c_region ?_
                    refine o_move (h := ?_)
                    refine o_add (h0 := by omega) (h1 := by omega) (h := ?_)
                    refine o_assign (h := ?_)
                    refine n_thenN (h := ?_)
                    refine ⟨zs'.length - (i + 1), by omega, i + 1, rfl, by omega, mk_ex, hS⟩
        · try simp only [decide_eq_true_eq, decide_eq_false_iff_not, Bool.not_eq_true', Bool.not_eq_false', Bool.and_eq_true, Bool.or_eq_true, Bool.and_eq_false_iff, Bool.or_eq_false_iff, Decidable.not_not, ne_eq] at c4
          refine wp_skip ?_
          try change Code.wp _ _ _ _ _
          refine c_seq ?_
          refine c_region ?_
          refine o_move (h := ?_)
          refine o_callS hS Try.func17 rfl rfl (hc := l1_num) (h := ?_)
          clear hS; intro w hS
          refine o_move (h := ?_)
          refine o_bin (h := ?_)
          refine o_split (ht := fun c14 => ?_) (hf := fun c14 => ?_)
          · try simp only [decide_eq_true_eq, decide_eq_false_iff_not, Bool.not_eq_true', Bool.not_eq_false', Bool.and_eq_true, Bool.or_eq_true, Bool.and_eq_false_iff, Bool.or_eq_false_iff, Decidable.not_not, ne_eq] at c14
            exact absurd (congrArg Prod.snd (M.fits_not c4)) c14
          · try simp only [decide_eq_true_eq, decide_eq_false_iff_not, Bool.not_eq_true', Bool.not_eq_false', Bool.and_eq_true, Bool.or_eq_true, Bool.and_eq_false_iff, Bool.or_eq_false_iff, Decidable.not_not, ne_eq] at c14
            refine o_guard (hj := rfl) (hd := rfl) (hb := rfl) (h := ?_)
            refine o_move (h := ?_)
            refine o_guard (hj := rfl) (hd := rfl) (hb := rfl) (h := ?_)
            refine o_move (h := ?_)
            refine o_guard (hj := rfl) (hd := rfl) (hb := rfl) (h := ?_)
            refine o_bneq (ht := Try.underlying4) (h := ?_)
            refine o_pickF (h := ?_)
            refine o_split (ht := fun c15 => ?_) (hf := fun c15 => ?_)
            · try simp only [decide_eq_true_eq, decide_eq_false_iff_not, Bool.not_eq_true', Bool.not_eq_false', Bool.and_eq_true, Bool.or_eq_true, Bool.and_eq_false_iff, Bool.or_eq_false_iff, Decidable.not_not, ne_eq] at c15
              (rw [M.fits_not c4] at c15; simp at c15)
            · try simp only [decide_eq_true_eq, decide_eq_false_iff_not, Bool.not_eq_true', Bool.not_eq_false', Bool.and_eq_true, Bool.or_eq_true, Bool.and_eq_false_iff, Bool.or_eq_false_iff, Decidable.not_not, ne_eq] at c15
              refine o_guard (hj := rfl) (hd := rfl) (hb := rfl) (h := ?_)
              refine o_move (h := ?_)
              refine o_guard (hj := rfl) (hd := rfl) (hb := rfl) (h := ?_)
              refine o_callS hS Try.func17 rfl rfl (hc := l1_num) (h := ?_)
              clear hS; intro w hS
              refine o_guard (hj := rfl) (hd := rfl) (hb := rfl) (h := ?_)
              refine o_move (h := ?_)
              refine o_guard (hj := rfl) (hd := rfl) (hb := rfl) (h := ?_)
              refine o_bin (h := ?_)
              refine o_pickF (h := ?_)
              refine o_split (ht := fun c16 => ?_) (hf := fun c16 => ?_)
              · try simp only [decide_eq_true_eq, decide_eq_false_iff_not, Bool.not_eq_true', Bool.not_eq_false', Bool.and_eq_true, Bool.or_eq_true, Bool.and_eq_false_iff, Bool.or_eq_false_iff, Decidable.not_not, ne_eq] at c16
                exact absurd (congrArg Prod.snd (M.cut_not c4)) c16
              · try simp only [decide_eq_true_eq, decide_eq_false_iff_not, Bool.not_eq_true', Bool.not_eq_false', Bool.and_eq_true, Bool.or_eq_true, Bool.and_eq_false_iff, Bool.or_eq_false_iff, Decidable.not_not, ne_eq] at c16
                refine o_guard (hj := rfl) (hd := rfl) (hb := rfl) (h := ?_)
                refine o_move (h := ?_)
                refine o_guard (hj := rfl) (hd := rfl) (hb := rfl) (h := ?_)
                refine o_move (h := ?_)
                refine o_guard (hj := rfl) (hd := rfl) (hb := rfl) (h := ?_)
                refine o_bin (h := ?_)
                refine o_pickF (h := ?_)
                refine n_thenN (h := ?_)
                refine c_if (ht := fun c17 => ?_) (hf := fun c17 => ?_)
                · try simp only [decide_eq_true_eq, decide_eq_false_iff_not, Bool.not_eq_true', Bool.not_eq_false', Bool.and_eq_true, Bool.or_eq_true, Bool.and_eq_false_iff, Bool.or_eq_false_iff, Decidable.not_not, ne_eq] at c17
                  exact absurd (congrArg Prod.fst (M.cut_not c4)) c17
                · try simp only [decide_eq_true_eq, decide_eq_false_iff_not, Bool.not_eq_true', Bool.not_eq_false', Bool.and_eq_true, Bool.or_eq_true, Bool.and_eq_false_iff, Bool.or_eq_false_iff, Decidable.not_not, ne_eq] at c17
                  refine wp_skip ?_
                  try change Code.wp _ _ _ _ _
                  try change Code.wp _ _ _ _ _
                  refine c_region ?_
                  refine o_move (h := ?_)
                  refine o_add (h0 := by omega) (h1 := by omega) (h := ?_)
                  refine o_assign (h := ?_)
                  refine n_thenN (h := ?_)
                  refine ⟨zs'.length - (i + 1), by omega, i + 1, rfl, by omega, mk_ex, hS⟩
      · try simp only [decide_eq_true_eq, decide_eq_false_iff_not, Bool.not_eq_true', Bool.not_eq_false', Bool.and_eq_true, Bool.or_eq_true, Bool.and_eq_false_iff, Bool.or_eq_false_iff, Decidable.not_not, ne_eq] at c3
        refine wp_exit ?_
        change Code.wp _ _ _ _ _
        refine c_seq ?_
        refine c_region ?_
        refine o_assign (h := ?_)
        refine n_thenN (h := ?_)
        refine c_block ?_
        refine c_loop (fun n a w' => ∃ (k : Nat), n = ws.length - k ∧ k ≤ ws.length ∧ (∃ s : Nat → Value, a = Ac (.lit 139 [.agg #[vW, vN], s 1, .bool false, v24, v26, .int .i64 b, .bool (M.between b 1 32), s 7, s 8, s 9, s 10, s 11, s 12, s 13, s 14, s 15, .int .i64 (k : Nat), s 17, s 18, s 19, s 20, s 21, s 22, s 23, s 24, s 25, s 26, s 27, s 28, s 29, s 30, s 31, s 32, s 33, s 34, s 35, s 36, s 37, s 38, s 39, s 40, s 41, s 42, s 43, s 44, s 45, s 46, s 47, s 48, s 49, s 50, s 51, s 52, s 53, s 54, s 55, s 56, s 57, s 58, s 59, s 60, s 61, s 62, s 63, s 64, s 65, s 66, s 67, s 68, s 69, s 70, s 71, s 72, s 73, s 74, s 75, s 76, s 77, s 78, s 79, s 80, s 81, s 82, s 83, s 84, s 85, s 86, s 87, s 88, s 89, s 90, s 91, s 92, s 93, s 94, s 95, s 96, s 97, s 98, s 99, s 100, s 101, s 102, s 103, s 104, s 105, s 106, s 107, s 108, s 109, s 110, s 111, s 112, s 113, s 114, s 115, s 116, s 117, s 118, s 119, s 120, s 121, s 122, s 123, s 124, s 125, s 126, s 127, s 128, s 129, s 130, s 131, s 132, s 133, s 134, s 135, s 136, s 137, s 138])) ∧ St W (g.plus (LX26 ++ LX)) [] ([]) w') (ws.length) ⟨0, by omega, by omega, mk_ex, hS⟩ ?_
        clear hS
        rintro n a w ⟨k, rfl, hk1, ⟨s, rfl⟩, hS⟩
        refine c_seq ?_
        refine c_seq ?_
        refine c_region ?_
        refine o_move (h := ?_)
        refine o_move (h := ?_)
        refine o_lenT (hr := hv) (ht := Try.underlying22) (h := ?_)
        refine o_bin (h := ?_)
        refine n_thenN (h := ?_)
        refine c_if (ht := fun c18 => ?_) (hf := fun c18 => ?_)
        · try simp only [decide_eq_true_eq, decide_eq_false_iff_not, Bool.not_eq_true', Bool.not_eq_false', Bool.and_eq_true, Bool.or_eq_true, Bool.and_eq_false_iff, Bool.or_eq_false_iff, Decidable.not_not, ne_eq] at c18
          refine wp_skip ?_
          try change Code.wp _ _ _ _ _
          refine c_seq ?_
          refine c_block ?_
          refine c_seq ?_
          refine c_region ?_
          refine o_move (h := ?_)
          refine o_move (h := ?_)
          refine o_indexT (hr := hv) (he := eW_len) (ht := Try.underlying22) (hsz := el_uint32.size) (h0 := by omega) (h1 := by omega) (h := ?_)
          intro b108 o108 cs108 e108 fz108 hb108 hc108
          refine o_load (hb := (hS.block hb108)) (hu := Try.underlying28) (hd := rfl) (hv := (hc108 0 _ rfl)) (h := ?_)
          refine o_move (h := ?_)
          refine o_callS hS Try.func24 rfl rfl (hc := w_Sign) (h := ?_)
          clear hS; intro w hS
          refine o_move (h := ?_)
          refine o_extract (hv := rfl) (h := ?_)
          refine o_extract (hv := rfl) (h := ?_)
          refine o_assign (h := ?_)
          refine o_assign (h := ?_)
          refine n_thenN (h := ?_)
          refine c_seq ?_
          refine c_region ?_
          refine o_assign (h := ?_)
          refine o_assign (h := ?_)
          refine n_thenN (h := ?_)
          refine c_seq ?_
          refine c_seq ?_
          refine c_region ?_
          refine o_move (h := ?_)
          refine n_thenN (h := ?_)
          refine c_if (ht := fun c19 => ?_) (hf := fun c19 => ?_)
          · try simp only [decide_eq_true_eq, decide_eq_false_iff_not, Bool.not_eq_true', Bool.not_eq_false', Bool.and_eq_true, Bool.or_eq_true, Bool.and_eq_false_iff, Bool.or_eq_false_iff, Decidable.not_not, ne_eq] at c19
            have hb2 := M.between_1_32 c19
            refine c_seq ?_
            refine c_region ?_
            refine o_assign (h := ?_)
            refine n_thenN (h := ?_)
            refine c_seq ?_
            refine c_region ?_
            refine o_move (h := ?_)
            refine o_move (h := ?_)
            refine o_indexT (hr := hv) (he := eW_len) (ht := Try.underlying22) (hsz := el_uint32.size) (h0 := by omega) (h1 := by omega) (h := ?_)
            intro b117 o117 cs117 e117 fz117 hb117 hc117
            refine o_load (hb := (hS.block hb117)) (hu := Try.underlying28) (hd := rfl) (hv := (hc117 0 _ rfl)) (h := ?_)
            refine o_conv (hs := Try.underlying28) (ht := Try.underlying43) (h := ?_)
            refine o_move (h := ?_)
            refine o_shr (h0 := by omega) (h := ?_)
            refine o_bin (h := ?_)
            refine n_thenN (h := ?_)
            refine c_if (ht := fun c20 => ?_) (hf := fun c20 => ?_)
            · try simp only [decide_eq_true_eq, decide_eq_false_iff_not, Bool.not_eq_true', Bool.not_eq_false', Bool.and_eq_true, Bool.or_eq_true, Bool.and_eq_false_iff, Bool.or_eq_false_iff, Decidable.not_not, ne_eq] at c20
              refine c_region ?_
              refine o_move (h := ?_)
              refine o_move (h := ?_)
              refine o_indexT (hr := hv) (he := eW_len) (ht := Try.underlying22) (hsz := el_uint32.size) (h0 := by omega) (h1 := by omega) (h := ?_)
              intro b125 o125 cs125 e125 fz125 hb125 hc125
              refine o_load (hb := (hS.block hb125)) (hu := Try.underlying28) (hd := rfl) (hv := (hc125 0 _ rfl)) (h := ?_)
              refine o_move (h := ?_)
              refine o_callS hS Try.func25 rfl rfl (hc := (r1_Sign (hu _ (List.getElem_mem _)) (M.between_1_32 (by assumption)))) (h := ?_)
              clear hS; intro w hS
              refine o_assign (h := ?_)
              refine o_assign (h := ?_)
              refine n_thenN (h := ?_)
              refine c_seq ?_
              refine c_region ?_
              refine o_move (h := ?_)
              refine o_callS hS Try.func17 rfl rfl (hc := l1_num) (h := ?_)
              clear hS; intro w hS
              refine o_move (h := ?_)
              refine o_bin (h := ?_)
              refine o_split (ht := fun c21 => ?_) (hf := fun c21 => ?_)
              · try simp only [decide_eq_true_eq, decide_eq_false_iff_not, Bool.not_eq_true', Bool.not_eq_false', Bool.and_eq_true, Bool.or_eq_true, Bool.and_eq_false_iff, Bool.or_eq_false_iff, Decidable.not_not, ne_eq] at c21
                exact absurd (congrArg Prod.snd (M.sign_go hb2 c20)) c21
              · try simp only [decide_eq_true_eq, decide_eq_false_iff_not, Bool.not_eq_true', Bool.not_eq_false', Bool.and_eq_true, Bool.or_eq_true, Bool.and_eq_false_iff, Bool.or_eq_false_iff, Decidable.not_not, ne_eq] at c21
                refine o_guard (hj := rfl) (hd := rfl) (hb := rfl) (h := ?_)
                refine o_move (h := ?_)
                refine o_guard (hj := rfl) (hd := rfl) (hb := rfl) (h := ?_)
                refine o_move (h := ?_)
                refine o_guard (hj := rfl) (hd := rfl) (hb := rfl) (h := ?_)
                refine o_bin (h := ?_)
                refine o_pickF (h := ?_)
                refine n_thenN (h := ?_)
                refine c_if (ht := fun c22 => ?_) (hf := fun c22 => ?_)
                · try simp only [decide_eq_true_eq, decide_eq_false_iff_not, Bool.not_eq_true', Bool.not_eq_false', Bool.and_eq_true, Bool.or_eq_true, Bool.and_eq_false_iff, Bool.or_eq_false_iff, Decidable.not_not, ne_eq] at c22
                  exact absurd ((congrArg Prod.fst (M.sign_go hb2 c20)).trans (M.signed_eq (hu _ (List.getElem_mem _)) hb2 c20)) c22
                · try simp only [decide_eq_true_eq, decide_eq_false_iff_not, Bool.not_eq_true', Bool.not_eq_false', Bool.and_eq_true, Bool.or_eq_true, Bool.and_eq_false_iff, Bool.or_eq_false_iff, Decidable.not_not, ne_eq] at c22
                  refine wp_skip ?_
                  try change Code.wp _ _ _ _ _
                  try change Code.wp _ _ _ _ _
                  refine c_region ?_
                  refine o_move (h := ?_)
                  refine o_add (h0 := by omega) (h1 := by omega) (h := ?_)
                  refine o_assign (h := ?_)
                  refine n_thenN (h := ?_)
                  refine ⟨ws.length - (k + 1), by omega, k + 1, rfl, by omega, mk_ex, hS⟩
            · try simp only [decide_eq_true_eq, decide_eq_false_iff_not, Bool.not_eq_true', Bool.not_eq_false', Bool.and_eq_true, Bool.or_eq_true, Bool.and_eq_false_iff, Bool.or_eq_false_iff, Decidable.not_not, ne_eq] at c20
              refine wp_skip ?_
              try change Code.wp _ _ _ _ _
              refine c_seq ?_
              refine c_region ?_
              refine o_move (h := ?_)
              refine o_callS hS Try.func17 rfl rfl (hc := l1_num) (h := ?_)
              clear hS; intro w hS
              refine o_move (h := ?_)
              refine o_bin (h := ?_)
              refine o_split (ht := fun c23 => ?_) (hf := fun c23 => ?_)
              · try simp only [decide_eq_true_eq, decide_eq_false_iff_not, Bool.not_eq_true', Bool.not_eq_false', Bool.and_eq_true, Bool.or_eq_true, Bool.and_eq_false_iff, Bool.or_eq_false_iff, Decidable.not_not, ne_eq] at c23
                exact absurd (congrArg Prod.snd (M.sign_no hb2 c20)) c23
              · try simp only [decide_eq_true_eq, decide_eq_false_iff_not, Bool.not_eq_true', Bool.not_eq_false', Bool.and_eq_true, Bool.or_eq_true, Bool.and_eq_false_iff, Bool.or_eq_false_iff, Decidable.not_not, ne_eq] at c23
                refine o_guard (hj := rfl) (hd := rfl) (hb := rfl) (h := ?_)
                refine o_move (h := ?_)
                refine o_guard (hj := rfl) (hd := rfl) (hb := rfl) (h := ?_)
                refine o_move (h := ?_)
                refine o_guard (hj := rfl) (hd := rfl) (hb := rfl) (h := ?_)
                refine o_bin (h := ?_)
                refine o_pickF (h := ?_)
                refine n_thenN (h := ?_)
                refine c_if (ht := fun c24 => ?_) (hf := fun c24 => ?_)
                · try simp only [decide_eq_true_eq, decide_eq_false_iff_not, Bool.not_eq_true', Bool.not_eq_false', Bool.and_eq_true, Bool.or_eq_true, Bool.and_eq_false_iff, Bool.or_eq_false_iff, Decidable.not_not, ne_eq] at c24
                  exact absurd (congrArg Prod.fst (M.sign_no hb2 c20)) c24
                · try simp only [decide_eq_true_eq, decide_eq_false_iff_not, Bool.not_eq_true', Bool.not_eq_false', Bool.and_eq_true, Bool.or_eq_true, Bool.and_eq_false_iff, Bool.or_eq_false_iff, Decidable.not_not, ne_eq] at c24
                  refine wp_skip ?_
                  try change Code.wp _ _ _ _ _
                  try change Code.wp _ _ _ _ _
                  refine c_region ?_
                  refine o_move (h := ?_)
                  refine o_add (h0 := by omega) (h1 := by omega) (h := ?_)
                  refine o_assign (h := ?_)
                  refine n_thenN (h := ?_)
                  refine ⟨ws.length - (k + 1), by omega, k + 1, rfl, by omega, mk_ex, hS⟩
          · try simp only [decide_eq_true_eq, decide_eq_false_iff_not, Bool.not_eq_true', Bool.not_eq_false', Bool.and_eq_true, Bool.or_eq_true, Bool.and_eq_false_iff, Bool.or_eq_false_iff, Decidable.not_not, ne_eq] at c19
            refine wp_skip ?_
            try change Code.wp _ _ _ _ _
            refine c_seq ?_
            refine c_region ?_
            refine o_move (h := ?_)
            refine o_callS hS Try.func17 rfl rfl (hc := l1_num) (h := ?_)
            clear hS; intro w hS
            refine o_move (h := ?_)
            refine o_bin (h := ?_)
            refine o_split (ht := fun c25 => ?_) (hf := fun c25 => ?_)
            · try simp only [decide_eq_true_eq, decide_eq_false_iff_not, Bool.not_eq_true', Bool.not_eq_false', Bool.and_eq_true, Bool.or_eq_true, Bool.and_eq_false_iff, Bool.or_eq_false_iff, Decidable.not_not, ne_eq] at c25
              exact absurd (congrArg Prod.snd (M.sign_not c19)) c25
            · try simp only [decide_eq_true_eq, decide_eq_false_iff_not, Bool.not_eq_true', Bool.not_eq_false', Bool.and_eq_true, Bool.or_eq_true, Bool.and_eq_false_iff, Bool.or_eq_false_iff, Decidable.not_not, ne_eq] at c25
              refine o_guard (hj := rfl) (hd := rfl) (hb := rfl) (h := ?_)
              refine o_move (h := ?_)
              refine o_guard (hj := rfl) (hd := rfl) (hb := rfl) (h := ?_)
              refine o_move (h := ?_)
              refine o_guard (hj := rfl) (hd := rfl) (hb := rfl) (h := ?_)
              refine o_bin (h := ?_)
              refine o_pickF (h := ?_)
              refine n_thenN (h := ?_)
              refine c_if (ht := fun c26 => ?_) (hf := fun c26 => ?_)
              · try simp only [decide_eq_true_eq, decide_eq_false_iff_not, Bool.not_eq_true', Bool.not_eq_false', Bool.and_eq_true, Bool.or_eq_true, Bool.and_eq_false_iff, Bool.or_eq_false_iff, Decidable.not_not, ne_eq] at c26
                exact absurd (congrArg Prod.fst (M.sign_not c19)) c26
              · try simp only [decide_eq_true_eq, decide_eq_false_iff_not, Bool.not_eq_true', Bool.not_eq_false', Bool.and_eq_true, Bool.or_eq_true, Bool.and_eq_false_iff, Bool.or_eq_false_iff, Decidable.not_not, ne_eq] at c26
                refine wp_skip ?_
                try change Code.wp _ _ _ _ _
                try change Code.wp _ _ _ _ _
                refine c_region ?_
                refine o_move (h := ?_)
                refine o_add (h0 := by omega) (h1 := by omega) (h := ?_)
                refine o_assign (h := ?_)
                refine n_thenN (h := ?_)
                refine ⟨ws.length - (k + 1), by omega, k + 1, rfl, by omega, mk_ex, hS⟩
        · try simp only [decide_eq_true_eq, decide_eq_false_iff_not, Bool.not_eq_true', Bool.not_eq_false', Bool.and_eq_true, Bool.or_eq_true, Bool.and_eq_false_iff, Bool.or_eq_false_iff, Decidable.not_not, ne_eq] at c18
          refine wp_exit ?_
          change Code.wp _ _ _ _ _
          try change Code.wp _ _ _ _ _
          refine c_region ?_
          refine o_move (h := ?_)
          refine o_add (h0 := by omega) (h1 := by omega) (h := ?_)
          refine o_assign (h := ?_)
          refine n_thenN (h := ?_)
          refine ⟨(34 - (b + 1)).toNat, by omega, b + 1, rfl, by omega, mk_ex, hS⟩
    · try simp only [decide_eq_true_eq, decide_eq_false_iff_not, Bool.not_eq_true', Bool.not_eq_false', Bool.and_eq_true, Bool.or_eq_true, Bool.and_eq_false_iff, Bool.or_eq_false_iff, Decidable.not_not, ne_eq] at c2
      refine o_skip (hj := rfl) (hd := rfl) (hb := by decide) (h := ?_)
      refine o_skip (hj := rfl) (hd := rfl) (hb := by decide) (h := ?_)
      refine o_pickF (h := ?_)
      refine n_thenN (h := ?_)
      refine c_if_false (h := ?_)
      refine wp_exit ?_
      change Code.wp _ _ _ _ _
      refine c_seq ?_
      refine c_region ?_
      refine o_assign (h := ?_)
      refine n_thenN (h := ?_)
      refine c_block ?_
      refine c_loop (fun n a w' => ∃ (k : Nat), n = ws.length - k ∧ k ≤ ws.length ∧ (∃ s : Nat → Value, a = Ac (.lit 139 [.agg #[vW, vN], s 1, .bool false, v24, v26, .int .i64 b, .bool (M.between b 1 32), s 7, s 8, s 9, s 10, s 11, s 12, s 13, s 14, s 15, .int .i64 (k : Nat), s 17, s 18, s 19, s 20, s 21, s 22, s 23, s 24, s 25, s 26, s 27, s 28, s 29, s 30, s 31, s 32, s 33, s 34, s 35, s 36, s 37, s 38, s 39, s 40, s 41, s 42, s 43, s 44, s 45, s 46, s 47, s 48, s 49, s 50, s 51, s 52, s 53, s 54, s 55, s 56, s 57, s 58, s 59, s 60, s 61, s 62, s 63, s 64, s 65, s 66, s 67, s 68, s 69, s 70, s 71, s 72, s 73, s 74, s 75, s 76, s 77, s 78, s 79, s 80, s 81, s 82, s 83, s 84, s 85, s 86, s 87, s 88, s 89, s 90, s 91, s 92, s 93, s 94, s 95, s 96, s 97, s 98, s 99, s 100, s 101, s 102, s 103, s 104, s 105, s 106, s 107, s 108, s 109, s 110, s 111, s 112, s 113, s 114, s 115, s 116, s 117, s 118, s 119, s 120, s 121, s 122, s 123, s 124, s 125, s 126, s 127, s 128, s 129, s 130, s 131, s 132, s 133, s 134, s 135, s 136, s 137, s 138])) ∧ St W (g.plus (LX26 ++ LX)) [] ([]) w') (ws.length) ⟨0, by omega, by omega, mk_ex, hS⟩ ?_
      clear hS
      rintro n a w ⟨k, rfl, hk1, ⟨s, rfl⟩, hS⟩
      refine c_seq ?_
      refine c_seq ?_
      refine c_region ?_
      refine o_move (h := ?_)
      refine o_move (h := ?_)
      refine o_lenT (hr := hv) (ht := Try.underlying22) (h := ?_)
      refine o_bin (h := ?_)
      refine n_thenN (h := ?_)
      refine c_if (ht := fun c27 => ?_) (hf := fun c27 => ?_)
      · try simp only [decide_eq_true_eq, decide_eq_false_iff_not, Bool.not_eq_true', Bool.not_eq_false', Bool.and_eq_true, Bool.or_eq_true, Bool.and_eq_false_iff, Bool.or_eq_false_iff, Decidable.not_not, ne_eq] at c27
        refine wp_skip ?_
        try change Code.wp _ _ _ _ _
        refine c_seq ?_
        refine c_block ?_
        refine c_seq ?_
        refine c_region ?_
        refine o_move (h := ?_)
        refine o_move (h := ?_)
        refine o_indexT (hr := hv) (he := eW_len) (ht := Try.underlying22) (hsz := el_uint32.size) (h0 := by omega) (h1 := by omega) (h := ?_)
        intro b108 o108 cs108 e108 fz108 hb108 hc108
        refine o_load (hb := (hS.block hb108)) (hu := Try.underlying28) (hd := rfl) (hv := (hc108 0 _ rfl)) (h := ?_)
        refine o_move (h := ?_)
        refine o_callS hS Try.func24 rfl rfl (hc := w_Sign) (h := ?_)
        clear hS; intro w hS
        refine o_move (h := ?_)
        refine o_extract (hv := rfl) (h := ?_)
        refine o_extract (hv := rfl) (h := ?_)
        refine o_assign (h := ?_)
        refine o_assign (h := ?_)
        refine n_thenN (h := ?_)
        refine c_seq ?_
        refine c_region ?_
        refine o_assign (h := ?_)
        refine o_assign (h := ?_)
        refine n_thenN (h := ?_)
        refine c_seq ?_
        refine c_seq ?_
        refine c_region ?_
        refine o_move (h := ?_)
        refine n_thenN (h := ?_)
        refine c_if (ht := fun c28 => ?_) (hf := fun c28 => ?_)
        · try simp only [decide_eq_true_eq, decide_eq_false_iff_not, Bool.not_eq_true', Bool.not_eq_false', Bool.and_eq_true, Bool.or_eq_true, Bool.and_eq_false_iff, Bool.or_eq_false_iff, Decidable.not_not, ne_eq] at c28
          have hb2 := M.between_1_32 c28
          refine c_seq ?_
          refine c_region ?_
          refine o_assign (h := ?_)
          refine n_thenN (h := ?_)
          refine c_seq ?_
          refine c_region ?_
          refine o_move (h := ?_)
          refine o_move (h := ?_)
          refine o_indexT (hr := hv) (he := eW_len) (ht := Try.underlying22) (hsz := el_uint32.size) (h0 := by omega) (h1 := by omega) (h := ?_)
          intro b117 o117 cs117 e117 fz117 hb117 hc117
          refine o_load (hb := (hS.block hb117)) (hu := Try.underlying28) (hd := rfl) (hv := (hc117 0 _ rfl)) (h := ?_)
          refine o_conv (hs := Try.underlying28) (ht := Try.underlying43) (h := ?_)
          refine o_move (h := ?_)
          refine o_shr (h0 := by omega) (h := ?_)
          refine o_bin (h := ?_)
          refine n_thenN (h := ?_)
          refine c_if (ht := fun c29 => ?_) (hf := fun c29 => ?_)
          · try simp only [decide_eq_true_eq, decide_eq_false_iff_not, Bool.not_eq_true', Bool.not_eq_false', Bool.and_eq_true, Bool.or_eq_true, Bool.and_eq_false_iff, Bool.or_eq_false_iff, Decidable.not_not, ne_eq] at c29
            refine c_region ?_
            refine o_move (h := ?_)
            refine o_move (h := ?_)
            refine o_indexT (hr := hv) (he := eW_len) (ht := Try.underlying22) (hsz := el_uint32.size) (h0 := by omega) (h1 := by omega) (h := ?_)
            intro b125 o125 cs125 e125 fz125 hb125 hc125
            refine o_load (hb := (hS.block hb125)) (hu := Try.underlying28) (hd := rfl) (hv := (hc125 0 _ rfl)) (h := ?_)
            refine o_move (h := ?_)
            refine o_callS hS Try.func25 rfl rfl (hc := (r1_Sign (hu _ (List.getElem_mem _)) (M.between_1_32 (by assumption)))) (h := ?_)
            clear hS; intro w hS
            refine o_assign (h := ?_)
            refine o_assign (h := ?_)
            refine n_thenN (h := ?_)
            refine c_seq ?_
            refine c_region ?_
            refine o_move (h := ?_)
            refine o_callS hS Try.func17 rfl rfl (hc := l1_num) (h := ?_)
            clear hS; intro w hS
            refine o_move (h := ?_)
            refine o_bin (h := ?_)
            refine o_split (ht := fun c30 => ?_) (hf := fun c30 => ?_)
            · try simp only [decide_eq_true_eq, decide_eq_false_iff_not, Bool.not_eq_true', Bool.not_eq_false', Bool.and_eq_true, Bool.or_eq_true, Bool.and_eq_false_iff, Bool.or_eq_false_iff, Decidable.not_not, ne_eq] at c30
              exact absurd (congrArg Prod.snd (M.sign_go hb2 c29)) c30
            · try simp only [decide_eq_true_eq, decide_eq_false_iff_not, Bool.not_eq_true', Bool.not_eq_false', Bool.and_eq_true, Bool.or_eq_true, Bool.and_eq_false_iff, Bool.or_eq_false_iff, Decidable.not_not, ne_eq] at c30
              refine o_guard (hj := rfl) (hd := rfl) (hb := rfl) (h := ?_)
              refine o_move (h := ?_)
              refine o_guard (hj := rfl) (hd := rfl) (hb := rfl) (h := ?_)
              refine o_move (h := ?_)
              refine o_guard (hj := rfl) (hd := rfl) (hb := rfl) (h := ?_)
              refine o_bin (h := ?_)
              refine o_pickF (h := ?_)
              refine n_thenN (h := ?_)
              refine c_if (ht := fun c31 => ?_) (hf := fun c31 => ?_)
              · try simp only [decide_eq_true_eq, decide_eq_false_iff_not, Bool.not_eq_true', Bool.not_eq_false', Bool.and_eq_true, Bool.or_eq_true, Bool.and_eq_false_iff, Bool.or_eq_false_iff, Decidable.not_not, ne_eq] at c31
                exact absurd ((congrArg Prod.fst (M.sign_go hb2 c29)).trans (M.signed_eq (hu _ (List.getElem_mem _)) hb2 c29)) c31
              · try simp only [decide_eq_true_eq, decide_eq_false_iff_not, Bool.not_eq_true', Bool.not_eq_false', Bool.and_eq_true, Bool.or_eq_true, Bool.and_eq_false_iff, Bool.or_eq_false_iff, Decidable.not_not, ne_eq] at c31
                refine wp_skip ?_
                try change Code.wp _ _ _ _ _
                try change Code.wp _ _ _ _ _
                refine c_region ?_
                refine o_move (h := ?_)
                refine o_add (h0 := by omega) (h1 := by omega) (h := ?_)
                refine o_assign (h := ?_)
                refine n_thenN (h := ?_)
                refine ⟨ws.length - (k + 1), by omega, k + 1, rfl, by omega, mk_ex, hS⟩
          · try simp only [decide_eq_true_eq, decide_eq_false_iff_not, Bool.not_eq_true', Bool.not_eq_false', Bool.and_eq_true, Bool.or_eq_true, Bool.and_eq_false_iff, Bool.or_eq_false_iff, Decidable.not_not, ne_eq] at c29
            refine wp_skip ?_
            try change Code.wp _ _ _ _ _
            refine c_seq ?_
            refine c_region ?_
            refine o_move (h := ?_)
            refine o_callS hS Try.func17 rfl rfl (hc := l1_num) (h := ?_)
            clear hS; intro w hS
            refine o_move (h := ?_)
            refine o_bin (h := ?_)
            refine o_split (ht := fun c32 => ?_) (hf := fun c32 => ?_)
            · try simp only [decide_eq_true_eq, decide_eq_false_iff_not, Bool.not_eq_true', Bool.not_eq_false', Bool.and_eq_true, Bool.or_eq_true, Bool.and_eq_false_iff, Bool.or_eq_false_iff, Decidable.not_not, ne_eq] at c32
              exact absurd (congrArg Prod.snd (M.sign_no hb2 c29)) c32
            · try simp only [decide_eq_true_eq, decide_eq_false_iff_not, Bool.not_eq_true', Bool.not_eq_false', Bool.and_eq_true, Bool.or_eq_true, Bool.and_eq_false_iff, Bool.or_eq_false_iff, Decidable.not_not, ne_eq] at c32
              refine o_guard (hj := rfl) (hd := rfl) (hb := rfl) (h := ?_)
              refine o_move (h := ?_)
              refine o_guard (hj := rfl) (hd := rfl) (hb := rfl) (h := ?_)
              refine o_move (h := ?_)
              refine o_guard (hj := rfl) (hd := rfl) (hb := rfl) (h := ?_)
              refine o_bin (h := ?_)
              refine o_pickF (h := ?_)
              refine n_thenN (h := ?_)
              refine c_if (ht := fun c33 => ?_) (hf := fun c33 => ?_)
              · try simp only [decide_eq_true_eq, decide_eq_false_iff_not, Bool.not_eq_true', Bool.not_eq_false', Bool.and_eq_true, Bool.or_eq_true, Bool.and_eq_false_iff, Bool.or_eq_false_iff, Decidable.not_not, ne_eq] at c33
                exact absurd (congrArg Prod.fst (M.sign_no hb2 c29)) c33
              · try simp only [decide_eq_true_eq, decide_eq_false_iff_not, Bool.not_eq_true', Bool.not_eq_false', Bool.and_eq_true, Bool.or_eq_true, Bool.and_eq_false_iff, Bool.or_eq_false_iff, Decidable.not_not, ne_eq] at c33
                refine wp_skip ?_
                try change Code.wp _ _ _ _ _
                try change Code.wp _ _ _ _ _
                refine c_region ?_
                refine o_move (h := ?_)
                refine o_add (h0 := by omega) (h1 := by omega) (h := ?_)
                refine o_assign (h := ?_)
                refine n_thenN (h := ?_)
                refine ⟨ws.length - (k + 1), by omega, k + 1, rfl, by omega, mk_ex, hS⟩
        · try simp only [decide_eq_true_eq, decide_eq_false_iff_not, Bool.not_eq_true', Bool.not_eq_false', Bool.and_eq_true, Bool.or_eq_true, Bool.and_eq_false_iff, Bool.or_eq_false_iff, Decidable.not_not, ne_eq] at c28
          refine wp_skip ?_
          try change Code.wp _ _ _ _ _
          refine c_seq ?_
          refine c_region ?_
          refine o_move (h := ?_)
          refine o_callS hS Try.func17 rfl rfl (hc := l1_num) (h := ?_)
          clear hS; intro w hS
          refine o_move (h := ?_)
          refine o_bin (h := ?_)
          refine o_split (ht := fun c34 => ?_) (hf := fun c34 => ?_)
          · try simp only [decide_eq_true_eq, decide_eq_false_iff_not, Bool.not_eq_true', Bool.not_eq_false', Bool.and_eq_true, Bool.or_eq_true, Bool.and_eq_false_iff, Bool.or_eq_false_iff, Decidable.not_not, ne_eq] at c34
            exact absurd (congrArg Prod.snd (M.sign_not c28)) c34
          · try simp only [decide_eq_true_eq, decide_eq_false_iff_not, Bool.not_eq_true', Bool.not_eq_false', Bool.and_eq_true, Bool.or_eq_true, Bool.and_eq_false_iff, Bool.or_eq_false_iff, Decidable.not_not, ne_eq] at c34
            refine o_guard (hj := rfl) (hd := rfl) (hb := rfl) (h := ?_)
            refine o_move (h := ?_)
            refine o_guard (hj := rfl) (hd := rfl) (hb := rfl) (h := ?_)
            refine o_move (h := ?_)
            refine o_guard (hj := rfl) (hd := rfl) (hb := rfl) (h := ?_)
            refine o_bin (h := ?_)
            refine o_pickF (h := ?_)
            refine n_thenN (h := ?_)
            refine c_if (ht := fun c35 => ?_) (hf := fun c35 => ?_)
            · try simp only [decide_eq_true_eq, decide_eq_false_iff_not, Bool.not_eq_true', Bool.not_eq_false', Bool.and_eq_true, Bool.or_eq_true, Bool.and_eq_false_iff, Bool.or_eq_false_iff, Decidable.not_not, ne_eq] at c35
              exact absurd (congrArg Prod.fst (M.sign_not c28)) c35
            · try simp only [decide_eq_true_eq, decide_eq_false_iff_not, Bool.not_eq_true', Bool.not_eq_false', Bool.and_eq_true, Bool.or_eq_true, Bool.and_eq_false_iff, Bool.or_eq_false_iff, Decidable.not_not, ne_eq] at c35
              refine wp_skip ?_
              try change Code.wp _ _ _ _ _
              try change Code.wp _ _ _ _ _
              refine c_region ?_
              refine o_move (h := ?_)
              refine o_add (h0 := by omega) (h1 := by omega) (h := ?_)
              refine o_assign (h := ?_)
              refine n_thenN (h := ?_)
              refine ⟨ws.length - (k + 1), by omega, k + 1, rfl, by omega, mk_ex, hS⟩
      · try simp only [decide_eq_true_eq, decide_eq_false_iff_not, Bool.not_eq_true', Bool.not_eq_false', Bool.and_eq_true, Bool.or_eq_true, Bool.and_eq_false_iff, Bool.or_eq_false_iff, Decidable.not_not, ne_eq] at c27
        refine wp_exit ?_
        change Code.wp _ _ _ _ _
        try change Code.wp _ _ _ _ _
        refine c_region ?_
        refine o_move (h := ?_)
        refine o_add (h0 := by omega) (h1 := by omega) (h := ?_)
        refine o_assign (h := ?_)
        refine n_thenN (h := ?_)
        refine ⟨(34 - (b + 1)).toNat, by omega, b + 1, rfl, by omega, mk_ex, hS⟩
  · try simp only [decide_eq_true_eq, decide_eq_false_iff_not, Bool.not_eq_true', Bool.not_eq_false', Bool.and_eq_true, Bool.or_eq_true, Bool.and_eq_false_iff, Bool.or_eq_false_iff, Decidable.not_not, ne_eq] at c1
    refine wp_exit ?_
    change Code.wp _ _ _ _ _
    refine c_seq ?_
    refine c_region ?_
    refine o_callS hS Try.func18 rfl rfl (hc := l1_wakes) (h := ?_)
    clear hS; intro w hS
    refine o_assign (h := ?_)
    refine n_thenN (h := ?_)
    refine wp_ret (r_retS1 (hS.less (Frag.le_plus _ _)) rfl (hR := ?_))
    rfl


end Go.Proofs.Ythpnbgkhoocadaa
