/- WordOps, walked. -/
import Derived.Test.YthpnbgkhoocadaaProg
import Derived.Test.YthpnbgkhoocadaaWLaw1
import Derived.KernelRfl
namespace Go.Proofs.Ythpnbgkhoocadaa
open Go.RowKit Fr
set_option linter.unusedVariables false
set_option linter.unusedSimpArgs false
set_option maxRecDepth 20000

theorem M.of_none {op a b : Int} (h : M.wHas op = false) : M.wOf op a b = (0, 1) := by simp [M.wOf, h]
theorem M.of_go {op a b : Int} (ho : 1 ≤ op ∧ op ≤ 17) (hb : 0 ≤ b ∧ b < 4294967296) (h : (M.r1Of op a b).2 = true) : (M.wOf op a b).2 = 0 ∧ (M.wOf op a b).1 = (M.r1Of op a b).1 := by
  have z := M.of_agree (op := op) (a := a) (b := b) ho hb
  refine ⟨?_, z.2 h⟩
  have := z.1
  rw [h] at this
  exact of_decide_eq_true this.symm
theorem M.of_stop {op a b : Int} (ho : M.wHas op = true) (hb : 0 ≤ b ∧ b < 4294967296) (h : (M.r1Of op a b).2 = false) : M.wOf op a b = (0, 7) := by
  have z := (M.of_agree (op := op) (a := a) (b := b) (M.has_true ho) hb).1
  rw [h] at z
  have z2 : (M.wOf op a b).2 ≠ 0 := of_decide_eq_false z.symm
  unfold M.wOf at z2 ⊢
  rw [if_neg (by simp [ho])] at z2 ⊢
  by_cases h1 : b = 0 ∧ (op = 16 ∨ op = 17)
  · rw [if_pos h1]
  · rw [if_neg h1] at z2
    exfalso; apply z2
    split
    · rfl
    · split <;> rfl

set_option maxHeartbeats 40000000 in
theorem law_WordOps {g : Frag} {zs ns : List Int} {vW vN : Value} (hA : AskIn g zs ns vW vN) : LCs Try.prog 3 #[.agg #[vW, vN]] g (.bool true) := by
  refine lc_body (k := 75) (av := [.agg #[vW, vN]]) Try.func3 rfl rfl fun W hS => ?_
  simp only [List.replicate, List.cons_append, List.nil_append]
  refine c_seq ?_
  refine c_region ?_
  refine o_box hS (h := ?_)
  clear hS; intro b1 w hS
  refine o_assign (h := ?_)
  refine n_thenN (h := ?_)
  refine c_seq ?_
  refine c_region ?_
  refine o_loadW (hb := (hS.own (by repeat (first | exact List.mem_cons_self | apply List.mem_cons_of_mem | apply List.mem_append_right)))) (hu := Try.underlying25) (hd := rfl) (hi := by exact sz_sledgelaw1_Ask) (h := ?_)
  refine o_call (L1 := []) hS Try.func12 rfl rfl (hc := l1_words hA.plus) (h := ?_)
  clear hS; intro v14 LX w hS hr
  have hS : St W g [] (LX ++ []) w := hS.drop (List.Sublist.append_left (List.nil_sublist _) _)
  have hS1 : St W g [] LX w := by simpa using hS
  have hv := OwT.plus hr hS1 (fun p h => h)
  have hS := St.freeze (L2 := []) hS
  clear hS1
  have hu := words_u32 hA.rw
  have hlen : ((ten ++ zs).take 22).length ≤ 22 := by rw [List.length_take]; omega
  generalize (ten ++ zs).take 22 = zs' at *
  refine o_assign (h := ?_)
  refine n_thenN (h := ?_)
  refine c_seq ?_
  refine c_seq ?_
  refine c_region ?_
  refine o_assign (h := ?_)
  refine n_thenN (h := ?_)
  refine c_block ?_
  refine c_loop (fun n a w' => ∃ op, n = (35 - op).toNat ∧ -1 ≤ op ∧ (∃ s : Nat → Value, a = Ac [.agg #[vW, vN], s 1, .bool false, v14, .int .i64 op, s 5, s 6, s 7, s 8, s 9, s 10, s 11, s 12, s 13, s 14, s 15, s 16, s 17, s 18, s 19, s 20, s 21, s 22, s 23, s 24, s 25, s 26, s 27, s 28, s 29, s 30, s 31, s 32, s 33, s 34, s 35, s 36, s 37, s 38, s 39, s 40, s 41, s 42, s 43, s 44, s 45, s 46, s 47, s 48, s 49, s 50, s 51, s 52, s 53, s 54, s 55, s 56, s 57, s 58, s 59, s 60, s 61, s 62, s 63, s 64, s 65, s 66, s 67, s 68, s 69, s 70, s 71, s 72, s 73, s 74, s 75]) ∧ St W (g.plus LX) [] ([]) w') (36) ⟨-1, rfl, by omega, mk_ex, hS⟩ ?_
  clear hS
  rintro n a w ⟨op, rfl, ho1, ⟨s, rfl⟩, hS⟩
  refine c_seq ?_
  refine c_seq ?_
  refine c_region ?_
  refine o_move (h := ?_)
  refine o_bin (h := ?_)
  refine n_thenN (h := ?_)
  refine c_if (ht := fun c1 => ?_) (hf := fun c1 => ?_)
  · try simp only [decide_eq_true_eq, decide_eq_false_iff_not, Bool.not_eq_true', Bool.not_eq_false', Bool.and_eq_true, Bool.or_eq_true, Bool.and_eq_false_iff, Bool.or_eq_false_iff, Decidable.not_not, ne_eq] at c1
    refine wp_skip ?_
    try change Code.wp _ _ _ _ _
    refine c_seq ?_
    refine c_block ?_
    refine c_seq ?_
    refine c_seq ?_
    refine c_region ?_
    refine o_move (h := ?_)
    refine o_callS hS Try.func13 rfl rfl (hc := w_Has) (h := ?_)
    clear hS; intro w hS
    refine o_move (h := ?_)
    refine o_callS hS Try.func14 rfl rfl (hc := r1_Has) (h := ?_)
    clear hS; intro w hS
    refine o_bneq (ht := Try.underlying4) (h := ?_)
    refine n_thenN (h := ?_)
    refine c_if (ht := fun c2 => ?_) (hf := fun c2 => ?_)
    · try simp only [decide_eq_true_eq, decide_eq_false_iff_not, Bool.not_eq_true', Bool.not_eq_false', Bool.and_eq_true, Bool.or_eq_true, Bool.and_eq_false_iff, Bool.or_eq_false_iff, Decidable.not_not, ne_eq] at c2
      simp at c2
    · try simp only [decide_eq_true_eq, decide_eq_false_iff_not, Bool.not_eq_true', Bool.not_eq_false', Bool.and_eq_true, Bool.or_eq_true, Bool.and_eq_false_iff, Bool.or_eq_false_iff, Decidable.not_not, ne_eq] at c2
      refine wp_skip ?_
      try change Code.wp _ _ _ _ _
      refine c_seq ?_
      refine c_region ?_
      refine o_assign (h := ?_)
      refine n_thenN (h := ?_)
      refine c_block ?_
      refine c_loop (fun n a w' => ∃ (i : Nat), n = zs'.length - i ∧ i ≤ zs'.length ∧ (∃ s : Nat → Value, a = Ac [.agg #[vW, vN], s 1, .bool false, v14, .int .i64 op, .int .i64 (i : Nat), s 6, s 7, s 8, s 9, s 10, s 11, s 12, s 13, s 14, s 15, s 16, s 17, s 18, s 19, s 20, s 21, s 22, s 23, s 24, s 25, s 26, s 27, s 28, s 29, s 30, s 31, s 32, s 33, s 34, s 35, s 36, s 37, s 38, s 39, s 40, s 41, s 42, s 43, s 44, s 45, s 46, s 47, s 48, s 49, s 50, s 51, s 52, s 53, s 54, s 55, s 56, s 57, s 58, s 59, s 60, s 61, s 62, s 63, s 64, s 65, s 66, s 67, s 68, s 69, s 70, s 71, s 72, s 73, s 74, s 75]) ∧ St W (g.plus LX) [] ([]) w') (zs'.length) ⟨0, by omega, by omega, mk_ex, hS⟩ ?_
      clear hS
      rintro n a w ⟨i, rfl, hi1, ⟨s, rfl⟩, hS⟩
      refine c_seq ?_
      refine c_seq ?_
      refine c_region ?_
      refine o_move (h := ?_)
      refine o_move (h := ?_)
      refine o_lenT (hr := hv) (ht := Try.underlying22) (h := ?_)
      refine o_bin (h := ?_)
      refine n_thenN (h := ?_)
      refine c_if (ht := fun c3 => ?_) (hf := fun c3 => ?_)
      · try simp only [decide_eq_true_eq, decide_eq_false_iff_not, Bool.not_eq_true', Bool.not_eq_false', Bool.and_eq_true, Bool.or_eq_true, Bool.and_eq_false_iff, Bool.or_eq_false_iff, Decidable.not_not, ne_eq] at c3
        refine wp_skip ?_
        try change Code.wp _ _ _ _ _
        refine c_seq ?_
        refine c_block ?_
        refine c_seq ?_
        refine c_region ?_
        refine o_assign (h := ?_)
        refine n_thenN (h := ?_)
        refine c_block ?_
        refine c_loop (fun n a w' => ∃ (k : Nat), n = zs'.length - k ∧ k ≤ zs'.length ∧ (∃ s : Nat → Value, a = Ac [.agg #[vW, vN], s 1, .bool false, v14, .int .i64 op, .int .i64 (i : Nat), .int .i64 (k : Nat), s 7, s 8, s 9, s 10, s 11, s 12, s 13, s 14, s 15, s 16, s 17, s 18, s 19, s 20, s 21, s 22, s 23, s 24, s 25, s 26, s 27, s 28, s 29, s 30, s 31, s 32, s 33, s 34, s 35, s 36, s 37, s 38, s 39, s 40, s 41, s 42, s 43, s 44, s 45, s 46, s 47, s 48, s 49, s 50, s 51, s 52, s 53, s 54, s 55, s 56, s 57, s 58, s 59, s 60, s 61, s 62, s 63, s 64, s 65, s 66, s 67, s 68, s 69, s 70, s 71, s 72, s 73, s 74, s 75]) ∧ St W (g.plus LX) [] ([]) w') (zs'.length) ⟨0, by omega, by omega, mk_ex, hS⟩ ?_
        clear hS
        rintro n a w ⟨k, rfl, hk1, ⟨s, rfl⟩, hS⟩
        refine c_seq ?_
        refine c_seq ?_
        refine c_region ?_
        refine o_move (h := ?_)
        refine o_move (h := ?_)
        refine o_lenT (hr := hv) (ht := Try.underlying22) (h := ?_)
        refine o_bin (h := ?_)
        refine n_thenN (h := ?_)
        refine c_if (ht := fun c4 => ?_) (hf := fun c4 => ?_)
        · try simp only [decide_eq_true_eq, decide_eq_false_iff_not, Bool.not_eq_true', Bool.not_eq_false', Bool.and_eq_true, Bool.or_eq_true, Bool.and_eq_false_iff, Bool.or_eq_false_iff, Decidable.not_not, ne_eq] at c4
          refine wp_skip ?_
          try change Code.wp _ _ _ _ _
          refine c_seq ?_
          refine c_block ?_
          refine c_seq ?_
          refine c_quiet (by kernel_rfl) (by kernel_rfl) hS ?_
          refine q_move (h := ?_)
          refine q_move (h := ?_)
          refine q_move (h := ?_)
          refine q_indexT (hr := hv) (he := eW_len) (ht := Try.underlying22) (hsz := el_uint32.size) (h0 := by omega) (h1 := by omega) (h := ?_)
          intro b40 o40 cs40 e40 fz40 hb40 hc40
          refine q_load (hb := (fun w hS => hS.block hb40)) (hu := Try.underlying28) (hd := rfl) (hv := (hc40 0 _ rfl)) (h := ?_)
          refine q_move (h := ?_)
          refine q_move (h := ?_)
          refine q_indexT (hr := hv) (he := eW_len) (ht := Try.underlying22) (hsz := el_uint32.size) (h0 := by omega) (h1 := by omega) (h := ?_)
          intro b44 o44 cs44 e44 fz44 hb44 hc44
          refine q_load (hb := (fun w hS => hS.block hb44)) (hu := Try.underlying28) (hd := rfl) (hv := (hc44 0 _ rfl)) (h := ?_)
          refine q_callS Try.func15 rfl rfl (hc := (w_Of (hu _ (List.getElem_mem _)) (hu _ (List.getElem_mem _)))) (h := ?_)
          refine q_move (h := ?_)
          refine q_extract (hv := rfl) (h := ?_)
          refine q_extract (hv := rfl) (h := ?_)
          refine q_assign (h := ?_)
          refine q_assign (h := ?_)
          refine q_nilN (h := ?_)
          clear hS; intro w hS
          try change Code.wp _ _ _ _ _
          refine c_seq ?_
          refine c_region ?_
          refine o_assign (h := ?_)
          refine o_assign (h := ?_)
          refine n_thenN (h := ?_)
          refine c_seq ?_
          refine c_seq ?_
          refine c_region ?_
          refine o_move (h := ?_)
          refine o_callS hS Try.func14 rfl rfl (hc := r1_Has) (h := ?_)
          clear hS; intro w hS
          refine n_thenN (h := ?_)
          refine c_if (ht := fun c5 => ?_) (hf := fun c5 => ?_)
          · try simp only [decide_eq_true_eq, decide_eq_false_iff_not, Bool.not_eq_true', Bool.not_eq_false', Bool.and_eq_true, Bool.or_eq_true, Bool.and_eq_false_iff, Bool.or_eq_false_iff, Decidable.not_not, ne_eq] at c5
            refine c_seq ?_
            refine c_quiet (by kernel_rfl) (by kernel_rfl) hS ?_
            refine q_move (h := ?_)
            refine q_move (h := ?_)
            refine q_move (h := ?_)
            refine q_indexT (hr := hv) (he := eW_len) (ht := Try.underlying22) (hsz := el_uint32.size) (h0 := by omega) (h1 := by omega) (h := ?_)
            intro b55 o55 cs55 e55 fz55 hb55 hc55
            refine q_load (hb := (fun w hS => hS.block hb55)) (hu := Try.underlying28) (hd := rfl) (hv := (hc55 0 _ rfl)) (h := ?_)
            refine q_move (h := ?_)
            refine q_move (h := ?_)
            refine q_indexT (hr := hv) (he := eW_len) (ht := Try.underlying22) (hsz := el_uint32.size) (h0 := by omega) (h1 := by omega) (h := ?_)
            intro b59 o59 cs59 e59 fz59 hb59 hc59
            refine q_load (hb := (fun w hS => hS.block hb59)) (hu := Try.underlying28) (hd := rfl) (hv := (hc59 0 _ rfl)) (h := ?_)
            refine q_callS Try.func16 rfl rfl (hc := (r1_Of (hu _ (List.getElem_mem _)) (hu _ (List.getElem_mem _)))) (h := ?_)
            refine q_move (h := ?_)
            refine q_extract (hv := rfl) (h := ?_)
            refine q_extract (hv := rfl) (h := ?_)
            refine q_assign (h := ?_)
            refine q_assign (h := ?_)
            refine q_nilN (h := ?_)
            clear hS; intro w hS
            try change Code.wp _ _ _ _ _
            refine c_seq ?_
            refine c_region ?_
            refine o_assign (h := ?_)
            refine n_thenN (h := ?_)
            refine c_seq ?_
            refine c_region ?_
            refine o_move (h := ?_)
            refine n_thenN (h := ?_)
            refine c_if (ht := fun c6 => ?_) (hf := fun c6 => ?_)
            · try simp only [decide_eq_true_eq, decide_eq_false_iff_not, Bool.not_eq_true', Bool.not_eq_false', Bool.and_eq_true, Bool.or_eq_true, Bool.and_eq_false_iff, Bool.or_eq_false_iff, Decidable.not_not, ne_eq] at c6
              refine c_region ?_
              refine o_move (h := ?_)
              refine o_assign (h := ?_)
              refine o_assign (h := ?_)
              refine n_thenN (h := ?_)
              refine c_seq ?_
              refine c_region ?_
              refine o_move (h := ?_)
              refine o_callS hS Try.func17 rfl rfl (hc := l1_num) (h := ?_)
              clear hS; intro w hS
              refine o_move (h := ?_)
              refine o_bin (h := ?_)
              refine o_split (ht := fun c7 => ?_) (hf := fun c7 => ?_)
              · try simp only [decide_eq_true_eq, decide_eq_false_iff_not, Bool.not_eq_true', Bool.not_eq_false', Bool.and_eq_true, Bool.or_eq_true, Bool.and_eq_false_iff, Bool.or_eq_false_iff, Decidable.not_not, ne_eq] at c7
                exact absurd (M.of_go (M.has_true c5) (hu _ (List.getElem_mem _)) c6).1 c7
              · try simp only [decide_eq_true_eq, decide_eq_false_iff_not, Bool.not_eq_true', Bool.not_eq_false', Bool.and_eq_true, Bool.or_eq_true, Bool.and_eq_false_iff, Bool.or_eq_false_iff, Decidable.not_not, ne_eq] at c7
                refine o_guard (hj := rfl) (hd := rfl) (hb := rfl) (h := ?_)
                refine o_move (h := ?_)
                refine o_guard (hj := rfl) (hd := rfl) (hb := rfl) (h := ?_)
                refine o_move (h := ?_)
                refine o_guard (hj := rfl) (hd := rfl) (hb := rfl) (h := ?_)
                refine o_bin (h := ?_)
                refine o_pickF (h := ?_)
                refine n_thenN (h := ?_)
                refine c_if (ht := fun c8 => ?_) (hf := fun c8 => ?_)
                · try simp only [decide_eq_true_eq, decide_eq_false_iff_not, Bool.not_eq_true', Bool.not_eq_false', Bool.and_eq_true, Bool.or_eq_true, Bool.and_eq_false_iff, Bool.or_eq_false_iff, Decidable.not_not, ne_eq] at c8
                  exact absurd (M.of_go (M.has_true c5) (hu _ (List.getElem_mem _)) c6).2 c8
                · try simp only [decide_eq_true_eq, decide_eq_false_iff_not, Bool.not_eq_true', Bool.not_eq_false', Bool.and_eq_true, Bool.or_eq_true, Bool.and_eq_false_iff, Bool.or_eq_false_iff, Decidable.not_not, ne_eq] at c8
                  refine wp_skip ?_
                  try change Code.wp _ _ _ _ _
                  try change Code.wp _ _ _ _ _
                  refine c_region ?_
                  refine o_move (h := ?_)
                  refine o_add (h0 := by omega) (h1 := by omega) (h := ?_)
                  refine o_assign (h := ?_)
                  refine n_thenN (h := ?_)
                  refine ⟨zs'.length - (k + 1), by omega, k + 1, rfl, by omega, mk_ex, hS⟩
            · try simp only [decide_eq_true_eq, decide_eq_false_iff_not, Bool.not_eq_true', Bool.not_eq_false', Bool.and_eq_true, Bool.or_eq_true, Bool.and_eq_false_iff, Bool.or_eq_false_iff, Decidable.not_not, ne_eq] at c6
              refine wp_skip ?_
              try change Code.wp _ _ _ _ _
              refine c_seq ?_
              refine c_region ?_
              refine o_move (h := ?_)
              refine o_callS hS Try.func17 rfl rfl (hc := l1_num) (h := ?_)
              clear hS; intro w hS
              refine o_move (h := ?_)
              refine o_bin (h := ?_)
              refine o_split (ht := fun c9 => ?_) (hf := fun c9 => ?_)
              · try simp only [decide_eq_true_eq, decide_eq_false_iff_not, Bool.not_eq_true', Bool.not_eq_false', Bool.and_eq_true, Bool.or_eq_true, Bool.and_eq_false_iff, Bool.or_eq_false_iff, Decidable.not_not, ne_eq] at c9
                exact absurd (congrArg Prod.snd (M.of_stop c5 (hu _ (List.getElem_mem _)) c6)) c9
              · try simp only [decide_eq_true_eq, decide_eq_false_iff_not, Bool.not_eq_true', Bool.not_eq_false', Bool.and_eq_true, Bool.or_eq_true, Bool.and_eq_false_iff, Bool.or_eq_false_iff, Decidable.not_not, ne_eq] at c9
                refine o_guard (hj := rfl) (hd := rfl) (hb := rfl) (h := ?_)
                refine o_move (h := ?_)
                refine o_guard (hj := rfl) (hd := rfl) (hb := rfl) (h := ?_)
                refine o_move (h := ?_)
                refine o_guard (hj := rfl) (hd := rfl) (hb := rfl) (h := ?_)
                refine o_bin (h := ?_)
                refine o_pickF (h := ?_)
                refine n_thenN (h := ?_)
                refine c_if (ht := fun c10 => ?_) (hf := fun c10 => ?_)
                · try simp only [decide_eq_true_eq, decide_eq_false_iff_not, Bool.not_eq_true', Bool.not_eq_false', Bool.and_eq_true, Bool.or_eq_true, Bool.and_eq_false_iff, Bool.or_eq_false_iff, Decidable.not_not, ne_eq] at c10
                  exact absurd (congrArg Prod.fst (M.of_stop c5 (hu _ (List.getElem_mem _)) c6)) c10
                · try simp only [decide_eq_true_eq, decide_eq_false_iff_not, Bool.not_eq_true', Bool.not_eq_false', Bool.and_eq_true, Bool.or_eq_true, Bool.and_eq_false_iff, Bool.or_eq_false_iff, Decidable.not_not, ne_eq] at c10
                  refine wp_skip ?_
                  try change Code.wp _ _ _ _ _
                  try change Code.wp _ _ _ _ _
                  refine c_region ?_
                  refine o_move (h := ?_)
                  refine o_add (h0 := by omega) (h1 := by omega) (h := ?_)
                  refine o_assign (h := ?_)
                  refine n_thenN (h := ?_)
                  refine ⟨zs'.length - (k + 1), by omega, k + 1, rfl, by omega, mk_ex, hS⟩
          · try simp only [decide_eq_true_eq, decide_eq_false_iff_not, Bool.not_eq_true', Bool.not_eq_false', Bool.and_eq_true, Bool.or_eq_true, Bool.and_eq_false_iff, Bool.or_eq_false_iff, Decidable.not_not, ne_eq] at c5
            refine wp_skip ?_
            try change Code.wp _ _ _ _ _
            refine c_seq ?_
            refine c_region ?_
            refine o_move (h := ?_)
            refine o_callS hS Try.func17 rfl rfl (hc := l1_num) (h := ?_)
            clear hS; intro w hS
            refine o_move (h := ?_)
            refine o_bin (h := ?_)
            refine o_split (ht := fun c11 => ?_) (hf := fun c11 => ?_)
            · try simp only [decide_eq_true_eq, decide_eq_false_iff_not, Bool.not_eq_true', Bool.not_eq_false', Bool.and_eq_true, Bool.or_eq_true, Bool.and_eq_false_iff, Bool.or_eq_false_iff, Decidable.not_not, ne_eq] at c11
              exact absurd (congrArg Prod.snd (M.of_none c5)) c11
            · try simp only [decide_eq_true_eq, decide_eq_false_iff_not, Bool.not_eq_true', Bool.not_eq_false', Bool.and_eq_true, Bool.or_eq_true, Bool.and_eq_false_iff, Bool.or_eq_false_iff, Decidable.not_not, ne_eq] at c11
              refine o_guard (hj := rfl) (hd := rfl) (hb := rfl) (h := ?_)
              refine o_move (h := ?_)
              refine o_guard (hj := rfl) (hd := rfl) (hb := rfl) (h := ?_)
              refine o_move (h := ?_)
              refine o_guard (hj := rfl) (hd := rfl) (hb := rfl) (h := ?_)
              refine o_bin (h := ?_)
              refine o_pickF (h := ?_)
              refine n_thenN (h := ?_)
              refine c_if (ht := fun c12 => ?_) (hf := fun c12 => ?_)
              · try simp only [decide_eq_true_eq, decide_eq_false_iff_not, Bool.not_eq_true', Bool.not_eq_false', Bool.and_eq_true, Bool.or_eq_true, Bool.and_eq_false_iff, Bool.or_eq_false_iff, Decidable.not_not, ne_eq] at c12
                exact absurd (congrArg Prod.fst (M.of_none c5)) c12
              · try simp only [decide_eq_true_eq, decide_eq_false_iff_not, Bool.not_eq_true', Bool.not_eq_false', Bool.and_eq_true, Bool.or_eq_true, Bool.and_eq_false_iff, Bool.or_eq_false_iff, Decidable.not_not, ne_eq] at c12
                refine wp_skip ?_
                try change Code.wp _ _ _ _ _
                try change Code.wp _ _ _ _ _
                refine c_region ?_
                refine o_move (h := ?_)
                refine o_add (h0 := by omega) (h1 := by omega) (h := ?_)
                refine o_assign (h := ?_)
                refine n_thenN (h := ?_)
                refine ⟨zs'.length - (k + 1), by omega, k + 1, rfl, by omega, mk_ex, hS⟩
        · try simp only [decide_eq_true_eq, decide_eq_false_iff_not, Bool.not_eq_true', Bool.not_eq_false', Bool.and_eq_true, Bool.or_eq_true, Bool.and_eq_false_iff, Bool.or_eq_false_iff, Decidable.not_not, ne_eq] at c4
          refine wp_exit ?_
          change Code.wp _ _ _ _ _
          try change Code.wp _ _ _ _ _
          refine c_region ?_
          refine o_move (h := ?_)
          refine o_add (h0 := by omega) (h1 := by omega) (h := ?_)
          refine o_assign (h := ?_)
          refine n_thenN (h := ?_)
          refine ⟨zs'.length - (i + 1), by omega, i + 1, rfl, by omega, mk_ex, hS⟩
      · try simp only [decide_eq_true_eq, decide_eq_false_iff_not, Bool.not_eq_true', Bool.not_eq_false', Bool.and_eq_true, Bool.or_eq_true, Bool.and_eq_false_iff, Bool.or_eq_false_iff, Decidable.not_not, ne_eq] at c3
        refine wp_exit ?_
        change Code.wp _ _ _ _ _
        try change Code.wp _ _ _ _ _
        refine c_region ?_
        refine o_move (h := ?_)
        refine o_add (h0 := by omega) (h1 := by omega) (h := ?_)
        refine o_assign (h := ?_)
        refine n_thenN (h := ?_)
        refine ⟨(35 - (op + 1)).toNat, by omega, op + 1, rfl, by omega, mk_ex, hS⟩
  · try simp only [decide_eq_true_eq, decide_eq_false_iff_not, Bool.not_eq_true', Bool.not_eq_false', Bool.and_eq_true, Bool.or_eq_true, Bool.and_eq_false_iff, Bool.or_eq_false_iff, Decidable.not_not, ne_eq] at c1
    refine wp_exit ?_
    change Code.wp _ _ _ _ _
    refine c_seq ?_
    refine c_region ?_
    refine o_callS hS Try.func18 rfl rfl (hc := l1_wakes) (h := ?_)
    clear hS; intro w hS
    refine o_assign (h := ?_)
    refine n_thenN (h := ?_)
    refine wp_ret (r_retS1 (hS.less (Frag.le_plus _ _)) rfl (hR := ?_))
    rfl


end Go.Proofs.Ythpnbgkhoocadaa
