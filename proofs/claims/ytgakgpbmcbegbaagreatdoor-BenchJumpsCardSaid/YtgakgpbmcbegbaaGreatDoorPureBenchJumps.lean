/- BenchJumps: all runs. -/
import Derived.Test.YtgakgpbmcbegbaaGreatDoorCal0
import Derived.Test.YtgakgpbmcbegbaaGreatDoorCal1
import Derived.Test.YtgakgpbmcbegbaaGreatDoorCal2
import Derived.Test.YtgakgpbmcbegbaaGreatDoorCal3
import Derived.KernelRfl
namespace Go.Proofs.YtgakgpbmcbegbaaGreatDoor
open Go Go.RowKit Fr
set_option linter.unusedVariables false
set_option maxRecDepth 20000
theorem c1 : ∀ {J : Nat}, J < 37 → ck1 J true = true
  | 0, _ => c1_0
  | 1, _ => c1_1
  | 2, _ => c1_2
  | 3, _ => c1_3
  | 4, _ => c1_4
  | 5, _ => c1_5
  | 6, _ => c1_6
  | 7, _ => c1_7
  | 8, _ => c1_8
  | 9, _ => c1_9
  | 10, _ => c1_10
  | 11, _ => c1_11
  | 12, _ => c1_12
  | 13, _ => c1_13
  | 14, _ => c1_14
  | 15, _ => c1_15
  | 16, _ => c1_16
  | 17, _ => c1_17
  | 18, _ => c1_18
  | 19, _ => c1_19
  | 20, _ => c1_20
  | 21, _ => c1_21
  | 22, _ => c1_22
  | 23, _ => c1_23
  | 24, _ => c1_24
  | 25, _ => c1_25
  | 26, _ => c1_26
  | 27, _ => c1_27
  | 28, _ => c1_28
  | 29, _ => c1_29
  | 30, _ => c1_30
  | 31, _ => c1_31
  | 32, _ => c1_32
  | 33, _ => c1_33
  | 34, _ => c1_34
  | 35, _ => c1_35
  | 36, _ => c1_36
  | n + 37, h => absurd h (by omega)
theorem c3 : ∀ {K : Nat}, 0 < K → K < 80 → ck3 K true = true
  | 0, h, _ => absurd h (by decide)
  | 1, _, _ => c3_1
  | 2, _, _ => c3_2
  | 3, _, _ => c3_3
  | 4, _, _ => c3_4
  | 5, _, _ => c3_5
  | 6, _, _ => c3_6
  | 7, _, _ => c3_7
  | 8, _, _ => c3_8
  | 9, _, _ => c3_9
  | 10, _, _ => c3_10
  | 11, _, _ => c3_11
  | 12, _, _ => c3_12
  | 13, _, _ => c3_13
  | 14, _, _ => c3_14
  | 15, _, _ => c3_15
  | 16, _, _ => c3_16
  | 17, _, _ => c3_17
  | 18, _, _ => c3_18
  | 19, _, _ => c3_19
  | 20, _, _ => c3_20
  | 21, _, _ => c3_21
  | 22, _, _ => c3_22
  | 23, _, _ => c3_23
  | 24, _, _ => c3_24
  | 25, _, _ => c3_25
  | 26, _, _ => c3_26
  | 27, _, _ => c3_27
  | 28, _, _ => c3_28
  | 29, _, _ => c3_29
  | 30, _, _ => c3_30
  | 31, _, _ => c3_31
  | 32, _, _ => c3_32
  | 33, _, _ => c3_33
  | 34, _, _ => c3_34
  | 35, _, _ => c3_35
  | 36, _, _ => c3_36
  | 37, _, _ => c3_37
  | 38, _, _ => c3_38
  | 39, _, _ => c3_39
  | 40, _, _ => c3_40
  | 41, _, _ => c3_41
  | 42, _, _ => c3_42
  | 43, _, _ => c3_43
  | 44, _, _ => c3_44
  | 45, _, _ => c3_45
  | 46, _, _ => c3_46
  | 47, _, _ => c3_47
  | 48, _, _ => c3_48
  | 49, _, _ => c3_49
  | 50, _, _ => c3_50
  | 51, _, _ => c3_51
  | 52, _, _ => c3_52
  | 53, _, _ => c3_53
  | 54, _, _ => c3_54
  | 55, _, _ => c3_55
  | 56, _, _ => c3_56
  | 57, _, _ => c3_57
  | 58, _, _ => c3_58
  | 59, _, _ => c3_59
  | 60, _, _ => c3_60
  | 61, _, _ => c3_61
  | 62, _, _ => c3_62
  | 63, _, _ => c3_63
  | 64, _, _ => c3_64
  | 65, _, _ => c3_65
  | 66, _, _ => c3_66
  | 67, _, _ => c3_67
  | 68, _, _ => c3_68
  | 69, _, _ => c3_69
  | 70, _, _ => c3_70
  | 71, _, _ => c3_71
  | 72, _, _ => c3_72
  | 73, _, _ => c3_73
  | 74, _, _ => c3_74
  | 75, _, _ => c3_75
  | 76, _, _ => c3_76
  | 77, _, _ => c3_77
  | 78, _, _ => c3_78
  | 79, _, _ => c3_79
  | n + 80, _, h => absurd h (by omega)
section
variable {xs : List Int} (h : xs.length ≤ 100) (hw : ∀ w ∈ xs, 0 ≤ w ∧ w ≤ 4294967295)
include h hw
theorem all0 : l23_alike txt0 xs = some true := by
  cases q : decide (gOf xs 0 = 0) with
  | false => exact mk0 hw (told_0 h q) c0_0
  | true => exact mk0 hw (told_0 h q) c0_1
theorem all1 : l23_alike txt1 xs = some true := by
  have hk : ∀ n : Nat, dF xs (8 * (n : Int) + 1) = gOf xs (n : Int) := fun n => hin_F xs n (by omega)
  obtain ⟨J, h1, h2, h3⟩ := least (fun j => gOf xs (j : Int) = 0) 100 ⟨100, Nat.le_refl _, gOf_end h⟩
  by_cases q : J < 37
  · exact mk1 hw (told_1 h (fun n => gOf xs (n : Int)) hk (by decide) (fun n _ hn => h3 n hn) (fun _ => h2)) (c1 q)
  · exact mk1 hw (told_1 (J := 37) (e := false) h (fun n => gOf xs (n : Int)) hk (by decide) (fun n _ hn => h3 n (by omega)) (fun e => by cases e)) c1_37
theorem all2 : l23_alike txt2 xs = some true := mk2 hw (told_N h) c2
theorem all3 : l23_alike txt3 xs = some true := by
  obtain ⟨y0, y1⟩ := gOf_w hw 0
  have hk : ∀ n : Nat, dF xs (8 * (n : Int) + 2) = IntKind.u32.wrap (gOf xs 0 - (n : Int)) := fun n => by
    rw [d_2 xs (by omega), show (8 * (n : Int) + 2) / 8 = (n : Int) by omega]
  by_cases q : 0 < gOf xs 0 ∧ gOf xs 0 < 80
  · obtain ⟨K, hK⟩ := Int.eq_ofNat_of_zero_le y0
    refine mk3 hw (told_1 (L := 1) (J := K) (e := true) h (fun n => IntKind.u32.wrap (gOf xs 0 - (n : Int))) hk (by decide) (fun n hn1 hn => ?_) (fun _ => ?_)) (c3 (by omega) (by omega))
    · rw [u32_eq', hK]; omega
    · rw [hK, Int.sub_self]; rfl
  · refine mk3 hw (told_1 (J := 80) (e := false) h (fun n => IntKind.u32.wrap (gOf xs 0 - (n : Int))) hk (by decide) (fun n hn1 hn => ?_) (fun e => by cases e)) c3_80
    rw [u32_eq']; omega
theorem all4 : l23_alike txt4 xs = some true := mk4 hw (told_N h) c4
theorem all5 : l23_alike txt5 xs = some true := mk5 hw (told_N h) c5
end
end Go.Proofs.YtgakgpbmcbegbaaGreatDoor
namespace Go.Proofs.YtgakgpbmcbegbaaGreatDoor
open Go Go.RowKit Fr
set_option linter.unusedVariables false
set_option maxRecDepth 20000
def sev : List (List Int) := [[], [3, 4, 0], [5, 1, 2, 0, 7, 7, 0], [1, 0, 0], [4294967295, 2147483648, 1], [250, 9, 9, 9], [65538, 2147450880, 5]]
def TXs : List ByteArray := ([(ByteArray.mk #[109, 97, 105, 110, 58, 32, 106, 109, 112, 32, 97, 10, 97, 58, 32, 106, 109, 112, 32, 98, 10, 98, 58, 32, 98, 122, 32, 114, 49, 44, 32, 99, 10, 104, 97, 108, 116, 10, 99, 58, 32, 98, 110, 122, 32, 114, 49, 44, 32, 100, 10, 98, 122, 32, 114, 49, 44, 32, 101, 10, 100, 58, 32, 104, 97, 108, 116, 10, 101, 58, 32, 111, 117, 116, 32, 114, 49, 10, 105, 110, 32, 114, 49, 10, 98, 110, 122, 32, 114, 49, 44, 32, 98, 10]), (ByteArray.mk #[109, 97, 105, 110, 58, 32, 105, 110, 32, 114, 49, 10, 98, 122, 32, 114, 49, 44, 32, 101, 110, 100, 10, 111, 117, 116, 32, 114, 49, 10, 99, 97, 108, 108, 32, 102, 10, 106, 109, 112, 32, 109, 97, 105, 110, 10, 102, 58, 32, 98, 110, 122, 32, 114, 49, 44, 32, 103, 10, 114, 101, 116, 10, 103, 58, 32, 114, 101, 116, 10, 101, 110, 100, 58]), (ByteArray.mk #[109, 97, 105, 110, 58, 32, 99, 97, 108, 108, 32, 97, 10, 97, 58, 32, 99, 97, 108, 108, 32, 98, 10, 98, 58, 32, 111, 117, 116, 32, 114, 49, 10, 114, 101, 116]), (ByteArray.mk #[109, 97, 105, 110, 58, 32, 105, 110, 32, 114, 49, 10, 97, 58, 32, 97, 100, 100, 105, 32, 114, 49, 44, 32, 114, 49, 44, 32, 45, 49, 10, 98, 122, 32, 114, 49, 44, 32, 98, 10, 97, 100, 100, 32, 114, 50, 44, 32, 114, 50, 44, 32, 114, 49, 10, 106, 109, 112, 32, 97, 10, 98, 58, 32, 111, 117, 116, 32, 114, 50, 10, 104, 97, 108, 116]), (ByteArray.mk #[109, 97, 105, 110, 58]), (ByteArray.mk #[110, 111, 112, 10, 109, 97, 105, 110, 58, 32, 110, 111, 112, 10, 110, 111, 112])] : List ByteArray)
theorem b2_eq (l : List (List Int)) (x n : Int) : l23_BenchJumps_b2 l x n = bif decide (n < (l.length : Int)) then (at' TXs x).bind fun a => (at' l n).bind fun b => (l23_alike a b).bind fun c => bif !c then some (.done (.done (false))) else some (.next (IntKind.i64.wrap (n + 1))) else some (.done (.next (IntKind.i64.wrap (x + 1)))) := rfl
theorem b1_eq (l : List (List Int)) (x : Int) : l23_BenchJumps_b1 l x = bif decide (x < (TXs.length : Int)) then loop (l23_BenchJumps_b2 l x) 0 else (l23_wakes).bind fun b => some (.done (b)) := rfl
theorem inner (j : Nat) (t : ByteArray) (hj : j ≤ 100) (ht : at' TXs (j : Int) = some t) (H : ∀ z : List Int, (z.length ≤ 100 ∧ ∀ w ∈ z, 0 ≤ w ∧ w ≤ 4294967295) → l23_alike t z = some true) : ∀ l : List (List Int), (∀ z ∈ l, z.length ≤ 100 ∧ ∀ w ∈ z, 0 ≤ w ∧ w ≤ 4294967295) → ∀ n : Nat, n + l.length ≤ 100 → ∀ p : List (List Int), p.length = n → loop (l23_BenchJumps_b2 (p ++ l) (j : Int)) (n : Int) = some (.next ((j + 1 : Nat) : Int)) := by
  intro l
  induction l with
  | nil =>
    intro _ n hn p hp
    refine loop_done ?_
    rw [b2_eq, List.append_nil, hp, wrap_nat (i := j) (by omega)]
    simp
  | cons z l ih =>
    intro hl n hn p hp
    have a : at' (p ++ z :: l) (n : Int) = some z := by
      rw [at'_nat (by simp only [List.length_append, List.length_cons]; omega)]
      subst hp
      simp
    have b : l23_BenchJumps_b2 (p ++ z :: l) (j : Int) (n : Int) = some (.next ((n + 1 : Nat) : Int)) := by
      have c : decide ((n : Int) < ((p ++ z :: l).length : Int)) = true := decide_eq_true (by simp only [List.length_append, List.length_cons]; omega)
      rw [b2_eq, c, cond_true, ht, Option.bind_some, a, Option.bind_some, H z (hl z List.mem_cons_self), Option.bind_some, Bool.not_true, cond_false, wrap_nat (by simp only [List.length_cons] at hn; omega)]
    rw [loop_next b, show p ++ z :: l = (p ++ [z]) ++ l by simp]
    exact ih (fun z hz => hl z (List.mem_cons_of_mem _ hz)) (n + 1) (by simp only [List.length_cons] at hn; omega) (p ++ [z]) (by simp [hp])
theorem pure_BenchJumps (x : T_Ask) (hx : Wf_Ask x) : l23_BenchJumps x = some true := by
  have key : ∀ l : List (List Int), (∀ z ∈ l, z.length ≤ 100 ∧ ∀ w ∈ z, 0 ≤ w ∧ w ≤ 4294967295) → l.length ≤ 100 → loop (l23_BenchJumps_b1 l) 0 = some true := by
    intro l hl hn
    have s0 : l23_BenchJumps_b1 l 0 = some (.next 1) := by
      rw [b1_eq, show decide ((0 : Int) < (TXs.length : Int)) = true from rfl, cond_true]
      exact inner 0 _ (by decide) rfl (fun z q => all0 q.1 q.2) l hl 0 (by omega) [] rfl
    have s1 : l23_BenchJumps_b1 l 1 = some (.next 2) := by
      rw [b1_eq, show decide ((1 : Int) < (TXs.length : Int)) = true from rfl, cond_true]
      exact inner 1 _ (by decide) rfl (fun z q => all1 q.1 q.2) l hl 0 (by omega) [] rfl
    have s2 : l23_BenchJumps_b1 l 2 = some (.next 3) := by
      rw [b1_eq, show decide ((2 : Int) < (TXs.length : Int)) = true from rfl, cond_true]
      exact inner 2 _ (by decide) rfl (fun z q => all2 q.1 q.2) l hl 0 (by omega) [] rfl
    have s3 : l23_BenchJumps_b1 l 3 = some (.next 4) := by
      rw [b1_eq, show decide ((3 : Int) < (TXs.length : Int)) = true from rfl, cond_true]
      exact inner 3 _ (by decide) rfl (fun z q => all3 q.1 q.2) l hl 0 (by omega) [] rfl
    have s4 : l23_BenchJumps_b1 l 4 = some (.next 5) := by
      rw [b1_eq, show decide ((4 : Int) < (TXs.length : Int)) = true from rfl, cond_true]
      exact inner 4 _ (by decide) rfl (fun z q => all4 q.1 q.2) l hl 0 (by omega) [] rfl
    have s5 : l23_BenchJumps_b1 l 5 = some (.next 6) := by
      rw [b1_eq, show decide ((5 : Int) < (TXs.length : Int)) = true from rfl, cond_true]
      exact inner 5 _ (by decide) rfl (fun z q => all5 q.1 q.2) l hl 0 (by omega) [] rfl
    have e : l23_BenchJumps_b1 l 6 = some (.done true) := by
      rw [b1_eq, show decide ((6 : Int) < (TXs.length : Int)) = false from rfl, cond_false, wakes_ok]; rfl
    rw [loop_next s0, loop_next s1, loop_next s2, loop_next s3, loop_next s4, loop_next s5]
    exact loop_done e
  have h7 : ∀ z ∈ sev, z.length ≤ 100 ∧ ∀ w ∈ z, 0 ≤ w ∧ w ≤ 4294967295 := by decide
  rw [l23_BenchJumps]
  by_cases h : x.In_.length ≤ 100
  · have e : l23_ins x = some (sev ++ [x.In_]) := by
      rw [l23_ins, decide_eq_true (show (x.In_.length : Int) ≤ 100 by omega)]; rfl
    rw [e, Option.bind_some]
    exact key (sev ++ [x.In_]) (fun z hz => by
      rcases List.mem_append.1 hz with hz | hz
      · exact h7 z hz
      · rw [List.mem_singleton] at hz; subst hz; exact ⟨h, hx.h3⟩) (by simp [sev])
  · have e : l23_ins x = some sev := by
      rw [l23_ins, decide_eq_false (show ¬ (x.In_.length : Int) ≤ 100 by omega)]; rfl
    rw [e, Option.bind_some]
    exact key sev h7 (by decide)
end Go.Proofs.YtgakgpbmcbegbaaGreatDoor
