/- The row of WordBack: whatever the input, it answers true. No condition. -/
import Derived.Test.YthpnbgkhoocadaaRows
import Derived.Test.YthpnbgkhoocadaaWLaw5
import Derived.Test.YthpnbgkhoocadaaRowKit
namespace Go.Proofs.Ythpnbgkhoocadaa.wordBack
open Go.ChangeShapes Go.WideShapes Go.ChangeAt Go.RowKit Fr
set_option linter.unusedVariables false
theorem own : ownKnob Try.prog.godebug = none := by kernel_rfl
theorem laidOut : laidOutB Try.prog = true := by kernel_rfl
theorem wf_u32 {z : Int} (h : (Lit.int .u32 z).wf = true) : 0 ≤ z ∧ z < 4294967296 := by
  have h1 : IntKind.u32.min = 0 := rfl
  have h2 : IntKind.u32.max = 4294967295 := rfl
  simp only [Lit.wf, Bool.and_eq_true, decide_eq_true_eq] at h
  omega
theorem wf_i64 {z : Int} (h : (Lit.int .i64 z).wf = true) : -9223372036854775808 ≤ z ∧ z ≤ 9223372036854775807 := by
  have h1 : IntKind.i64.min = -9223372036854775808 := rfl
  have h2 : IntKind.i64.max = 9223372036854775807 := rfl
  simp only [Lit.wf, Bool.and_eq_true, decide_eq_true_eq] at h
  omega
set_option maxRecDepth 100000 in
theorem lifted (os : Os) (started : os.Started) (H : Type) (enc : TypeId × Value → H) :
    ReturnsInHanded {} Try.checked os 11 .any (Rows.wordBackSpec.pre6 enc Try.prog Try.f11 Rows.wordBackRow.domain false) (Rows.wordBackSpec.post enc Try.prog Try.f11 false true false false) := by
  refine returnsInHanded_of_change_sized (C := Try.checked) own started (by kernel_rfl) Try.func11
    (ChangeSpec.witness6 (enc := enc) (C := Try.checked) false ⟨#[], #[.agg #[.slice none 0 0, .slice none 0 0]], []⟩ 8 (by kernel_rfl) (by kernel_rfl) (by kernel_rfl) (by kernel_rfl)) ?_
  intro W base args ds gs before hval0 hW hcnd hsz0 _
  have hsz : (DataW.weightsEach Try.prog (Try.f11.params.toList ++ Rows.wordBackSpec.plain.varTypes Try.prog) (ds ++ gs)).all (· ≤ reachBytes) = true := hsz0
  have hval : ∀ (j : Nat) t v, Try.f11.params[j]? = some t → args[j]? = some v → Value.okWide Try.prog W .any base t v := hval0
  have hW' := hW
  obtain ⟨p, q, hA0, hV, rfl, hfz, hnd⟩ := hW
  have hA : DataW.TrodAll enc Try.prog W 0 (fun _ => true) true Try.f11.params.toList args.toList ds p := hA0
  rw [Try.params11] at hA hval hsz
  obtain ⟨v0, vs0, d0, ds0, p0, q0, hargs, rfl, rfl, h0, r0⟩ := trodAll_cons hA
  obtain ⟨rfl, rfl, rfl⟩ := trodAll_nil r0
  obtain rfl : args = #[v0] := by cases args; simp_all
  obtain ⟨rfl, rfl⟩ := trodVars_none hV
  have k0 := h0
  have lt0 : ∀ x ∈ p0, x.block < W.heap.size := by obtain ⟨m, hm⟩ := k0; exact DataW.trod_lt m _ _ _ hm
  obtain ⟨vW, vN, yW, yN, n, rfl, hd, _, tW, tN⟩ := Go.Joins.open_agg2 Try.underlying25 (by kernel_rfl) (by kernel_rfl) (hval 0 _ v0 rfl rfl) h0
  have hsz2 : (DataW.weightsEach Try.prog [22, 23] [yW.1, yN.1]).all (· ≤ reachBytes) = true := by
    rw [hd] at hsz
    simpa [DataW.weightsEach, DataW.weights, Try.underlying25] using hsz
  obtain ⟨zs, s1, s2, s3, s4⟩ := ints_in Try.underlying22 Try.underlying28 (by kernel_rfl) (B := 4) (by kernel_rfl) hsz2 (j := 0) rfl rfl tW
  obtain ⟨ns, n1, n2, n3, n4⟩ := ints_in Try.underlying23 Try.underlying3 (by kernel_rfl) (B := 8) (by kernel_rfl) hsz2 (j := 1) rfl rfl tN
  have hAsk : AskIn (all W) zs ns vW vN := ⟨s1, n1, fun z hz => wf_u32 (s2 z hz), s3, n3, s4, n4, fun z hz => wf_i64 (n2 z hz)⟩
  clear hA0 hval0 hsz0 hsz
  refine (LCs.row (law_WordBack hAsk)).mono fun e W' ⟨he, bel⟩ => ?_
  subst he
  exact ⟨_, rfl, _, _, _, [], _, [], hW', trodAll_mk1 (shut_bool Try.underlying4 _), (trodAll_cons_mk (Below.trod laidOut (by kernel_rfl) (of_decide_eq_true (by kernel_rfl)) k0 bel lt0) trodAll_mk0), rfl, bel.frame _, fun h => by cases h⟩
theorem over : Rows.wordBackRow.holds Try.pinned (OpenSpec.ofChange Rows.wordBackSpec) :=
  OpenClaim.holds_of_wide 11 Try.f11 rfl rfl rfl rfl rfl rfl rfl ⟨rfl, rfl, rfl, rfl, rfl⟩ rfl rfl rfl rfl rfl (by kernel_rfl) Try.func11 (by kernel_rfl)
    (of_decide_eq_true (by kernel_rfl)) (by unfold Func.isWrapper; first | (rw [if_pos (by decide +kernel)]; kernel_rfl) | (rw [if_neg (by decide +kernel)]; exact ⟨rfl, rfl⟩))
    (fun os started H enc _ => lifted os started H enc)
end Go.Proofs.Ythpnbgkhoocadaa.wordBack
namespace Go.Proofs.Ythpnbgkhoocadaa
theorem wordBack_holds : Rows.WordBackSaid := wordBack.over
end Go.Proofs.Ythpnbgkhoocadaa
