/- The row of BenchJumps: whatever the input, it answers true. No condition. -/
import Derived.Test.YtgakgpbmcbegbaaGreatDoorRows
import Derived.Test.YtgakgpbmcbegbaaGreatDoorTie
import Derived.Test.YtgakgpbmcbegbaaGreatDoorCards
import Derived.Test.YtgakgpbmcbegbaaGreatDoorLaid
import Derived.Test.YtgakgpbmcbegbaaGreatDoorIn
import Derived.Test.YtgakgpbmcbegbaaGreatDoorPureBenchJumps
namespace Go.Proofs.YtgakgpbmcbegbaaGreatDoor.benchJumps
open Go.ChangeShapes Go.WideShapes Go.ChangeAt Go.RowKit Fr
set_option linter.unusedVariables false
theorem own : ownKnob Tryz.prog.godebug = none := by kernel_rfl
theorem laidOut : laidOutB Tryz.prog = true := by kernel_rfl
set_option maxRecDepth 100000 in
theorem lifted (os : Os) (started : os.Started) (H : Type) (enc : TypeId × Value → H) :
    ReturnsInHanded {} Tryz.checked os 7 .any (fun w args => (Rows.benchJumpsSpec.pre enc Tryz.prog Tryz.f7 [] false w args ∧ laidMetH Tryz.prog laidList w) ∧ sizedMet enc Tryz.prog Tryz.f7 (OpenSpec.ofChange Rows.benchJumpsSpec) false w args) (Rows.benchJumpsSpec.post enc Tryz.prog Tryz.f7 false true false false) := by
  refine returnsInHanded_of_change_and (C := Tryz.checked) (X := fun w _ => laidMetH Tryz.prog laidList w) (fun _ _ _ hh h => h.of_heap hh) own started (by kernel_rfl) Tryz.func7
    (ChangeSpec.witness_shaped (enc := enc) (C := Tryz.checked) (os := os) (X := fun w _ => laidMetH Tryz.prog laidList w) false (World.doorLaid Tryz.prog 400 os) #[.agg #[.slice none 0 0, .slice none 0 0, .int .i64 0]] 8 rfl (World.shaped_of_RefB (by kernel_rfl) (by kernel_rfl)) (by kernel_rfl) (by kernel_rfl) (by kernel_rfl) (door_met os _)) ?_
  intro W base args ds gs before hval0 hW hcnd hsz0 hL _
  have hsz : (DataW.weightsEach Tryz.prog (Tryz.f7.params.toList ++ Rows.benchJumpsSpec.plain.varTypes Tryz.prog) (ds ++ gs)).all (· ≤ reachBytes) = true := hsz0
  have hval : ∀ (j : Nat) t v, Tryz.f7.params[j]? = some t → args[j]? = some v → Value.okWide Tryz.prog W .any base t v := hval0
  have hW' := hW
  obtain ⟨p, q, hA0, hV, rfl, hfz, hnd⟩ := hW
  have hA : DataW.TrodAll enc Tryz.prog W 0 (fun _ => true) true Tryz.f7.params.toList args.toList ds p := hA0
  rw [Tryz.params7] at hA hval hsz
  obtain ⟨v0, vs0, d0, ds0, p0, q0, hargs, rfl, rfl, h0, r0⟩ := trodAll_cons hA
  obtain ⟨rfl, rfl, rfl⟩ := trodAll_nil r0
  obtain rfl : args = #[v0] := by cases args; simp_all
  obtain ⟨rfl, rfl⟩ := trodVars_none hV
  have k0 := h0
  have lt0 : ∀ x ∈ p0, x.block < W.heap.size := by obtain ⟨m, hm⟩ := k0; exact DataW.trod_lt m _ _ _ hm
  obtain ⟨cs0, rfl, hcs0⟩ := okWide_struct Tryz.underlying25 (hval 0 _ v0 rfl rfl)
  have hw0 : (d0.weights Tryz.prog 25).all (· ≤ reachBytes) = true := weights_first hsz
  have hI : ∃ x, Wf_Ask x ∧ Rd_Ask (all W) x (.agg cs0) := by
    obtain ⟨m, hm⟩ := h0
    obtain ⟨x, hx, rest⟩ := in_Ask hm hw0
    obtain ⟨u0, u1, he, rest⟩ := rest
    exact ⟨x, hx, u0, u1, (congrArg (fun l => Value.agg l.toArray) he :), rest⟩
  obtain ⟨x, hx, hR⟩ := hI
  clear hA0 hval0 hsz0 hsz
  refine (LCs.row (w_l23_BenchJumps (h0 := hR) (hF := pure_BenchJumps x hx))).mono fun e W' ⟨he, bel⟩ => ?_
  subst he
  exact ⟨_, rfl, _, _, _, [], _, [], hW', trodAll_mk1 (shut_bool Tryz.underlying4 _), (trodAll_cons_mk (Below.trod laidOut (by kernel_rfl) (of_decide_eq_true (by kernel_rfl)) k0 bel lt0) trodAll_mk0), rfl, bel.frame _, fun h => by cases h⟩
theorem over : Rows.benchJumpsRow.holds Tryz.pinned (OpenSpec.ofChange Rows.benchJumpsSpec) :=
  OpenClaim.holds_of_wide 7 Tryz.f7 rfl rfl rfl rfl rfl rfl rfl ⟨rfl, rfl, rfl, rfl, rfl⟩ rfl rfl rfl rfl rfl (by kernel_rfl) Tryz.func7 (by kernel_rfl)
    (of_decide_eq_true (by kernel_rfl)) (by unfold Func.isWrapper; first | (rw [if_pos (by decide +kernel)]; kernel_rfl) | (rw [if_neg (by decide +kernel)]; exact ⟨rfl, rfl⟩))
    (fun os started H enc _ => lifted os started H enc)
end Go.Proofs.YtgakgpbmcbegbaaGreatDoor.benchJumps
namespace Go.Proofs.YtgakgpbmcbegbaaGreatDoor
theorem benchJumps_holds : Rows.BenchJumpsCardSaid :=
  Claim7.holds_tied_plain_at .later [] [.data, .data, .data] true (Rows.benchJumpsCard.stood.harness) false
    benchJumps.over (fun _ h => by cases h) (by kernel_rfl) (fun _ h => by cases h) benchJumps_row_tie rfl ⟨rfl, rfl⟩ (by kernel_rfl) rfl
    (fun f fn hf hfn => by
      obtain rfl : f = 7 := Option.some.inj ((show Tryz.prog.funcNamed Rows.benchJumpsRow.func = some 7 by kernel_rfl).symm.trans hf) |>.symm
      obtain rfl : fn = Tryz.f7 := (Option.some.inj (Tryz.func7.symm.trans hfn)).symm
      exact ⟨by kernel_rfl, fun j t ht => by
        rw [Tryz.params7] at ht
        have hm : t ∈ Tryz.f7.params.toList := by rw [Tryz.params7]; exact Array.mem_toList_iff.2 (Array.mem_of_getElem? ht)
        have hall : (Tryz.f7.params.toList.all fun u => !Tryz.prog.wantsStandIn u) = true := by kernel_rfl
        exact (show Tryz.prog.wantsStandIn t = false by simpa using List.all_eq_true.1 hall t hm)⟩)
    (by kernel_rfl)
end Go.Proofs.YtgakgpbmcbegbaaGreatDoor
