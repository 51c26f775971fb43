/- What the listed variables hold when the law is called, for my layer. -/
import Derived.Test.YtaplgcdpppcajaaDoorRows
import Derived.Test.YtaplgcdpppcajaaDoorSh
import Derived.Test.YtaplgcdpppcajaaDoorRowKit
import Derived.LaidMore
import Derived.OpenShut
import Derived.Stop.Joined
namespace Go.Proofs.YtaplgcdpppcajaaDoor
open Go Go.RowKit Fr
set_option linter.unusedVariables false
set_option maxRecDepth 100000

theorem tab_keep {P : Program} {W w : World} {name : String} {k : IntKind} {zs : List Int} (h : Lib.TabIs P W name k zs) (hw : ∀ (b : Nat) (o : Obj), W.heap[b]? = some o → w.heap[b]? = some o) : Lib.TabIs P w name k zs := by
  unfold Lib.TabIs World.var? at *
  cases hg : P.globalNamed name with
  | none => simp [hg] at h
  | some g =>
    simp only [hg, Option.bind_some] at h ⊢
    cases hb : W.heap[g]? with
    | none => simp [hb] at h
    | some o => rw [hb] at h; rw [hw g o hb]; exact h
abbrev laidList : List (String × DataW Unit) := Rows.isaFieldsRow.laid
theorem gt_of_laid {W : World} (h : laidMetH Tryd.prog laidList W) : GT (all W) := by
  rw [MakeChecks.laidMetH_plain _ _ _ (by kernel_rfl)] at h
  obtain ⟨ps, ⟨g0, t0, cs0, f0, p0, q0, hg0, ht0, hv0, hd0, ⟨g1, t1, cs1, f1, p1, q1, hg1, ht1, hv1, hd1, ⟨g2, t2, cs2, f2, p2, q2, hg2, ht2, hv2, hd2, ⟨g3, t3, cs3, f3, p3, q3, hg3, ht3, hv3, hd3, ⟨g4, t4, cs4, f4, p4, q4, hg4, ht4, hv4, hd4, _⟩, _⟩, _⟩, _⟩, _⟩, _⟩ := h
  have k2 : (Tryd.prog.globals[g2]?).map (·.type) = some t2 := ht2
  have k4 : (Tryd.prog.globals[g4]?).map (·.type) = some t4 := ht4
  have e2 : Tryd.prog.globalNamed "internal/strconv.uint64pow10" = some 2 := by kernel_rfl
  have e4 : Tryd.prog.globalNamed "strings.asciiSpace" = some 0 := by kernel_rfl
  obtain rfl := Option.some.inj (e2.symm.trans hg2)
  obtain rfl := Option.some.inj (e4.symm.trans hg4)
  have u2 : (Tryd.prog.globals[2]?).map (·.type) = some 99 := by kernel_rfl
  have u4 : (Tryd.prog.globals[0]?).map (·.type) = some 79 := by kernel_rfl
  obtain rfl := Option.some.inj (u2.symm.trans k2)
  obtain rfl := Option.some.inj (u4.symm.trans k4)
  have d2 : (Rows.laid_internal_strconv_uint64pow10 : DataW Unit) = Lib.tabData .u64 Lib.pow10Tab := by kernel_rfl
  have d4 : (Rows.laid_strings_asciiSpace : DataW Unit) = Lib.tabData .u8 Lib.asciiSpaceTab := by kernel_rfl
  have T2 : Lib.TabIs Tryd.prog W "internal/strconv.uint64pow10" .u64 Lib.pow10Tab := by
    unfold Lib.TabIs
    rw [hv2, ← Lib.cells_of_tab (k := .u64) (zs := Lib.pow10Tab) Tryd.underlying99 Tryd.underlying84 (by kernel_rfl) (by kernel_rfl) (by rw [← d2]; exact hd2)]
  have T4 : Lib.TabIs Tryd.prog W "strings.asciiSpace" .u8 Lib.asciiSpaceTab := by
    unfold Lib.TabIs
    rw [hv4, ← Lib.cells_of_tab (k := .u8) (zs := Lib.asciiSpaceTab) Tryd.underlying79 Tryd.underlying5 (by kernel_rfl) (by kernel_rfl) (by rw [← d4]; exact hd4)]
  exact fun w hw => ⟨tab_keep T4 hw, tab_keep T2 hw⟩
theorem door_met (os : Os) (args : Array Value) : laidMetH Tryd.prog laidList ((World.doorLaid Tryd.prog 400 os).forCall (fun _ _ => 0) ⟨#[], args, []⟩).memory :=
  laidMetH_of_parts3 (fuel := 300) (laidMet_of_run' 300 (by kernel_rfl) (by kernel_rfl)) (by kernel_rfl) (by kernel_rfl)
end Go.Proofs.YtaplgcdpppcajaaDoor
