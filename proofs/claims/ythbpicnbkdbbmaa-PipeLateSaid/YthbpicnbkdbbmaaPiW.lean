/- Pipes: what wakes, and bundles of one code. -/
import Derived.Test.YthbpicnbkdbbmaaPiG
import Derived.Test.YthbpicnbkdbbmaaAllW
namespace Go.Proofs.Ythbpicnbkdbbmaa
open Go Fr
set_option linter.unusedVariables false
set_option linter.unusedSimpArgs false
set_option maxRecDepth 20000

def wakeC : List (A4 T_Ins) := [⟨z0, z0, ⟨24, 1, 0, 0, 0, ByteArray.empty⟩, z0⟩, ⟨z0, z0, z0, z0⟩, ⟨z0, z0, z0, z0⟩, ⟨⟨33, 0, 0, 0, 0, ByteArray.empty⟩, z0, z0, z0⟩]
def wakeS : T_State := { fresh [] with Mem := (List.replicate 256 0).set 0 9 }
theorem wakeS_inv : PInv wakeS := by
  have h := fresh_inv (xs := []) (by simp) (by simp)
  exact { h with inv := { h.inv with
    mem := by simp [wakeS]
    memU := fun z hz => by
      rcases List.mem_or_eq_of_mem_set hz with hz | rfl
      · simp at hz; subst hz; exact ⟨by decide, by decide⟩
      · exact ⟨by decide, by decide⟩ } }
theorem wakes : l6_wakes = some true := by
  have hg := good_cod (c := wakeC) (goodC_of (by kernel_rfl)) (by decide)
  have h1 := pipe_run hg.1 hg.2 wakeS_inv (n := 3) (by omega) (by simp [wakeS, fresh])
  have h2 := pipe_run hg.1 hg.2 wakeS_inv (n := 9) (by omega) (by simp [wakeS, fresh])
  have k3 : (runC wakeC 3 wakeS).map (fun r => (r.1.Regs.length, at' r.1.Regs 1, r.2)) = some (16, some 0, 3) := by kernel_rfl
  have k9 : (runC wakeC 9 wakeS).map (fun r => (r.1.Regs.length, at' r.1.Regs 1, r.2, r.1.Stop)) = some (16, some 9, 4, 1) := by kernel_rfl
  obtain ⟨r3, q3, p3⟩ := Option.map_eq_some_iff.1 k3
  obtain ⟨r9, q9, p9⟩ := Option.map_eq_some_iff.1 k9
  rw [runC_eq hg.2 3 wakeS_inv (by simp [wakeS, fresh]) q3] at h1
  rw [runC_eq hg.2 9 wakeS_inv (by simp [wakeS, fresh]) q9] at h2
  simp only [Prod.mk.injEq] at p3 p9
  obtain ⟨a1, a2, a3⟩ := p3
  obtain ⟨b1, b2, b3, b4⟩ := p9
  have hs : set' (fresh []).Mem 0 9 = some ((List.replicate 256 0).set 0 9) := by
    rw [set'_int (by decide) (by simp [fresh])]; rfl
  have h1' : pipe_Run wakeC ⟨(fresh []).Regs, (List.replicate 256 0).set 0 9, (fresh []).In_, (fresh []).Taken, (fresh []).Out, (fresh []).PC, (fresh []).Stack, (fresh []).Stop, (fresh []).Fly, (fresh []).Jump, (fresh []).Delay⟩ 3 = some (r3.1, (r3.2 : Int), 0) := h1
  have h2' : pipe_Run wakeC ⟨(fresh []).Regs, (List.replicate 256 0).set 0 9, (fresh []).In_, (fresh []).Taken, (fresh []).Out, (fresh []).PC, (fresh []).Stack, (fresh []).Stop, (fresh []).Fly, (fresh []).Jump, (fresh []).Delay⟩ 9 = some (r9.1, (r9.2 : Int), 0) := h2
  simp only [wakeC, z0] at h1' h2'
  simp only [l6_wakes, r5_new (xs := []) (by simp), Option.bind_some, hs, h1', h2', l6_num, decide_true, cond_true, a1, a2, a3, b1, b2, b3, b4]
  rfl
/-- A bundle of one code. -/
theorem at0 {x : T_Ins} {l : List Int} (h : r3_Slots x.Op = 0 :: l) : l6_at x = some ⟨x, z0, z0, z0⟩ := by simp [l6_at, h, at', A4.put]
theorem at1 {x : T_Ins} {l : List Int} (h : r3_Slots x.Op = 1 :: l) : l6_at x = some ⟨z0, x, z0, z0⟩ := by simp [l6_at, h, at', A4.put]
theorem at2 {x : T_Ins} {l : List Int} (h : r3_Slots x.Op = 2 :: l) : l6_at x = some ⟨z0, z0, x, z0⟩ := by simp [l6_at, h, at', A4.put]
theorem at3 {x : T_Ins} {l : List Int} (h : r3_Slots x.Op = 3 :: l) : l6_at x = some ⟨z0, z0, z0, x⟩ := by simp [l6_at, h, at', A4.put]
end Go.Proofs.Ythbpicnbkdbbmaa
