/- The law ImageEdges, as a plain statement. -/
import Derived.Test.YtjmmkbehdbpklaaProg
import Derived.Test.YtjmmkbehdbpklaaLImageEdges
import Derived.Test.YtjmmkbehdbpklaaIn
import Derived.Test.YtjmmkbehdbpklaaImC
import Derived.KernelRfl
namespace Go.Proofs.Ytjmmkbehdbpklaa
open Go Go.RowKit Fr
set_option linter.unusedVariables false
set_option linter.unusedSimpArgs false
set_option maxRecDepth 20000
/-- The nop; halt; a bundle of nops; one that halts. -/
def nopI : T_Ins := ⟨0, 0, 0, 0, 0, ByteArray.empty⟩
def halI : T_Ins := ⟨33, 0, 0, 0, 0, ByteArray.empty⟩
def nopB : A4 T_Ins := ⟨nopI, nopI, nopI, nopI⟩
def halB : A4 T_Ins := ⟨halI, nopI, nopI, nopI⟩
theorem gx_nop : Gx nopI := ⟨by kernel_rfl, by kernel_rfl⟩
theorem gx_hal : Gx halI := ⟨by kernel_rfl, by kernel_rfl⟩
theorem wf_nopI : Wf_Ins nopI := by constructor <;> decide
theorem wf_halI : Wf_Ins halI := by constructor <;> decide
theorem gb_nop : Gb nopB := ⟨gx_nop, gx_nop, gx_nop, gx_nop, by
  show (bif _ then _ else loop _ _) = _
  refine (show _ = loop _ _ from rfl).trans (loop_of 5 ?_)
  kernel_rfl, ⟨wf_nopI, wf_nopI, wf_nopI, wf_nopI⟩⟩
theorem gb_hal : Gb halB := ⟨gx_hal, gx_nop, gx_nop, gx_nop, by
  show (bif _ then _ else loop _ _) = _
  refine (show _ = loop _ _ from rfl).trans (loop_of 5 ?_)
  kernel_rfl, ⟨wf_halI, wf_nopI, wf_nopI, wf_nopI⟩⟩
theorem bun_nop : bunB nopB = true := by kernel_rfl
theorem bun_hal : bunB halB = true := by kernel_rfl
theorem mem_rep {n : Nat} {b : A4 T_Ins} (h : b ∈ List.replicate n nopB) : Gb b := by
  rw [(List.mem_replicate.1 h).2]; exact gb_nop
theorem pcod_rep (n : Nat) : pcodB (List.replicate n nopB) = decide (n ≤ 1024) := by
  have : (List.replicate n nopB).all bunB = true := List.all_eq_true.2 fun z hz => by rw [(List.mem_replicate.1 hz).2]; exact bun_nop
  simp only [pcodB, this, List.length_replicate, Bool.and_true]
theorem img_rep (n : Nat) (d : List Int) : imgB ⟨List.replicate n nopB, d, (n : Int)⟩ = (decide (n ≤ 1024) && decide (d.length ≤ 256)) := by
  simp [imgB, pcod_rep, numB, List.length_replicate]
/-- Both make the same state. -/
theorem eqState_ld {d xs : List Int} {e : Int} (hd : d.length ≤ 256) (hx : xs.length ≤ 100) : r0_EqState (ld d e xs) (ld d e xs) = some true := by
  simp only [r0_EqState, ld, fresh]
  rw [eqWords (by rw [List.length_replicate]; decide), eqWords (by rw [List.length_append, List.length_drop, List.length_replicate]; omega), eqWords (by omega), eqWords (by decide), eqNumbers (by decide), eqFlies (by decide)]
  simp
theorem eqImage_self {x : T_Image} (h1 : x.Code.length ≤ 140737488351232) (h2 : x.Data.length ≤ 140737488351232) : r0_EqImage x x = some true := by
  simp [r0_EqImage, eqBundles h1, eqWords h2]
theorem load_p {c : List (A4 T_Ins)} {d xs : List Int} {e : Int} (hm : link_May ⟨c, d, e⟩ = some true) (hd : d.length ≤ 256) (hx : xs.length ≤ 100) : image_Load ⟨c, d, e⟩ xs = some (ld d e xs, 0) := by
  simp [image_Load, hm, loaded_eq hd hx]
theorem wakes : l20_wakes = some true := by
  have hc : ∀ b ∈ [halB], Gb b := fun b hb => by rw [List.mem_singleton.1 hb]; exact gb_hal
  have hm : link_May ⟨[halB], [7], 1⟩ = some true := by
    rw [link_may_b fun b hb => (hc b hb).wf]
    simp [imgB, pcodB, bun_hal, numB]
  have hw := image_write hc (by decide) (d := [7]) (e := 1) (by decide) (by decide) hm
  have hr := image_read hc (by decide) (d := [7]) (e := 1) (by decide) (fun z hz => by rw [List.mem_singleton.1 hz]; decide) (by decide) hm
  have hl := load_p (xs := [5]) hm (by decide) (by decide)
  have he := eqImage_self (x := ⟨[halB], [7], 1⟩) (show [halB].length ≤ _ by decide) (show [(7 : Int)].length ≤ _ by decide)
  simp only [halB, nopI, halI] at hw hr hl he
  unfold l20_wakes
  rw [hw]
  simp only [Option.bind_some]
  rw [hr]
  simp only [Option.bind_some]
  rw [hl]
  simp only [Option.bind_some]
  rw [he]
  rfl
theorem k4_step {n : Nat} {d : List Int} {i : Int} (hn : n ≤ 1025) (hd : d.length ≤ 257) (hv : ∀ z ∈ d, 0 ≤ z ∧ z < 4294967296) : l20_ImageEdges_k4 (List.replicate n nopB) i d = some (.next (IntKind.i64.wrap (i + 1))) := by
  have hc : ∀ b ∈ List.replicate n nopB, Gb b := fun b hb => mem_rep hb
  have hwf : ∀ b ∈ List.replicate n nopB, Wf_Bundle b := fun b hb => (hc b hb).wf
  have hl : (List.replicate n nopB).length = n := List.length_replicate
  have hi := img_rep n d
  generalize hg : List.replicate n nopB = c at hc hwf hl hi
  have hm := link_may_b (x := ⟨c, d, n⟩) hwf
  have hr := r19_image_b (x := ⟨c, d, n⟩) hwf
  rw [hi] at hm hr
  have hrd := hr
  unfold l20_ImageEdges_k4
  rw [hl]
  by_cases hok : n ≤ 1024 ∧ d.length ≤ 256
  · obtain ⟨h1, h2⟩ := hok
    simp only [h1, h2, decide_true, Bool.and_self] at hm hr
    rw [image_write hc (by omega) h2 (by omega) hm]
    simp only [Option.bind_some]
    rw [load_p hm h2 (by decide), hr]
    simp only [Option.bind_some, Bool.not_true, cond_false]
    rw [image_read hc (by omega) h2 hv (by omega) hm]
    simp only [Option.bind_some, l20_num, ne_eq, not_true_eq_false, decide_false, cond_false]
    rw [write_r hc (by omega) h2 hv]
    simp only [Option.bind_some, decide_true, Bool.not_true, cond_false]
    rw [eqImage_self (x := ⟨c, d, n⟩) (show c.length ≤ _ by omega) (show d.length ≤ _ by omega)]
    simp only [Option.bind_some, Bool.not_true, cond_false]
    rw [r19_load h2 (by decide)]
    simp only [Option.bind_some]
    rw [eqState_ld h2 (by decide)]
    simp only [Option.bind_some, Bool.not_true, cond_false]
    rw [show ByteArray.mk #[105, 109, 97, 103, 101] = strOfNums [105, 109, 97, 103, 101] from rfl, summed_r (fun z hz => by_head z (List.mem_cons_of_mem _ hz)) (by decide)]
    simp only [Option.bind_some]
    have hs : (strOfNums ([105, 109, 97, 103, 101] ++ be4 (sm [105, 109, 97, 103, 101]))).size = 9 := by rw [strOfNums_size]; rfl
    have hb := body_len c d n
    rw [hs, strOfNums_size, all', List.length_append, be4_len, hb, hl]
    rw [wrap_i64 (n := ((9 : Nat) : Int) + 13) (by omega) (by omega), wrap_i64 (n := 16 * (n : Int)) (by omega) (by omega), wrap_i64 (n := 4 * (d.length : Int)) (by omega) (by omega), wrap_i64 (n := ((9 : Nat) : Int) + 13 + 16 * (n : Int)) (by omega) (by omega), wrap_i64 (n := ((9 : Nat) : Int) + 13 + 16 * (n : Int) + 4 * (d.length : Int)) (by omega) (by omega)]
    have : ((18 + 16 * n + 4 * d.length + 4 : Nat) : Int) = ((9 : Nat) : Int) + 13 + 16 * (n : Int) + 4 * (d.length : Int) := by omega
    rw [this]
    simp
  · have hf : (decide (n ≤ 1024) && decide (d.length ≤ 256)) = false := by
      rw [Bool.and_eq_false_iff]
      by_cases h : n ≤ 1024
      · right; simp; omega
      · left; simp; omega
    rw [hf] at hm hr
    simp only [image_Write, image_Load, hm, hr, Option.bind_some, Bool.not_false, cond_true, l20_num]
    simp
theorem u32_in (n : Int) : 0 ≤ IntKind.u32.wrap n ∧ IntKind.u32.wrap n < 4294967296 := by
  rw [M.u32_eq]; omega
theorem fill (x : T_Ask20) {n : Nat} (hn : n ≤ 257) : ∃ d : List Int, d.length = n ∧ (∀ z ∈ d, 0 ≤ z ∧ z < 4294967296) ∧ loop (l20_ImageEdges_b5 x) (0, List.replicate n 0) = some (.next d) := by
  let v : Nat → Int := fun i => IntKind.u32.wrap (IntKind.i64.wrap ((i : Int) + (x.X.length : Int)))
  let D : Nat → List Int := fun i => (List.range i).map v ++ List.replicate (n - i) 0
  have hD : ∀ i, i ≤ n → (D i).length = n := fun i hi => by simp [D]; omega
  refine ⟨(List.range n).map v, by simp, fun z hz => ?_, ?_⟩
  · obtain ⟨i, _, rfl⟩ := List.mem_map.1 hz
    exact u32_in _
  · have := loop_seq (b := l20_ImageEdges_b5 x) (fun i => ((i : Int), D i)) (n := n) (r := .next ((List.range n).map v)) (fun i hi => by
      have h1 : decide ((i : Int) < ((D i).length : Int)) = true := by rw [hD i (by omega)]; simpa using hi
      have hset : set' (D i) (i : Int) (v i) = some (D (i + 1)) := by
        unfold set'
        rw [if_pos ⟨by omega, by rw [hD i (by omega)]; omega⟩, Int.toNat_natCast]
        simp only [D]
        rw [List.set_append_right _ _ (by simp), List.length_map, List.length_range, Nat.sub_self, show n - i = (n - (i + 1)) + 1 by omega, List.replicate_succ, List.set_cons_zero, List.range_succ, List.map_append, List.append_assoc]
        rfl
      simp only [l20_ImageEdges_b5, h1, cond_true]
      rw [show IntKind.u32.wrap (IntKind.i64.wrap ((i : Int) + (x.X.length : Int))) = v i from rfl, hset]
      simp only [Option.bind_some]
      rw [wrap_nat (by omega)]) (by
      have h1 : decide ((n : Int) < ((D n).length : Int)) = false := by rw [hD n (by omega)]; simp
      simp only [l20_ImageEdges_b5, h1, cond_false]
      simp [D])
    simpa [D] using this
theorem inner (x : T_Ask20) {k n : Nat} (hk : k < 4) (hn : n ≤ 1025) (hat : at' ([0, 1, 1024, 1025] : List Int) (k : Int) = some (n : Int)) : loop (l20_ImageEdges_b2 (k : Int) x) 0 = some (.next ((k + 1 : Nat) : Int)) := by
  have step : ∀ (j m : Nat), j < 4 → m ≤ 257 → at' ([0, 1, 256, 257] : List Int) (j : Int) = some (m : Int) → l20_ImageEdges_b2 (k : Int) x (j : Int) = some (.next ((j + 1 : Nat) : Int)) := fun j m hj hm haj => by
    have h1 : decide ((j : Int) < 4) = true := by simp; omega
    obtain ⟨d, hd, hv, hf⟩ := fill x hm
    have mk1 : make' (n : Int) nopB = some (List.replicate n nopB) := by unfold make'; rw [if_pos (by omega), Int.toNat_natCast]
    have mk2 : make' (m : Int) (0 : Int) = some (List.replicate m 0) := by unfold make'; rw [if_pos (by omega), Int.toNat_natCast]
    have mk1' := mk1
    simp only [nopB, nopI] at mk1'
    unfold l20_ImageEdges_b2
    rw [h1, cond_true, hat, haj]
    simp only [Option.bind_some]
    rw [mk1', mk2]
    simp only [Option.bind_some, cut, l20_ImageEdges_k3]
    rw [hf]
    have h4 := k4_step (i := (j : Int)) hn (show d.length ≤ 257 by omega) hv
    rw [wrap_nat (by omega)] at h4
    exact h4
  have := loop_seq (b := l20_ImageEdges_b2 (k : Int) x) (fun i => (i : Int)) (n := 4) (r := .next ((k + 1 : Nat) : Int)) (fun i hi => by
    match i, hi with
    | 0, _ => exact step 0 0 (by decide) (by decide) rfl
    | 1, _ => exact step 1 1 (by decide) (by decide) rfl
    | 2, _ => exact step 2 256 (by decide) (by decide) rfl
    | 3, _ => exact step 3 257 (by decide) (by decide) rfl) (by
    unfold l20_ImageEdges_b2
    rw [show decide (((4 : Nat) : Int) < 4) = false from rfl, cond_false, wrap_nat (by omega)])
  exact this
theorem pure_ImageEdges (x : T_Ask20) (hx : Wf_Ask20 x) : l20_ImageEdges x = some true := by
  have step : ∀ (k n : Nat), k < 4 → n ≤ 1025 → at' ([0, 1, 1024, 1025] : List Int) (k : Int) = some (n : Int) → l20_ImageEdges_b1 x (k : Int) = some (.next ((k + 1 : Nat) : Int)) := fun k n hk hn hat => by
    have h1 : decide ((k : Int) < 4) = true := by simp; omega
    simp only [l20_ImageEdges_b1, h1, cond_true, inner x hk hn hat]
  have := loop_seq (b := l20_ImageEdges_b1 x) (fun i => (i : Int)) (n := 4) (r := true) (fun i hi => by
    match i, hi with
    | 0, _ => exact step 0 0 (by decide) (by decide) rfl
    | 1, _ => exact step 1 1 (by decide) (by decide) rfl
    | 2, _ => exact step 2 1024 (by decide) (by decide) rfl
    | 3, _ => exact step 3 1025 (by decide) (by decide) rfl) (by
    unfold l20_ImageEdges_b1
    rw [show decide (((4 : Nat) : Int) < 4) = false from rfl, cond_false, wakes]
    rfl)
  exact this
end Go.Proofs.Ytjmmkbehdbpklaa
