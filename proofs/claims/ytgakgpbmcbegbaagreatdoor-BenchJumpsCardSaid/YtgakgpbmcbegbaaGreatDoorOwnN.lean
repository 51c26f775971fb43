/- Slices of one's own of what holds slices; what was frozen on the way, and is handed on. -/
import Derived.Test.YtgakgpbmcbegbaaGreatDoorNest
namespace Go.Proofs.YtgakgpbmcbegbaaGreatDoor
open Go Fr
set_option linter.unusedVariables false
structure Fz (W : World) (g : Frag) (L0 X : Own) : Prop where
  nd : (X.map (·.1)).Nodup
  lt : ∀ b o, (b, o) ∈ X → b < W.heap.size → b ∈ L0.map (·.1)
  no : ∀ b o, (b, o) ∈ X → g b = none
theorem Fz.nil {W : World} {g : Frag} {L0 : Own} : Fz W g L0 [] := ⟨by simp, by simp, by simp⟩
theorem Fr.Frag.pp {g : Frag} {X Y : Own} : Frag.plus (Frag.plus g X) Y = Frag.plus g (X ++ Y) := by
  funext b
  simp only [Frag.plus, Own.look, List.find?_append]
  cases g b with
  | some o => rfl
  | none => cases List.find? (fun p => p.1 == b) X <;> rfl
theorem Fr.Frag.pps {g h : Frag} {X Y : Own} (e : h = Frag.plus g X) : Frag.plus h Y = Frag.plus g (X ++ Y) := by rw [e, Frag.pp]
theorem Fz.app {W : World} {g : Frag} {L0 X Y : Own} (hx : Fz W g L0 X) (hy : Fz W (g.plus X) L0 Y) : Fz W g L0 (X ++ Y) := by
  refine ⟨?_, fun b o h => ?_, fun b o h => ?_⟩
  · rw [List.map_append, List.nodup_append]
    refine ⟨hx.nd, hy.nd, fun a ha b hb hab => ?_⟩
    subst hab
    obtain ⟨p, hp, rfl⟩ := List.mem_map.1 ha
    obtain ⟨q, hq, he⟩ := List.mem_map.1 hb
    have h1 := hy.no q.1 q.2 hq
    have h2 := Own.look_of_mem hx.nd (show (p.1, p.2) ∈ X from hp)
    have h3 : Frag.plus g X q.1 = some p.2 := by
      rw [he]
      show Frag.plus g X p.1 = some p.2
      simp only [Frag.plus, hx.no p.1 p.2 hp, h2]
    rw [h1] at h3; cases h3
  · rcases List.mem_append.1 h with h | h
    · exact hx.lt b o h
    · exact hy.lt b o h
  · rcases List.mem_append.1 h with h | h
    · exact hx.no b o h
    · have := hy.no b o h
      unfold Frag.plus at this
      cases hg : g b with
      | none => rfl
      | some o' => rw [hg] at this; cases this
theorem Fz.cg {W : World} {g h : Frag} {L0 X : Own} (z : Fz W g L0 X) (e : g = h) : Fz W h L0 X := e ▸ z
theorem Fr.St.frzA {W w : World} {g : Frag} {L0 X L : Own} (h : St W g L0 (X ++ L) w) : St W (g.plus X) L0 L w ∧ Fz W g L0 X := by
  refine ⟨h.freeze, ?_, fun b o hb => (h.loc b o (List.mem_append.2 (.inl hb))).2, fun b o hb => ?_⟩
  · have := h.nd
    rw [List.map_append] at this
    exact (List.nodup_append.1 this).1
  · cases hg : g b with
    | none => rfl
    | some o' => exact absurd (List.mem_map.2 ⟨(b, o), List.mem_append.2 (.inl hb), rfl⟩) (h.ro b o' hg).2
theorem Fr.St.thaw {W w : World} {g : Frag} {L0 X L : Own} (h : St W (g.plus X) L0 L w) (z : Fz W g L0 X) : St W g L0 (X ++ L) w := by
  have hx : ∀ b o, (b, o) ∈ X → Frag.plus g X b = some o := fun b o hb => by
    simp only [Frag.plus, z.no b o hb, Own.look_of_mem z.nd hb]
  refine ⟨h.os, h.tape, h.output, h.size, h.keep, fun b o hb => ?_, fun b o hb => ?_, ?_⟩
  · have h1 := h.ro b o (Frag.le_plus g X _ _ hb)
    refine ⟨h1.1, fun hm => ?_⟩
    rw [List.map_append] at hm
    rcases List.mem_append.1 hm with hm | hm
    · obtain ⟨p, hp, rfl⟩ := List.mem_map.1 hm
      have := z.no p.1 p.2 hp
      rw [hb] at this; cases this
    · exact h1.2 hm
  · rcases List.mem_append.1 hb with hb | hb
    · exact ⟨(h.ro b o (hx b o hb)).1, z.lt b o hb⟩
    · exact h.loc b o hb
  · rw [List.map_append, List.nodup_append]
    refine ⟨z.nd, h.nd, fun a ha b hb hab => ?_⟩
    subst hab
    obtain ⟨p, hp, rfl⟩ := List.mem_map.1 ha
    exact (h.ro p.1 p.2 (hx p.1 p.2 hp)).2 hb
theorem Fr.St.ar0 {W w : World} {g : Frag} {L0 L : Own} (h : St W g L0 L w) : St W (g.plus []) L0 L w := by rw [Frag.plus_nil]; exact h
theorem Fr.St.cg {W w : World} {g h : Frag} {L0 L : Own} (hS : St W g L0 L w) (e : g = h) : St W h L0 L w := e ▸ hS
theorem Fr.SlT.cg {α : Type} {g h : Frag} {enc : α → List Value} {sz : Nat} {zs : List α} {v : Value} (hv : SlT g enc sz zs v) (e : g = h) : SlT h enc sz zs v := e ▸ hv
theorem SlN.cg {α : Type} {g h : Frag} {R : Frag → α → List Value → Prop} {sz : Nat} {xs : List α} {v : Value} (hv : SlN g R sz xs v) (e : g = h) : SlN h R sz xs v := e ▸ hv
theorem Fr.St.callN {W w w' : World} {g : Frag} {L0 L1 L2 L' : Own} (h : St W g L0 (L1 ++ L2) w) (h' : St w g L1 L' w') : St W g L0 (L' ++ L2) w' := by
  have nd := h.nd
  rw [List.map_append] at nd
  have nd' := List.nodup_append.1 nd
  have h2 : ∀ b o, (b, o) ∈ L2 → w'.heap[b]? = some o ∧ b ∉ L1.map (·.1) := by
    intro b o hb
    have hn : b ∉ L1.map (·.1) := fun hm => nd'.2.2 b hm b (List.mem_map.2 ⟨_, hb, rfl⟩) rfl
    obtain ⟨q1, _⟩ := h.loc b o (List.mem_append.2 (.inr hb))
    exact ⟨(h'.keep b (Array.getElem?_eq_some_iff.1 q1).1 hn).trans q1, hn⟩
  refine ⟨h'.os.trans h.os, h'.tape.trans h.tape, h'.output.trans h.output, Nat.le_trans h.size h'.size, fun b hb hn => ?_, fun b o hb => ?_, fun b o hb => ?_, ?_⟩
  · have hn1 : b ∉ L1.map (·.1) := fun hm => by
      obtain ⟨p, hp, rfl⟩ := List.mem_map.1 hm
      exact hn ((h.loc p.1 p.2 (List.mem_append.2 (.inl hp))).2 hb)
    rw [h'.keep b (Nat.lt_of_lt_of_le hb h.size) hn1]
    exact h.keep b hb hn
  · obtain ⟨q1, q2⟩ := h'.ro b o hb
    refine ⟨q1, fun hm => ?_⟩
    rw [List.map_append] at hm
    rcases List.mem_append.1 hm with hm | hm
    · exact q2 hm
    · exact (h.ro b o hb).2 (by rw [List.map_append]; exact List.mem_append.2 (.inr hm))
  · rcases List.mem_append.1 hb with hb | hb
    · obtain ⟨q1, q2⟩ := h'.loc b o hb
      refine ⟨q1, fun hl => ?_⟩
      obtain ⟨p, hp, rfl⟩ := List.mem_map.1 (q2 (Nat.lt_of_lt_of_le hl h.size))
      exact (h.loc p.1 p.2 (List.mem_append.2 (.inl hp))).2 hl
    · exact ⟨(h2 b o hb).1, (h.loc b o (List.mem_append.2 (.inr hb))).2⟩
  · rw [List.map_append, List.nodup_append]
    refine ⟨h'.nd, nd'.2.1, fun a ha b hb hab => ?_⟩
    subst hab
    obtain ⟨p, hp, rfl⟩ := List.mem_map.1 ha
    obtain ⟨q, hq, he⟩ := List.mem_map.1 hb
    obtain ⟨q1, q2⟩ := h2 q.1 q.2 hq
    obtain ⟨s1, _⟩ := h.loc q.1 q.2 (List.mem_append.2 (.inr hq))
    rw [he] at q2 s1
    exact q2 ((h'.loc p.1 p.2 hp).2 (Array.getElem?_eq_some_iff.1 s1).1)
theorem Fr.LC.atN {P : Program} {f : FuncId} {args : Array Value} {W w : World} {g : Frag} {L0 L1 L2 : Own} {R : Value → Own → Prop} (hS : St W g L0 (L1 ++ L2) w) (hc : LC P f args g L1 R) :
    Calls P f args w fun e w' => ∃ v L', e = .returned v ∧ St W g L0 (L' ++ L2) w' ∧ R v L' :=
  (hc w (hS.handed.less (Frag.le_plus g L2))).mono fun _ _ ⟨v, L', he, hs, hr⟩ => ⟨v, L', he, hS.callN hs, hr⟩
theorem Fr.SlT.nil0 {α : Type} (g : Frag) (enc : α → List Value) (sz : Nat) : SlT g enc sz [] (.slice none 0 0) := SlR.nil _ _
def OwN {α : Type} (e : Nat) (g : Frag) (R : Frag → α → List Value → Prop) (sz : Nat) (xs : List α) (v : Value) (LX : Own) : Prop :=
  ∃ zs : List (Nst α sz), zs.map Nst.val = xs ∧ OwT e Nst.enc sz zs v LX ∧ ∀ z ∈ zs, R g z.val z.enc
theorem OwN.nil {α : Type} (e : Nat) (g : Frag) (R : Frag → α → List Value → Prop) (sz : Nat) : OwN e g R sz [] (.slice none 0 0) [] := ⟨[], rfl, OwT.nil _ _ _, by simp⟩
theorem OwN.mono {α : Type} {e : Nat} {g h : Frag} {R : Frag → α → List Value → Prop} {sz : Nat} {xs : List α} {v : Value} {LX : Own} (hR : Mono R) (hv : OwN e g R sz xs v LX) (hg : g.le h) : OwN e h R sz xs v LX := by
  obtain ⟨zs, h1, h2, h3⟩ := hv
  exact ⟨zs, h1, h2, fun z hz => hR hg (h3 z hz)⟩
theorem OwN.plus {α : Type} {e : Nat} {g : Frag} {L : Own} {R : Frag → α → List Value → Prop} {sz : Nat} {xs : List α} {v : Value} {LX : Own} (hR : Mono R) (hv : OwN e g R sz xs v LX) : OwN e (g.plus L) R sz xs v LX := hv.mono hR (Frag.le_plus g L)
theorem OwN.cg {α : Type} {e : Nat} {g h : Frag} {R : Frag → α → List Value → Prop} {sz : Nat} {xs : List α} {v : Value} {LX : Own} (hv : OwN e g R sz xs v LX) (q : g = h) : OwN e h R sz xs v LX := q ▸ hv
theorem OwN.cell {α : Type} {e : Nat} {g : Frag} {R : Frag → α → List Value → Prop} {sz : Nat} {xs : List α} {v : Value} {LX : Own} (hv : OwN e g R sz xs v LX) : v.cells = #[v] := by obtain ⟨zs, _, h, _⟩ := hv; exact h.cell
theorem OwN.one {α : Type} {e : Nat} {g : Frag} {R : Frag → α → List Value → Prop} {sz : Nat} {xs : List α} {v : Value} {LX : Own} (hv : OwN e g R sz xs v LX) : v.oneCell' = true := by obtain ⟨zs, _, h, _⟩ := hv; exact h.one
theorem OwN.frz {α : Type} {W w : World} {e : Nat} {g : Frag} {L0 L : Own} {R : Frag → α → List Value → Prop} {sz : Nat} {xs : List α} {v : Value} {LX : Own} (hR : Mono R) (hS : St W g L0 (LX ++ L) w) (hv : OwN e g R sz xs v LX) : (St W (g.plus LX) L0 L w ∧ SlN (g.plus LX) R sz xs v) ∧ Fz W g L0 LX := by
  obtain ⟨zs, h1, h2, h3⟩ := hv
  have hf := St.frz hS h2
  exact ⟨⟨hf.1, zs, h1, hf.2, fun z hz => hR (Frag.le_plus g LX) (h3 z hz)⟩, (St.frzA hS).2⟩
theorem Fr.OwT.frz {α : Type} {W w : World} {e : Nat} {g : Frag} {L0 L : Own} {enc : α → List Value} {sz : Nat} {zs : List α} {v : Value} {LX : Own} (hS : St W g L0 (LX ++ L) w) (hv : OwT e enc sz zs v LX) : (St W (g.plus LX) L0 L w ∧ SlT (g.plus LX) enc sz zs v) ∧ Fz W g L0 LX := ⟨St.frz hS hv, (St.frzA hS).2⟩
theorem OwN.read {α : Type} {W w : World} {e : Nat} {g : Frag} {L0 L : Own} {R : Frag → α → List Value → Prop} {sz : Nat} {xs : List α} {v : Value} {LX : Own} (hR : Mono R) (hv : OwN e g R sz xs v LX) (hS : St W g L0 L w) (hL : ∀ p ∈ LX, p ∈ L) : SlN (g.plus L) R sz xs v := by
  obtain ⟨zs, h1, h2, h3⟩ := hv
  exact ⟨zs, h1, h2.plus hS hL, fun z hz => hR (Frag.le_plus g L) (h3 z hz)⟩
theorem OwN.at {α : Type} {e : Nat} {g : Frag} {R : Frag → α → List Value → Prop} {sz : Nat} {xs : List α} {v : Value} {LX : Own} {i : Int} {x : α} (hi : at' xs i = some x) (hv : OwN e g R sz xs v LX) :
    ∃ b c cl vs, v = .slice (some ⟨b, 0, none⟩) xs.length c ∧ 0 ≤ i ∧ i < xs.length ∧ LX = [(b, blk cl e)] ∧ (∀ j u, vs[j]? = some u → cl.toArray[0 + i.toNat * sz + j]? = some u) ∧ R g x vs := by
  obtain ⟨zs, rfl, h2, h3⟩ := hv
  obtain ⟨z, hz, rfl⟩ := at'_map hi
  obtain ⟨b, c, cl, q1, q2, q3, q4, q5⟩ := OwT.at hz h2 Nst.enc_len
  exact ⟨b, c, cl, z.enc, by rw [List.length_map]; exact q1, q2, by rw [List.length_map]; exact q3, q4, q5, h3 z (at'_mem hz)⟩
def SrN {α : Type} (g : Frag) (L : Own) (R : Frag → α → List Value → Prop) (sz : Nat) (ys : List α) (u : Value) : Prop :=
  ∃ zs : List (Nst α sz), zs.map Nst.val = ys ∧ SlT (g.plus L) Nst.enc sz zs u ∧ ∀ z ∈ zs, R g z.val z.enc
theorem SlN.sr {α : Type} {g : Frag} {L : Own} {R : Frag → α → List Value → Prop} {sz : Nat} {ys : List α} {u : Value} (h : SlN g R sz ys u) : SrN g L R sz ys u := by
  obtain ⟨zs, h1, h2, h3⟩ := h
  exact ⟨zs, h1, h2.plus, h3⟩
theorem OwN.sr {α : Type} {W w : World} {e : Nat} {g : Frag} {L0 LX L : Own} {R : Frag → α → List Value → Prop} {sz : Nat} {ys : List α} {u : Value} {LY : Own} (h : OwN e g R sz ys u LY) (hS : St W g L0 (LX ++ L) w) (hL : ∀ p ∈ LY, p ∈ L) : SrN g L R sz ys u := by
  obtain ⟨zs, h1, h2, h3⟩ := h
  exact ⟨zs, h1, h2.plus (hS.drop (List.sublist_append_right _ _)) hL, h3⟩
structure Bn (α : Type) (sz : Nat) where
  u : Value
  z : Nst α sz
  hc : u.cells = z.enc.toArray
theorem mN {α : Type} {p : α → Prop} : ∀ z ∈ ([] : List α), p z := fun z h => by cases h
theorem mK {α : Type} {p : α → Prop} {a : α} {l : List α} (h : p a) (r : ∀ z ∈ l, p z) : ∀ z ∈ a :: l, p z := fun z hz => by
  rcases List.mem_cons.1 hz with rfl | hz
  · exact h
  · exact r z hz
theorem onS {v : Value} (h : v.oneCell' = true) : ∀ u ∈ [v], u.oneCell' = true := fun u hu => by rw [List.mem_singleton.1 hu]; exact h
section
variable {P : Program} {ops : Array Oper} {Q : Exit → Act → World → Prop} {C : World → Prop} {rest : List Oper} {l : Fm} {w : World} {d : Nat} {ty : TypeId} {ps : String} {af : Array Edge}
variable {W : World} {g : Frag} {L0 L : Own} {α : Type} {R : Frag → α → List Value → Prop} {sz : Nat} {xs : List α} {v : Value}
theorem o_buildN {t e by_ n : Nat} {ps' : Array (Nat × Operand)} (bs : List (Bn α sz)) (hxs : bs.map (fun b => b.z.val) = xs) (hR : ∀ b ∈ bs, R g b.z.val b.z.enc) (hS : St W g L0 L w) (hel : El P t e sz by_) (hn : n * sz ≤ 16777216) (hlen : bs.length = n) (hm : n ≤ maxLen)
    (hp : ps'.toList.map (fun p => (p.1, ev l p.2)) = (bs.zipIdx.map fun p => (p.2, p.1.u)))
    (h : ∀ v LX w', OwN e g R sz xs v LX → St W g L0 (LX ++ L) w' → WL P ops Q rest (Ac (l.upd d v)) w') :
    WL P ops Q (⟨some d, .buildSlice t n ps', ty, ps, af, none⟩ :: rest) (Ac l) w := by
  refine o_buildT (fun b : Bn α sz => b.u) bs (enc := fun b => b.z.enc) hS hel (fun b => b.hc) (fun b => b.z.len) hn hlen hm hp fun b w' hS' ho => h _ [(b, blk (bs.flatMap fun b : Bn α sz => b.z.enc) e)] w' ⟨bs.map (fun b : Bn α sz => b.z), ?_, ?_, ?_⟩ (by simpa using hS')
  · rw [List.map_map]; exact hxs
  · unfold OwT at ho ⊢
    rw [List.length_map, List.flatMap_map]
    exact ho
  · intro z hz
    obtain ⟨b, hb, rfl⟩ := List.mem_map.1 hz
    exact hR b hb
theorem o_appN {t e by_ : Nat} {s x : Operand} {u : Value} {ys xs' : List α} {LX Lr : Own} (ha : app' xs ys = some xs') (hS : St W g L0 (LX ++ Lr) w) (he : El P t e sz by_) (hv : OwN e g R sz xs v LX) (hu : SrN g Lr R sz ys u)
    (hby : by_ ≤ 32768)
    (h : ∀ v' LX' w', OwN e g R sz xs' v' LX' → St W g L0 (LX' ++ Lr) w' → WL P ops Q rest (Ac (l.upd d v')) w')
    (hs : ev l s = v := by (conv => lhs; whnf) <;> exact rfl) (hx : ev l x = u := by (conv => lhs; whnf) <;> exact rfl) :
    WL P ops Q (⟨some d, .call { callee := .builtin .append, args := #[s, x], argTypes := #[t, t] }, ty, ps, af, none⟩ :: rest) (Ac l) w := by
  obtain ⟨zs, rfl, h2, h3⟩ := hv
  obtain ⟨zy, rfl, h4, h5⟩ := hu
  obtain ⟨hb, rfl⟩ := app'_some ha
  rw [List.length_map, List.length_map] at hb
  refine o_appPs (zs' := zs ++ zy) (by unfold app'; rw [if_pos hb]) hS he h2 h4 (fun u hu => ?_) hby (fun v' LX' w' hv' hS' => h v' LX' w' ⟨zs ++ zy, by rw [List.map_append], hv', fun z hz => ?_⟩ hS') hs hx
  · obtain ⟨z, _, hz⟩ := List.mem_flatMap.1 hu
    exact z.one u hz
  · rcases List.mem_append.1 hz with hz | hz
    · exact h3 z hz
    · exact h5 z hz
theorem y_lenM {x : Operand} {t e e' : TypeId} {LX : Own} (hr : OwN e' g R sz xs v LX) (ht : P.underlying t = some (.slice e)) (hx : ev l x = v := by (conv => lhs; whnf) <;> exact rfl) : YV P C l ⟨some d, .call { callee := .builtin .len, args := #[x], argTypes := #[t] }, ty, ps, af, none⟩ (.int .i64 xs.length) := by
  obtain ⟨zs, rfl, h2, h3⟩ := hr
  rw [List.length_map]; exact y_lenO h2 ht hx
theorem o_callN {f : FuncId} {fn : Func} {ao : Array Operand} {ts : Array TypeId} {args : Array Value} {L1 L2 : Own} {R : Value → Own → Prop} (hS : St W g L0 (L1 ++ L2) w) (hf : P.funcs[f]? = some fn) (hname : (fn.name == "runtime.NumGoroutine") = false) (hb : fn.body.isSome = true)
    (ha : ao.map (ev l) = args := by exact avs) (hc : LC P f args g L1 R) (h : ∀ v L' w', St W g L0 (L' ++ L2) w' → R v L' → WL P ops Q rest (Ac (l.upd d v)) w') :
    WL P ops Q (⟨some d, .call { callee := .value (.func f), args := ao, argTypes := ts }, ty, ps, af, none⟩ :: rest) (Ac l) w := by
  refine ⟨wpList_plain rfl fun K hK => ?_⟩
  unfold Oper.wp
  rw [eval_ev, run_enter hf hname hb (ev l) rfl, Oper.upon_enter, ha]
  refine (LC.atN hS hc).mono ?_
  rintro e w' ⟨v, L', rfl, hs, hr⟩
  show K ((Ac l).put (some d) v) w'
  rw [put_ac]
  exact hK _ _ (h v L' w' hs hr).out
theorem o_callN0 {f : FuncId} {fn : Func} {ao : Array Operand} {ts : Array TypeId} {args : Array Value} {R : Value → Own → Prop} (hS : St W g L0 L w) (hf : P.funcs[f]? = some fn) (hname : (fn.name == "runtime.NumGoroutine") = false) (hb : fn.body.isSome = true)
    (ha : ao.map (ev l) = args := by exact avs) (hc : LC P f args g [] R) (h : ∀ v L' w', St W g L0 (L' ++ L) w' → R v L' → WL P ops Q rest (Ac (l.upd d v)) w') :
    WL P ops Q (⟨some d, .call { callee := .value (.func f), args := ao, argTypes := ts }, ty, ps, af, none⟩ :: rest) (Ac l) w :=
  o_callN (L1 := []) (L2 := L) hS hf hname hb ha hc h
end
end Go.Proofs.YtgakgpbmcbegbaaGreatDoor
