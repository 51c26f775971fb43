/- What has come is written; what is on its way is written at the end: both machines. -/
import Derived.Test.YtfnmihhcopkkbaaGreatPiB
namespace Go.Proofs.YtfnmihhcopkkbaaGreat
open Go Fr
set_option linter.unusedVariables false
set_option linter.unusedSimpArgs false
set_option maxRecDepth 20000
def wrs (r : List Int) (l : List T_Write) : List Int := l.foldl (fun r w => r.set w.Reg.toNat w.Value) r
def nowW (l : List T_Write) : List T_Write := l.filter (fun w => decide (w.Left = 0))
def dec (w : T_Write) : T_Write := ⟨w.Reg, w.Value, w.Left - 1⟩
def leftL (l : List T_Write) : List T_Write := (l.filter (fun w => !decide (w.Left = 0))).map dec
def landS (s : T_State) : T_State := { s with Regs := wrs s.Regs (nowW s.Fly), Fly := leftL s.Fly }
theorem wrs_len (l : List T_Write) : ∀ r : List Int, (wrs r l).length = r.length := by
  induction l with
  | nil => intro r; rfl
  | cons w l ih => intro r; simp only [wrs, List.foldl_cons] at ih ⊢; rw [ih]; simp
theorem wrs_app (r : List Int) (l m : List T_Write) : wrs r (l ++ m) = wrs (wrs r l) m := by simp [wrs, List.foldl_append]
theorem wrs_dec (l : List T_Write) : ∀ r : List Int, wrs r (l.map dec) = wrs r l := by
  induction l with
  | nil => intro r; rfl
  | cons w l ih => intro r; simp only [wrs, List.map_cons, List.foldl_cons] at ih ⊢; rw [ih]; rfl
theorem wrs_u {l : List T_Write} : ∀ {r : List Int}, (∀ z ∈ r, U z) → (∀ w ∈ l, U w.Value) → ∀ z ∈ wrs r l, U z := by
  induction l with
  | nil => intro r h _; exact h
  | cons w l ih =>
    intro r h hl
    refine ih (fun z hz => ?_) (fun x hx => hl x (List.mem_cons_of_mem _ hx))
    rcases List.mem_or_eq_of_mem_set hz with hz | rfl
    · exact h z hz
    · exact hl w List.mem_cons_self
theorem land_loop {ρ : Type} {b : (List T_Write) × Int × (List Int) → Option (Step ((List T_Write) × Int × (List Int)) ρ)} {l : List T_Write} {e : List T_Write → List Int → ρ} {r0 : List Int}
    (hl : l.length ≤ 140737488351232) (hr : r0.length = 16) (ho : ∀ w ∈ l, okW w = true)
    (hb : ∀ acc i regs, b (acc, i, regs) = bif decide (i < (l.length : Int)) then (at' l i).bind fun w => bif decide (w.Left = 0) then (set' regs w.Reg w.Value).bind fun zs => some (.next (acc, IntKind.i64.wrap (i + 1), zs)) else (app' acc [⟨w.Reg, w.Value, IntKind.i64.wrap (w.Left - 1)⟩]).bind fun zs => some (.next (zs, IntKind.i64.wrap (i + 1), regs)) else some (.done (e acc regs)))
    (hs : l.length ≤ 4000000000) : ∀ (m i : Nat), i + m = l.length → loop b (leftL (l.take i), (i : Int), wrs r0 (nowW (l.take i))) = some (e (leftL l) (wrs r0 (nowW l)))
  | 0, i, h => by
    obtain rfl : i = l.length := by omega
    rw [loop_done (r := e (leftL l) (wrs r0 (nowW l))) (by rw [hb]; simp)]
  | m + 1, i, h => by
    have hi : i < l.length := by omega
    have hd : decide ((i : Int) < l.length) = true := by simpa using hi
    have ht : l.take (i + 1) = l.take i ++ [l[i]] := by rw [List.take_succ_eq_append_getElem hi]
    obtain ⟨⟨q0, q1⟩, q2, q3⟩ := okW_iff.1 (ho l[i] (List.getElem_mem hi))
    have ih := land_loop hl hr ho hb hs m (i + 1) (by omega)
    rw [← ih]
    refine loop_next ?_
    rw [hb, hd, cond_true, at'_nat hi, Option.bind_some]
    by_cases h0 : l[i].Left = 0
    · rw [set'_int q0 (by rw [wrs_len]; omega)]
      simp only [h0, decide_true, cond_true, Option.bind_some, ht]
      rw [wrap_nat (by omega)]
      simp [leftL, nowW, List.filter_append, h0, wrs, -List.take_append_getElem]
    · have hlen : (leftL (l.take i)).length ≤ l.length := by
        simp only [leftL, List.length_map]
        have := List.length_filter_le (fun w : T_Write => !decide (w.Left = 0)) (l.take i)
        simp at this; omega
      rw [app'_le (by simp; omega)]
      simp only [h0, decide_false, cond_false, Option.bind_some, ht]
      rw [wrap_nat (by omega), wrap_i64 (by omega) (by omega)]
      simp [leftL, nowW, List.filter_append, h0, dec, -List.take_append_getElem]
structure FlyOk (l : List T_Write) : Prop where
  ok : ∀ w ∈ l, okW w = true
  u : ∀ w ∈ l, U w.Value
  len : l.length ≤ 20
theorem land_both {s : T_State} (hr : s.Regs.length = 16) (hf : FlyOk s.Fly) : pipe_Land s = some (landS s) ∧ r5_lands s = some (landS s) := by
  have hl := hf.len
  have h1 := land_loop (b := pipe_Land_b2 s) (l := s.Fly) (e := fun a r => .next (a, r, s.Mem, s.In_, s.Out, s.Stack, s.Fly)) (r0 := s.Regs) (by omega) hr hf.ok (fun _ _ _ => rfl) (by omega) s.Fly.length 0 (by omega)
  have h2 := land_loop (b := r5_lands_b2 s) (l := s.Fly) (e := fun a r => .next (a, r, s.Mem, s.In_, s.Out, s.Stack, s.Fly)) (r0 := s.Regs) (by omega) hr hf.ok (fun _ _ _ => rfl) (by omega) s.Fly.length 0 (by omega)
  have e0 : (leftL (s.Fly.take 0), ((0 : Nat) : Int), wrs s.Regs (nowW (s.Fly.take 0))) = (([] : List T_Write), (0 : Int), s.Regs) := by simp [leftL, nowW, wrs]
  rw [e0] at h1 h2
  constructor
  · rw [pipe_Land, h1]; rfl
  · rw [r5_lands, h2]; rfl
theorem left_ok {l : List T_Write} (h : FlyOk l) : FlyOk (leftL l) where
  ok := fun w hw => by
    obtain ⟨x, hx, rfl⟩ := List.mem_map.1 hw
    obtain ⟨hx1, hx2⟩ := List.mem_filter.1 hx
    obtain ⟨⟨q0, q1⟩, q2, q3⟩ := okW_iff.1 (h.ok x hx1)
    have : ¬ x.Left = 0 := by simpa using hx2
    exact okW_iff.2 ⟨⟨q0, q1⟩, by simp [dec]; omega, by simp [dec]; omega⟩
  u := fun w hw => by
    obtain ⟨x, hx, rfl⟩ := List.mem_map.1 hw
    exact h.u x (List.mem_filter.1 hx).1
  len := by
    simp only [leftL, List.length_map]
    exact Nat.le_trans (List.length_filter_le _ _) h.len
theorem late_left {l : List T_Write} {k : Int} (hk : 0 ≤ k) : late k (leftL l) = late (k + 1) l := by
  induction l with
  | nil => rfl
  | cons w l ih =>
    have e : ∀ (k : Int) (w : T_Write) (l : List T_Write), late k (w :: l) = late k l + if k ≤ w.Left then 1 else 0 := fun k w l => by
      simp only [late, List.countP_cons, decide_eq_true_eq]; split <;> simp
    by_cases h0 : w.Left = 0
    · have e1 : leftL (w :: l) = leftL l := by simp [leftL, h0]
      rw [e1, ih, e, if_neg (by omega), Int.add_zero]
    · have e1 : leftL (w :: l) = dec w :: leftL l := by simp [leftL, h0]
      rw [e1, e, e, ih]
      have : (k ≤ (dec w).Left) ↔ (k + 1 ≤ w.Left) := by simp [dec]; omega
      simp only [this]
def cat (n : Nat) (l : List T_Write) : List T_Write := (List.range n).flatMap fun (k : Nat) => l.filter fun w => decide (w.Left = (k : Int))
theorem cat_succ (n : Nat) (l : List T_Write) : cat (n + 1) l = nowW l ++ (List.range n).flatMap fun (k : Nat) => l.filter fun w => decide (w.Left = ((k + 1 : Nat) : Int)) := by
  simp only [cat, List.range_succ_eq_map, List.flatMap_cons, List.flatMap_map]
  rfl
theorem cat_left (n : Nat) {l : List T_Write} (hl : ∀ w ∈ l, okW w = true) : cat n (leftL l) = ((List.range n).flatMap fun (k : Nat) => l.filter fun w => decide (w.Left = ((k + 1 : Nat) : Int))).map dec := by
  simp only [cat, List.map_flatMap]
  congr 1
  funext k
  simp only [leftL, List.filter_map, List.filter_filter]
  congr 1
  refine List.filter_congr fun w hw => ?_
  obtain ⟨_, q2, _⟩ := okW_iff.1 (hl w hw)
  have e : ((dec w).Left = (k : Int) ∧ ¬ w.Left = 0) ↔ w.Left = ((k + 1 : Nat) : Int) := by simp only [dec]; omega
  rw [Bool.eq_iff_iff]
  simp only [Function.comp, Bool.and_eq_true, decide_eq_true_eq, Bool.not_eq_true', decide_eq_false_iff_not]
  exact e
theorem lands_all {s0 : T_State} : ∀ (n : Nat) (regs : List Int) (l : List T_Write), regs.length = 16 → FlyOk l → (∀ w ∈ l, w.Left < (n : Int)) →
    loop r5_issue_b5 (regs, s0.Mem, s0.In_, s0.Taken, s0.Out, s0.PC, s0.Stack, s0.Stop, l, s0.Jump, s0.Delay) = some (.done { s0 with Regs := wrs regs (cat n l), Fly := [] })
  | 0, regs, l, hr, hf, hn => by
    have : l = [] := by
      cases l with
      | nil => rfl
      | cons w l =>
        have := hn w List.mem_cons_self
        obtain ⟨_, q2, _⟩ := okW_iff.1 (hf.ok w List.mem_cons_self)
        omega
    subst this
    exact loop_done (by simp [r5_issue_b5, cat, wrs])
  | n + 1, regs, l, hr, hf, hn => by
    by_cases hl : l = []
    · subst hl
      refine loop_done ?_
      have : cat (n + 1) [] = [] := by simp [cat]
      simp [r5_issue_b5, this, wrs]
    · have h1 : decide (0 < (l.length : Int)) = true := by
        have := List.length_pos_iff.2 hl; simp; exact this
      have h2 := (land_both (s := { s0 with Regs := regs, Fly := l }) hr hf).2
      have ih := lands_all (s0 := s0) n (wrs regs (nowW l)) (leftL l) (by rw [wrs_len]; exact hr) (left_ok hf) (fun w hw => by
        obtain ⟨x, hx, rfl⟩ := List.mem_map.1 hw
        have := hn x (List.mem_filter.1 hx).1
        simp [dec]; omega)
      rw [loop_next (s' := (wrs regs (nowW l), s0.Mem, s0.In_, s0.Taken, s0.Out, s0.PC, s0.Stack, s0.Stop, leftL l, s0.Jump, s0.Delay)), ih, cat_succ, wrs_app, cat_left n hf.ok, wrs_dec]
      simp only [r5_issue_b5, h1, cond_true]
      rw [h2]
      rfl
noncomputable abbrev insb (a i : Int) := slices_insertionSortCmpFunc_api_Write_pipe_settle_1_b2 a i
theorem ins_in {i : Int} {x : T_Write} {P1 : List T_Write} (hi : 0 ≤ i ∧ i < 1000) (hx : okW x = true) (h1 : ∀ y ∈ P1, y.Left ≤ x.Left) : ∀ (n : Nat) (P2 C : List T_Write), P2.length = n → (P1.length + P2.length < 1000) → (∀ y ∈ P1 ++ P2, okW y = true) → (∀ y ∈ P2, x.Left < y.Left) →
    loop (insb 0 i) (P1 ++ P2 ++ x :: C, ((P1.length + P2.length : Nat) : Int)) = some (.next (P1 ++ x :: (P2 ++ C), i + 1))
  | 0, P2, C, hn, hlen, hok, h2 => by
    obtain rfl : P2 = [] := List.eq_nil_of_length_eq_zero hn
    have wi := wrap_i64 (n := i + 1) (by omega) (by omega)
    refine loop_done ?_
    simp only [List.append_nil, List.length_nil, Nat.add_zero, List.nil_append, insb, slices_insertionSortCmpFunc_api_Write_pipe_settle_1_b2, wi]
    by_cases h0 : P1.length = 0
    · simp [h0]
    · have hd : decide ((0 : Int) < (P1.length : Int)) = true := by simp; omega
      have hw := wrap_i64 (n := (P1.length : Int) - 1) (by omega) (by omega)
      have hat0 : at' (P1 ++ x :: C) (P1.length : Int) = some x := by
        rw [at'_nat (by simp)]; simp
      obtain ⟨hl1, hat1⟩ := at'_int (xs := P1 ++ x :: C) (i := (P1.length : Int) - 1) (by omega) (by simp; omega)
      have hy : (P1 ++ x :: C)[((P1.length : Int) - 1).toNat] = P1[P1.length - 1] := by
        have : ((P1.length : Int) - 1).toNat = P1.length - 1 := by omega
        simp only [this]; rw [List.getElem_append_left (by omega)]
      have hym : P1[P1.length - 1] ∈ P1 := List.getElem_mem _
      have hle := h1 _ hym
      obtain ⟨_, q2, q3⟩ := okW_iff.1 (hok _ (List.mem_append_left _ hym))
      obtain ⟨_, p2, p3⟩ := okW_iff.1 hx
      have hc : ¬ pipe_settle_1 x P1[P1.length - 1] < 0 := by
        simp only [pipe_settle_1]; rw [wrap_i64 (by omega) (by omega)]; omega
      rw [hd, cond_true, hat0, hw, hat1, hy]
      simp [hc]
  | n + 1, P2, C, hn, hlen, hok, h2 => by
    obtain ⟨Q, y, rfl⟩ : ∃ Q y, P2 = Q ++ [y] := ⟨P2.dropLast, P2.getLast (by intro h; simp [h] at hn), (List.dropLast_concat_getLast _).symm⟩
    have hQ : Q.length = n := by simp at hn; exact hn
    have ih := ins_in hi hx h1 n Q (y :: C) hQ (by simp at hlen; omega) (fun z hz => hok z (by rcases List.mem_append.1 hz with hz | hz; exact List.mem_append_left _ hz; exact List.mem_append_right _ (List.mem_append_left _ hz))) (fun z hz => h2 z (List.mem_append_left _ hz))
    have hym : y ∈ Q ++ [y] := by simp
    have hlt := h2 y hym
    obtain ⟨_, q2, q3⟩ := okW_iff.1 (hok y (List.mem_append_right _ hym))
    obtain ⟨_, p2, p3⟩ := okW_iff.1 hx
    generalize hK : P1.length + Q.length = K at ih
    have hj : ((P1.length + (Q ++ [y]).length : Nat) : Int) = ((K + 1 : Nat) : Int) := by simp; omega
    rw [hj]
    have hz : P1 ++ (Q ++ [y]) ++ x :: C = (P1 ++ Q) ++ y :: x :: C := by simp
    rw [hz]
    have hKl : (P1 ++ Q).length = K := by simp; omega
    generalize P1 ++ Q = R at hKl ih
    have hd : decide ((0 : Int) < ((K + 1 : Nat) : Int)) = true := decide_eq_true (by omega)
    have hw : IntKind.i64.wrap (((K + 1 : Nat) : Int) - 1) = (K : Int) := by rw [wrap_i64 (by omega) (by omega)]; omega
    have a1 : at' (R ++ y :: x :: C) ((K + 1 : Nat) : Int) = some x := by rw [at'_nat (by simp <;> omega)]; subst hKl; simp
    have a2 : at' (R ++ y :: x :: C) (K : Int) = some y := by rw [at'_nat (by simp <;> omega)]; subst hKl; simp
    have hc : pipe_settle_1 x y < 0 := by
      simp only [pipe_settle_1]; rw [wrap_i64 (by omega) (by omega)]; omega
    have s1 : set' (R ++ y :: x :: C) ((K + 1 : Nat) : Int) y = some (R ++ y :: y :: C) := by
      rw [set'_int (by omega) (by simp; omega)]
      subst hKl
      simp
    have s2 : set' (R ++ y :: y :: C) (K : Int) x = some (R ++ x :: y :: C) := by
      rw [set'_int (by omega) (by simp; omega)]
      subst hKl
      simp
    rw [loop_next (s' := (R ++ x :: y :: C, (K : Int))), ih]
    · simp
    · simp only [insb, slices_insertionSortCmpFunc_api_Write_pipe_settle_1_b2, hd, cond_true, a1, a2, hw, Option.bind_some, hc, decide_true, s1, s2]
theorem flat_lt {l : List T_Write} {x : T_Write} (n : Nat) (hx : x.Left = (n : Int)) : ∀ m, cat (n + 1 + m) (l ++ [x]) = cat (n + 1) l ++ x :: ((List.range m).flatMap fun (k : Nat) => l.filter fun w => decide (w.Left = ((n + 1 + k : Nat) : Int))) := by
  intro m
  have hf : ∀ (k : Nat), k ≠ n → (l ++ [x]).filter (fun w => decide (w.Left = (k : Int))) = l.filter (fun w => decide (w.Left = (k : Int))) := fun k hk => by
    rw [List.filter_append]
    have : ¬ x.Left = (k : Int) := by omega
    simp [this]
  have hn : (l ++ [x]).filter (fun w => decide (w.Left = (n : Int))) = l.filter (fun w => decide (w.Left = (n : Int))) ++ [x] := by
    rw [List.filter_append]; simp [hx]
  have e1 : cat (n + 1) (l ++ [x]) = cat (n + 1) l ++ [x] := by
    simp only [cat, List.range_succ, List.flatMap_append, List.flatMap_cons, List.flatMap_nil, List.append_nil]
    rw [hn]
    have : (List.range n).flatMap (fun (k : Nat) => (l ++ [x]).filter fun w => decide (w.Left = (k : Int))) = (List.range n).flatMap (fun (k : Nat) => l.filter fun w => decide (w.Left = (k : Int))) := by
      simp only [List.flatMap]
      congr 1
      refine List.map_congr_left fun k hk => hf k ?_
      have := List.mem_range.1 hk; omega
    rw [this, List.append_assoc]
  have e2 : ∀ L : List T_Write, cat (n + 1 + m) L = cat (n + 1) L ++ (List.range m).flatMap fun (k : Nat) => L.filter fun w => decide (w.Left = ((n + 1 + k : Nat) : Int)) := fun L => by
    simp only [cat, List.range_add, List.flatMap_append, List.flatMap_map]
  rw [e2, e1]
  have : (List.range m).flatMap (fun (k : Nat) => (l ++ [x]).filter fun w => decide (w.Left = ((n + 1 + k : Nat) : Int))) = (List.range m).flatMap (fun (k : Nat) => l.filter fun w => decide (w.Left = ((n + 1 + k : Nat) : Int))) := by
    simp only [List.flatMap]
    congr 1
    refine List.map_congr_left fun k hk => hf _ (by omega)
  rw [this]; simp
theorem mem_cat {n : Nat} {l : List T_Write} {w : T_Write} (h : w ∈ cat n l) : w ∈ l ∧ w.Left < (n : Int) := by
  simp only [cat, List.mem_flatMap, List.mem_range, List.mem_filter, decide_eq_true_eq] at h
  obtain ⟨k, hk, h1, h2⟩ := h
  exact ⟨h1, by omega⟩
theorem cat_len {l : List T_Write} (h : ∀ w ∈ l, okW w = true) : (cat 5 l).length = l.length := by
  induction l with
  | nil => rfl
  | cons w l ih =>
    have ih := ih fun x hx => h x (List.mem_cons_of_mem _ hx)
    obtain ⟨_, q2, q3⟩ := okW_iff.1 (h w List.mem_cons_self)
    simp only [cat, show List.range 5 = [0, 1, 2, 3, 4] from rfl, List.flatMap_cons, List.flatMap_nil, List.append_nil, List.length_append, List.filter_cons, List.length_cons] at ih ⊢
    rcases (show w.Left = 0 ∨ w.Left = 1 ∨ w.Left = 2 ∨ w.Left = 3 ∨ w.Left = 4 by omega) with e | e | e | e | e <;> simp [e] <;> simp at ih <;> omega
theorem ins_sort {l : List T_Write} (hf : FlyOk l) {a : Nat} (ha : a = l.length) : ∀ (m i : Nat), i + m = l.length → 1 ≤ i →
    loop (slices_insertionSortCmpFunc_api_Write_pipe_settle_1_b1 (a : Int) 0) (cat 5 (l.take i) ++ l.drop i, (i : Int)) = some (cat 5 l)
  | 0, i, h, h1 => by
    obtain rfl : i = l.length := by omega
    refine loop_done ?_
    have : ¬ (l.length : Int) < (a : Int) := by omega
    simp [slices_insertionSortCmpFunc_api_Write_pipe_settle_1_b1, this]
  | m + 1, i, h, h1 => by
    have hi : i < l.length := by omega
    have hd : decide ((i : Int) < (a : Int)) = true := by simp; omega
    have hxo := hf.ok l[i] (List.getElem_mem hi)
    obtain ⟨_, q2, q3⟩ := okW_iff.1 hxo
    have hdr : l.drop i = l[i] :: l.drop (i + 1) := List.drop_eq_getElem_cons hi
    have ht : l.take (i + 1) = l.take i ++ [l[i]] := by rw [List.take_succ_eq_append_getElem hi]
    have hto : ∀ w ∈ l.take i, okW w = true := fun w hw => hf.ok w (List.mem_of_mem_take hw)
    have ih := ins_sort hf ha m (i + 1) (by omega) (by omega)
    rw [ht] at ih
    generalize l[i] = x at hdr hxo q2 q3 ih
    obtain ⟨n, hn⟩ := Int.eq_ofNat_of_zero_le q2
    have hn4 : n + 1 + (4 - n) = 5 := by omega
    have hfl := flat_lt (l := l.take i) (x := x) n hn (4 - n)
    rw [hn4] at hfl
    have e2 : cat 5 (l.take i) = cat (n + 1) (l.take i) ++ (List.range (4 - n)).flatMap fun (k : Nat) => (l.take i).filter fun w => decide (w.Left = ((n + 1 + k : Nat) : Int)) := by
      conv => lhs; rw [← hn4]
      simp only [cat, List.range_add, List.flatMap_append, List.flatMap_map]
    have hcl := cat_len hto
    rw [hdr, e2]
    rw [hfl] at ih
    rw [e2] at hcl
    have hmem : ∀ y ∈ (List.range (4 - n)).flatMap (fun (k : Nat) => (l.take i).filter fun w => decide (w.Left = ((n + 1 + k : Nat) : Int))), y ∈ l.take i ∧ x.Left < y.Left := fun y hy => by
      simp only [List.mem_flatMap, List.mem_range, List.mem_filter, decide_eq_true_eq] at hy
      obtain ⟨k, hk, h1, h2⟩ := hy
      exact ⟨h1, by omega⟩
    have hmem1 : ∀ y ∈ cat (n + 1) (l.take i), y ∈ l.take i ∧ y.Left ≤ x.Left := fun y hy => by
      obtain ⟨h1, h2⟩ := mem_cat hy
      exact ⟨h1, by omega⟩
    generalize (List.range (4 - n)).flatMap (fun (k : Nat) => (l.take i).filter fun w => decide (w.Left = ((n + 1 + k : Nat) : Int))) = P2 at *
    generalize cat (n + 1) (l.take i) = P1 at *
    have hlen := hf.len
    have hil : P1.length + P2.length = i := by simp at hcl; omega
    have h2 := ins_in (i := (i : Int)) (P1 := P1) (by omega) hxo (fun y hy => (hmem1 y hy).2) P2.length P2 (l.drop (i + 1)) rfl (by omega) (fun y hy => by
      rcases List.mem_append.1 hy with hy | hy
      · exact hto y (hmem1 y hy).1
      · exact hto y (hmem y hy).1) (fun y hy => (hmem y hy).2)
    rw [hil] at h2
    rw [loop_next (s' := (P1 ++ x :: (P2 ++ l.drop (i + 1)), (i : Int) + 1))]
    · have : P1 ++ x :: P2 ++ l.drop (i + 1) = P1 ++ x :: (P2 ++ l.drop (i + 1)) := by simp
      rw [this] at ih
      exact ih
    · simp only [slices_insertionSortCmpFunc_api_Write_pipe_settle_1_b1, hd, cond_true]
      exact h2
theorem ins_all {l : List T_Write} (hf : FlyOk l) : slices_insertionSortCmpFunc_api_Write_pipe_settle_1 l 0 (l.length : Int) = some (cat 5 l) := by
  rw [slices_insertionSortCmpFunc_api_Write_pipe_settle_1, show IntKind.i64.wrap (0 + 1) = 1 from by decide]
  cases l with
  | nil => exact loop_done (by simp [slices_insertionSortCmpFunc_api_Write_pipe_settle_1_b1, cat])
  | cons w l =>
    have h := ins_sort hf rfl l.length 1 (by simp; omega) (by omega)
    have e : cat 5 ((w :: l).take 1) ++ (w :: l).drop 1 = w :: l := by
      obtain ⟨_, q2, q3⟩ := okW_iff.1 (hf.ok w List.mem_cons_self)
      simp only [List.take_succ_cons, List.take_zero, cat, show List.range 5 = [0, 1, 2, 3, 4] from rfl, List.flatMap_cons, List.flatMap_nil, List.filter_cons, List.filter_nil, List.drop_succ_cons, List.drop_zero]
      rcases (show w.Left = 0 ∨ w.Left = 1 ∨ w.Left = 2 ∨ w.Left = 3 ∨ w.Left = 4 by omega) with e | e | e | e | e <;> simp [e]
    rw [e] at h
    exact h
theorem stable_all {l : List T_Write} (hf : FlyOk l) : slices_SortStableFunc_api_Write_api_Write_pipe_settle_1 l = some (cat 5 l) := by
  have hlen := hf.len
  have hb3 : ∀ z : List T_Write, loop (slices_stableCmpFunc_api_Write_pipe_settle_1_b3 (l.length : Int) z) 20 = some z := fun z => by
    have : ¬ (20 : Int) < (l.length : Int) := by omega
    exact loop_done (by simp [slices_stableCmpFunc_api_Write_pipe_settle_1_b3, this])
  simp only [slices_SortStableFunc_api_Write_api_Write_pipe_settle_1, slices_stableCmpFunc_api_Write_pipe_settle_1]
  by_cases h : l.length = 20
  · have h20 : (l.length : Int) = 20 := by omega
    have hi := ins_all hf
    rw [h20] at hi
    have e1 : loop (slices_stableCmpFunc_api_Write_pipe_settle_1_b2 (l.length : Int)) (l, 0, 20) = some (.next (cat 5 l, 20)) := by
      rw [loop_next (s' := (cat 5 l, 20, 40)) (by simp [slices_stableCmpFunc_api_Write_pipe_settle_1_b2, h20, hi]; decide)]
      exact loop_done (by simp [slices_stableCmpFunc_api_Write_pipe_settle_1_b2, h20])
    have e2 : slices_insertionSortCmpFunc_api_Write_pipe_settle_1 (cat 5 l) 20 (l.length : Int) = some (cat 5 l) := by
      rw [slices_insertionSortCmpFunc_api_Write_pipe_settle_1, show IntKind.i64.wrap (20 + 1) = 21 from by decide]
      exact loop_done (by simp [slices_insertionSortCmpFunc_api_Write_pipe_settle_1_b1, h20])
    rw [e1]
    simp only [cut, slices_stableCmpFunc_api_Write_pipe_settle_1_k1, e2, Option.bind_some, hb3]
  · have e1 : loop (slices_stableCmpFunc_api_Write_pipe_settle_1_b2 (l.length : Int)) (l, 0, 20) = some (.next (l, 0)) := by
      have : ¬ (20 : Int) ≤ (l.length : Int) := by omega
      exact loop_done (by simp [slices_stableCmpFunc_api_Write_pipe_settle_1_b2, this])
    rw [e1]
    simp only [cut, slices_stableCmpFunc_api_Write_pipe_settle_1_k1, ins_all hf, Option.bind_some, hb3]
theorem settle_eq {s : T_State} (hr : s.Regs.length = 16) (hf : FlyOk s.Fly) : pipe_settle s = some { s with Regs := wrs s.Regs (cat 5 s.Fly), Fly := [] } := by
  have hlen := hf.len
  have hcl := cat_len hf.ok
  have hl : ∀ (m i : Nat), i + m = (cat 5 s.Fly).length → loop (pipe_settle_b2 (cat 5 s.Fly) s) ((i : Int), wrs s.Regs ((cat 5 s.Fly).take i)) = some (.next (wrs s.Regs (cat 5 s.Fly), s.In_, s.Out, s.Stack, cat 5 s.Fly)) := by
    intro m
    induction m with
    | zero =>
      intro i h
      obtain rfl : i = (cat 5 s.Fly).length := by omega
      exact loop_done (by simp [pipe_settle_b2])
    | succ m ih =>
      intro i h
      have hi : i < (cat 5 s.Fly).length := by omega
      have hd : decide ((i : Int) < (cat 5 s.Fly).length) = true := by simpa using hi
      have ht : (cat 5 s.Fly).take (i + 1) = (cat 5 s.Fly).take i ++ [(cat 5 s.Fly)[i]] := by rw [List.take_succ_eq_append_getElem hi]
      obtain ⟨⟨q0, q1⟩, _⟩ := okW_iff.1 (hf.ok _ (mem_cat (List.getElem_mem hi)).1)
      rw [← ih (i + 1) (by omega)]
      refine loop_next ?_
      simp only [pipe_settle_b2, hd, cond_true, at'_nat hi, Option.bind_some]
      rw [set'_int q0 (by rw [wrs_len]; omega), wrap_nat (by omega), ht, wrs_app]
      rfl
  have h0 := hl (cat 5 s.Fly).length 0 (by omega)
  have e0 : wrs s.Regs ((cat 5 s.Fly).take 0) = s.Regs := by simp [wrs]
  rw [e0] at h0
  have h0' : loop (pipe_settle_b2 (cat 5 s.Fly) s) (0, s.Regs) = _ := h0
  simp only [pipe_settle, stable_all hf, Option.bind_some, h0', cut, pipe_settle_k1]
end Go.Proofs.YtfnmihhcopkkbaaGreat
