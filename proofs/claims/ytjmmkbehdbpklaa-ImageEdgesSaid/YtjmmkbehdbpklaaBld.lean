/- A Writer of bytes (strings.Builder within): what its methods do, as contracts of my own layer. -/
import Derived.Test.YtjmmkbehdbpklaaTy
import Derived.Lib.Builder
import Derived.Laws.Externs
import Derived.Deep.OwnRows
import Derived.Shelf.RegionOpenPlain
namespace Go.Proofs.Ytjmmkbehdbpklaa
open Go Go.RowKit Fr
set_option linter.unusedVariables false
set_option linter.unusedSimpArgs false

/-- Block b is a Writer that holds the bytes bs. -/
def Bx_Writer (b : Nat) (bs : List Int) (L : Own) : Prop :=
  ∃ (p v : Value) (LX : Own), (p = .pointer none ∨ p = .pointer (some ⟨b, 0, none⟩)) ∧ L = (b, blk [p, v] 87) :: LX ∧ SlF 5 bs v LX
theorem bld_info : (Try.prog.info? 85).map (·.size) = some 2 := by kernel_rfl
theorem bld_lies : liesAt Try.prog Try.prog.depth 87 (2 / Try.prog.cellsOf 87) 0 85 1 = true := by kernel_rfl
theorem sz_bytes : (Try.prog.info? 83).map (·.size) = some 1 := by kernel_rfl
theorem elb_uint8 : El Try.prog 83 5 1 1 := El.mk' (z := .int .u8 0) Try.underlying83 (by kernel_rfl) rfl
theorem zb_uint8 : (Try.prog.info? 5).map (·.zero) = some (some (.int .u8 0)) := by kernel_rfl
theorem fab_0 : ∀ (b o : Nat) (w : World), (Instr.fieldAt 85 (.pointer (some ⟨b, o, none⟩)) 0).run Try.prog w = .ok (.pointer (some ⟨b, o + 0, none⟩)) w := fieldAt_of Try.underlying85 rfl rfl (n := 0) (by kernel_rfl)
theorem fab_1 : ∀ (b o : Nat) (w : World), (Instr.fieldAt 85 (.pointer (some ⟨b, o, none⟩)) 1).run Try.prog w = .ok (.pointer (some ⟨b, o + 1, none⟩)) w := fieldAt_of Try.underlying85 rfl rfl (n := 0) (by kernel_rfl)

set_option maxHeartbeats 1000000 in
set_option maxRecDepth 100000 in
theorem cc_used (b : Nat) (w : World) (h0 : w.cell? ⟨b, 0, none⟩ = some (.pointer (some ⟨b, 0, none⟩))) :
    Calls Try.prog 67 #[.pointer (some ⟨b, 0, none⟩)] w fun e w' => e = .returned (.tuple #[]) ∧ w' = w := by
  obtain ⟨j, hj, _⟩ := Option.map_eq_some_iff.1 bld_info
  go_enter Try.func67, Try.ntmps67
  go_wp2
  rw [Lib.run_neq_ptr_same w _ Try.underlying82 hj]
  go_wp2
  go_end0
  exact ⟨rfl, rfl⟩

set_option maxHeartbeats 1000000 in
set_option maxRecDepth 100000 in
theorem cc_fresh (b : Nat) (v : Value) (w : World) (hb : w.heap[b]? = some (blk [.pointer none, v] 87)) :
    Calls Try.prog 67 #[.pointer (some ⟨b, 0, none⟩)] w fun e w' => e = .returned (.tuple #[]) ∧ w' = w.setCell ⟨b, 0, none⟩ (.pointer (some ⟨b, 0, none⟩)) := by
  obtain ⟨j, hj, hjs⟩ := Option.map_eq_some_iff.1 bld_info
  have h0 : w.cell? ⟨b, 0, none⟩ = some (.pointer none) := by simp [World.cell?, hb]
  have hsh : w.shape? b = some (87, 2) := by simp [World.shape?, hb]
  have hfz : w.frozen? ⟨b, 0, none⟩ = false := by simp [World.frozen?, hb]
  go_enter Try.func67, Try.ntmps67
  go_wp2
  rw [Lib.run_to_unsafe w ⟨b, 0, none⟩ Try.underlying82 Try.underlying127 hj (by rw [hjs]; decide) hsh (Nat.zero_lt_succ 1)]
  simp only [Result.andThen]
  rw [Oper.upon_value]
  go_wp2
  rw [run_callFunc_extern Try.func91 (by kernel_rfl) (by kernel_rfl) (by kernel_rfl) (e := Extern.AbiNoEscape.same) (by kernel_rfl)]
  rw [Lib.run_noEscape]
  simp only [Result.andThen]
  rw [Oper.upon_value]
  go_wp2
  rw [Lib.run_from_unsafe w ⟨b, 0, none⟩ Try.underlying127 Try.underlying82 hj hsh bld_lies]
  simp only [Result.andThen]
  rw [Oper.upon_value]
  go_wp2
  go_end0
  exact ⟨rfl, rfl⟩
theorem w_copyCheck {g : Frag} {b : Nat} {bs : List Int} {L : Own} (h : Bx_Writer b bs L) : LC Try.prog 67 #[.pointer (some ⟨b, 0, none⟩)] g L (fun v L' => ∃ (u : Value) (LX : Own), v = .tuple #[] ∧ L' = (b, blk [.pointer (some ⟨b, 0, none⟩), u] 87) :: LX ∧ SlF 5 bs u LX) := by
  obtain ⟨p, u, LX, hp, rfl, hF⟩ := h
  intro w hS
  have hb := hS.own List.mem_cons_self
  rcases hp with rfl | rfl
  · refine (cc_fresh b u w hb).mono ?_
    rintro e w' ⟨rfl, rfl⟩
    exact ⟨_, _, rfl, St.setCells (o := 0) (vs := [.pointer (some ⟨b, 0, none⟩)]) hS (Upd.here _), u, LX, rfl, rfl, hF⟩
  · refine (cc_used b w (by simp [World.cell?, hb])).mono ?_
    rintro e w' ⟨rfl, rfl⟩
    exact ⟨_, _, rfl, hS, u, LX, rfl, rfl, hF⟩

section
variable {P : Program} {ops : Array Oper} {Q : Exit → Act → World → Prop} {rest : List Oper} {l : Fm} {w : World} {d : Nat} {ty : TypeId} {ps : String} {af : Array Edge}
variable {W : World} {g : Frag} {L0 L : Own}
theorem o_appF {t u e : TypeId} {s x : Operand} {src v : Value} {bs ns : List Int} {LX Lr : Own} (he : El P t e 1 1) (hz : (P.info? e).map (·.zero) = some (some (.int .u8 0))) (hv : SlF e bs v LX) (hS : St W g L0 (LX ++ Lr) w) (hsrc : Src P u src w ns) (hb : bs.length + ns.length ≤ 4294967296)
    (h : ∀ v' LX' w', SlF e (bs ++ ns) v' LX' → St W g L0 (LX' ++ Lr) w' → WL P ops Q rest (Ac (l.upd d v')) w')
    (hs : ev l s = v := by (conv => lhs; whnf) <;> exact rfl) (hx : ev l x = src := by (conv => lhs; whnf) <;> exact rfl) :
    WL P ops Q (⟨some d, .call { callee := .builtin .append, args := #[s, x], argTypes := #[t, u] }, ty, ps, af, none⟩ :: rest) (Ac l) w := by
  obtain ⟨v', LX', w', hr, h1, h2⟩ := append_F (ty := ty) he hz hv hS hsrc hb
  have hr' : (execOp (ev l) ⟨some d, .call { callee := .builtin .append, args := #[s, x], argTypes := #[t, u] }, ty, ps, af, none⟩).run P w = .ok (.value v') w' := by
    simp [execOp, resolve, invoke, builtin, hs, hx, hr]
  refine ⟨wpList_plain rfl fun K hK => ?_⟩
  unfold Oper.wp
  rw [eval_ev, hr', Oper.upon_value, put_ac]
  exact hK _ _ (h _ _ _ h1 h2).out
end
theorem SlF.one {e : TypeId} {bs : List Int} {v : Value} {LX : Own} (h : SlF e bs v LX) : v.oneCell' = true := by
  rcases h with ⟨rfl, _⟩ | ⟨b, c, cl, k, rfl, _⟩ <;> rfl
theorem SlF.cell {e : TypeId} {bs : List Int} {v : Value} {LX : Own} (h : SlF e bs v LX) : v.cells = #[v] := by
  rcases h with ⟨rfl, _⟩ | ⟨b, c, cl, k, rfl, _⟩ <;> rfl
theorem Src.of_slice {P : Program} {u e' : TypeId} {enc : Int → List Value} {g' : Frag} {w : World} {ns : List Int} {v : Value} (he : ∀ z, enc z = [.int .u8 z]) (hu : P.underlying u = some (.slice e')) (h : SlT g' enc 1 ns v) (hg : ∀ {b o}, g' b = some o → w.heap[b]? = some o) : Src P u v w ns := by
  obtain ⟨A, c, rfl, _, hl, h3⟩ := h
  refine ⟨.inl ⟨e', hu⟩, fun w' => by simp [Builtin.lenOf], fun w' hw' => ?_⟩
  rcases h3 with h3 | ⟨b, o, cs, e2, fz, rfl, hb, hcs⟩
  · obtain rfl := List.length_eq_zero_iff.1 h3
    cases A <;> simp [Builtin.firstCells, loadCells, loadCellsFrom]
  · exact run_firstCells_some (P := P) w' 1 ns.length ⟨b, o, none⟩ ns.length c (ns.map (Value.int .u8)) (by simp) (fun j u hj => by
      rw [Addr.add_mid]
      have h5 : w'.heap[b]? = some (.cells cs e2 fz) := by rw [hw']; exact hg hb
      rw [cell_of_row w' b (o + j) cs e2 fz h5]
      exact hcs j u (by rw [flat_u8 he]; exact hj))
theorem Src.of_string {P : Program} {u : TypeId} {w : World} {s : ByteArray} (hu : P.underlying u = some .string) : Src P u (.string s) w (bytesOf s) := by
  have hl : (bytesOf s).length = s.size := by rw [bytesOf, List.length_map, Array.length_toList]; rfl
  refine ⟨.inr hu, fun w' => by rw [hl]; simp [Builtin.lenOf], fun w' _ => ?_⟩
  rw [hl]
  have := Go.Lib.run_firstCells_string (P := P) w' 1 s
  rw [this]
  congr 2
  simp [Go.Lib.strCells, bytesOf, List.map_map]

def Builder_Write (bs ns : List Int) : Option (List Int) := app' bs ns
theorem w_Builder_Write {g : Frag} {a0 : List Int} {b0_ : Nat} {LB0_ : Own} {a1 : List Int} {v1_ : Value} {r : List Int} (h0 : Bx_Writer b0_ a0 LB0_) (h1 : SlT g enc_uint8 1 a1 v1_) (hF : Builder_Write a0 a1 = some r) :
    LC Try.prog 56 #[.pointer (some ⟨b0_, 0, none⟩), v1_] g LB0_ (fun v L => ∃ (LB' : Own), v = .tuple #[.int .i64 a1.length, .nilIface] ∧ L = (LB' ++ []) ∧ Bx_Writer b0_ r LB') := by
  obtain ⟨hb, rfl⟩ := app'_some hF
  refine lc_body (k := 19) (av := [.pointer (some ⟨b0_, 0, none⟩), v1_]) Try.func56 rfl rfl (h := fun W hS => ?_)
  refine c_seq <| c_region <| oy hS y_assign <| oy hS y_assign <| n_thenN ?_
  refine c_seq <| c_region <| oy hS y_move ?_
  have hS2 : St W g LB0_ (LB0_ ++ []) W := by rw [List.append_nil]; exact hS
  refine o_call hS2 Try.func67 rfl rfl (hc := w_copyCheck h0) (h := ?_)
  clear hS hS2; rintro v L' w hS ⟨u, LX, rfl, rfl, hV⟩
  refine n_thenN ?_
  have hS3 : St W g LB0_ (LX ++ [(b0_, blk [.pointer (some ⟨b0_, 0, none⟩), u] 87)]) w := hS.perm (by simpa using List.perm_append_comm (l₁ := [(b0_, blk [.pointer (some ⟨b0_, 0, none⟩), u] 87)]) (l₂ := LX))
  clear hS
  refine c_seq <| c_region <| oy hS3 y_move <| oy hS3 y_move <| oy hS3 y_nilCheck <| oy hS3 (y_field fab_1) ?_
  refine oy hS3 (y_load (fun w hS => hS.own (List.mem_append_right _ List.mem_cons_self)) Try.underlying83 rfl rfl) ?_
  refine oy hS3 y_move ?_
  refine o_appF elb_uint8 zb_uint8 hV hS3 (Src.of_slice (fun _ => rfl) Try.underlying83 h1 (fun hb => hS3.block hb)) hb ?_
  clear hS3; intro v' LX' w hV' hS
  refine oy hS y_nilCheck <| oy hS (y_field fab_1) ?_
  have hS4 : St W g LB0_ ((b0_, blk [.pointer (some ⟨b0_, 0, none⟩), u] 87) :: LX') w := hS.perm (by exact List.perm_append_comm (l₁ := LX') (l₂ := [(b0_, blk [.pointer (some ⟨b0_, 0, none⟩), u] 87)]))
  clear hS
  refine o_storeA1 (o := 0 + 1) (cl' := [.pointer (some ⟨b0_, 0, none⟩), v']) hS4 rfl (by exact Nat.le_of_ble_eq_true rfl) (Upd.here _) sz_bytes hV'.one hV'.cell ?_
  clear hS4; intro w hS
  refine n_thenN ?_
  refine c_seq <| c_region <| oy hS y_move ?_
  refine oy hS (y_len h1 Try.underlying83) ?_
  refine oy hS y_assign <| oy hS y_assign <| n_thenN ?_
  exact wp_ret (r_ret2 hS rfl (hR := ⟨_, rfl, (List.append_nil _).symm, _, _, _, .inr rfl, rfl, hV'⟩))
def Builder_WriteString (bs : List Int) (s : ByteArray) : Option (List Int) := app' bs (bytesOf s)
theorem w_Builder_WriteString {g : Frag} {a0 : List Int} {b0_ : Nat} {LB0_ : Own} {a1 : ByteArray} {r : List Int} (h0 : Bx_Writer b0_ a0 LB0_) (hF : Builder_WriteString a0 a1 = some r) :
    LC Try.prog 54 #[.pointer (some ⟨b0_, 0, none⟩), .string a1] g LB0_ (fun v L => ∃ (LB' : Own), v = .tuple #[.int .i64 a1.size, .nilIface] ∧ L = (LB' ++ []) ∧ Bx_Writer b0_ r LB') := by
  obtain ⟨hb, rfl⟩ := app'_some hF
  refine lc_body (k := 19) (av := [.pointer (some ⟨b0_, 0, none⟩), .string a1]) Try.func54 rfl rfl (h := fun W hS => ?_)
  refine c_seq <| c_region <| oy hS y_assign <| oy hS y_assign <| n_thenN ?_
  refine c_seq <| c_region <| oy hS y_move ?_
  have hS2 : St W g LB0_ (LB0_ ++ []) W := by rw [List.append_nil]; exact hS
  refine o_call hS2 Try.func67 rfl rfl (hc := w_copyCheck h0) (h := ?_)
  clear hS hS2; rintro v L' w hS ⟨u, LX, rfl, rfl, hV⟩
  refine n_thenN ?_
  have hS3 : St W g LB0_ (LX ++ [(b0_, blk [.pointer (some ⟨b0_, 0, none⟩), u] 87)]) w := hS.perm (by simpa using List.perm_append_comm (l₁ := [(b0_, blk [.pointer (some ⟨b0_, 0, none⟩), u] 87)]) (l₂ := LX))
  clear hS
  refine c_seq <| c_region <| oy hS3 y_move <| oy hS3 y_move <| oy hS3 y_nilCheck <| oy hS3 (y_field fab_1) ?_
  refine oy hS3 (y_load (fun w hS => hS.own (List.mem_append_right _ List.mem_cons_self)) Try.underlying83 rfl rfl) ?_
  refine oy hS3 y_move ?_
  refine o_appF elb_uint8 zb_uint8 hV hS3 (Src.of_string Try.underlying9) hb ?_
  clear hS3; intro v' LX' w hV' hS
  refine oy hS y_nilCheck <| oy hS (y_field fab_1) ?_
  have hS4 : St W g LB0_ ((b0_, blk [.pointer (some ⟨b0_, 0, none⟩), u] 87) :: LX') w := hS.perm (by exact List.perm_append_comm (l₁ := LX') (l₂ := [(b0_, blk [.pointer (some ⟨b0_, 0, none⟩), u] 87)]))
  clear hS
  refine o_storeA1 (o := 0 + 1) (cl' := [.pointer (some ⟨b0_, 0, none⟩), v']) hS4 rfl (by exact Nat.le_of_ble_eq_true rfl) (Upd.here _) sz_bytes hV'.one hV'.cell ?_
  clear hS4; intro w hS
  refine n_thenN ?_
  refine c_seq <| c_region <| oy hS y_move ?_
  refine oy hS (y_lens Try.underlying9) ?_
  refine oy hS y_assign <| oy hS y_assign <| n_thenN ?_
  exact wp_ret (r_ret2 hS rfl (hR := ⟨_, rfl, (List.append_nil _).symm, _, _, _, .inr rfl, rfl, hV'⟩))

/-- All bytes as a string; there is at least one. -/
def Builder_String (bs : List Int) : Option (List Int × ByteArray) := if bs ≠ [] ∧ (bs.all fun z => decide (0 ≤ z ∧ z < 256)) = true then some (bs, strOfNums bs) else none
set_option maxHeartbeats 4000000 in
set_option maxRecDepth 100000 in
theorem str_run (b gb cap : Nat) (p : Value) (cl : List Value) (k : Nat) (l : List UInt8) (w : World) (h0 : l ≠ []) (hb : w.heap[b]? = some (blk [p, .slice (some ⟨gb, 0, none⟩) l.length cap] 87)) (hg : w.heap[gb]? = some (.cells cl.toArray 5 (0, k)))
    (hc : l.length ≤ cap) (hm : cap ≤ maxLen) (hcl : cl.length = cap) (ht : cl.take l.length = Go.Lib.byteCells l) :
    Calls Try.prog 57 #[.pointer (some ⟨b, 0, none⟩)] w fun e w' => e = .returned (.string ⟨l.toArray⟩) ∧ w' = w.drew.freeze ⟨gb, 0, none⟩ l.length := by
  have hl0 : l.length ≠ 0 := by simpa using h0
  have c1 : w.drew.cell? ⟨b, 1, none⟩ = some (.slice (some ⟨gb, 0, none⟩) l.length cap) := by
    have : w.drew.heap[b]? = some (blk [p, .slice (some ⟨gb, 0, none⟩) l.length cap] 87) := hb
    simp [World.cell?, this]
  have hSD : (Builtin.unsafeSliceData_ #[83] 117 #[.slice (some ⟨gb, 0, none⟩) l.length cap]).run Try.prog w.drew = .ok (.pointer (some ⟨gb, 0, none⟩)) w.drew :=
    Lib.run_unsafeSliceData_row _ _ _ _ _ _ (by omega)
  have hUS : (Builtin.unsafeString_ #[117, 3] 9 #[.pointer (some ⟨gb, 0, none⟩), .int .i64 l.length]).run Try.prog w.drew = .ok (.string ⟨l.toArray⟩) (w.drew.freeze ⟨gb, 0, none⟩ l.length) := by
    have hg' : w.drew.heap[gb]? = some (.cells cl.toArray 5 (0, k)) := hg
    refine Lib.run_unsafeString_row w.drew 117 3 9 5 Try.underlying117 (by kernel_rfl) gb cl.length (by simp [World.shape?, hg']) l h0 (by omega) (by unfold maxLen at hm; omega) ?_
    intro j x hx
    rw [Addr.add_mid, cell_of_row w.drew gb (0 + j) _ _ _ hg']
    have h5 : (Go.Lib.byteCells l)[j]? = some (.int .u8 x.toNat) := by simp [Go.Lib.byteCells, hx]
    rw [← ht, List.getElem?_take] at h5
    split at h5
    · simpa using h5
    · cases h5
  go_enter Try.func57, Try.ntmps57
  have mixed : Try.prog.follows .mixedOrders = true := by kernel_rfl
  go_wp2
  go_region_o
  all_goals (go_wp2; go_ret; exact ⟨rfl, rfl⟩)
theorem b2s_list {bs : List Int} (h : ∀ z ∈ bs, 0 ≤ z ∧ z < 256) : Go.Lib.byteCells (bs.map fun n => UInt8.ofNat n.toNat) = bs.map (Value.int .u8) := by
  unfold Go.Lib.byteCells
  rw [List.map_map]
  refine List.map_congr_left fun z hz => ?_
  obtain ⟨h0, h1⟩ := h z hz
  simp only [Function.comp]
  congr 1
  have : (UInt8.ofNat z.toNat).toNat = z.toNat := by simp; omega
  omega
theorem w_Builder_String {g : Frag} {a0 : List Int} {b0_ : Nat} {LB0_ : Own} {r : List Int × ByteArray} (h0 : Bx_Writer b0_ a0 LB0_) (hF : Builder_String a0 = some r) :
    LC Try.prog 57 #[.pointer (some ⟨b0_, 0, none⟩)] g LB0_ (fun v L => ∃ (LB' : Own), v = .string r.2 ∧ L = (LB' ++ []) ∧ Bx_Writer b0_ r.1 LB') := by
  unfold Builder_String at hF
  split at hF
  · rename_i hc
    obtain rfl := Option.some.inj hF
    obtain ⟨hne, hall⟩ := hc
    have hz : ∀ z ∈ a0, 0 ≤ z ∧ z < 256 := fun z hz => by simpa using List.all_eq_true.1 hall z hz
    obtain ⟨p, v, LX, hp, rfl, hV⟩ := h0
    rcases hV with ⟨_, rfl, _⟩ | ⟨gb, c, cl, k, rfl, rfl, h3, h4, h5, h6, h7⟩
    · exact absurd rfl hne
    · intro w hS
      have hb := hS.own List.mem_cons_self
      have hg := hS.own (List.mem_cons_of_mem _ List.mem_cons_self)
      have hlen : (a0.map fun n => UInt8.ofNat n.toNat).length = a0.length := by rw [List.length_map]
      rw [← hlen] at hb
      refine (str_run b0_ gb c p cl k (a0.map fun n => UInt8.ofNat n.toNat) w (by simpa using hne) hb hg (by rw [hlen]; exact h3) h4 h5 (by rw [hlen, b2s_list hz]; exact h7)).mono ?_
      rintro e w' ⟨rfl, rfl⟩
      have hpos : a0.length ≠ 0 := by simpa using hne
      refine ⟨_, _, rfl, ?_, [(b0_, blk [p, .slice (some ⟨gb, 0, none⟩) a0.length c] 87), (gb, .cells cl.toArray 5 (0, a0.length))], rfl, (List.append_nil _).symm, p, _, _, hp, rfl, .inr ⟨gb, c, cl, a0.length, rfl, rfl, h3, h4, h5, Nat.le_refl _, h7⟩⟩
      rw [hlen]
      have hu : Upd gb (.cells cl.toArray 5 (0, k)) (.cells cl.toArray 5 (0, a0.length)) [(b0_, blk [p, .slice (some ⟨gb, 0, none⟩) a0.length c] 87), (gb, .cells cl.toArray 5 (0, k))] [(b0_, blk [p, .slice (some ⟨gb, 0, none⟩) a0.length c] 87), (gb, .cells cl.toArray 5 (0, a0.length))] := .there _ (.here _)
      have hk : (if (0 : Nat) == k then ((0 : Nat), 0 + a0.length) else (Nat.min 0 0, Nat.max k (0 + a0.length))) = (0, a0.length) := by
        by_cases hk0 : k = 0
        · subst hk0; simp
        · have : ¬ 0 = k := fun h => hk0 h.symm
          simp [this, Nat.max_eq_right h6]
      have := hS.drew.write (w' := w.drew.freeze ⟨gb, 0, none⟩ a0.length) hu.mem (by unfold World.freeze; rw [if_neg hpos]; rfl) (by unfold World.freeze; rw [if_neg hpos]; rfl) (by unfold World.freeze; rw [if_neg hpos]; rfl) (by unfold World.freeze; rw [if_neg hpos]; show w.heap.size ≤ (Array.modify _ _ _).size; rw [Array.size_modify]; exact Nat.le_refl _) (fun j hj hne => by
          unfold World.freeze; rw [if_neg hpos]
          simp only [Array.getElem?_modify]
          rw [if_neg (fun h => hne h.symm)]; rfl) (by
          unfold World.freeze; rw [if_neg hpos]
          simp only [Array.getElem?_modify, if_true]
          have hg2 : w.drew.heap[gb]? = some (.cells cl.toArray 5 (0, k)) := hg
          rw [hg2]
          simp only [Option.map_some]
          exact congrArg (fun q => some (Obj.cells cl.toArray 5 q)) hk)
      rw [hu.put hS.nd] at this
      exact this
  · cases hF
theorem Bx_Writer.nl {b : Nat} {bs : List Int} {L : Own} (h : Bx_Writer b bs L) : Bx_Writer b bs (L ++ []) := by rw [List.append_nil]; exact h
theorem Bx_Writer.new (b : Nat) : Bx_Writer b [] [(b, blk [.pointer none, .slice none 0 0] 87)] := ⟨_, _, [], .inl rfl, rfl, .inl ⟨rfl, rfl, rfl⟩⟩
theorem bt_Writer : BT Try.prog 87 [(0, 2)] [.pointer none, .slice none 0 0] := BT.of (z := .agg #[.pointer none, .slice none 0 0]) (by kernel_rfl) rfl Try.underlying87 (by kernel_rfl)
theorem fa_object_Writer_0 : ∀ (b o : Nat) (w : World), (Instr.fieldAt 87 (.pointer (some ⟨b, o, none⟩)) 0).run Try.prog w = .ok (.pointer (some ⟨b, o + 0, none⟩)) w := fieldAt_of Try.underlying87 rfl rfl (n := 1) (by kernel_rfl)
end Go.Proofs.Ytjmmkbehdbpklaa
