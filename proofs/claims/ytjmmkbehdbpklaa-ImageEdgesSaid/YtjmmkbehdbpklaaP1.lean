/- Functions, lifted. Printed by lift.py. -/
import Derived.Test.YtjmmkbehdbpklaaProg
import Derived.Test.YtjmmkbehdbpklaaP0
import Derived.KernelRfl
namespace Go.Proofs.Ytjmmkbehdbpklaa
open Go Go.RowKit Fr
set_option linter.unusedVariables false
set_option linter.unusedSimpArgs false
set_option maxRecDepth 20000
open Try
set_option maxHeartbeats 2000000
noncomputable def object_Writer_Text (a0 : (List Int)) (a1 : ByteArray) : Option (List Int) :=
  (cat' (strOfNums ([IntKind.u8.wrap (a1.size : Int)] : List Int)) a1).bind fun x4 => (Builder_WriteString a0 x4).bind fun r5 => some (r5)
theorem w_object_Writer_Text_ {g : Frag} {a0 : (List Int)} {b0_ : Nat} {LB0_ : Own} {a1 : ByteArray} {r : (List Int)} (h0 : Bx_Writer b0_ a0 LB0_) (hF : object_Writer_Text a0 a1 = some r) : LC Try.prog 36 #[.pointer (some ⟨b0_, 0, none⟩), .string a1] g LB0_ (fun v L => ∃ (LB' : Own), v = .tuple #[] ∧ L = (LB' ++ []) ∧ Bx_Writer b0_ r LB') := by
 unfold object_Writer_Text at hF
 refine lc_body (k := 15) (av := [.pointer (some ⟨b0_, 0, none⟩), .string a1]) func36 rfl rfl (h := fun W hS => ?_)
 have hS : St W g LB0_ (LB0_ ++ []) W := by rw [List.append_nil]; exact hS
 refine c_heldL 10 11 (by kernel_rfl) rfl hS ?_
 clear hS; intro w hS
 refine hy0 0 rfl wn (by kernel_rfl) (nq (P := Try.prog) (fn := Try.f36)) (fun _ => hS.cb) y_move ?_
 refine hy0 1 rfl wn (by kernel_rfl) (nq (P := Try.prog) (fn := Try.f36)) (fun _ => hS.cb) y_nilCheck ?_
 refine hy0 2 rfl wn (by kernel_rfl) (nq (P := Try.prog) (fn := Try.f36)) (fun _ => hS.cb) (y_field fa_object_Writer_0) ?_
 refine hy0 3 rfl wn (by kernel_rfl) (nq (P := Try.prog) (fn := Try.f36)) (fun _ => hS.cb) y_move ?_
 refine hy0 4 rfl wn (by kernel_rfl) (nq (P := Try.prog) (fn := Try.f36)) (fun _ => hS.cb) (y_lens underlying9) ?_
 refine hy0 5 rfl wn (by kernel_rfl) (nq (P := Try.prog) (fn := Try.f36)) (fun _ => hS.cb) (y_conv underlying3 underlying5) ?_
 refine hy0 8 rfl wn (by kernel_rfl) (nq (P := Try.prog) (fn := Try.f36)) (fun _ => hS.cb) y_move ?_
 refine hb1 6 (by kernel_rfl) (hb_op rfl wn (nl (P := Try.prog) (fn := Try.f36)) ?_)
 refine o_buildT val_uint8 ([IntKind.u8.wrap (a1.size : Int)] : List Int) hS el_uint8 (fun _ => rfl) enc_len_uint8 (by decide) rfl (by decide) (hp := rfl) (h := ?_)
 clear hS; intro b1 w hS h2
 have hS : St W g LB0_ ([(b1, blk (([IntKind.u8.wrap (a1.size : Int)] : List Int).flatMap enc_uint8) 5)] ++ (LB0_ ++ [])) w := hS
 refine hb_next (fun _ => (hS.re (.t (.d .h) .n)).cb) ?_
 refine hb_up (CB g ([(b1, blk (([IntKind.u8.wrap (a1.size : Int)] : List Int).flatMap enc_uint8) 5)] ++ (LB0_ ++ []))) (fun w h => h.sub (.t (.d .h) .n)) ?_
 refine hy 7 rfl wn (by kernel_rfl) (nq (P := Try.prog) (fn := Try.f36)) hS.cb (y_b2s (OwT.plus h2 hS (fun p hp => mA (hp))) (fun _ => rfl) (fun w hS _ _ hb => hS.pb hb) underlying83 underlying5 underlying9) ?_
 obtain ⟨x4, hx4, hF⟩ := ob hF
 refine hy0 9 rfl wn (by kernel_rfl) (nq (P := Try.prog) (fn := Try.f36)) (fun _ => hS.cb) (y_cat hx4) ?_
 refine hb1 10 (by kernel_rfl) (hb_op rfl wn (nl (P := Try.prog) (fn := Try.f36)) ?_)
 have hS := hS.re (.t (.d .h) (.t .h .n))
 have hS2 := hS.spl (.app _ (.nil _))
 obtain ⟨r5, hr5, hF⟩ := ob hF
 refine o_call hS2 func54 rfl rfl (hc := (w_Builder_WriteString (a0 := a0) (a1 := x4) (h0 := (Bx_Writer.nl h0)) (hF := hr5))) (h := ?_)
 clear hS; intro v6 LY7 w hS hr8
 clear hS2
 obtain ⟨LB9, rfl, rfl, B0⟩ := hr8
 simp only [aa, ac, al] at hS
 have hS : St W g LB0_ (LB9 ++ ([(b1, blk (([IntKind.u8.wrap (a1.size : Int)] : List Int).flatMap enc_uint8) 5)] ++ [])) w := hS
 refine hb_next (fun h => absurd h (by decide)) ?_
 refine hb_done (by kernel_rfl) ?_
 obtain rfl := osi hF
 refine (r_end (vs := []) (hS.re (.t .h .n)) rsN rfl ⟨_, rfl, (by first | rfl | simp only [aa, ac, al, an]), B0⟩)
theorem w_object_Writer_Text {g : Frag} {a0 : (List Int)} {b0_ : Nat} {LB0_ : Own} {a1 : ByteArray} {r : (List Int)} (h0 : Bx_Writer b0_ a0 LB0_) (hF : object_Writer_Text a0 a1 = some r) : LC Try.prog 36 #[.pointer (some ⟨b0_, 0, none⟩), .string a1] g LB0_ (fun v L => ∃ (LB' : Own), v = .tuple #[] ∧ L = (LB' ++ []) ∧ Bx_Writer b0_ r LB') := w_object_Writer_Text_ h0 hF

noncomputable def object_Writer_Number (a0 : (List Int)) (a1 : Int) : Option (List Int) :=
  (shr' .u32 a1 24).bind fun x1 => (shr' .u32 a1 16).bind fun x2 => (shr' .u32 a1 8).bind fun x3 => (Builder_Write a0 ([IntKind.u8.wrap x1, IntKind.u8.wrap x2, IntKind.u8.wrap x3, IntKind.u8.wrap a1] : List Int)).bind fun r7 => some (r7)
theorem w_object_Writer_Number_ {g : Frag} {a0 : (List Int)} {b0_ : Nat} {LB0_ : Own} {a1 : Int} {r : (List Int)} (h0 : Bx_Writer b0_ a0 LB0_) (hF : object_Writer_Number a0 a1 = some r) : LC Try.prog 39 #[.pointer (some ⟨b0_, 0, none⟩), .int .u32 a1] g LB0_ (fun v L => ∃ (LB' : Own), v = .tuple #[] ∧ L = (LB' ++ []) ∧ Bx_Writer b0_ r LB') := by
 unfold object_Writer_Number at hF
 refine lc_body (k := 20) (av := [.pointer (some ⟨b0_, 0, none⟩), .int .u32 a1]) func39 rfl rfl (h := fun W hS => ?_)
 have hS : St W g LB0_ (LB0_ ++ []) W := by rw [List.append_nil]; exact hS
 refine c_region <| oy hS y_move <| oy hS y_nilCheck <| oy hS (y_field fa_object_Writer_0) <| oy hS y_move ?_
 obtain ⟨x1, hx1, hF⟩ := ob hF
 refine oy hS (y_shr hx1) <| oy hS (y_conv underlying38 underlying5) <| oy hS y_move ?_
 obtain ⟨x2, hx2, hF⟩ := ob hF
 refine oy hS (y_shr hx2) <| oy hS (y_conv underlying38 underlying5) <| oy hS y_move ?_
 obtain ⟨x3, hx3, hF⟩ := ob hF
 refine oy hS (y_shr hx3) <| oy hS (y_conv underlying38 underlying5) <| oy hS y_move <| oy hS (y_conv underlying38 underlying5) ?_
 refine o_buildT val_uint8 ([IntKind.u8.wrap x1, IntKind.u8.wrap x2, IntKind.u8.wrap x3, IntKind.u8.wrap a1] : List Int) hS el_uint8 (fun _ => rfl) enc_len_uint8 (by decide) rfl (by decide) (hp := rfl) (h := ?_)
 clear hS; intro b4 w hS h5
 have hS : St W g LB0_ ([(b4, blk (([IntKind.u8.wrap x1, IntKind.u8.wrap x2, IntKind.u8.wrap x3, IntKind.u8.wrap a1] : List Int).flatMap enc_uint8) 5)] ++ (LB0_ ++ [])) w := hS
 have hS := hS.re (.t (.d .h) (.t .h .n))
 have hS2 := hS.spl (.app _ (.nil _))
 obtain ⟨r7, hr7, hF⟩ := ob hF
 refine o_call hS2 func56 rfl rfl (hc := (w_Builder_Write (a0 := a0) (a1 := ([IntKind.u8.wrap x1, IntKind.u8.wrap x2, IntKind.u8.wrap x3, IntKind.u8.wrap a1] : List Int)) (h0 := (Bx_Writer.nl h0)) (h1 := (SlT.of_own h5 hS2 (fun p hp => mA (hp)))) (hF := hr7))) (h := ?_)
 clear hS; intro v8 LY9 w hS B0
 clear hS2
 obtain ⟨D0, rfl, rfl, E0⟩ := B0
 simp only [aa, ac, al] at hS
 have hS : St W g LB0_ (D0 ++ ([(b4, blk (([IntKind.u8.wrap x1, IntKind.u8.wrap x2, IntKind.u8.wrap x3, IntKind.u8.wrap a1] : List Int).flatMap enc_uint8) 5)] ++ [])) w := hS
 refine n_anyN ?_
 obtain rfl := osi hF
 refine (r_end (vs := []) (hS.re (.t .h .n)) rsN rfl ⟨_, rfl, (by first | rfl | simp only [aa, ac, al, an]), E0⟩)
theorem w_object_Writer_Number {g : Frag} {a0 : (List Int)} {b0_ : Nat} {LB0_ : Own} {a1 : Int} {r : (List Int)} (h0 : Bx_Writer b0_ a0 LB0_) (hF : object_Writer_Number a0 a1 = some r) : LC Try.prog 39 #[.pointer (some ⟨b0_, 0, none⟩), .int .u32 a1] g LB0_ (fun v L => ∃ (LB' : Own), v = .tuple #[] ∧ L = (LB' ++ []) ∧ Bx_Writer b0_ r LB') := w_object_Writer_Number_ h0 hF

noncomputable def word_Low (a0 : Int) (a1 : Int) : Option Int :=
  (shl' .u32 1 a1).bind fun x1 => some (bits .and .u32 (IntKind.u32.wrap a0) (IntKind.u32.wrap (x1 - 1)))
theorem w_word_Low_ {g : Frag} {a0 : Int} {a1 : Int} {r : Int}  (hF : word_Low a0 a1 = some r) : LCs Try.prog 85 #[.int .i64 a0, .int .i64 a1] g (.int .u32 r) := by
 unfold word_Low at hF
 refine lc_body (k := 11) (av := [.int .i64 a0, .int .i64 a1]) func85 rfl rfl (h := fun W hS => ?_)
 refine c_seq <| c_region <| oy hS y_assign <| n_thenN <| c_seq <| c_region <| oy hS y_move <| oy hS (y_conv underlying3 underlying38) ?_
 refine oy hS y_move ?_
 obtain ⟨x1, hx1, hF⟩ := ob hF
 refine oy hS (y_shl hx1) ?_
 iterate 2 (refine oy hS y_bin ?_)
 refine oy hS y_assign <| n_thenN ?_
 obtain rfl := osi hF
 exact wp_ret (wr1 hS)
theorem w_word_Low {g : Frag} {a0 : Int} {a1 : Int} {r : Int}  (hF : word_Low a0 a1 = some r) : LCs Try.prog 85 #[.int .i64 a0, .int .i64 a1] g (.int .u32 r) := w_word_Low_  hF

noncomputable def bits_Pack_k1 (a0 : T_Ins) : (Int × Int) → Option Int := fun (x3, x4) => (shl' .u32 (IntKind.u32.wrap a0.Op) 26).bind fun x9 => (shl' .u32 (IntKind.u32.wrap x3) 22).bind fun x10 => (shl' .u32 (IntKind.u32.wrap a0.A) 18).bind fun x11 => (shl' .u32 (IntKind.u32.wrap x4) 14).bind fun x12 => bif decide (0 < (isa_Bits (isa_Shape a0.Op))) then (word_Low a0.Imm (isa_Bits (isa_Shape a0.Op))).bind fun r14 => some (bits .or .u32 (bits .or .u32 (bits .or .u32 (bits .or .u32 x9 x10) x11) x12) r14) else some (bits .or .u32 (bits .or .u32 (bits .or .u32 x9 x10) x11) x12)
noncomputable def bits_Pack (a0 : T_Ins) : Option Int :=
  cut (σ := (Int × Int)) (bif decide ((isa_Shape a0.Op) = 5) then some (.next (a0.B, 0)) else some (.next (a0.D, a0.B))) (bits_Pack_k1 a0)
theorem w_bits_Pack_ {g : Frag} {a0 : T_Ins} {r : Int}  (hF : bits_Pack a0 = some r) : LCs Try.prog 68 #[.agg (enc_Ins a0).toArray] g (.int .u32 r) := by
 unfold bits_Pack at hF
 refine lc_body (k := 47) (av := [.agg (enc_Ins a0).toArray]) func68 rfl rfl (h := fun W hS => ?_)
 refine c_seq <| c_region ?_
 refine o_boxP (cl := (enc_Ins a0)) rfl hS ?_
 clear hS; intro b1 w hS
 refine oy hS y_assign <| n_thenN <| c_seq <| c_region <| oy hS (y_field fa_api_Ins_0) <| oy hS (y_load oH underlying3 rfl rfl) ?_
 refine o_callS hS func80 rfl rfl (hc := (w_isa_Shape (a0 := a0.Op))) (h := ?_)
 clear hS; intro w hS
 refine oy hS y_assign <| n_thenN <| c_seq ?_
 refine c_quiet (by kernel_rfl) (by kernel_rfl) hS ?_
 refine qy (y_field fa_api_Ins_1) <| qy (y_load (fun w hS => hS.own (mH)) underlying3 rfl rfl) <| qy (y_field fa_api_Ins_3) <| qy (y_load (fun w hS => hS.own (mH)) underlying3 rfl rfl) ?_
 iterate 2 (refine qy y_assign ?_)
 refine q_nilN (h := ?_)
 clear hS; intro w hS
 obtain ⟨z5, hF, hK6⟩ := cut_step hF
 refine c_cutP (fun a w' => ∃ (x3 : Int) (x4 : Int), bits_Pack_k1 a0 (x3, x4) = some r ∧ (∃ s : Nat → Value, a = Ac (((((Fm.dead 47 s).upd 1 (.pointer (some ⟨b1, 0, none⟩))).upd 3 (.int .i64 (isa_Shape a0.Op))).upd 4 (.int .i64 x3)).upd 5 (.int .i64 x4))) ∧ St W g [] ((b1, blk (enc_Ins a0) 78) :: []) w') ?_ ?_
 · skip
   refine c_seq <| c_region <| oy hS y_move <| oy hS y_bin <| n_thenN ?_
   refine c_if (ht := fun c7 => ?_) (hf := fun c7 => ?_)
   · replace hF := bt c7 hF
     refine c_region <| oy hS (y_field fa_api_Ins_3) <| oy hS (y_load oH underlying3 rfl rfl) ?_
     iterate 2 (refine oy hS y_assign ?_)
     refine n_thenN ?_
     obtain rfl := osi hF
     change ∃ _, _
     exact ⟨a0.B, 0, hK6, mk_exF, (hS.re (.b .hb .n))⟩
   replace hF := bf c7 hF
   refine wp_skip ?_
   obtain rfl := osi hF
   change ∃ _, _
   exact ⟨a0.D, a0.B, hK6, mk_exF, (hS.re (.b .hb .n))⟩
 rintro a w ⟨x3, x4, hF, ⟨s8, rfl⟩, hS⟩
 dsimp only [bits_Pack_k1] at hF
 refine c_seq <| c_region <| oy hS (y_field fa_api_Ins_0) <| oy hS (y_load oH underlying3 rfl rfl) <| oy hS (y_conv underlying3 underlying38) ?_
 obtain ⟨x9, hx9, hF⟩ := ob hF
 refine oy hS (y_shl hx9) <| oy hS y_move <| oy hS (y_conv underlying3 underlying38) ?_
 obtain ⟨x10, B0, hF⟩ := ob hF
 refine oy hS (y_shl B0) <| oy hS y_bin <| oy hS (y_field fa_api_Ins_2) <| oy hS (y_load oH underlying3 rfl rfl) <| oy hS (y_conv underlying3 underlying38) ?_
 obtain ⟨x11, D0, hF⟩ := ob hF
 refine oy hS (y_shl D0) <| oy hS y_bin <| oy hS y_move <| oy hS (y_conv underlying3 underlying38) ?_
 obtain ⟨x12, E0, hF⟩ := ob hF
 refine oy hS (y_shl E0) <| oy hS y_bin <| oy hS y_assign <| n_thenN ?_
 iterate 2 (refine c_seq ?_)
 refine c_region <| oy hS y_move ?_
 refine o_callS hS func83 rfl rfl (hc := (w_isa_Bits (a0 := (isa_Shape a0.Op)))) (h := ?_)
 clear hS; intro w hS
 refine oy hS y_assign <| n_thenN <| c_seq <| c_region <| oy hS y_move <| oy hS y_bin <| n_thenN ?_
 refine c_if (ht := fun c13 => ?_) (hf := fun c13 => ?_)
 · replace hF := bt c13 hF
   refine c_region <| oy hS y_move <| oy hS (y_field fa_api_Ins_4) <| oy hS (y_load oH underlying3 rfl rfl) <| oy hS y_move ?_
   obtain ⟨r14, G0, hF⟩ := ob hF
   refine o_callS hS func85 rfl rfl (hc := (w_word_Low (a0 := a0.Imm) (a1 := (isa_Bits (isa_Shape a0.Op))) (hF := G0))) (h := ?_)
   clear hS; intro w hS
   refine oy hS y_bin <| oy hS y_assign <| n_thenN <| c_seq <| c_region <| oy hS y_move <| oy hS y_assign <| n_thenN ?_
   obtain rfl := osi hF
   exact wp_ret (wr1 hS)
 replace hF := bf c13 hF
 refine wp_skip <| c_seq <| c_region <| oy hS y_move <| oy hS y_assign <| n_thenN ?_
 obtain rfl := osi hF
 exact wp_ret (wr1 hS)
theorem w_bits_Pack {g : Frag} {a0 : T_Ins} {r : Int}  (hF : bits_Pack a0 = some r) : LCs Try.prog 68 #[.agg (enc_Ins a0).toArray] g (.int .u32 r) := w_bits_Pack_  hF

noncomputable def emit_Words_b2 (B0 : (A4 T_Ins)) (x68 : Int) : ((List Int) × Int) → Option (Step ((List Int) × Int) (Step ((List Int) × Int) (List Int))) := fun (E0, D0) => bif decide (D0 < 4) then (at' [B0.x0, B0.x1, B0.x2, B0.x3] D0).bind fun I0 => (bits_Pack I0).bind fun J0 => (app' E0 ([J0] : List Int)).bind fun G0 => some (.next (G0, IntKind.i64.wrap (D0 + 1))) else some (.done (.next (E0, IntKind.i64.wrap (x68 + 1))))
noncomputable def emit_Words_b1 (a0 : (List (A4 T_Ins))) : ((List Int) × Int) → Option (Step ((List Int) × Int) (List Int)) := fun (x63, x68) => bif decide (x68 < (a0.length : Int)) then (at' a0 x68).bind fun B0 => loop (σ := ((List Int) × Int)) (emit_Words_b2 B0 x68) (x63, 0) else some (.done (x63))
noncomputable def emit_Words (a0 : (List (A4 T_Ins))) : Option (List Int) :=
  loop (σ := ((List Int) × Int)) (emit_Words_b1 a0) ([], 0)
theorem w_emit_Words_ {g : Frag} {a0 : (List (A4 T_Ins))} {v0_ : Value} {r : (List Int)} (h0 : SlT g enc_Bundle 24 a0 v0_) (hF : emit_Words a0 = some r) : LC Try.prog 55 #[v0_] g [] (fun v L => ∃ (u0 : Value) (M0 : Own), u0 = v ∧ L = (M0 ++ []) ∧ OwT 38 enc_uint32 1 r u0 M0) := by
 unfold emit_Words at hF
 refine lc_body (k := 25) (av := [v0_]) func55 rfl rfl (h := fun W hS => ?_)
 refine c_seq <| c_region <| oy hS y_assign <| n_thenN ?_
 iterate 2 (refine c_seq ?_)
 refine c_region <| oy hS y_move <| oy hS (y_len h0 underlying34) <| oy hS y_move <| n_thenN <| c_block ?_
 refine c_loopP hF (fun (q : ((List Int) × Int)) a w' => ∃ (v64 : Value) (D0 : Own), OwT 38 enc_uint32 1 q.1 v64 D0 ∧ (∃ s : Nat → Value, a = Ac (((((Fm.dead 25 s).upd 2 v64).upd 7 v0_).upd 8 (.int .i64 (a0.length : Int))).upd 9 (.int .i64 q.2))) ∧ St W g [] (D0 ++ []) w') ⟨(.slice none 0 0), [], (OwT.nil _ _ _), mk_exF, (hS.re (.take (X := []) (.here [] _) .n))⟩ ?_
 clear hS hF
 intro Z1 q a w hI hq
 obtain ⟨x63, x68⟩ := q
 obtain ⟨v64, D0, h65, ⟨B2, rfl⟩, hS⟩ := hq
 replace h65 : OwT 38 enc_uint32 1 x63 v64 D0 := h65
 obtain ⟨K1, hF, T0⟩ := iter_step hI
 clear hI
 dsimp only [emit_Words_b1] at hF
 refine c_seq <| c_region <| oy hS y_bin <| n_thenN <| c_seq ?_
 refine c_if (ht := fun I0 => ?_) (hf := fun I0 => ?_)
 · replace hF := bt I0 hF
   refine wp_skip <| c_seq <| c_block <| c_seq <| c_region ?_
   obtain ⟨J0, X0, hF⟩ := ob hF
   obtain ⟨D2, E2, G2, V1, I2, X1, Y0, Z0, B1, D1, E1⟩ := SlT.at X0 h0 enc_len_Bundle
   refine oy hS (y_index Y0 Z0 B1 underlying34 el_api_Bundle.size) ?_
   refine oy hS (y_loadN (vs := (enc_Bundle J0)) (fun w hS => hS.block D1) underlying80 rfl (by exact sz_api_Bundle) (fun j u hj => E1 j u hj)) ?_
   refine o_allocP (cl := (enc_Bundle ⟨(⟨0, 0, 0, 0, 0, ByteArray.empty⟩ : T_Ins), (⟨0, 0, 0, 0, 0, ByteArray.empty⟩ : T_Ins), (⟨0, 0, 0, 0, 0, ByteArray.empty⟩ : T_Ins), (⟨0, 0, 0, 0, 0, ByteArray.empty⟩ : T_Ins)⟩)) zr_api_Bundle rfl hS ?_
   clear hS; intro J2 w hS
   refine o_storeW (vs := (enc_Bundle J0)) hS (by exact rfl) (Upd.here _) (by exact sz_api_Bundle) (enc_one_Bundle _) ?_
   clear hS; intro w hS
   refine n_thenN <| c_seq <| c_region ?_
   refine oy hS (y_loadW oH underlying80 rfl (by exact sz_api_Bundle)) ?_
   refine oy hS y_move <| n_thenN <| c_block ?_
   refine c_loopP hF (fun (q : ((List Int) × Int)) a w' => ∃ (E0 : Value) (B0 : Own), OwT 38 enc_uint32 1 q.1 E0 B0 ∧ (∃ s : Nat → Value, a = Ac (((((((Fm.dead 25 s).upd 2 E0).upd 7 v0_).upd 8 (.int .i64 (a0.length : Int))).upd 9 (.int .i64 x68)).upd 13 (.agg (enc_Bundle J0).toArray)).upd 14 (.int .i64 q.2))) ∧ St W g [] (B0 ++ []) w') ⟨v64, D0, h65, mk_exF, (hS.re (.t (.e .h) .n))⟩ ?_
   clear hS hF
   intro K2 q a w hI hq
   obtain ⟨M1, M2⟩ := q
   obtain ⟨E0, B0, G0, ⟨N2, rfl⟩, hS⟩ := hq
   replace G0 : OwT 38 enc_uint32 1 M1 E0 B0 := G0
   obtain ⟨R2, hF, U0⟩ := iter_step hI
   clear hI
   dsimp only [emit_Words_b2] at hF
   refine c_seq <| c_region <| oy hS y_bin <| n_thenN <| c_seq ?_
   refine c_if (ht := fun K0 => ?_) (hf := fun K0 => ?_)
   · replace hF := bt K0 hF
     refine wp_skip <| c_seq <| c_block <| c_seq <| c_region ?_
     obtain ⟨N0, G1, hF⟩ := ob hF
     refine oy hS (y_ixA (enc := enc_Ins) G1 enc_len_Ins underlying80 rfl underlying78 rfl (by exact sz_api_Ins)) ?_
     refine o_allocP (cl := (enc_Ins ⟨0, 0, 0, 0, 0, ByteArray.empty⟩)) zr_api_Ins rfl hS ?_
     clear hS; intro N1 w hS
     refine o_storeW (vs := (enc_Ins N0)) hS (by exact rfl) (Upd.here _) (by exact sz_api_Ins) (enc_one_Ins _) ?_
     clear hS; intro w hS
     refine n_thenN <| c_region <| oy hS y_move ?_
     refine oy hS (y_loadW oH underlying78 rfl (by exact sz_api_Ins)) ?_
     obtain ⟨R0, I1, hF⟩ := ob hF
     refine o_callS hS func68 rfl rfl (hc := (w_bits_Pack (a0 := N0) (hF := I1))) (h := ?_)
     clear hS; intro w hS
     refine o_buildT val_uint32 ([R0] : List Int) hS el_uint32 (fun _ => rfl) enc_len_uint32 (by decide) rfl (by decide) (hp := rfl) (h := ?_)
     clear hS; intro R1 w hS T2
     have hS : St W g [] ([(R1, blk (([R0] : List Int).flatMap enc_uint32) 38)] ++ ((N1, blk (enc_Ins N0) 78) :: (B0 ++ []))) w := hS
     obtain ⟨Y1, V0, hF⟩ := ob hF
     have hS := hS.re (.t .h (.t (.e .h) (.b .hb .n)))
     refine o_appPn (ys := ([R0] : List Int)) (LX := B0) V0 hS el_uint32 G0 rfl enc_len_uint32 (enc_ones_uint32 _) (by decide) ?_
     clear hS; intro T1 J1 w U1 hS
     refine oy hS y_assign ?_
     refine n_anyN ?_
     refine c_region <| oy hS y_bin <| oy hS y_move <| n_thenN ?_
     obtain rfl := osi hF
     exact ⟨_, U0, T1, J1, U1, mk_exF, (hS.re (.t .h .n))⟩
   replace hF := bf K0 hF
   refine wp_exit ?_
   refine c_region <| oy hS y_bin <| oy hS y_move <| n_thenN ?_
   obtain rfl := osi hF
   obtain rfl : _ = K1 := U0
   exact ⟨_, T0, E0, B0, G0, mk_exF, (hS.re (.t .h .n))⟩
 replace hF := bf I0 hF
 refine wp_exit ?_
 refine c_seq <| c_region <| oy hS y_move <| oy hS y_assign <| n_thenN ?_
 obtain rfl := osi hF
 obtain rfl : _ = r := T0
 refine wp_ret (r_ret (vs := [v64]) (hS.re (.t .h .n)) (rsC res_tmp rsN) rfl ⟨_, _, rfl, (by first | rfl | simp only [aa, ac, al, an]), h65⟩)
theorem w_emit_Words {g : Frag} {a0 : (List (A4 T_Ins))} {v0_ : Value} {r : (List Int)} (h0 : SlT g enc_Bundle 24 a0 v0_) (hF : emit_Words a0 = some r) : LC Try.prog 55 #[v0_] g [] (fun v L => ∃ (u0 : Value) (M0 : Own), u0 = v ∧ L = (M0 ++ []) ∧ OwT 38 enc_uint32 1 r u0 M0) := w_emit_Words_ h0 hF

noncomputable def object_Writer_Code_b1 (r8 : (List Int)) : (Int × (List Int)) → Option (Step (Int × (List Int)) (List Int)) := fun (x33, x34) => bif decide (x33 < (r8.length : Int)) then (at' r8 x33).bind fun x60 => (object_Writer_Number x34 x60).bind fun r69 => some (.next (IntKind.i64.wrap (x33 + 1), r69)) else some (.done (x34))
noncomputable def object_Writer_Code (a0 : (List Int)) (a1 : (List (A4 T_Ins))) : Option (List Int) :=
  (object_Writer_Number a0 (IntKind.u32.wrap (a1.length : Int))).bind fun r1 => (emit_Words a1).bind fun r8 => loop (σ := (Int × (List Int))) (object_Writer_Code_b1 r8) (0, r1)
theorem w_object_Writer_Code_ {g : Frag} {a0 : (List Int)} {b0_ : Nat} {LB0_ : Own} {a1 : (List (A4 T_Ins))} {v1_ : Value} {r : (List Int)} (h0 : Bx_Writer b0_ a0 LB0_) (h1 : SlT g enc_Bundle 24 a1 v1_) (hF : object_Writer_Code a0 a1 = some r) : LC Try.prog 37 #[.pointer (some ⟨b0_, 0, none⟩), v1_] g LB0_ (fun v L => ∃ (LB' : Own), v = .tuple #[] ∧ L = (LB' ++ []) ∧ Bx_Writer b0_ r LB') := by
 unfold object_Writer_Code at hF
 refine lc_body (k := 22) (av := [.pointer (some ⟨b0_, 0, none⟩), v1_]) func37 rfl rfl (h := fun W hS => ?_)
 have hS : St W g LB0_ (LB0_ ++ []) W := by rw [List.append_nil]; exact hS
 refine c_seq <| c_region ?_
 iterate 2 (refine oy hS y_move ?_)
 refine oy hS (y_len h1 underlying34) <| oy hS (y_conv underlying3 underlying38) ?_
 have hS2 := hS.spl (.app _ (.nil _))
 obtain ⟨r1, hr1, hF⟩ := ob hF
 refine o_call hS2 func39 rfl rfl (hc := (w_object_Writer_Number (a0 := a0) (a1 := (IntKind.u32.wrap (a1.length : Int))) (h0 := (Bx_Writer.nl h0)) (hF := hr1))) (h := ?_)
 clear hS; intro v2 LY3 w hS hr4
 clear hS2
 obtain ⟨LB5, rfl, rfl, hb6⟩ := hr4
 simp only [aa, ac, al] at hS
 refine n_thenN <| c_seq <| c_region <| oy hS y_move ?_
 obtain ⟨r8, hr8, hF⟩ := ob hF
 refine o_call0 hS func55 rfl rfl (hc := (w_emit_Words (a0 := a1) (h0 := h1.plus) (hF := hr8))) (h := ?_)
 clear hS; intro v9 X0 w hS E0
 obtain ⟨v_0_12, LX_0_13, rfl, rfl, h_0_14⟩ := E0
 simp only [aa, ac, al] at hS
 refine oy hS (y_lenO h_0_14 underlying31) <| oy hS y_move <| n_thenN <| c_block ?_
 refine c_loopP hF (fun (q : (Int × (List Int))) a w' => ∃ (B0 : Own), Bx_Writer b0_ q.2 B0 ∧ (∃ s : Nat → Value, a = Ac (((((Fm.dead 22 s).upd 0 (.pointer (some ⟨b0_, 0, none⟩))).upd 12 v_0_12).upd 13 (.int .i64 (r8.length : Int))).upd 14 (.int .i64 q.1))) ∧ St W g LB0_ (B0 ++ (LX_0_13 ++ [])) w') ⟨LB5, hb6, mk_exF, (hS.re (.t (.d .h) (.t .h .n)))⟩ ?_
 clear hS hF
 intro n57 q a w hI hq
 obtain ⟨x33, x34⟩ := q
 obtain ⟨B0, h35, ⟨s58, rfl⟩, hS⟩ := hq
 replace h35 : Bx_Writer b0_ x34 B0 := h35
 obtain ⟨z55, hF, D0⟩ := iter_step hI
 clear hI
 dsimp only [object_Writer_Code_b1] at hF
 refine c_seq <| c_region <| oy hS y_bin <| n_thenN <| c_seq ?_
 refine c_if (ht := fun c59 => ?_) (hf := fun c59 => ?_)
 · replace hF := bt c59 hF
   refine wp_skip <| c_seq <| c_block <| c_seq <| c_region ?_
   obtain ⟨x60, G0, hF⟩ := ob hF
   obtain ⟨b61, c62, Y0, I0, J0, K0, M0, N0⟩ := OwT.at G0 h_0_14 enc_len_uint32
   refine oy hS (y_index I0 J0 K0 underlying31 el_uint32.size) <| oy hS (y_load (fun w hS => hS.own (mB (mA (mX M0)))) underlying38 rfl (N0 0 _ rfl)) <| oy hS y_assign <| n_thenN <| c_region ?_
   iterate 2 (refine oy hS y_move ?_)
   have hS2 := hS.spl (.app _ (.nil _))
   obtain ⟨r69, R0, hF⟩ := ob hF
   refine o_call hS2 func39 rfl rfl (hc := (w_object_Writer_Number (a0 := x34) (a1 := x60) (h0 := (Bx_Writer.nl h35)) (hF := R0))) (h := ?_)
   clear hS; intro v70 Z0 w hS T0
   clear hS2
   obtain ⟨U0, rfl, rfl, V0⟩ := T0
   simp only [aa, ac, al] at hS
   refine n_anyN ?_
   refine c_region <| oy hS y_bin <| oy hS y_move <| n_thenN ?_
   obtain rfl := osi hF
   exact ⟨_, D0, U0, V0, mk_exF, (hS.re (.t .h (.t .h .n)))⟩
 replace hF := bf c59 hF
 refine wp_exit ?_
 obtain rfl := osi hF
 obtain rfl : _ = r := D0
 refine (r_end (vs := []) (hS.re (.t .h .n)) rsN rfl ⟨_, rfl, (by first | rfl | simp only [aa, ac, al, an]), h35⟩)
theorem w_object_Writer_Code {g : Frag} {a0 : (List Int)} {b0_ : Nat} {LB0_ : Own} {a1 : (List (A4 T_Ins))} {v1_ : Value} {r : (List Int)} (h0 : Bx_Writer b0_ a0 LB0_) (h1 : SlT g enc_Bundle 24 a1 v1_) (hF : object_Writer_Code a0 a1 = some r) : LC Try.prog 37 #[.pointer (some ⟨b0_, 0, none⟩), v1_] g LB0_ (fun v L => ∃ (LB' : Own), v = .tuple #[] ∧ L = (LB' ++ []) ∧ Bx_Writer b0_ r LB') := w_object_Writer_Code_ h0 h1 hF

noncomputable def object_Writer_Numbers_b1 (a1 : (List Int)) : (Int × (List Int)) → Option (Step (Int × (List Int)) (List Int)) := fun (x28, x29) => bif decide (x28 < (a1.length : Int)) then (at' a1 x28).bind fun x58 => (object_Writer_Number x29 x58).bind fun r70 => some (.next (IntKind.i64.wrap (x28 + 1), r70)) else some (.done (x29))
noncomputable def object_Writer_Numbers (a0 : (List Int)) (a1 : (List Int)) : Option (List Int) :=
  (object_Writer_Number a0 (IntKind.u32.wrap (a1.length : Int))).bind fun r1 => loop (σ := (Int × (List Int))) (object_Writer_Numbers_b1 a1) (0, r1)
theorem w_object_Writer_Numbers_ {g : Frag} {a0 : (List Int)} {b0_ : Nat} {LB0_ : Own} {a1 : (List Int)} {v1_ : Value} {r : (List Int)} (h0 : Bx_Writer b0_ a0 LB0_) (h1 : SlT g enc_uint32 1 a1 v1_) (hF : object_Writer_Numbers a0 a1 = some r) : LC Try.prog 38 #[.pointer (some ⟨b0_, 0, none⟩), v1_] g LB0_ (fun v L => ∃ (LB' : Own), v = .tuple #[] ∧ L = (LB' ++ []) ∧ Bx_Writer b0_ r LB') := by
 unfold object_Writer_Numbers at hF
 refine lc_body (k := 21) (av := [.pointer (some ⟨b0_, 0, none⟩), v1_]) func38 rfl rfl (h := fun W hS => ?_)
 have hS : St W g LB0_ (LB0_ ++ []) W := by rw [List.append_nil]; exact hS
 refine c_seq <| c_region ?_
 iterate 2 (refine oy hS y_move ?_)
 refine oy hS (y_len h1 underlying31) <| oy hS (y_conv underlying3 underlying38) ?_
 have hS2 := hS.spl (.app _ (.nil _))
 obtain ⟨r1, hr1, hF⟩ := ob hF
 refine o_call hS2 func39 rfl rfl (hc := (w_object_Writer_Number (a0 := a0) (a1 := (IntKind.u32.wrap (a1.length : Int))) (h0 := (Bx_Writer.nl h0)) (hF := hr1))) (h := ?_)
 clear hS; intro v2 LY3 w hS hr4
 clear hS2
 obtain ⟨LB5, rfl, rfl, hb6⟩ := hr4
 simp only [aa, ac, al] at hS
 refine n_thenN <| c_seq <| c_region <| oy hS y_move <| oy hS (y_len h1 underlying31) <| oy hS y_move <| n_thenN <| c_block ?_
 refine c_loopP hF (fun (q : (Int × (List Int))) a w' => ∃ (B0 : Own), Bx_Writer b0_ q.2 B0 ∧ (∃ s : Nat → Value, a = Ac (((((Fm.dead 21 s).upd 0 (.pointer (some ⟨b0_, 0, none⟩))).upd 11 v1_).upd 12 (.int .i64 (a1.length : Int))).upd 13 (.int .i64 q.1))) ∧ St W g LB0_ (B0 ++ []) w') ⟨LB5, hb6, mk_exF, (hS.re (.t .h .n))⟩ ?_
 clear hS hF
 intro n55 q a w hI hq
 obtain ⟨x28, x29⟩ := q
 obtain ⟨B0, h30, ⟨s56, rfl⟩, hS⟩ := hq
 replace h30 : Bx_Writer b0_ x29 B0 := h30
 obtain ⟨z53, hF, D0⟩ := iter_step hI
 clear hI
 dsimp only [object_Writer_Numbers_b1] at hF
 refine c_seq <| c_region <| oy hS y_bin <| n_thenN <| c_seq ?_
 refine c_if (ht := fun c57 => ?_) (hf := fun c57 => ?_)
 · replace hF := bt c57 hF
   refine wp_skip <| c_seq <| c_block <| c_seq <| c_region ?_
   obtain ⟨x58, E0, hF⟩ := ob hF
   obtain ⟨b59, o60, c61, V0, e63, X0, G0, I0, J0, K0, M0⟩ := SlT.at E0 h1 enc_len_uint32
   refine oy hS (y_index G0 I0 J0 underlying31 el_uint32.size) <| oy hS (y_load (fun w hS => hS.block K0) underlying38 rfl (M0 0 _ rfl)) <| oy hS y_assign <| n_thenN <| c_region ?_
   iterate 2 (refine oy hS y_move ?_)
   have hS2 := hS.spl (.app _ (.nil _))
   obtain ⟨r70, N0, hF⟩ := ob hF
   refine o_call hS2 func39 rfl rfl (hc := (w_object_Writer_Number (a0 := x29) (a1 := x58) (h0 := (Bx_Writer.nl h30)) (hF := N0))) (h := ?_)
   clear hS; intro v71 Y0 w hS R0
   clear hS2
   obtain ⟨T0, rfl, rfl, U0⟩ := R0
   simp only [aa, ac, al] at hS
   refine n_anyN ?_
   refine c_region <| oy hS y_bin <| oy hS y_move <| n_thenN ?_
   obtain rfl := osi hF
   exact ⟨_, D0, T0, U0, mk_exF, (hS.re (.t .h .n))⟩
 replace hF := bf c57 hF
 refine wp_exit ?_
 obtain rfl := osi hF
 obtain rfl : _ = r := D0
 refine (r_end (vs := []) (hS.re (.t .h .n)) rsN rfl ⟨_, rfl, (by first | rfl | simp only [aa, ac, al, an]), h30⟩)
theorem w_object_Writer_Numbers {g : Frag} {a0 : (List Int)} {b0_ : Nat} {LB0_ : Own} {a1 : (List Int)} {v1_ : Value} {r : (List Int)} (h0 : Bx_Writer b0_ a0 LB0_) (h1 : SlT g enc_uint32 1 a1 v1_) (hF : object_Writer_Numbers a0 a1 = some r) : LC Try.prog 38 #[.pointer (some ⟨b0_, 0, none⟩), v1_] g LB0_ (fun v L => ∃ (LB' : Own), v = .tuple #[] ∧ L = (LB' ++ []) ∧ Bx_Writer b0_ r LB') := w_object_Writer_Numbers_ h0 h1 hF

noncomputable def object_sum_b1 (a0 : ByteArray) : (Int × Int) → Option (Step (Int × Int) Int) := fun (x4, x5) => bif decide (x5 < (a0.size : Int)) then (byte' a0 x5).bind fun x14 => some (.next (IntKind.i64.wrap (x4 + (IntKind.i64.wrap x14)), IntKind.i64.wrap (x5 + 1))) else (rem' x4 65521).bind fun x15 => some (.done (IntKind.u32.wrap x15))
noncomputable def object_sum (a0 : ByteArray) : Option Int :=
  loop (σ := (Int × Int)) (object_sum_b1 a0) (0, 0)
theorem w_object_sum_ {g : Frag} {a0 : ByteArray} {r : Int}  (hF : object_sum a0 = some r) : LCs Try.prog 43 #[.string a0] g (.int .u32 r) := by
 unfold object_sum at hF
 refine lc_body (k := 20) (av := [.string a0]) func43 rfl rfl (h := fun W hS => ?_)
 refine c_seq <| c_region <| oy hS y_assign <| n_thenN <| c_seq <| c_region <| oy hS y_assign <| n_thenN ?_
 iterate 2 (refine c_seq ?_)
 refine c_region <| oy hS y_move <| oy hS (y_lens underlying9) <| oy hS y_move <| n_thenN <| c_block ?_
 refine c_loopP hF (fun (q : (Int × Int)) a w' => (∃ s : Nat → Value, a = Ac (((((Fm.dead 20 s).upd 0 (.string a0)).upd 3 (.int .i64 q.1)).upd 6 (.int .i64 (a0.size : Int))).upd 7 (.int .i64 q.2))) ∧ St W g [] [] w') ⟨mk_exF, (hS.re (.n))⟩ ?_
 clear hS hF
 intro n11 q a w hI hq
 obtain ⟨x4, x5⟩ := q
 obtain ⟨⟨s12, rfl⟩, hS⟩ := hq
 obtain ⟨z9, hF, B0⟩ := iter_step hI
 clear hI
 dsimp only [object_sum_b1] at hF
 refine c_seq <| c_region <| oy hS y_bin <| n_thenN <| c_seq ?_
 refine c_if (ht := fun c13 => ?_) (hf := fun c13 => ?_)
 · replace hF := bt c13 hF
   refine wp_skip <| c_seq <| c_block <| c_seq <| c_region <| oy hS y_move <| oy hS y_assign <| n_thenN ?_
   refine c_region ?_
   iterate 3 (refine oy hS y_move ?_)
   obtain ⟨x14, D0, hF⟩ := ob hF
   refine oy hS (y_byte D0 underlying9) <| oy hS (y_conv underlying5 underlying3) <| oy hS y_bin <| oy hS y_assign ?_
   refine n_anyN ?_
   refine c_region <| oy hS y_bin <| oy hS y_move <| n_thenN ?_
   obtain rfl := osi hF
   exact ⟨_, B0, mk_exF, (hS.re (.n))⟩
 replace hF := bf c13 hF
 refine wp_exit ?_
 refine c_seq <| c_region <| oy hS y_move ?_
 obtain ⟨x15, E0, hF⟩ := ob hF
 refine oy hS (y_rem E0) <| oy hS (y_conv underlying3 underlying38) <| oy hS y_assign <| n_thenN ?_
 obtain rfl := osi hF
 obtain rfl : _ = r := B0
 exact wp_ret (wr1 hS)
theorem w_object_sum {g : Frag} {a0 : ByteArray} {r : Int}  (hF : object_sum a0 = some r) : LCs Try.prog 43 #[.string a0] g (.int .u32 r) := w_object_sum_  hF

noncomputable def object_Writer_End (a0 : (List Int)) : Option ((List Int) × ByteArray) :=
  (Builder_String a0).bind fun r1 => (object_sum r1.2).bind fun r8 => (object_Writer_Number r1.1 r8).bind fun r9 => (Builder_String r9).bind fun r16 => some (r16.1, r16.2)
theorem w_object_Writer_End_ {g : Frag} {a0 : (List Int)} {b0_ : Nat} {LB0_ : Own} {r : ((List Int) × ByteArray)} (h0 : Bx_Writer b0_ a0 LB0_) (hF : object_Writer_End a0 = some r) : LC Try.prog 40 #[.pointer (some ⟨b0_, 0, none⟩)] g LB0_ (fun v L => ∃ (LB' : Own), v = .string r.2 ∧ L = (LB' ++ []) ∧ Bx_Writer b0_ r.1 LB') := by
 unfold object_Writer_End at hF
 refine lc_body (k := 14) (av := [.pointer (some ⟨b0_, 0, none⟩)]) func40 rfl rfl (h := fun W hS => ?_)
 have hS : St W g LB0_ (LB0_ ++ []) W := by rw [List.append_nil]; exact hS
 refine c_seq <| c_region <| oy hS y_assign <| n_thenN <| c_seq <| c_region ?_
 iterate 2 (refine oy hS y_move ?_)
 refine oy hS y_nilCheck <| oy hS (y_field fa_object_Writer_0) ?_
 have hS2 := hS.spl (.app _ (.nil _))
 obtain ⟨r1, hr1, hF⟩ := ob hF
 refine o_call hS2 func57 rfl rfl (hc := (w_Builder_String (a0 := a0) (h0 := (Bx_Writer.nl h0)) (hF := hr1))) (h := ?_)
 clear hS; intro v2 LY3 w hS hr4
 clear hS2
 obtain ⟨LB5, rfl, rfl, hb6⟩ := hr4
 simp only [aa, ac, al] at hS
 obtain ⟨r8, hr8, hF⟩ := ob hF
 refine o_callS hS func43 rfl rfl (hc := (w_object_sum (a0 := r1.2) (hF := hr8))) (h := ?_)
 clear hS; intro w hS
 have hS2 := hS.spl (.app _ (.nil _))
 obtain ⟨r9, hr9, hF⟩ := ob hF
 refine o_call hS2 func39 rfl rfl (hc := (w_object_Writer_Number (a0 := r1.1) (a1 := r8) (h0 := (Bx_Writer.nl hb6)) (hF := hr9))) (h := ?_)
 clear hS; intro v10 J0 w hS B0
 clear hS2
 obtain ⟨K0, rfl, rfl, D0⟩ := B0
 simp only [aa, ac, al] at hS
 refine n_thenN <| c_seq <| c_region <| oy hS y_move <| oy hS y_nilCheck <| oy hS (y_field fa_object_Writer_0) ?_
 have hS2 := hS.spl (.app _ (.nil _))
 obtain ⟨r16, E0, hF⟩ := ob hF
 refine o_call hS2 func57 rfl rfl (hc := (w_Builder_String (a0 := r9) (h0 := (Bx_Writer.nl D0)) (hF := E0))) (h := ?_)
 clear hS; intro v17 M0 w hS G0
 clear hS2
 obtain ⟨N0, rfl, rfl, I0⟩ := G0
 simp only [aa, ac, al] at hS
 refine oy hS y_assign <| n_thenN ?_
 obtain rfl := osi hF
 refine wp_ret (r_ret (vs := [.string r16.2]) (hS.re (.t .h .n)) (rsC res_tmp rsN) rfl ⟨_, rfl, (by first | rfl | simp only [aa, ac, al, an]), I0⟩)
theorem w_object_Writer_End {g : Frag} {a0 : (List Int)} {b0_ : Nat} {LB0_ : Own} {r : ((List Int) × ByteArray)} (h0 : Bx_Writer b0_ a0 LB0_) (hF : object_Writer_End a0 = some r) : LC Try.prog 40 #[.pointer (some ⟨b0_, 0, none⟩)] g LB0_ (fun v L => ∃ (LB' : Own), v = .string r.2 ∧ L = (LB' ++ []) ∧ Bx_Writer b0_ r.1 LB') := w_object_Writer_End_ h0 hF

noncomputable def image_spelt (a0 : T_Image) : Option ByteArray :=
  (object_Writer_Text ([] : List Int) (ByteArray.mk #[105, 109, 97, 103, 101])).bind fun r4 => (object_Writer_Code r4 a0.Code).bind fun r11 => (object_Writer_Numbers r11 a0.Data).bind fun r18 => (object_Writer_Number r18 (IntKind.u32.wrap a0.Entry)).bind fun r25 => (object_Writer_End r25).bind fun r32 => some (r32.2)
theorem w_image_spelt_ {g : Frag} {a0 : T_Image} {v0_ : Value} {r : ByteArray} (h0 : Rd_Image g a0 v0_) (hF : image_spelt a0 = some r) : LCs Try.prog 16 #[v0_] g (.string r) := by
 obtain ⟨B0, D0, rfl, E0, G0⟩ := h0
 unfold image_spelt at hF
 refine lc_body (k := 23) (av := [.agg (cl_Image B0 D0 a0.Entry).toArray]) func16 rfl rfl (h := fun W hS => ?_)
 refine c_seq <| c_region ?_
 refine o_boxP (cl := (cl_Image B0 D0 a0.Entry)) rfl hS ?_
 clear hS; intro b1 w hS
 refine oy hS y_assign <| n_thenN <| c_seq <| c_region ?_
 refine oy hS (y_build (cl := [.pointer none, .slice none 0 0]) bt_Writer rfl (by kernel_rfl)) ?_
 refine o_boxP (cl := [.pointer none, .slice none 0 0]) rfl hS ?_
 clear hS; intro b2 w hS
 have hS : St W g [] ([(b2, blk [.pointer none, .slice none 0 0] 87)] ++ ((b1, blk (cl_Image B0 D0 a0.Entry) 37) :: [])) w := hS
 refine oy hS y_assign <| n_thenN <| c_seq <| c_region <| oy hS y_move ?_
 have hS2 := hS.spl (.app _ (.nil _))
 obtain ⟨r4, hr4, hF⟩ := ob hF
 refine o_call hS2 func36 rfl rfl (hc := (w_object_Writer_Text (a0 := ([] : List Int)) (a1 := (ByteArray.mk #[105, 109, 97, 103, 101])) (h0 := (Bx_Writer.nl (Bx_Writer.new b2))) (hF := hr4))) (h := ?_)
 clear hS; intro v5 LY6 w hS hr7
 clear hS2
 obtain ⟨LB8, rfl, rfl, hb9⟩ := hr7
 simp only [aa, ac, al] at hS
 refine n_thenN <| c_seq <| c_region <| oy hS y_move <| oy hS (y_field fa_api_Image_0) <| oy hS (y_load (fun w hS => hS.own (mB (mH))) underlying34 rfl rfl) ?_
 have hS2 := hS.spl (.app _ (.nil _))
 obtain ⟨r11, I0, hF⟩ := ob hF
 refine o_call hS2 func37 rfl rfl (hc := (w_object_Writer_Code (a0 := r4) (a1 := a0.Code) (h0 := (Bx_Writer.nl hb9)) (h1 := E0.plus) (hF := I0))) (h := ?_)
 clear hS; intro v12 Z0 w hS J0
 clear hS2
 obtain ⟨B1, rfl, rfl, K0⟩ := J0
 simp only [aa, ac, al] at hS
 refine n_thenN <| c_seq <| c_region <| oy hS y_move <| oy hS (y_field fa_api_Image_1) <| oy hS (y_load (fun w hS => hS.own (mB (mH))) underlying31 rfl rfl) ?_
 have hS2 := hS.spl (.app _ (.nil _))
 obtain ⟨r18, M0, hF⟩ := ob hF
 refine o_call hS2 func38 rfl rfl (hc := (w_object_Writer_Numbers (a0 := r11) (a1 := a0.Data) (h0 := (Bx_Writer.nl K0)) (h1 := G0.plus) (hF := M0))) (h := ?_)
 clear hS; intro v19 D1 w hS N0
 clear hS2
 obtain ⟨E1, rfl, rfl, R0⟩ := N0
 simp only [aa, ac, al] at hS
 refine n_thenN <| c_seq <| c_region <| oy hS y_move <| oy hS (y_field fa_api_Image_2) <| oy hS (y_load (fun w hS => hS.own (mB (mH))) underlying3 rfl rfl) <| oy hS (y_conv underlying3 underlying38) ?_
 have hS2 := hS.spl (.app _ (.nil _))
 obtain ⟨r25, T0, hF⟩ := ob hF
 refine o_call hS2 func39 rfl rfl (hc := (w_object_Writer_Number (a0 := r18) (a1 := (IntKind.u32.wrap a0.Entry)) (h0 := (Bx_Writer.nl R0)) (hF := T0))) (h := ?_)
 clear hS; intro v26 G1 w hS U0
 clear hS2
 obtain ⟨I1, rfl, rfl, V0⟩ := U0
 simp only [aa, ac, al] at hS
 refine n_thenN <| c_seq <| c_region <| oy hS y_move ?_
 have hS2 := hS.spl (.app _ (.nil _))
 obtain ⟨r32, X0, hF⟩ := ob hF
 refine o_call hS2 func40 rfl rfl (hc := (w_object_Writer_End (a0 := r25) (h0 := (Bx_Writer.nl V0)) (hF := X0))) (h := ?_)
 clear hS; intro v33 J1 w hS Y0
 clear hS2
 obtain ⟨K1, rfl, rfl, M1⟩ := Y0
 simp only [aa, ac, al] at hS
 refine oy hS y_assign <| n_thenN ?_
 obtain rfl := osi hF
 exact wp_ret (wr1 hS)
theorem w_image_spelt {g : Frag} {a0 : T_Image} {v0_ : Value} {r : ByteArray} (h0 : Rd_Image g a0 v0_) (hF : image_spelt a0 = some r) : LCs Try.prog 16 #[v0_] g (.string r) := w_image_spelt_ h0 hF

noncomputable def image_Write (a0 : T_Image) : Option (ByteArray × Int) :=
  (link_May a0).bind fun r2 => bif !r2 then some ((ByteArray.mk #[]), 1) else (image_spelt a0).bind fun r4 => some (r4, 0)
theorem w_image_Write_ {g : Frag} {a0 : T_Image} {v0_ : Value} {r : (ByteArray × Int)} (h0 : Rd_Image g a0 v0_) (hF : image_Write a0 = some r) : LCs Try.prog 4 #[v0_] g (.tuple #[.string r.1, .int .i64 r.2]) := by
 obtain ⟨B0, D0, rfl, E0, G0⟩ := h0
 unfold image_Write at hF
 refine lc_body (k := 9) (av := [.agg (cl_Image B0 D0 a0.Entry).toArray]) func4 rfl rfl (h := fun W hS => ?_)
 refine c_seq <| c_region ?_
 refine o_boxP (cl := (cl_Image B0 D0 a0.Entry)) rfl hS ?_
 clear hS; intro b1 w hS
 iterate 2 (refine oy hS y_assign ?_)
 refine n_thenN ?_
 iterate 2 (refine c_seq ?_)
 refine c_region ?_
 refine oy hS (y_loadW oH underlying37 rfl (by exact sz_api_Image)) ?_
 obtain ⟨r2, hr2, hF⟩ := ob hF
 refine o_callS hS func15 rfl rfl (hc := (w_link_May (a0 := a0) (h0 := ⟨_, _, rfl, E0.plus, G0.plus⟩) (hF := hr2))) (h := ?_)
 clear hS; intro w hS
 refine oy hS y_not <| n_thenN ?_
 refine c_if (ht := fun c3 => ?_) (hf := fun c3 => ?_)
 · replace hF := bt c3 hF
   refine c_seq <| c_region ?_
   iterate 2 (refine oy hS y_assign ?_)
   refine n_thenN ?_
   obtain rfl := osi hF
   exact wp_ret (wr2 hS)
 replace hF := bf c3 hF
 refine wp_skip <| c_seq <| c_region ?_
 refine oy hS (y_loadW oH underlying37 rfl (by exact sz_api_Image)) ?_
 obtain ⟨r4, hr4, hF⟩ := ob hF
 refine o_callS hS func16 rfl rfl (hc := (w_image_spelt (a0 := a0) (h0 := ⟨_, _, rfl, E0.plus, G0.plus⟩) (hF := hr4))) (h := ?_)
 clear hS; intro w hS
 iterate 2 (refine oy hS y_assign ?_)
 refine n_thenN ?_
 obtain rfl := osi hF
 exact wp_ret (wr2 hS)
theorem w_image_Write {g : Frag} {a0 : T_Image} {v0_ : Value} {r : (ByteArray × Int)} (h0 : Rd_Image g a0 v0_) (hF : image_Write a0 = some r) : LCs Try.prog 4 #[v0_] g (.tuple #[.string r.1, .int .i64 r.2]) := w_image_Write_ h0 hF

def slices_Clone_uint32 (a0 : List Int) : Option (List Int) := app' [] a0
theorem w_slices_Clone_uint32 {g : Frag} {a0 : List Int} {v0_ : Value} (h0 : SlT g enc_uint32 1 a0 v0_) {r : List Int} (hF : slices_Clone_uint32 a0 = some r) : LC Try.prog 58 #[v0_] g [] (fun v L => ∃ (u0 : Value) (M0 : Own), u0 = v ∧ L = (M0 ++ []) ∧ OwT 38 enc_uint32 1 r u0 M0) := by
  unfold slices_Clone_uint32 at hF
  refine lc_body (k := 8) (av := [v0_]) func58 rfl rfl (h := fun W hS => ?_)
  refine c_seq <| c_region <| oy hS y_assign ?_
  refine n_thenN (h := ?_)
  refine c_seq <| c_seq <| c_region <| oy hS y_move <| oy hS (y_nilsl h0 underlying31) ?_
  refine n_thenN (h := ?_)
  refine c_if (ht := fun c1 => ?_) (hf := fun c1 => ?_)
  · obtain rfl := isNil_nil h0 c1
    obtain ⟨_, rfl⟩ := app'_some hF
    refine c_seq <| c_region <| oy hS y_assign ?_
    refine n_thenN (h := ?_)
    refine wp_ret (r_ret (vs := [.slice none 0 0]) (L' := []) hS (show resAll _ _ _ [.tmp 2] _ from ⟨res_tmp, trivial⟩) rfl ⟨_, _, rfl, rfl, OwT.nil _ _ _⟩)
  · refine wp_skip ?_
    try change Code.wp _ _ _ _ _
    refine c_seq <| c_region ?_
    refine o_buildT val_uint32 ([] : List Int) hS el_uint32 (fun _ => rfl) enc_len_uint32 (by decide) rfl (by decide) (hp := rfl) (h := ?_)
    clear hS; intro b5 w hS h6
    refine oy hS y_move ?_
    refine o_appPs (LX := [(b5, blk (([] : List Int).flatMap enc_uint32) 38)]) hF hS el_uint32 h6 h0.plus (enc_ones_uint32 _) (by decide) ?_
    clear hS; intro v7 LX7 w h7 hS
    refine oy hS y_assign ?_
    refine n_thenN (h := ?_)
    refine wp_ret (r_ret (vs := [v7]) (L' := (LX7 ++ [])) hS (show resAll _ _ _ [.tmp 2] _ from ⟨res_tmp, trivial⟩) rfl ⟨_, _, rfl, rfl, h7⟩)

noncomputable def seq_New (a0 : (List Int)) : Option (T_State × Int) :=
  bif decide (100 < (a0.length : Int)) then some ((⟨[], [], [], 0, [], 0, [], 0, [], 0, 0⟩ : T_State), 1) else (make' 16 (0 : Int)).bind fun zs3 => (make' 256 (0 : Int)).bind fun zs8 => (slices_Clone_uint32 a0).bind fun r13 => some ((⟨zs3, zs8, r13, 0, [], 0, [], 0, [], 0, 0⟩ : T_State), 0)
theorem w_seq_New_ {g : Frag} {a0 : (List Int)} {v0_ : Value} {r : (T_State × Int)} (h0 : SlT g enc_uint32 1 a0 v0_) (hF : seq_New a0 = some r) : LC Try.prog 41 #[v0_] g [] (fun v L => ∃ (u0 : Value) (M0 : Own), v = .tuple #[u0, .int .i64 r.2] ∧ L = (M0 ++ []) ∧ Ow_State r.1 u0 M0) := by
 unfold seq_New at hF
 refine lc_body (k := 13) (av := [v0_]) func41 rfl rfl (h := fun W hS => ?_)
 refine c_seq <| c_region ?_
 refine o_allocP (cl := (cl_State (.slice none 0 0) (.slice none 0 0) (.slice none 0 0) 0 (.slice none 0 0) 0 (.slice none 0 0) 0 (.slice none 0 0) 0 0)) zr_api_State rfl hS ?_
 clear hS; intro b1 w hS
 refine oy hS y_assign <| n_thenN ?_
 iterate 2 (refine c_seq ?_)
 refine c_region <| oy hS y_move <| oy hS (y_len h0 underlying31) <| oy hS y_bin <| n_thenN ?_
 refine c_if (ht := fun c2 => ?_) (hf := fun c2 => ?_)
 · replace hF := bt c2 hF
   refine c_seq <| c_region <| oy hS (y_build (cl := (cl_State (.slice none 0 0) (.slice none 0 0) (.slice none 0 0) 0 (.slice none 0 0) 0 (.slice none 0 0) 0 (.slice none 0 0) 0 0)) bt_api_State rfl fillN) ?_
   refine o_storeW (vs := (cl_State (.slice none 0 0) (.slice none 0 0) (.slice none 0 0) 0 (.slice none 0 0) 0 (.slice none 0 0) 0 (.slice none 0 0) 0 0)) hS (by exact rfl) (Upd.here _) (by exact sz_api_State) (one_State rfl rfl rfl rfl rfl rfl) ?_
   clear hS; intro w hS
   refine oy hS y_assign <| n_thenN ?_
   obtain rfl := osi hF
   refine wp_ret (r_ret (vs := [.agg (cl_State (.slice none 0 0) (.slice none 0 0) (.slice none 0 0) 0 (.slice none 0 0) 0 (.slice none 0 0) 0 (.slice none 0 0) 0 0).toArray, .int .i64 1]) (hS.re (.n)) (rsC (res_cell (hS.own (mH)) underlying44 rfl (by exact sz_api_State)) (rsC res_tmp rsN)) rfl ⟨_, _, rfl, (by first | rfl | simp only [aa, ac, al, an]), ⟨_, _, _, _, _, _, _, _, _, _, _, _, rfl, rfl, OwT.nil _ _ _, OwT.nil _ _ _, OwT.nil _ _ _, OwT.nil _ _ _, OwT.nil _ _ _, OwT.nil _ _ _⟩⟩)
 replace hF := bf c2 hF
 refine wp_skip <| c_seq ?_
 obtain ⟨zs3, D0, hF⟩ := ob hF
 obtain ⟨zs8, E0, hF⟩ := ob hF
 obtain ⟨r13, G0, hF⟩ := ob hF
 refine c_heldL 5 7 (by kernel_rfl) rfl hS ?_
 clear hS; intro w hS
 refine hy0 2 rfl wn (by kernel_rfl) (nq (P := Try.prog) (fn := Try.f41)) (fun _ => hS.cb) y_move ?_
 refine hb3 0 1 3 (by kernel_rfl) (hb_op rfl wn (nl (P := Try.prog) (fn := Try.f41)) ?_) (hb_op rfl wn (nl (P := Try.prog) (fn := Try.f41)) ?_) (hb_op rfl wn (nl (P := Try.prog) (fn := Try.f41)) ?_)
 · skip
   refine o_makeP D0 hS el_uint32 enc_len_uint32 mz_uint32 (by decide) ?_
   clear hS; intro v4 LX5 w h6 hS
   refine hb_next (fun _ => (hS.re (.b (.d .hb) .n)).cb) ?_
   refine hb2 1 3 (by kernel_rfl) (hb_op rfl wn (nl (P := Try.prog) (fn := Try.f41)) ?_) (hb_op rfl wn (nl (P := Try.prog) (fn := Try.f41)) ?_)
   · skip
     refine o_makeP E0 hS el_uint32 enc_len_uint32 mz_uint32 (by decide) ?_
     clear hS; intro v9 I0 w h11 hS
     refine hb_next (fun _ => (hS.re (.b (.d (.d .hb)) .n)).cb) ?_
     refine hb1 3 (by kernel_rfl) (hb_op rfl wn (nl (P := Try.prog) (fn := Try.f41)) ?_)
     refine o_call0 hS func58 rfl rfl (hc := (w_slices_Clone_uint32 (a0 := a0) (h0 := h0.plus) (hF := G0))) (h := ?_)
     clear hS; intro v14 J0 w hS B0
     obtain ⟨v_0_17, LX_0_18, rfl, rfl, h_0_19⟩ := B0
     simp only [aa, ac, al] at hS
     have hC := (hS.re (.b (.d (.d (.d .hb))) .n)).cb
     refine hb_next (fun _ => hC) ?_
     refine hy0 4 rfl wn (by kernel_rfl) (nq (P := Try.prog) (fn := Try.f41)) (fun _ => hC) (y_build (cl := (cl_State v4 v9 v_0_17 0 (.slice none 0 0) 0 (.slice none 0 0) 0 (.slice none 0 0) 0 0)) bt_api_State rfl (fillS (vs := [v4]) rfl (h6).cell rfl rfl (fillS (vs := [v9]) rfl (h11).cell rfl rfl (fillS (vs := [v_0_17]) rfl (h_0_19).cell rfl rfl fillN)))) ?_
     refine hb1 5 (by kernel_rfl) (hb_op rfl wn (nl (P := Try.prog) (fn := Try.f41)) ?_)
     have hS := hS.re (.b (.d (.d (.d .hb))) (.t .h (.t .h (.t .h .n))))
     refine o_storeW (vs := (cl_State v4 v9 v_0_17 0 (.slice none 0 0) 0 (.slice none 0 0) 0 (.slice none 0 0) 0 0)) hS (by exact rfl) (Upd.here _) (by exact sz_api_State) (one_State (h6).one (h11).one (h_0_19).one rfl rfl rfl) ?_
     clear hS; intro w hS
     refine hb_next (fun h => absurd h (by decide)) ?_
     refine hy0 6 rfl wn (by kernel_rfl) (nq (P := Try.prog) (fn := Try.f41)) (fun h => absurd h (by decide)) y_assign ?_
     refine hb_done (by kernel_rfl) ?_
     obtain rfl := osi hF
     refine wp_ret (r_ret (vs := [.agg (cl_State v4 v9 v_0_17 0 (.slice none 0 0) 0 (.slice none 0 0) 0 (.slice none 0 0) 0 0).toArray, .int .i64 0]) (hS.re (.t (.e (.d (.d .h))) (.t (.e (.d .h)) (.t (.e .h) .n)))) (rsC (res_cell (hS.own (mH)) underlying44 rfl (by exact sz_api_State)) (rsC res_tmp rsN)) rfl ⟨_, _, rfl, (by first | rfl | simp only [aa, ac, al, an]), ⟨_, _, _, _, _, _, _, _, _, _, _, _, rfl, rfl, h6, h11, h_0_19, OwT.nil _ _ _, OwT.nil _ _ _, OwT.nil _ _ _⟩⟩)
   refine o_call0 hS func58 rfl rfl (hc := (w_slices_Clone_uint32 (a0 := a0) (h0 := h0.plus) (hF := G0))) (h := ?_)
   clear hS; intro v14 J0 w hS B0
   obtain ⟨v_0_17, LX_0_18, rfl, rfl, h_0_19⟩ := B0
   simp only [aa, ac, al] at hS
   refine hb_next (fun _ => (hS.re (.b (.d (.d .hb)) .n)).cb) ?_
   refine hb1 1 (by kernel_rfl) (hb_op rfl wn (nl (P := Try.prog) (fn := Try.f41)) ?_)
   refine o_makeP E0 hS el_uint32 enc_len_uint32 mz_uint32 (by decide) ?_
   clear hS; intro v9 I0 w h11 hS
   have hC := (hS.re (.b (.d (.d (.d .hb))) .n)).cb
   refine hb_next (fun _ => hC) ?_
   refine hy0 4 rfl wn (by kernel_rfl) (nq (P := Try.prog) (fn := Try.f41)) (fun _ => hC) (y_build (cl := (cl_State v4 v9 v_0_17 0 (.slice none 0 0) 0 (.slice none 0 0) 0 (.slice none 0 0) 0 0)) bt_api_State rfl (fillS (vs := [v4]) rfl (h6).cell rfl rfl (fillS (vs := [v9]) rfl (h11).cell rfl rfl (fillS (vs := [v_0_17]) rfl (h_0_19).cell rfl rfl fillN)))) ?_
   refine hb1 5 (by kernel_rfl) (hb_op rfl wn (nl (P := Try.prog) (fn := Try.f41)) ?_)
   have hS := hS.re (.b (.d (.d (.d .hb))) (.t .h (.t .h (.t .h .n))))
   refine o_storeW (vs := (cl_State v4 v9 v_0_17 0 (.slice none 0 0) 0 (.slice none 0 0) 0 (.slice none 0 0) 0 0)) hS (by exact rfl) (Upd.here _) (by exact sz_api_State) (one_State (h6).one (h11).one (h_0_19).one rfl rfl rfl) ?_
   clear hS; intro w hS
   refine hb_next (fun h => absurd h (by decide)) ?_
   refine hy0 6 rfl wn (by kernel_rfl) (nq (P := Try.prog) (fn := Try.f41)) (fun h => absurd h (by decide)) y_assign ?_
   refine hb_done (by kernel_rfl) ?_
   obtain rfl := osi hF
   refine wp_ret (r_ret (vs := [.agg (cl_State v4 v9 v_0_17 0 (.slice none 0 0) 0 (.slice none 0 0) 0 (.slice none 0 0) 0 0).toArray, .int .i64 0]) (hS.re (.t (.e (.d (.d .h))) (.t (.e .h) (.t (.e .h) .n)))) (rsC (res_cell (hS.own (mH)) underlying44 rfl (by exact sz_api_State)) (rsC res_tmp rsN)) rfl ⟨_, _, rfl, (by first | rfl | simp only [aa, ac, al, an]), ⟨_, _, _, _, _, _, _, _, _, _, _, _, rfl, rfl, h6, h11, h_0_19, OwT.nil _ _ _, OwT.nil _ _ _, OwT.nil _ _ _⟩⟩)
 · skip
   refine o_makeP E0 hS el_uint32 enc_len_uint32 mz_uint32 (by decide) ?_
   clear hS; intro v9 I0 w h11 hS
   refine hb_next (fun _ => (hS.re (.b (.d .hb) .n)).cb) ?_
   refine hb2 0 3 (by kernel_rfl) (hb_op rfl wn (nl (P := Try.prog) (fn := Try.f41)) ?_) (hb_op rfl wn (nl (P := Try.prog) (fn := Try.f41)) ?_)
   · skip
     refine o_makeP D0 hS el_uint32 enc_len_uint32 mz_uint32 (by decide) ?_
     clear hS; intro v4 LX5 w h6 hS
     refine hb_next (fun _ => (hS.re (.b (.d (.d .hb)) .n)).cb) ?_
     refine hb1 3 (by kernel_rfl) (hb_op rfl wn (nl (P := Try.prog) (fn := Try.f41)) ?_)
     refine o_call0 hS func58 rfl rfl (hc := (w_slices_Clone_uint32 (a0 := a0) (h0 := h0.plus) (hF := G0))) (h := ?_)
     clear hS; intro v14 J0 w hS B0
     obtain ⟨v_0_17, LX_0_18, rfl, rfl, h_0_19⟩ := B0
     simp only [aa, ac, al] at hS
     have hC := (hS.re (.b (.d (.d (.d .hb))) .n)).cb
     refine hb_next (fun _ => hC) ?_
     refine hy0 4 rfl wn (by kernel_rfl) (nq (P := Try.prog) (fn := Try.f41)) (fun _ => hC) (y_build (cl := (cl_State v4 v9 v_0_17 0 (.slice none 0 0) 0 (.slice none 0 0) 0 (.slice none 0 0) 0 0)) bt_api_State rfl (fillS (vs := [v4]) rfl (h6).cell rfl rfl (fillS (vs := [v9]) rfl (h11).cell rfl rfl (fillS (vs := [v_0_17]) rfl (h_0_19).cell rfl rfl fillN)))) ?_
     refine hb1 5 (by kernel_rfl) (hb_op rfl wn (nl (P := Try.prog) (fn := Try.f41)) ?_)
     have hS := hS.re (.b (.d (.d (.d .hb))) (.t .h (.t .h (.t .h .n))))
     refine o_storeW (vs := (cl_State v4 v9 v_0_17 0 (.slice none 0 0) 0 (.slice none 0 0) 0 (.slice none 0 0) 0 0)) hS (by exact rfl) (Upd.here _) (by exact sz_api_State) (one_State (h6).one (h11).one (h_0_19).one rfl rfl rfl) ?_
     clear hS; intro w hS
     refine hb_next (fun h => absurd h (by decide)) ?_
     refine hy0 6 rfl wn (by kernel_rfl) (nq (P := Try.prog) (fn := Try.f41)) (fun h => absurd h (by decide)) y_assign ?_
     refine hb_done (by kernel_rfl) ?_
     obtain rfl := osi hF
     refine wp_ret (r_ret (vs := [.agg (cl_State v4 v9 v_0_17 0 (.slice none 0 0) 0 (.slice none 0 0) 0 (.slice none 0 0) 0 0).toArray, .int .i64 0]) (hS.re (.t (.e (.d .h)) (.t (.e (.d .h)) (.t (.e .h) .n)))) (rsC (res_cell (hS.own (mH)) underlying44 rfl (by exact sz_api_State)) (rsC res_tmp rsN)) rfl ⟨_, _, rfl, (by first | rfl | simp only [aa, ac, al, an]), ⟨_, _, _, _, _, _, _, _, _, _, _, _, rfl, rfl, h6, h11, h_0_19, OwT.nil _ _ _, OwT.nil _ _ _, OwT.nil _ _ _⟩⟩)
   refine o_call0 hS func58 rfl rfl (hc := (w_slices_Clone_uint32 (a0 := a0) (h0 := h0.plus) (hF := G0))) (h := ?_)
   clear hS; intro v14 J0 w hS B0
   obtain ⟨v_0_17, LX_0_18, rfl, rfl, h_0_19⟩ := B0
   simp only [aa, ac, al] at hS
   refine hb_next (fun _ => (hS.re (.b (.d (.d .hb)) .n)).cb) ?_
   refine hb1 0 (by kernel_rfl) (hb_op rfl wn (nl (P := Try.prog) (fn := Try.f41)) ?_)
   refine o_makeP D0 hS el_uint32 enc_len_uint32 mz_uint32 (by decide) ?_
   clear hS; intro v4 LX5 w h6 hS
   have hC := (hS.re (.b (.d (.d (.d .hb))) .n)).cb
   refine hb_next (fun _ => hC) ?_
   refine hy0 4 rfl wn (by kernel_rfl) (nq (P := Try.prog) (fn := Try.f41)) (fun _ => hC) (y_build (cl := (cl_State v4 v9 v_0_17 0 (.slice none 0 0) 0 (.slice none 0 0) 0 (.slice none 0 0) 0 0)) bt_api_State rfl (fillS (vs := [v4]) rfl (h6).cell rfl rfl (fillS (vs := [v9]) rfl (h11).cell rfl rfl (fillS (vs := [v_0_17]) rfl (h_0_19).cell rfl rfl fillN)))) ?_
   refine hb1 5 (by kernel_rfl) (hb_op rfl wn (nl (P := Try.prog) (fn := Try.f41)) ?_)
   have hS := hS.re (.b (.d (.d (.d .hb))) (.t .h (.t .h (.t .h .n))))
   refine o_storeW (vs := (cl_State v4 v9 v_0_17 0 (.slice none 0 0) 0 (.slice none 0 0) 0 (.slice none 0 0) 0 0)) hS (by exact rfl) (Upd.here _) (by exact sz_api_State) (one_State (h6).one (h11).one (h_0_19).one rfl rfl rfl) ?_
   clear hS; intro w hS
   refine hb_next (fun h => absurd h (by decide)) ?_
   refine hy0 6 rfl wn (by kernel_rfl) (nq (P := Try.prog) (fn := Try.f41)) (fun h => absurd h (by decide)) y_assign ?_
   refine hb_done (by kernel_rfl) ?_
   obtain rfl := osi hF
   refine wp_ret (r_ret (vs := [.agg (cl_State v4 v9 v_0_17 0 (.slice none 0 0) 0 (.slice none 0 0) 0 (.slice none 0 0) 0 0).toArray, .int .i64 0]) (hS.re (.t (.e .h) (.t (.e (.d .h)) (.t (.e .h) .n)))) (rsC (res_cell (hS.own (mH)) underlying44 rfl (by exact sz_api_State)) (rsC res_tmp rsN)) rfl ⟨_, _, rfl, (by first | rfl | simp only [aa, ac, al, an]), ⟨_, _, _, _, _, _, _, _, _, _, _, _, rfl, rfl, h6, h11, h_0_19, OwT.nil _ _ _, OwT.nil _ _ _, OwT.nil _ _ _⟩⟩)
 refine o_call0 hS func58 rfl rfl (hc := (w_slices_Clone_uint32 (a0 := a0) (h0 := h0.plus) (hF := G0))) (h := ?_)
 clear hS; intro v14 J0 w hS B0
 obtain ⟨v_0_17, LX_0_18, rfl, rfl, h_0_19⟩ := B0
 simp only [aa, ac, al] at hS
 refine hb_next (fun _ => (hS.re (.b (.d .hb) .n)).cb) ?_
 refine hb2 0 1 (by kernel_rfl) (hb_op rfl wn (nl (P := Try.prog) (fn := Try.f41)) ?_) (hb_op rfl wn (nl (P := Try.prog) (fn := Try.f41)) ?_)
 · skip
   refine o_makeP D0 hS el_uint32 enc_len_uint32 mz_uint32 (by decide) ?_
   clear hS; intro v4 LX5 w h6 hS
   refine hb_next (fun _ => (hS.re (.b (.d (.d .hb)) .n)).cb) ?_
   refine hb1 1 (by kernel_rfl) (hb_op rfl wn (nl (P := Try.prog) (fn := Try.f41)) ?_)
   refine o_makeP E0 hS el_uint32 enc_len_uint32 mz_uint32 (by decide) ?_
   clear hS; intro v9 I0 w h11 hS
   have hC := (hS.re (.b (.d (.d (.d .hb))) .n)).cb
   refine hb_next (fun _ => hC) ?_
   refine hy0 4 rfl wn (by kernel_rfl) (nq (P := Try.prog) (fn := Try.f41)) (fun _ => hC) (y_build (cl := (cl_State v4 v9 v_0_17 0 (.slice none 0 0) 0 (.slice none 0 0) 0 (.slice none 0 0) 0 0)) bt_api_State rfl (fillS (vs := [v4]) rfl (h6).cell rfl rfl (fillS (vs := [v9]) rfl (h11).cell rfl rfl (fillS (vs := [v_0_17]) rfl (h_0_19).cell rfl rfl fillN)))) ?_
   refine hb1 5 (by kernel_rfl) (hb_op rfl wn (nl (P := Try.prog) (fn := Try.f41)) ?_)
   have hS := hS.re (.b (.d (.d (.d .hb))) (.t .h (.t .h (.t .h .n))))
   refine o_storeW (vs := (cl_State v4 v9 v_0_17 0 (.slice none 0 0) 0 (.slice none 0 0) 0 (.slice none 0 0) 0 0)) hS (by exact rfl) (Upd.here _) (by exact sz_api_State) (one_State (h6).one (h11).one (h_0_19).one rfl rfl rfl) ?_
   clear hS; intro w hS
   refine hb_next (fun h => absurd h (by decide)) ?_
   refine hy0 6 rfl wn (by kernel_rfl) (nq (P := Try.prog) (fn := Try.f41)) (fun h => absurd h (by decide)) y_assign ?_
   refine hb_done (by kernel_rfl) ?_
   obtain rfl := osi hF
   refine wp_ret (r_ret (vs := [.agg (cl_State v4 v9 v_0_17 0 (.slice none 0 0) 0 (.slice none 0 0) 0 (.slice none 0 0) 0 0).toArray, .int .i64 0]) (hS.re (.t (.e (.d .h)) (.t (.e .h) (.t (.e .h) .n)))) (rsC (res_cell (hS.own (mH)) underlying44 rfl (by exact sz_api_State)) (rsC res_tmp rsN)) rfl ⟨_, _, rfl, (by first | rfl | simp only [aa, ac, al, an]), ⟨_, _, _, _, _, _, _, _, _, _, _, _, rfl, rfl, h6, h11, h_0_19, OwT.nil _ _ _, OwT.nil _ _ _, OwT.nil _ _ _⟩⟩)
 refine o_makeP E0 hS el_uint32 enc_len_uint32 mz_uint32 (by decide) ?_
 clear hS; intro v9 I0 w h11 hS
 refine hb_next (fun _ => (hS.re (.b (.d (.d .hb)) .n)).cb) ?_
 refine hb1 0 (by kernel_rfl) (hb_op rfl wn (nl (P := Try.prog) (fn := Try.f41)) ?_)
 refine o_makeP D0 hS el_uint32 enc_len_uint32 mz_uint32 (by decide) ?_
 clear hS; intro v4 LX5 w h6 hS
 have hC := (hS.re (.b (.d (.d (.d .hb))) .n)).cb
 refine hb_next (fun _ => hC) ?_
 refine hy0 4 rfl wn (by kernel_rfl) (nq (P := Try.prog) (fn := Try.f41)) (fun _ => hC) (y_build (cl := (cl_State v4 v9 v_0_17 0 (.slice none 0 0) 0 (.slice none 0 0) 0 (.slice none 0 0) 0 0)) bt_api_State rfl (fillS (vs := [v4]) rfl (h6).cell rfl rfl (fillS (vs := [v9]) rfl (h11).cell rfl rfl (fillS (vs := [v_0_17]) rfl (h_0_19).cell rfl rfl fillN)))) ?_
 refine hb1 5 (by kernel_rfl) (hb_op rfl wn (nl (P := Try.prog) (fn := Try.f41)) ?_)
 have hS := hS.re (.b (.d (.d (.d .hb))) (.t .h (.t .h (.t .h .n))))
 refine o_storeW (vs := (cl_State v4 v9 v_0_17 0 (.slice none 0 0) 0 (.slice none 0 0) 0 (.slice none 0 0) 0 0)) hS (by exact rfl) (Upd.here _) (by exact sz_api_State) (one_State (h6).one (h11).one (h_0_19).one rfl rfl rfl) ?_
 clear hS; intro w hS
 refine hb_next (fun h => absurd h (by decide)) ?_
 refine hy0 6 rfl wn (by kernel_rfl) (nq (P := Try.prog) (fn := Try.f41)) (fun h => absurd h (by decide)) y_assign ?_
 refine hb_done (by kernel_rfl) ?_
 obtain rfl := osi hF
 refine wp_ret (r_ret (vs := [.agg (cl_State v4 v9 v_0_17 0 (.slice none 0 0) 0 (.slice none 0 0) 0 (.slice none 0 0) 0 0).toArray, .int .i64 0]) (hS.re (.t (.e .h) (.t (.e .h) (.t (.e .h) .n)))) (rsC (res_cell (hS.own (mH)) underlying44 rfl (by exact sz_api_State)) (rsC res_tmp rsN)) rfl ⟨_, _, rfl, (by first | rfl | simp only [aa, ac, al, an]), ⟨_, _, _, _, _, _, _, _, _, _, _, _, rfl, rfl, h6, h11, h_0_19, OwT.nil _ _ _, OwT.nil _ _ _, OwT.nil _ _ _⟩⟩)
theorem w_seq_New {g : Frag} {a0 : (List Int)} {v0_ : Value} {r : (T_State × Int)} (h0 : SlT g enc_uint32 1 a0 v0_) (hF : seq_New a0 = some r) : LC Try.prog 41 #[v0_] g [] (fun v L => ∃ (u0 : Value) (M0 : Own), v = .tuple #[u0, .int .i64 r.2] ∧ L = (M0 ++ []) ∧ Ow_State r.1 u0 M0) := w_seq_New_ h0 hF

noncomputable def image_loaded (a0 : (List Int)) (a1 : Int) (a2 : (List Int)) : Option (T_State × Int) :=
  (seq_New a2).bind fun r2 => bif decide (r2.2 ≠ 0) then some ((⟨[], [], [], 0, [], 0, [], 0, [], 0, 0⟩ : T_State), r2.2) else some ((⟨r2.1.Regs, (cop r2.1.Mem a0), r2.1.In_, r2.1.Taken, r2.1.Out, a1, r2.1.Stack, r2.1.Stop, r2.1.Fly, r2.1.Jump, r2.1.Delay⟩ : T_State), 0)
theorem w_image_loaded_ {g : Frag} {a0 : (List Int)} {v0_ : Value} {a1 : Int} {a2 : (List Int)} {v2_ : Value} {r : (T_State × Int)} (h0 : SlT g enc_uint32 1 a0 v0_) (h2 : SlT g enc_uint32 1 a2 v2_) (hF : image_loaded a0 a1 a2 = some r) : LC Try.prog 17 #[v0_, .int .i64 a1, v2_] g [] (fun v L => ∃ (u0 : Value) (M0 : Own), v = .tuple #[u0, .int .i64 r.2] ∧ L = (M0 ++ []) ∧ Ow_State r.1 u0 M0) := by
 unfold image_loaded at hF
 refine lc_body (k := 26) (av := [v0_, .int .i64 a1, v2_]) func17 rfl rfl (h := fun W hS => ?_)
 refine c_seq <| c_region ?_
 refine o_allocP (cl := (cl_State (.slice none 0 0) (.slice none 0 0) (.slice none 0 0) 0 (.slice none 0 0) 0 (.slice none 0 0) 0 (.slice none 0 0) 0 0)) zr_api_State rfl hS ?_
 clear hS; intro b1 w hS
 refine oy hS y_assign <| n_thenN <| c_seq <| c_region <| oy hS y_move ?_
 obtain ⟨r2, hr2, hF⟩ := ob hF
 refine o_call0 hS func41 rfl rfl (hc := (w_seq_New (a0 := a2) (h0 := h2.plus) (hF := hr2))) (h := ?_)
 clear hS; intro v3 LY4 w hS hr5
 obtain ⟨v_0_6, LX_0_7, rfl, rfl, h_0_8⟩ := hr5
 obtain ⟨J0, B0, D0, E0, G0, I0, Y0, X0, Z0, B1, D1, E1, rfl, rfl, K0, V0, N0, R0, T0, U0⟩ := h_0_8
 simp only [aa, ac, al] at hS
 refine oy hS y_move ?_
 iterate 2 (refine oy hS (y_extract rfl) ?_)
 refine o_allocP (cl := (cl_State (.slice none 0 0) (.slice none 0 0) (.slice none 0 0) 0 (.slice none 0 0) 0 (.slice none 0 0) 0 (.slice none 0 0) 0 0)) zr_api_State rfl hS ?_
 clear hS; intro b33 w hS
 refine o_storeW (vs := (cl_State J0 B0 D0 r2.1.Taken E0 r2.1.PC G0 r2.1.Stop I0 r2.1.Jump r2.1.Delay)) hS (by exact rfl) (Upd.here _) (by exact sz_api_State) (one_State (K0).one (V0).one (N0).one (R0).one (T0).one (U0).one) ?_
 clear hS; intro w hS
 refine oy hS y_assign <| n_thenN ?_
 iterate 2 (refine c_seq ?_)
 refine c_region <| oy hS y_move <| oy hS y_bin <| n_thenN ?_
 refine c_if (ht := fun c34 => ?_) (hf := fun c34 => ?_)
 · replace hF := bt c34 hF
   refine c_seq <| c_region <| oy hS (y_build (cl := (cl_State (.slice none 0 0) (.slice none 0 0) (.slice none 0 0) 0 (.slice none 0 0) 0 (.slice none 0 0) 0 (.slice none 0 0) 0 0)) bt_api_State rfl fillN) <| oy hS y_move ?_
   have hS := hS.re (.b (.e (.d (.d (.d (.d (.d (.d .hb))))))) (.b .hb (.t .h (.t .h (.t .h (.t .h (.t .h (.t .h .n))))))))
   refine o_storeW (vs := (cl_State (.slice none 0 0) (.slice none 0 0) (.slice none 0 0) 0 (.slice none 0 0) 0 (.slice none 0 0) 0 (.slice none 0 0) 0 0)) hS (by exact rfl) (Upd.here _) (by exact sz_api_State) (one_State rfl rfl rfl rfl rfl rfl) ?_
   clear hS; intro w hS
   refine oy hS y_assign <| n_thenN ?_
   obtain rfl := osi hF
   refine wp_ret (r_ret (vs := [.agg (cl_State (.slice none 0 0) (.slice none 0 0) (.slice none 0 0) 0 (.slice none 0 0) 0 (.slice none 0 0) 0 (.slice none 0 0) 0 0).toArray, .int .i64 r2.2]) (hS.re (.n)) (rsC (res_cell (hS.own (mH)) underlying44 rfl (by exact sz_api_State)) (rsC res_tmp rsN)) rfl ⟨_, _, rfl, (by first | rfl | simp only [aa, ac, al, an]), ⟨_, _, _, _, _, _, _, _, _, _, _, _, rfl, rfl, OwT.nil _ _ _, OwT.nil _ _ _, OwT.nil _ _ _, OwT.nil _ _ _, OwT.nil _ _ _, OwT.nil _ _ _⟩⟩)
 replace hF := bf c34 hF
 refine wp_skip <| c_seq <| c_region <| oy hS (y_field fa_api_State_1) <| oy hS (y_load oH underlying31 rfl rfl) <| oy hS y_move ?_
 have hS := hS.re (.t (.e (.d .h)) (.b .hb (.t .h (.t .h (.t .h (.t .h (.t .h (.b .hb .n))))))))
 refine o_copyP (LX := X0) hS V0 h0.plus enc_len_uint32 (enc_ones_uint32 _) underlying31 el_uint32.size ?_
 clear hS; intro G1 w h36 hS
 refine n_thenN <| c_seq <| c_region <| oy hS y_move <| oy hS (y_field fa_api_State_5) ?_
 have hS := hS.re (.b (.d .hb) (.t .h (.t .h (.t .h (.t .h (.t .h (.t .h (.b .hb .n))))))))
 refine o_storeA1 (o := 5) (cl' := (cl_State J0 B0 D0 r2.1.Taken E0 a1 G0 r2.1.Stop I0 r2.1.Jump r2.1.Delay)) hS (by kernel_rfl) (by exact Nat.le_of_ble_eq_true rfl) (Upd.here _) (by exact sz_int) rfl rfl ?_
 clear hS; intro w hS
 refine n_thenN <| c_seq <| c_region ?_
 refine oy hS (y_loadW oH underlying44 rfl (by exact sz_api_State)) ?_
 have hS := hS.re (.b (.e (.d (.d (.d (.d (.d (.d .hb))))))) (.b .hb (.t .h (.t .h (.t .h (.t .h (.t .h (.t .h .n))))))))
 refine o_storeW (vs := (cl_State J0 B0 D0 r2.1.Taken E0 a1 G0 r2.1.Stop I0 r2.1.Jump r2.1.Delay)) hS (by exact rfl) (Upd.here _) (by exact sz_api_State) (one_State (K0).one (h36).one (N0).one (R0).one (T0).one (U0).one) ?_
 clear hS; intro w hS
 refine oy hS y_assign <| n_thenN ?_
 obtain rfl := osi hF
 refine wp_ret (r_ret (vs := [.agg (cl_State J0 B0 D0 r2.1.Taken E0 a1 G0 r2.1.Stop I0 r2.1.Jump r2.1.Delay).toArray, .int .i64 0]) (hS.re (.t (.e (.e (.d .h))) (.t (.e (.e .h)) (.t (.e (.e .h)) (.t (.e (.e .h)) (.t (.e (.e .h)) (.t (.e (.e .h)) .n))))))) (rsC (res_cell (hS.own (mH)) underlying44 rfl (by exact sz_api_State)) (rsC res_tmp rsN)) rfl ⟨_, _, rfl, (by first | rfl | simp only [aa, ac, al, an]), ⟨_, _, _, _, _, _, _, _, _, _, _, _, rfl, rfl, K0, h36, N0, R0, T0, U0⟩⟩)
theorem w_image_loaded {g : Frag} {a0 : (List Int)} {v0_ : Value} {a1 : Int} {a2 : (List Int)} {v2_ : Value} {r : (T_State × Int)} (h0 : SlT g enc_uint32 1 a0 v0_) (h2 : SlT g enc_uint32 1 a2 v2_) (hF : image_loaded a0 a1 a2 = some r) : LC Try.prog 17 #[v0_, .int .i64 a1, v2_] g [] (fun v L => ∃ (u0 : Value) (M0 : Own), v = .tuple #[u0, .int .i64 r.2] ∧ L = (M0 ++ []) ∧ Ow_State r.1 u0 M0) := w_image_loaded_ h0 h2 hF

noncomputable def image_Load (a0 : T_Image) (a1 : (List Int)) : Option (T_State × Int) :=
  (link_May a0).bind fun r3 => bif !r3 then some ((⟨[], [], [], 0, [], 0, [], 0, [], 0, 0⟩ : T_State), 1) else (image_loaded a0.Data a0.Entry a1).bind fun r5 => some (r5.1, r5.2)
theorem w_image_Load_ {g : Frag} {a0 : T_Image} {v0_ : Value} {a1 : (List Int)} {v1_ : Value} {r : (T_State × Int)} (h0 : Rd_Image g a0 v0_) (h1 : SlT g enc_uint32 1 a1 v1_) (hF : image_Load a0 a1 = some r) : LC Try.prog 5 #[v0_, v1_] g [] (fun v L => ∃ (u0 : Value) (M0 : Own), v = .tuple #[u0, .int .i64 r.2] ∧ L = (M0 ++ []) ∧ Ow_State r.1 u0 M0) := by
 obtain ⟨X0, Y0, rfl, B1, Z0⟩ := h0
 unfold image_Load at hF
 refine lc_body (k := 18) (av := [.agg (cl_Image X0 Y0 a0.Entry).toArray, v1_]) func5 rfl rfl (h := fun W hS => ?_)
 refine c_seq <| c_region ?_
 refine o_boxP (cl := (cl_Image X0 Y0 a0.Entry)) rfl hS ?_
 clear hS; intro b1 w hS
 refine o_allocP (cl := (cl_State (.slice none 0 0) (.slice none 0 0) (.slice none 0 0) 0 (.slice none 0 0) 0 (.slice none 0 0) 0 (.slice none 0 0) 0 0)) zr_api_State rfl hS ?_
 clear hS; intro b2 w hS
 refine oy hS y_assign <| n_thenN ?_
 iterate 2 (refine c_seq ?_)
 refine c_region ?_
 refine oy hS (y_loadW (fun w hS => hS.own (mC (mH))) underlying37 rfl (by exact sz_api_Image)) ?_
 obtain ⟨r3, hr3, hF⟩ := ob hF
 refine o_callS hS func15 rfl rfl (hc := (w_link_May (a0 := a0) (h0 := ⟨_, _, rfl, B1.plus, Z0.plus⟩) (hF := hr3))) (h := ?_)
 clear hS; intro w hS
 refine oy hS y_not <| n_thenN ?_
 refine c_if (ht := fun c4 => ?_) (hf := fun c4 => ?_)
 · replace hF := bt c4 hF
   refine c_seq <| c_region <| oy hS (y_build (cl := (cl_State (.slice none 0 0) (.slice none 0 0) (.slice none 0 0) 0 (.slice none 0 0) 0 (.slice none 0 0) 0 (.slice none 0 0) 0 0)) bt_api_State rfl fillN) ?_
   refine o_storeW (vs := (cl_State (.slice none 0 0) (.slice none 0 0) (.slice none 0 0) 0 (.slice none 0 0) 0 (.slice none 0 0) 0 (.slice none 0 0) 0 0)) hS (by exact rfl) (Upd.here _) (by exact sz_api_State) (one_State rfl rfl rfl rfl rfl rfl) ?_
   clear hS; intro w hS
   refine oy hS y_assign <| n_thenN ?_
   obtain rfl := osi hF
   refine wp_ret (r_ret (vs := [.agg (cl_State (.slice none 0 0) (.slice none 0 0) (.slice none 0 0) 0 (.slice none 0 0) 0 (.slice none 0 0) 0 (.slice none 0 0) 0 0).toArray, .int .i64 1]) (hS.re (.n)) (rsC (res_cell (hS.own (mH)) underlying44 rfl (by exact sz_api_State)) (rsC res_tmp rsN)) rfl ⟨_, _, rfl, (by first | rfl | simp only [aa, ac, al, an]), ⟨_, _, _, _, _, _, _, _, _, _, _, _, rfl, rfl, OwT.nil _ _ _, OwT.nil _ _ _, OwT.nil _ _ _, OwT.nil _ _ _, OwT.nil _ _ _, OwT.nil _ _ _⟩⟩)
 replace hF := bf c4 hF
 refine wp_skip <| c_seq <| c_region <| oy hS (y_field fa_api_Image_1) <| oy hS (y_load (fun w hS => hS.own (mC (mH))) underlying31 rfl rfl) <| oy hS (y_field fa_api_Image_2) <| oy hS (y_load (fun w hS => hS.own (mC (mH))) underlying3 rfl rfl) <| oy hS y_move ?_
 obtain ⟨r5, hr5, hF⟩ := ob hF
 refine o_call0 hS func17 rfl rfl (hc := (w_image_loaded (a0 := a0.Data) (a1 := a0.Entry) (a2 := a1) (h0 := Z0.plus) (h2 := h1.plus) (hF := hr5))) (h := ?_)
 clear hS; intro v6 LY7 w hS hr8
 obtain ⟨v_0_9, LX_0_10, rfl, rfl, h_0_11⟩ := hr8
 obtain ⟨B0, D0, E0, G0, I0, J0, D1, E1, G1, I1, J1, K1, rfl, rfl, K0, N0, R0, T0, U0, V0⟩ := h_0_11
 simp only [aa, ac, al] at hS
 iterate 2 (refine oy hS (y_extract rfl) ?_)
 have hS := hS.re (.b (.d (.d (.d (.d (.d (.d .hb)))))) (.t .h (.t .h (.t .h (.t .h (.t .h (.t .h (.b .hb .n))))))))
 refine o_storeW (vs := (cl_State B0 D0 E0 r5.1.Taken G0 r5.1.PC I0 r5.1.Stop J0 r5.1.Jump r5.1.Delay)) hS (by exact rfl) (Upd.here _) (by exact sz_api_State) (one_State (K0).one (N0).one (R0).one (T0).one (U0).one (V0).one) ?_
 clear hS; intro w hS
 refine oy hS y_assign <| n_thenN ?_
 obtain rfl := osi hF
 refine wp_ret (r_ret (vs := [.agg (cl_State B0 D0 E0 r5.1.Taken G0 r5.1.PC I0 r5.1.Stop J0 r5.1.Jump r5.1.Delay).toArray, .int .i64 r5.2]) (hS.re (.t (.e .h) (.t (.e .h) (.t (.e .h) (.t (.e .h) (.t (.e .h) (.t (.e .h) .n))))))) (rsC (res_cell (hS.own (mH)) underlying44 rfl (by exact sz_api_State)) (rsC res_tmp rsN)) rfl ⟨_, _, rfl, (by first | rfl | simp only [aa, ac, al, an]), ⟨_, _, _, _, _, _, _, _, _, _, _, _, rfl, rfl, K0, N0, R0, T0, U0, V0⟩⟩)
theorem w_image_Load {g : Frag} {a0 : T_Image} {v0_ : Value} {a1 : (List Int)} {v1_ : Value} {r : (T_State × Int)} (h0 : Rd_Image g a0 v0_) (h1 : SlT g enc_uint32 1 a1 v1_) (hF : image_Load a0 a1 = some r) : LC Try.prog 5 #[v0_, v1_] g [] (fun v L => ∃ (u0 : Value) (M0 : Own), v = .tuple #[u0, .int .i64 r.2] ∧ L = (M0 ++ []) ∧ Ow_State r.1 u0 M0) := w_image_Load_ h0 h1 hF

def r0_Between (a0 : Int) (a1 : Int) (a2 : Int) : Bool :=
  bif decide (a1 ≤ a0) then decide (a0 ≤ a2) else false
theorem w_r0_Between_ {g : Frag} {a0 : Int} {a1 : Int} {a2 : Int} {r : Bool}  (hF : r0_Between a0 a1 a2 = r) : LCs Try.prog 92 #[.int .i64 a0, .int .i64 a1, .int .i64 a2] g (.bool r) := by
 unfold r0_Between at hF
 refine lc_body (k := 15) (av := [.int .i64 a0, .int .i64 a1, .int .i64 a2]) func92 rfl rfl (h := fun W hS => ?_)
 refine c_seq <| c_region <| oy hS y_assign <| n_thenN <| c_seq <| c_region ?_
 iterate 2 (refine oy hS y_move ?_)
 refine oy hS y_bin ?_
 refine o_split (ht := fun c1 => ?_) (hf := fun c1 => ?_)
 · replace hF := bt c1 hF
   refine o_gu rfl rfl rfl <| oy hS y_move <| o_gu rfl rfl rfl <| oy hS y_move <| o_gu rfl rfl rfl <| oy hS y_bin <| oy hS y_pickT <| oy hS y_assign ?_
   refine n_thenN ?_
   subst hF
   exact wp_ret (wr1 hS)
 replace hF := bf c1 hF
 iterate 3 (refine o_sk rfl rfl ?_)
 refine oy hS y_pickF <| oy hS y_assign <| n_thenN ?_
 subst hF
 exact wp_ret (wr1 hS)
theorem w_r0_Between {g : Frag} {a0 : Int} {a1 : Int} {a2 : Int}  : LCs Try.prog 92 #[.int .i64 a0, .int .i64 a1, .int .i64 a2] g (.bool (r0_Between a0 a1 a2)) := w_r0_Between_  rfl

def r3_Valid (a0 : Int) : Bool :=
  (r0_Between a0 0 33)
theorem w_r3_Valid_ {g : Frag} {a0 : Int} {r : Bool}  (hF : r3_Valid a0 = r) : LCs Try.prog 69 #[.int .i64 a0] g (.bool r) := by
 unfold r3_Valid at hF
 refine lc_body (k := 5) (av := [.int .i64 a0]) func69 rfl rfl (h := fun W hS => ?_)
 refine c_seq <| c_region <| oy hS y_assign <| n_thenN <| c_seq <| c_region <| oy hS y_move ?_
 refine o_callS hS func92 rfl rfl (hc := (w_r0_Between (a0 := a0) (a1 := 0) (a2 := 33))) (h := ?_)
 clear hS; intro w hS
 refine oy hS y_assign <| n_thenN ?_
 subst hF
 exact wp_ret (wr1 hS)
theorem w_r3_Valid {g : Frag} {a0 : Int}  : LCs Try.prog 69 #[.int .i64 a0] g (.bool (r3_Valid a0)) := w_r3_Valid_  rfl

noncomputable def r3_Form (a0 : Int) : Option Int :=
  (at' ([0, 1, 1, 1, 1, 1, 1, 1, 1, 1, 1, 1, 1, 1, 1, 1, 1, 1, 1, 1, 1, 2, 3, 4, 3, 5, 6, 7, 8, 9, 9, 8, 0, 0] : List Int) a0).bind fun x4 => some (x4)
theorem w_r3_Form_ {g : Frag} {a0 : Int} {r : Int}  (hF : r3_Form a0 = some r) : LCs Try.prog 63 #[.int .i64 a0] g (.int .i64 r) := by
 unfold r3_Form at hF
 refine lc_body (k := 7) (av := [.int .i64 a0]) func63 rfl rfl (h := fun W hS => ?_)
 refine c_seq <| c_region <| oy hS y_assign <| n_thenN <| c_seq <| c_region ?_
 refine o_buildT val_int ([0, 1, 1, 1, 1, 1, 1, 1, 1, 1, 1, 1, 1, 1, 1, 1, 1, 1, 1, 1, 1, 2, 3, 4, 3, 5, 6, 7, 8, 9, 9, 8, 0, 0] : List Int) hS el_int (fun _ => rfl) enc_len_int (by decide) rfl (by decide) (hp := rfl) (h := ?_)
 clear hS; intro b1 w hS h2
 have hS : St W g [] ([(b1, blk (([0, 1, 1, 1, 1, 1, 1, 1, 1, 1, 1, 1, 1, 1, 1, 1, 1, 1, 1, 1, 1, 2, 3, 4, 3, 5, 6, 7, 8, 9, 9, 8, 0, 0] : List Int).flatMap enc_int) 3)] ++ []) w := hS
 refine oy hS y_move ?_
 obtain ⟨x4, hx4, hF⟩ := ob hF
 obtain ⟨b5, c6, cl7, hv8, ha9, B0, D0, E0⟩ := OwT.at hx4 h2 enc_len_int
 refine oy hS (y_index hv8 ha9 B0 underlying35 el_int.size) <| oy hS (y_load (fun w hS => hS.own (mA (mX D0))) underlying3 rfl (E0 0 _ rfl)) <| oy hS y_assign <| n_thenN ?_
 obtain rfl := osi hF
 exact wp_ret (wr1 hS)
theorem w_r3_Form {g : Frag} {a0 : Int} {r : Int}  (hF : r3_Form a0 = some r) : LCs Try.prog 63 #[.int .i64 a0] g (.int .i64 r) := w_r3_Form_  hF

def r3_HasD (a0 : Int) : Bool :=
  bif (r0_Between a0 1 4) then true else decide (a0 = 6)
theorem w_r3_HasD_ {g : Frag} {a0 : Int} {r : Bool}  (hF : r3_HasD a0 = r) : LCs Try.prog 71 #[.int .i64 a0] g (.bool r) := by
 unfold r3_HasD at hF
 refine lc_body (k := 9) (av := [.int .i64 a0]) func71 rfl rfl (h := fun W hS => ?_)
 refine c_seq <| c_region <| oy hS y_assign <| n_thenN <| c_seq <| c_region <| oy hS y_move ?_
 refine o_callS hS func92 rfl rfl (hc := (w_r0_Between (a0 := a0) (a1 := 1) (a2 := 4))) (h := ?_)
 clear hS; intro w hS
 refine o_split (ht := fun c1 => ?_) (hf := fun c1 => ?_)
 · replace hF := bt c1 hF
   iterate 2 (refine o_sk rfl rfl ?_)
   refine oy hS y_pickT <| oy hS y_assign <| n_thenN ?_
   subst hF
   exact wp_ret (wr1 hS)
 replace hF := bf c1 hF
 refine o_gu rfl rfl rfl <| oy hS y_move <| o_gu rfl rfl rfl <| oy hS y_bin <| oy hS y_pickF <| oy hS y_assign <| n_thenN ?_
 subst hF
 exact wp_ret (wr1 hS)
theorem w_r3_HasD {g : Frag} {a0 : Int}  : LCs Try.prog 71 #[.int .i64 a0] g (.bool (r3_HasD a0)) := w_r3_HasD_  rfl

def r0_Num (a0 : Int) (a1 : Int) : Bool :=
  bif decide (0 ≤ a0) then decide (a0 ≤ a1) else false
theorem w_r0_Num_ {g : Frag} {a0 : Int} {a1 : Int} {r : Bool}  (hF : r0_Num a0 a1 = r) : LCs Try.prog 19 #[.int .i64 a0, .int .i64 a1] g (.bool r) := by
 unfold r0_Num at hF
 refine lc_body (k := 12) (av := [.int .i64 a0, .int .i64 a1]) func19 rfl rfl (h := fun W hS => ?_)
 refine c_seq <| c_region <| oy hS y_assign <| n_thenN <| c_seq <| c_region <| oy hS y_move <| oy hS y_bin ?_
 refine o_split (ht := fun c1 => ?_) (hf := fun c1 => ?_)
 · replace hF := bt c1 hF
   refine o_gu rfl rfl rfl <| oy hS y_move <| o_gu rfl rfl rfl <| oy hS y_move <| o_gu rfl rfl rfl <| oy hS y_bin <| oy hS y_pickT <| oy hS y_assign ?_
   refine n_thenN ?_
   subst hF
   exact wp_ret (wr1 hS)
 replace hF := bf c1 hF
 iterate 3 (refine o_sk rfl rfl ?_)
 refine oy hS y_pickF <| oy hS y_assign <| n_thenN ?_
 subst hF
 exact wp_ret (wr1 hS)
theorem w_r0_Num {g : Frag} {a0 : Int} {a1 : Int}  : LCs Try.prog 19 #[.int .i64 a0, .int .i64 a1] g (.bool (r0_Num a0 a1)) := w_r0_Num_  rfl

def r3_reg (a0 : Int) (a1 : Bool) : Bool :=
  bif a1 then (r0_Num a0 15) else decide (a0 = 0)
theorem w_r3_reg_ {g : Frag} {a0 : Int} {a1 : Bool} {r : Bool}  (hF : r3_reg a0 a1 = r) : LCs Try.prog 70 #[.int .i64 a0, .bool a1] g (.bool r) := by
 unfold r3_reg at hF
 refine lc_body (k := 10) (av := [.int .i64 a0, .bool a1]) func70 rfl rfl (h := fun W hS => ?_)
 refine c_seq <| c_region <| oy hS y_assign <| n_thenN ?_
 iterate 2 (refine c_seq ?_)
 refine c_region <| oy hS y_move <| n_thenN ?_
 refine c_if (ht := fun c1 => ?_) (hf := fun c1 => ?_)
 · replace hF := bt c1 hF
   refine c_seq <| c_region <| oy hS y_move ?_
   refine o_callS hS func19 rfl rfl (hc := (w_r0_Num (a0 := a0) (a1 := 15))) (h := ?_)
   clear hS; intro w hS
   refine oy hS y_assign <| n_thenN ?_
   subst hF
   exact wp_ret (wr1 hS)
 replace hF := bf c1 hF
 refine wp_skip <| c_seq <| c_region <| oy hS y_move <| oy hS y_bin <| oy hS y_assign <| n_thenN ?_
 subst hF
 exact wp_ret (wr1 hS)
theorem w_r3_reg {g : Frag} {a0 : Int} {a1 : Bool}  : LCs Try.prog 70 #[.int .i64 a0, .bool a1] g (.bool (r3_reg a0 a1)) := w_r3_reg_  rfl

def r3_HasA (a0 : Int) : Bool :=
  bif (r0_Between a0 1 3) then true else bif decide (a0 = 5) then true else bif decide (a0 = 7) then true else decide (a0 = 9)
theorem w_r3_HasA_ {g : Frag} {a0 : Int} {r : Bool}  (hF : r3_HasA a0 = r) : LCs Try.prog 72 #[.int .i64 a0] g (.bool r) := by
 unfold r3_HasA at hF
 refine lc_body (k := 17) (av := [.int .i64 a0]) func72 rfl rfl (h := fun W hS => ?_)
 refine c_seq <| c_region <| oy hS y_assign <| n_thenN <| c_seq <| c_region <| oy hS y_move ?_
 refine o_callS hS func92 rfl rfl (hc := (w_r0_Between (a0 := a0) (a1 := 1) (a2 := 3))) (h := ?_)
 clear hS; intro w hS
 refine o_split (ht := fun c1 => ?_) (hf := fun c1 => ?_)
 · replace hF := bt c1 hF
   iterate 2 (refine o_sk rfl rfl ?_)
   refine oy hS y_pickT <| oy hS y_move ?_
   iterate 2 (refine o_sk rfl rfl ?_)
   refine oy hS y_pickT <| oy hS y_move ?_
   iterate 2 (refine o_sk rfl rfl ?_)
   refine oy hS y_pickT <| oy hS y_assign <| n_thenN ?_
   subst hF
   exact wp_ret (wr1 hS)
 replace hF := bf c1 hF
 refine o_gu rfl rfl rfl <| oy hS y_move <| o_gu rfl rfl rfl <| oy hS y_bin <| oy hS y_pickF ?_
 refine o_split (ht := fun c2 => ?_) (hf := fun c2 => ?_)
 · replace hF := bt c2 hF
   iterate 2 (refine o_sk rfl rfl ?_)
   refine oy hS y_pickT <| oy hS y_move ?_
   iterate 2 (refine o_sk rfl rfl ?_)
   refine oy hS y_pickT <| oy hS y_assign <| n_thenN ?_
   subst hF
   exact wp_ret (wr1 hS)
 replace hF := bf c2 hF
 refine o_gu rfl rfl rfl <| oy hS y_move <| o_gu rfl rfl rfl <| oy hS y_bin <| oy hS y_pickF ?_
 refine o_split (ht := fun c3 => ?_) (hf := fun c3 => ?_)
 · replace hF := bt c3 hF
   iterate 2 (refine o_sk rfl rfl ?_)
   refine oy hS y_pickT <| oy hS y_assign <| n_thenN ?_
   subst hF
   exact wp_ret (wr1 hS)
 replace hF := bf c3 hF
 refine o_gu rfl rfl rfl <| oy hS y_move <| o_gu rfl rfl rfl <| oy hS y_bin <| oy hS y_pickF <| oy hS y_assign <| n_thenN ?_
 subst hF
 exact wp_ret (wr1 hS)
theorem w_r3_HasA {g : Frag} {a0 : Int}  : LCs Try.prog 72 #[.int .i64 a0] g (.bool (r3_HasA a0)) := w_r3_HasA_  rfl

def r3_HasB (a0 : Int) : Bool :=
  bif decide (a0 = 1) then true else decide (a0 = 5)
theorem w_r3_HasB_ {g : Frag} {a0 : Int} {r : Bool}  (hF : r3_HasB a0 = r) : LCs Try.prog 73 #[.int .i64 a0] g (.bool r) := by
 unfold r3_HasB at hF
 refine lc_body (k := 9) (av := [.int .i64 a0]) func73 rfl rfl (h := fun W hS => ?_)
 refine c_seq <| c_region <| oy hS y_assign <| n_thenN <| c_seq <| c_region <| oy hS y_move <| oy hS y_bin ?_
 refine o_split (ht := fun c1 => ?_) (hf := fun c1 => ?_)
 · replace hF := bt c1 hF
   iterate 2 (refine o_sk rfl rfl ?_)
   refine oy hS y_pickT <| oy hS y_assign <| n_thenN ?_
   subst hF
   exact wp_ret (wr1 hS)
 replace hF := bf c1 hF
 refine o_gu rfl rfl rfl <| oy hS y_move <| o_gu rfl rfl rfl <| oy hS y_bin <| oy hS y_pickF <| oy hS y_assign <| n_thenN ?_
 subst hF
 exact wp_ret (wr1 hS)
theorem w_r3_HasB {g : Frag} {a0 : Int}  : LCs Try.prog 73 #[.int .i64 a0] g (.bool (r3_HasB a0)) := w_r3_HasB_  rfl

noncomputable def word_Signed (a0 : Int) (a1 : Int) : Option Int :=
  (shl' .u32 a0 (IntKind.i64.wrap (32 - a1))).bind fun x1 => (shr' .i32 (IntKind.i32.wrap x1) (IntKind.i64.wrap (32 - a1))).bind fun x2 => some (IntKind.i64.wrap x2)
theorem w_word_Signed_ {g : Frag} {a0 : Int} {a1 : Int} {r : Int}  (hF : word_Signed a0 a1 = some r) : LCs Try.prog 86 #[.int .u32 a0, .int .i64 a1] g (.int .i64 r) := by
 unfold word_Signed at hF
 refine lc_body (k := 14) (av := [.int .u32 a0, .int .i64 a1]) func86 rfl rfl (h := fun W hS => ?_)
 refine c_seq <| c_region <| oy hS y_assign <| n_thenN <| c_seq <| c_region ?_
 iterate 2 (refine oy hS y_move ?_)
 refine oy hS y_bin ?_
 obtain ⟨x1, hx1, hF⟩ := ob hF
 refine oy hS (y_shl hx1) <| oy hS (y_conv underlying38 underlying21) <| oy hS y_move <| oy hS y_bin ?_
 obtain ⟨x2, hx2, hF⟩ := ob hF
 refine oy hS (y_shr hx2) <| oy hS (y_conv underlying21 underlying3) <| oy hS y_assign <| n_thenN ?_
 obtain rfl := osi hF
 exact wp_ret (wr1 hS)
theorem w_word_Signed {g : Frag} {a0 : Int} {a1 : Int} {r : Int}  (hF : word_Signed a0 a1 = some r) : LCs Try.prog 86 #[.int .u32 a0, .int .i64 a1] g (.int .i64 r) := w_word_Signed_  hF
end Go.Proofs.Ytjmmkbehdbpklaa
