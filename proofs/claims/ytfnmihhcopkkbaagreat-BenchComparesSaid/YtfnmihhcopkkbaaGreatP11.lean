/- Functions, lifted. Printed by lift.py. -/
import Derived.Test.YtfnmihhcopkkbaaGreatProg
import Derived.Test.YtfnmihhcopkkbaaGreatP10
import Derived.KernelRfl
namespace Go.Proofs.YtfnmihhcopkkbaaGreat
open Go Go.RowKit Fr
set_option linter.unusedVariables false
set_option linter.unusedSimpArgs false
set_option maxRecDepth 20000
open Tryz
set_option maxHeartbeats 2000000
noncomputable def r5_issue_k3 (X0 : Bool) (D1 : T_Ins) (R0 : Int) : ((List Int) × (List Int) × (List Int) × Int × (List Int) × Int × (List Int) × Int × (List T_Write) × Int × Int × Bool × Int × Bool × Int × Int) → Option (Step (Bool × Int × (List Int) × (List Int) × (List Int) × Int × (List Int) × Int × (List Int) × Int × (List T_Write) × Int × Int) (Step (Bool × (List Int) × (List Int) × (List Int) × Int × (List Int) × Int × (List Int) × Int × (List T_Write) × Int × Int) T_State)) := fun (I0, J0, K0, M0, N0, B0, D0, E0, G0, T0, U0, E1, G1, Y0, Z0, B1) => bif decide (B1 ≠ 0) then some (.done (.next (X0, I0, J0, K0, M0, N0, B0, D0, B1, G0, T0, U0))) else bif E1 then (app' G0 ([(⟨D1.D, G1, IntKind.i64.wrap ((r3_Latency D1.Op) - 1)⟩ : T_Write)] : List T_Write)).bind fun V0 => bif Y0 then some (.next (true, IntKind.i64.wrap (R0 + 1), I0, J0, K0, M0, N0, B0, D0, E0, V0, Z0, 2)) else some (.next (X0, IntKind.i64.wrap (R0 + 1), I0, J0, K0, M0, N0, B0, D0, E0, V0, T0, U0)) else bif Y0 then some (.next (true, IntKind.i64.wrap (R0 + 1), I0, J0, K0, M0, N0, B0, D0, E0, G0, Z0, 2)) else some (.next (X0, IntKind.i64.wrap (R0 + 1), I0, J0, K0, M0, N0, B0, D0, E0, G0, T0, U0))
noncomputable def r5_issue_b2 (x2 : (A4 T_Ins)) (r15 : (List Int)) : (Bool × Int × (List Int) × (List Int) × (List Int) × Int × (List Int) × Int × (List Int) × Int × (List T_Write) × Int × Int) → Option (Step (Bool × Int × (List Int) × (List Int) × (List Int) × Int × (List Int) × Int × (List Int) × Int × (List T_Write) × Int × Int) (Step (Bool × (List Int) × (List Int) × (List Int) × Int × (List Int) × Int × (List Int) × Int × (List T_Write) × Int × Int) T_State)) := fun (I0, E0, J0, K0, M0, N0, R0, G0, T0, U0, V0, X0, Y0) => bif decide (E0 < 4) then (at' [x2.x0, x2.x1, x2.x2, x2.x3] E0).bind fun D0 => cut (σ := ((List Int) × (List Int) × (List Int) × Int × (List Int) × Int × (List Int) × Int × (List T_Write) × Int × Int × Bool × Int × Bool × Int × Int)) ((at' r15 D0.A).bind fun Z0 => (at' r15 D0.B).bind fun B1 => (r5_do (⟨J0, K0, M0, N0, R0, G0, T0, U0, V0, X0, Y0⟩ : T_State) D0 Z0 B1 (imin (IntKind.i64.wrap ((IntKind.i64.wrap (G0 + 1)) + 2)) 1024)).bind fun B0 => some (.next (B0.1.Regs, B0.1.Mem, B0.1.In_, B0.1.Taken, B0.1.Out, B0.1.PC, B0.1.Stack, B0.1.Stop, B0.1.Fly, B0.1.Jump, B0.1.Delay, B0.2.has, B0.2.result, B0.2.jumps, B0.2.to, B0.2.stop))) (r5_issue_k3 I0 D0 E0) else some (.done (.next (I0, J0, K0, M0, N0, R0, G0, T0, U0, V0, X0, Y0)))
noncomputable def r5_issue_b5  : ((List Int) × (List Int) × (List Int) × Int × (List Int) × Int × (List Int) × Int × (List T_Write) × Int × Int) → Option (Step ((List Int) × (List Int) × (List Int) × Int × (List Int) × Int × (List Int) × Int × (List T_Write) × Int × Int) (Step Unit T_State)) := fun (E0, G0, I0, J0, K0, M0, N0, R0, D0, T0, U0) => bif decide (0 < (D0.length : Int)) then (r5_lands (⟨E0, G0, I0, J0, K0, M0, N0, R0, D0, T0, U0⟩ : T_State)).bind fun B0 => some (.next (B0.Regs, B0.Mem, B0.In_, B0.Taken, B0.Out, B0.PC, B0.Stack, B0.Stop, B0.Fly, B0.Jump, B0.Delay)) else some (.done (.done ((⟨E0, G0, I0, J0, K0, M0, N0, R0, D0, T0, U0⟩ : T_State))))
noncomputable def r5_issue_k4 (D0 : Int) (E0 : (List Int)) (G0 : (List Int)) (I0 : (List Int)) (J0 : Int) (K0 : (List Int)) (T0 : Int) (M0 : (List Int)) (N0 : (List T_Write)) (R0 : Int) (B0 : Int) (U0 : Bool) : Unit → Option T_State := fun _ => bif decide (D0 ≠ 0) then some (⟨E0, G0, I0, J0, K0, T0, M0, D0, N0, R0, B0⟩ : T_State) else bif !U0 then bif decide (0 < B0) then bif decide ((IntKind.i64.wrap (B0 - 1)) = 0) then some (⟨E0, G0, I0, J0, K0, R0, M0, D0, N0, 0, IntKind.i64.wrap (B0 - 1)⟩ : T_State) else some (⟨E0, G0, I0, J0, K0, IntKind.i64.wrap (T0 + 1), M0, D0, N0, R0, IntKind.i64.wrap (B0 - 1)⟩ : T_State) else some (⟨E0, G0, I0, J0, K0, IntKind.i64.wrap (T0 + 1), M0, D0, N0, R0, B0⟩ : T_State) else some (⟨E0, G0, I0, J0, K0, IntKind.i64.wrap (T0 + 1), M0, D0, N0, R0, B0⟩ : T_State)
noncomputable def r5_issue_k1  : (Bool × (List Int) × (List Int) × (List Int) × Int × (List Int) × Int × (List Int) × Int × (List T_Write) × Int × Int) → Option T_State := fun (U0, D0, E0, G0, I0, J0, K0, M0, B0, N0, R0, T0) => cut (σ := Unit) (bif decide (B0 = 1) then loop (σ := ((List Int) × (List Int) × (List Int) × Int × (List Int) × Int × (List Int) × Int × (List T_Write) × Int × Int)) (r5_issue_b5) (D0, E0, G0, I0, J0, K0, M0, B0, N0, R0, T0) else some (.next ())) (r5_issue_k4 B0 D0 E0 G0 I0 J0 K0 M0 N0 R0 T0 U0)
noncomputable def r5_issue (a0 : (List (A4 T_Ins))) (a1 : T_State) : Option T_State :=
  bif decide ((a0.length : Int) ≤ a1.PC) then some (⟨a1.Regs, a1.Mem, a1.In_, a1.Taken, a1.Out, a1.PC, a1.Stack, 5, a1.Fly, a1.Jump, a1.Delay⟩ : T_State) else (at' a0 a1.PC).bind fun x2 => (r0_CopyWords a1.Regs).bind fun r15 => cut (σ := (Bool × (List Int) × (List Int) × (List Int) × Int × (List Int) × Int × (List Int) × Int × (List T_Write) × Int × Int)) (loop (σ := (Bool × Int × (List Int) × (List Int) × (List Int) × Int × (List Int) × Int × (List Int) × Int × (List T_Write) × Int × Int)) (r5_issue_b2 x2 r15) (false, 0, a1.Regs, a1.Mem, a1.In_, a1.Taken, a1.Out, a1.PC, a1.Stack, a1.Stop, a1.Fly, a1.Jump, a1.Delay)) (r5_issue_k1)
theorem w_r5_issue_ {g : Frag} {a0 : (List (A4 T_Ins))} {v0_ : Value} {a1 : T_State} {b1_ : Nat} {LB1_ : Own} {r : T_State} (h0 : SlT g enc_Bundle 24 a0 v0_) (h1 : Bx_State b1_ a1 LB1_) (hF : r5_issue a0 a1 = some r) : LC Tryz.prog 42 #[v0_, .pointer (some ⟨b1_, 0, none⟩)] g LB1_ (fun v L => ∃ (LB' : Own), v = .tuple #[] ∧ L = (LB' ++ []) ∧ Bx_State b1_ r LB') := by
 obtain ⟨I7, J7, K7, B6, D6, E6, Ia, Ja, U9, V9, X9, Y9, Ec, N4, M7, G6, I6, J6, K6⟩ := h1
 unfold r5_issue at hF
 refine lc_body (k := 155) (av := [v0_, .pointer (some ⟨b1_, 0, none⟩)]) func42 rfl rfl (h := fun W hS => ?_)
 have hS := hS.own_eq Ec
 iterate 2 (refine c_seq ?_)
 refine c_region <| oy hS y_move <| oy hS y_nilCheck <| oy hS (y_field fa_api_State_5) <| oy hS (y_load oH underlying3 rfl rfl) <| oy hS y_move <| oy hS (y_len h0 underlying38) <| oy hS y_bin ?_
 refine n_thenN ?_
 refine c_if (ht := fun c1 => ?_) (hf := fun c1 => ?_)
 · replace hF := bt c1 hF
   refine c_seq <| c_region <| oy hS y_move <| oy hS y_nilCheck <| oy hS (y_field fa_api_State_7) ?_
   refine o_storeA1 (o := 7) (cl' := (cl_State I7 J7 K7 a1.Taken B6 a1.PC D6 5 E6 a1.Jump a1.Delay)) hS (by kernel_rfl) (by exact Nat.le_of_ble_eq_true rfl) (Upd.here _) (by exact sz_int) rfl rfl ?_
   clear hS; intro w hS
   refine n_thenN ?_
   obtain rfl := osi hF
   refine wp_ret (r_ret (vs := []) (hS.re (.b .hb (.t .h (.t .h (.t .h (.t .h (.t .h (.t .h .n)))))))) rsN rfl ⟨_, rfl, (by first | rfl | simp only [aa, ac, al, an]), ⟨_, _, _, _, _, _, _, _, _, _, _, _, rfl, N4, M7, G6, I6, J6, K6⟩⟩)
 replace hF := bf c1 hF
 refine wp_skip <| c_seq <| c_region ?_
 iterate 2 (refine oy hS y_move ?_)
 refine oy hS y_nilCheck <| oy hS (y_field fa_api_State_5) <| oy hS (y_load oH underlying3 rfl rfl) ?_
 obtain ⟨x2, hx2, hF⟩ := ob hF
 obtain ⟨b3, o4, c5, cs6, e7, fz8, hv9, Gc, Ic, Jc, Kc⟩ := SlT.at hx2 h0 enc_len_Bundle
 refine oy hS (y_index hv9 Gc Ic underlying38 el_api_Bundle.size) ?_
 refine oy hS (y_loadN (vs := (enc_Bundle x2)) (fun w hS => hS.block Jc) underlying83 rfl (by exact sz_api_Bundle) (fun j u hj => Kc j u hj)) ?_
 refine o_allocP (cl := (enc_Bundle ⟨(⟨0, 0, 0, 0, 0, ByteArray.empty⟩ : T_Ins), (⟨0, 0, 0, 0, 0, ByteArray.empty⟩ : T_Ins), (⟨0, 0, 0, 0, 0, ByteArray.empty⟩ : T_Ins), (⟨0, 0, 0, 0, 0, ByteArray.empty⟩ : T_Ins)⟩)) zr_api_Bundle rfl hS ?_
 clear hS; intro b14 w hS
 refine o_storeW (vs := (enc_Bundle x2)) hS (by exact rfl) (Upd.here _) (by exact sz_api_Bundle) (enc_one_Bundle _) ?_
 clear hS; intro w hS
 refine n_thenN <| c_seq <| c_region <| oy hS y_move <| oy hS y_nilCheck <| oy hS (y_field fa_api_State_0) <| oy hS (y_load (fun w hS => hS.own (mC (mH))) underlying31 rfl rfl) ?_
 obtain ⟨r15, Mc, hF⟩ := ob hF
 refine o_call0 hS func67 rfl rfl (hc := (w_r0_CopyWords (a0 := a1.Regs) (h0 := (OwT.plus N4 hS (fun p hp => mC (mC (mA (hp)))))) (hF := Mc))) (h := ?_)
 clear hS; intro v16 Xd w hS Nc
 obtain ⟨v_0_19, LX_0_20, rfl, rfl, h_0_21⟩ := Nc
 simp only [aa, ac, al] at hS
 refine oy hS y_assign <| n_thenN <| c_seq <| c_region <| oy hS y_assign <| n_thenN ?_
 obtain ⟨Va, hF, Na⟩ := cut_step hF
 refine c_cutP (fun a w' => ∃ (M6 : Bool) (N7 : (List Int)) (R7 : (List Int)) (T7 : (List Int)) (J1 : Int) (U7 : (List Int)) (Y2 : Int) (V7 : (List Int)) (K1 : Int) (X7 : (List T_Write)) (I1 : Int) (M1 : Int) (N1 : Value) (R1 : Value) (T1 : Value) (U1 : Value) (V1 : Value) (X1 : Value) (R3 : Own) (T3 : Own) (U3 : Own) (V3 : Own) (X3 : Own) (Y3 : Own), r5_issue_k1 (M6, N7, R7, T7, J1, U7, Y2, V7, K1, X7, I1, M1) = some r ∧ OwT 87 enc_uint32 1 N7 N1 R3 ∧ OwT 87 enc_uint32 1 R7 R1 T3 ∧ OwT 87 enc_uint32 1 T7 T1 U3 ∧ OwT 87 enc_uint32 1 U7 U1 V3 ∧ OwT 3 enc_int 1 V7 V1 X3 ∧ OwT 89 enc_Write 3 X7 X1 Y3 ∧ (∃ s : Nat → Value, a = Ac (((Fm.dead 155 s).upd 1 (.pointer (some ⟨b1_, 0, none⟩))).upd 6 (.bool M6))) ∧ St W g LB1_ ((b1_, blk (cl_State N1 R1 T1 J1 U1 Y2 V1 K1 X1 I1 M1) 62) :: (R3 ++ (T3 ++ (U3 ++ (V3 ++ (X3 ++ (Y3 ++ []))))))) w') ?_ ?_
 · skip
   refine c_seq <| c_region <| oy hS y_assign <| n_thenN <| c_block ?_
   refine c_loopP hF (fun (q : (Bool × Int × (List Int) × (List Int) × (List Int) × Int × (List Int) × Int × (List Int) × Int × (List T_Write) × Int × Int)) a w' => ∃ (Z2 : Value) (B3 : Value) (D3 : Value) (E3 : Value) (G3 : Value) (I3 : Value) (Y1 : Own) (Z1 : Own) (B2 : Own) (D2 : Own) (E2 : Own) (G2 : Own), OwT 87 enc_uint32 1 q.2.2.1 Z2 Y1 ∧ OwT 87 enc_uint32 1 q.2.2.2.1 B3 Z1 ∧ OwT 87 enc_uint32 1 q.2.2.2.2.1 D3 B2 ∧ OwT 87 enc_uint32 1 q.2.2.2.2.2.2.1 E3 D2 ∧ OwT 3 enc_int 1 q.2.2.2.2.2.2.2.2.1 G3 E2 ∧ OwT 89 enc_Write 3 q.2.2.2.2.2.2.2.2.2.2.1 I3 G2 ∧ (∃ s : Nat → Value, a = Ac ((((((Fm.dead 155 s).upd 1 (.pointer (some ⟨b1_, 0, none⟩))).upd 4 (.pointer (some ⟨b14, 0, none⟩))).upd 5 v_0_19).upd 6 (.bool q.1)).upd 7 (.int .i64 q.2.1))) ∧ St W g LB1_ ((b1_, blk (cl_State Z2 B3 D3 q.2.2.2.2.2.1 E3 q.2.2.2.2.2.2.2.1 G3 q.2.2.2.2.2.2.2.2.2.1 I3 q.2.2.2.2.2.2.2.2.2.2.2.1 q.2.2.2.2.2.2.2.2.2.2.2.2) 62) :: ((b14, blk (enc_Bundle x2) 83) :: (Y1 ++ (Z1 ++ (B2 ++ (D2 ++ (E2 ++ (G2 ++ (LX_0_20 ++ []))))))))) w') ⟨I7, J7, K7, B6, D6, E6, Ia, Ja, U9, V9, X9, Y9, N4, M7, G6, I6, J6, K6, mk_exF, (hS.re (.b (.d (.e .hb)) (.b (.d .hb) (.t (.d .h) (.t (.d .h) (.t (.d .h) (.t (.d .h) (.t (.d .h) (.t (.d .h) (.t .h .n))))))))))⟩ ?_
   clear hS hF
   intro Yd q a w hI hq
   obtain ⟨Y7, Xa, R4, T4, U4, J3, V4, I2, X4, K3, Y4, M3, N3⟩ := q
   obtain ⟨Z2, B3, D3, E3, G3, I3, Y1, Z1, B2, D2, E2, G2, N6, R6, T6, U6, V6, X6, ⟨Zd, rfl⟩, hS⟩ := hq
   replace N6 : OwT 87 enc_uint32 1 R4 Z2 Y1 := N6
   replace R6 : OwT 87 enc_uint32 1 T4 B3 Z1 := R6
   replace T6 : OwT 87 enc_uint32 1 U4 D3 B2 := T6
   replace U6 : OwT 87 enc_uint32 1 V4 E3 D2 := U6
   replace V6 : OwT 3 enc_int 1 X4 G3 E2 := V6
   replace X6 : OwT 89 enc_Write 3 Y4 I3 G2 := X6
   obtain ⟨Rc, hF, V2⟩ := iter_step hI
   clear hI
   dsimp only [r5_issue_b2] at hF
   iterate 2 (refine c_seq ?_)
   refine c_region <| oy hS y_move <| oy hS y_bin <| n_thenN ?_
   refine c_if (ht := fun Ka => ?_) (hf := fun Ka => ?_)
   · replace hF := bt Ka hF
     refine wp_skip <| c_seq <| c_block <| c_seq <| c_region <| oy hS y_move ?_
     obtain ⟨E0, Z7, hF⟩ := ob hF
     refine oy hS (y_indexA (at'_bnd Z7 rfl).1 (at'_bnd Z7 (n := 4) rfl).2 underlying83 (by exact sz_api_Ins)) ?_
     refine oy hS (y_loadN (vs := (enc_Ins E0)) (fun w hS => hS.own (mC (mH))) underlying81 rfl (by exact sz_api_Ins) (arr_box (o := 0) (xs := [x2.x0, x2.x1, x2.x2, x2.x3]) (pre := []) (post := []) Z7 enc_len_Ins (by exact rfl) rfl)) ?_
     refine o_allocP (cl := (enc_Ins ⟨0, 0, 0, 0, 0, ByteArray.empty⟩)) zr_api_Ins rfl hS ?_
     clear hS; intro Ma w hS
     refine o_storeW (vs := (enc_Ins E0)) hS (by exact rfl) (Upd.here _) (by exact sz_api_Ins) (enc_one_Ins _) ?_
     clear hS; intro w hS
     refine n_thenN ?_
     obtain ⟨Zc, hF, Z9⟩ := cut_step hF
     refine c_cutP (fun a w' => ∃ (B8 : (List Int)) (D8 : (List Int)) (E8 : (List Int)) (D1 : Int) (G8 : (List Int)) (M0 : Int) (J5 : (List Int)) (U0 : Int) (K5 : (List T_Write)) (J2 : Int) (V0 : Int) (M5 : Bool) (E1 : Int) (N5 : Bool) (G1 : Int) (X2 : Int) (G0 : Value) (I0 : Value) (J0 : Value) (K0 : Value) (D0 : Value) (R0 : Value) (X0 : Own) (Y0 : Own) (Z0 : Own) (B1 : Own) (N0 : Own) (T0 : Own) (I8 : Nat), r5_issue_k3 Y7 E0 Xa (B8, D8, E8, D1, G8, M0, J5, U0, K5, J2, V0, M5, E1, N5, G1, X2) = some Rc ∧ OwT 87 enc_uint32 1 B8 G0 X0 ∧ OwT 87 enc_uint32 1 D8 I0 Y0 ∧ OwT 87 enc_uint32 1 E8 J0 Z0 ∧ OwT 87 enc_uint32 1 G8 K0 B1 ∧ OwT 3 enc_int 1 J5 D0 N0 ∧ OwT 89 enc_Write 3 K5 R0 T0 ∧ (∃ s : Nat → Value, a = Ac ((((((((Fm.dead 155 s).upd 1 (.pointer (some ⟨b1_, 0, none⟩))).upd 4 (.pointer (some ⟨b14, 0, none⟩))).upd 5 v_0_19).upd 6 (.bool Y7)).upd 7 (.int .i64 Xa)).upd 8 (.pointer (some ⟨Ma, 0, none⟩))).upd 9 (.pointer (some ⟨I8, 0, none⟩)))) ∧ St W g LB1_ ((b1_, blk (cl_State G0 I0 J0 D1 K0 M0 D0 U0 R0 J2 V0) 62) :: ((b14, blk (enc_Bundle x2) 83) :: ((Ma, blk (enc_Ins E0) 81) :: ((I8, blk (enc_deed ⟨M5, E1, N5, G1, X2⟩) 122) :: (X0 ++ (Y0 ++ (Z0 ++ (B1 ++ (N0 ++ (T0 ++ (LX_0_20 ++ []))))))))))) w') ?_ ?_
     · skip
       obtain ⟨Ra, Ya, hF⟩ := ob hF
       obtain ⟨Bd, Dd, Tc, Za, Bb, Db, Eb, Gb⟩ := OwT.at Ya h_0_21 enc_len_uint32
       obtain ⟨Ta, Ib, hF⟩ := ob hF
       obtain ⟨Ed, Gd, Uc, Jb, Kb, Mb, Nb, Rb⟩ := OwT.at Ib h_0_21 enc_len_uint32
       obtain ⟨B0, Ba, hF⟩ := ob hF
       refine c_heldL 19 22 (by kernel_rfl) rfl hS ?_
       clear hS; intro w hS
       refine hy0 0 rfl wn (by kernel_rfl) (nq (P := Tryz.prog) (fn := Tryz.f42)) (fun _ => hS.cb) y_move ?_
       refine hy 1 rfl wn (by kernel_rfl) (nq (P := Tryz.prog) (fn := Tryz.f42)) hS.cb (y_loadW (fun w hS => hS.own (mH)) underlying81 rfl (by exact sz_api_Ins)) ?_
       refine hy0 2 rfl wn (by kernel_rfl) (nq (P := Tryz.prog) (fn := Tryz.f42)) (fun _ => hS.cb) y_move ?_
       refine hy0 3 rfl wn (by kernel_rfl) (nq (P := Tryz.prog) (fn := Tryz.f42)) (fun _ => hS.cb) (y_field fa_api_Ins_2) ?_
       refine hy 4 rfl wn (by kernel_rfl) (nq (P := Tryz.prog) (fn := Tryz.f42)) hS.cb (y_load (fun w hS => hS.own (mH)) underlying3 rfl rfl) ?_
       refine hy0 5 rfl wn (by kernel_rfl) (nq (P := Tryz.prog) (fn := Tryz.f42)) (fun _ => hS.cb) (y_index Za Bb Db underlying31 el_uint32.size) ?_
       refine hy 6 rfl wn (by kernel_rfl) (nq (P := Tryz.prog) (fn := Tryz.f42)) hS.cb (y_load (fun w hS => hS.own (mC (mC (mC (mB (mB (mB (mB (mB (mB (mA (mX Eb)))))))))))) underlying87 rfl (Gb 0 _ rfl)) ?_
       refine hy0 7 rfl wn (by kernel_rfl) (nq (P := Tryz.prog) (fn := Tryz.f42)) (fun _ => hS.cb) y_move ?_
       refine hy0 8 rfl wn (by kernel_rfl) (nq (P := Tryz.prog) (fn := Tryz.f42)) (fun _ => hS.cb) (y_field fa_api_Ins_3) ?_
       refine hy 9 rfl wn (by kernel_rfl) (nq (P := Tryz.prog) (fn := Tryz.f42)) hS.cb (y_load (fun w hS => hS.own (mH)) underlying3 rfl rfl) ?_
       refine hy0 10 rfl wn (by kernel_rfl) (nq (P := Tryz.prog) (fn := Tryz.f42)) (fun _ => hS.cb) (y_index Jb Kb Mb underlying31 el_uint32.size) ?_
       refine hy 11 rfl wn (by kernel_rfl) (nq (P := Tryz.prog) (fn := Tryz.f42)) hS.cb (y_load (fun w hS => hS.own (mC (mC (mC (mB (mB (mB (mB (mB (mB (mA (mX Nb)))))))))))) underlying87 rfl (Rb 0 _ rfl)) ?_
       refine hy0 12 rfl wn (by kernel_rfl) (nq (P := Tryz.prog) (fn := Tryz.f42)) (fun _ => hS.cb) y_move ?_
       refine hy0 13 rfl wn (by kernel_rfl) (nq (P := Tryz.prog) (fn := Tryz.f42)) (fun _ => hS.cb) y_nilCheck ?_
       refine hy0 14 rfl wn (by kernel_rfl) (nq (P := Tryz.prog) (fn := Tryz.f42)) (fun _ => hS.cb) (y_field fa_api_State_5) ?_
       refine hy 15 rfl wn (by kernel_rfl) (nq (P := Tryz.prog) (fn := Tryz.f42)) hS.cb (y_load (fun w hS => hS.own (mC (mH))) underlying3 rfl rfl) ?_
       refine hy0 16 rfl wn (by kernel_rfl) (nq (P := Tryz.prog) (fn := Tryz.f42)) (fun _ => hS.cb) y_bin ?_
       refine hy0 17 rfl wn (by kernel_rfl) (nq (P := Tryz.prog) (fn := Tryz.f42)) (fun _ => hS.cb) y_bin ?_
       refine hy0 18 rfl wn (by kernel_rfl) (nq (P := Tryz.prog) (fn := Tryz.f42)) (fun _ => hS.cb) y_min ?_
       refine hb2 19 20 (by kernel_rfl) (hb_op rfl wn (nl (P := Tryz.prog) (fn := Tryz.f42)) ?_) (hb_op rfl wn (nl (P := Tryz.prog) (fn := Tryz.f42)) ?_)
       · skip
         have hS := hS.re (.b (.e .hb) (.t (.e (.e .h)) (.t (.e (.e .h)) (.t (.e (.e .h)) (.t (.e (.e .h)) (.t (.e (.e .h)) (.t (.e (.e .h)) (.b .hb (.b .hb (.t .h .n))))))))))
         have hS2 := hS.spl (.cons _ (.app _ (.app _ (.app _ (.app _ (.app _ (.app _ (.nil _))))))))
         refine o_call hS2 func74 rfl rfl (hc := (w_r5_do (a0 := (⟨R4, T4, U4, J3, V4, I2, X4, K3, Y4, M3, N3⟩ : T_State)) (a1 := E0) (a2 := Ra) (a3 := Ta) (a4 := (imin (IntKind.i64.wrap ((IntKind.i64.wrap (I2 + 1)) + 2)) 1024)) (h0 := (⟨_, _, _, _, _, _, _, _, _, _, _, _, rfl, N6, R6, T6, U6, V6, X6⟩ : Bx_State b1_ (⟨R4, T4, U4, J3, V4, I2, X4, K3, Y4, M3, N3⟩ : T_State) ((b1_, blk (cl_State Z2 B3 D3 J3 E3 I2 G3 K3 I3 M3 N3) 62) :: (Y1 ++ (Z1 ++ (B2 ++ (D2 ++ (E2 ++ (G2 ++ []))))))))) (hF := Ba))) (h := ?_)
         clear hS; intro Zb Tb w hS Y6
         clear hS2
         obtain ⟨Ub, rfl, rfl, Z6⟩ := Y6
         obtain ⟨vB_0_1045, vB_1_1049, vB_2_1053, vB_4_1057, vB_6_1061, vB_8_1065, LXB_0_1046, LXB_1_1050, LXB_2_1054, LXB_4_1058, LXB_6_1062, LXB_8_1066, rfl, hB_0_1047, hB_1_1051, hB_2_1055, hB_4_1059, hB_6_1063, hB_8_1067⟩ := Z6
         simp only [aa, ac, al] at hS
         refine hb_next (fun h => absurd h (by decide)) ?_
         refine hb1 20 (by kernel_rfl) (hb_op rfl wn (nl (P := Tryz.prog) (fn := Tryz.f42)) ?_)
         refine o_allocP (cl := (enc_deed ⟨false, 0, false, 0, 0⟩)) zr_sledgeref5_deed rfl hS ?_
         clear hS; intro J8 w hS
         refine hb_next (fun h => absurd h (by decide)) ?_
         refine hb1 21 (by kernel_rfl) (hb_op rfl wn (nl (P := Tryz.prog) (fn := Tryz.f42)) ?_)
         refine o_storeW (vs := (enc_deed B0.2)) hS (by exact rfl) (Upd.here _) (by exact sz_sledgeref5_deed) (enc_one_deed _) ?_
         clear hS; intro w hS
         refine hb_next (fun h => absurd h (by decide)) ?_
         refine hb_done (by kernel_rfl) ?_
         obtain rfl := osi hF
         change ∃ _, _
         exact ⟨B0.1.Regs, B0.1.Mem, B0.1.In_, B0.1.Taken, B0.1.Out, B0.1.PC, B0.1.Stack, B0.1.Stop, B0.1.Fly, B0.1.Jump, B0.1.Delay, B0.2.has, B0.2.result, B0.2.jumps, B0.2.to, B0.2.stop, vB_0_1045, vB_1_1049, vB_2_1053, vB_4_1057, vB_6_1061, vB_8_1065, LXB_0_1046, LXB_1_1050, LXB_2_1054, LXB_4_1058, LXB_6_1062, LXB_8_1066, J8, Z9, hB_0_1047, hB_1_1051, hB_2_1055, hB_4_1059, hB_6_1063, hB_8_1067, mk_exF, (hS.re (.b (.e .hb) (.b (.e (.d (.d (.d (.d (.d (.d (.e .hb)))))))) (.b (.e (.d (.d (.d (.d (.d (.d .hb))))))) (.b .hb (.t .h (.t .h (.t .h (.t .h (.t .h (.t .h (.t .h .n))))))))))))⟩
       refine o_allocP (cl := (enc_deed ⟨false, 0, false, 0, 0⟩)) zr_sledgeref5_deed rfl hS ?_
       clear hS; intro J8 w hS
       refine hb_next (fun _ => (hS.re (.b (.e .hb) (.b (.e .hb) (.b (.e .hb) (.t (.e .h) (.t (.e .h) (.t (.e .h) (.t (.e .h) (.t (.e .h) (.t (.e .h) (.t (.e .h) .n))))))))))).cb) ?_
       refine hb1 19 (by kernel_rfl) (hb_op rfl wn (nl (P := Tryz.prog) (fn := Tryz.f42)) ?_)
       have hS := hS.re (.b (.e (.e .hb)) (.t (.e (.e (.e .h))) (.t (.e (.e (.e .h))) (.t (.e (.e (.e .h))) (.t (.e (.e (.e .h))) (.t (.e (.e (.e .h))) (.t (.e (.e (.e .h))) (.b .hb (.b .hb (.b .hb (.t .h .n)))))))))))
       have hS2 := hS.spl (.cons _ (.app _ (.app _ (.app _ (.app _ (.app _ (.app _ (.nil _))))))))
       refine o_call hS2 func74 rfl rfl (hc := (w_r5_do (a0 := (⟨R4, T4, U4, J3, V4, I2, X4, K3, Y4, M3, N3⟩ : T_State)) (a1 := E0) (a2 := Ra) (a3 := Ta) (a4 := (imin (IntKind.i64.wrap ((IntKind.i64.wrap (I2 + 1)) + 2)) 1024)) (h0 := (⟨_, _, _, _, _, _, _, _, _, _, _, _, rfl, N6, R6, T6, U6, V6, X6⟩ : Bx_State b1_ (⟨R4, T4, U4, J3, V4, I2, X4, K3, Y4, M3, N3⟩ : T_State) ((b1_, blk (cl_State Z2 B3 D3 J3 E3 I2 G3 K3 I3 M3 N3) 62) :: (Y1 ++ (Z1 ++ (B2 ++ (D2 ++ (E2 ++ (G2 ++ []))))))))) (hF := Ba))) (h := ?_)
       clear hS; intro Zb Tb w hS Y6
       clear hS2
       obtain ⟨Ub, rfl, rfl, Z6⟩ := Y6
       obtain ⟨vB_0_1045, vB_1_1049, vB_2_1053, vB_4_1057, vB_6_1061, vB_8_1065, LXB_0_1046, LXB_1_1050, LXB_2_1054, LXB_4_1058, LXB_6_1062, LXB_8_1066, rfl, hB_0_1047, hB_1_1051, hB_2_1055, hB_4_1059, hB_6_1063, hB_8_1067⟩ := Z6
       simp only [aa, ac, al] at hS
       refine hb_next (fun h => absurd h (by decide)) ?_
       refine hb1 21 (by kernel_rfl) (hb_op rfl wn (nl (P := Tryz.prog) (fn := Tryz.f42)) ?_)
       have hS := hS.re (.b (.e (.d (.d (.d (.d (.d (.d .hb))))))) (.b .hb (.t .h (.t .h (.t .h (.t .h (.t .h (.t .h (.b .hb (.b .hb (.t .h .n)))))))))))
       refine o_storeW (vs := (enc_deed B0.2)) hS (by exact rfl) (Upd.here _) (by exact sz_sledgeref5_deed) (enc_one_deed _) ?_
       clear hS; intro w hS
       refine hb_next (fun h => absurd h (by decide)) ?_
       refine hb_done (by kernel_rfl) ?_
       obtain rfl := osi hF
       change ∃ _, _
       exact ⟨B0.1.Regs, B0.1.Mem, B0.1.In_, B0.1.Taken, B0.1.Out, B0.1.PC, B0.1.Stack, B0.1.Stop, B0.1.Fly, B0.1.Jump, B0.1.Delay, B0.2.has, B0.2.result, B0.2.jumps, B0.2.to, B0.2.stop, vB_0_1045, vB_1_1049, vB_2_1053, vB_4_1057, vB_6_1061, vB_8_1065, LXB_0_1046, LXB_1_1050, LXB_2_1054, LXB_4_1058, LXB_6_1062, LXB_8_1066, J8, Z9, hB_0_1047, hB_1_1051, hB_2_1055, hB_4_1059, hB_6_1063, hB_8_1067, mk_exF, (hS.re (.b (.e .hb) (.b (.e (.d (.d (.d (.d (.d (.d (.e .hb)))))))) (.b (.e (.d (.d (.d (.d (.d (.d .hb))))))) (.b .hb (.t .h (.t .h (.t .h (.t .h (.t .h (.t .h (.t .h .n))))))))))))⟩
     rintro a w ⟨B8, D8, E8, D1, G8, M0, J5, U0, K5, J2, V0, M5, E1, N5, G1, X2, G0, I0, J0, K0, D0, R0, X0, Y0, Z0, B1, N0, T0, I8, hF, B7, D7, E7, G7, Z3, R5, ⟨Id, rfl⟩, hS⟩
     dsimp only [r5_issue_k3] at hF
     iterate 2 (refine c_seq ?_)
     refine c_region <| oy hS (y_field fa_sledgeref5_deed_4) <| oy hS (y_load (fun w hS => hS.own (mC (mC (mC (mH))))) underlying3 rfl rfl) <| oy hS y_bin <| n_thenN ?_
     refine c_if (ht := fun K8 => ?_) (hf := fun K8 => ?_)
     · replace hF := bt K8 hF
       refine c_seq <| c_region <| oy hS y_move <| oy hS (y_field fa_sledgeref5_deed_4) <| oy hS (y_load (fun w hS => hS.own (mC (mC (mC (mH))))) underlying3 rfl rfl) <| oy hS y_nilCheck <| oy hS (y_field fa_api_State_7) ?_
       refine o_storeA1 (o := 7) (cl' := (cl_State G0 I0 J0 D1 K0 M0 D0 X2 R0 J2 V0)) hS (by kernel_rfl) (by exact Nat.le_of_ble_eq_true rfl) (Upd.here _) (by exact sz_int) rfl rfl ?_
       clear hS; intro w hS
       refine n_thenN ?_
       refine wp_exit ?_
       obtain rfl := osi hF
       obtain rfl : _ = Va := V2
       change ∃ _, _
       exact ⟨Y7, B8, D8, E8, D1, G8, M0, J5, X2, K5, J2, V0, G0, I0, J0, K0, D0, R0, X0, Y0, Z0, B1, N0, T0, Na, B7, D7, E7, G7, Z3, R5, mk_exF, (hS.re (.b .hb (.t (.e (.e (.e .h))) (.t (.e (.e (.e .h))) (.t (.e (.e (.e .h))) (.t (.e (.e (.e .h))) (.t (.e (.e (.e .h))) (.t (.e (.e (.e .h))) .n))))))))⟩
     replace hF := bf K8 hF
     refine wp_skip ?_
     iterate 2 (refine c_seq ?_)
     refine c_region <| oy hS (y_field fa_sledgeref5_deed_0) <| oy hS (y_load (fun w hS => hS.own (mC (mC (mC (mH))))) underlying4 rfl rfl) <| n_thenN ?_
     refine c_if (ht := fun M8 => ?_) (hf := fun M8 => ?_)
     · replace hF := bt M8 hF
       refine c_heldL 15 19 (by kernel_rfl) rfl hS ?_
       clear hS; intro w hS
       refine hy0 0 rfl wn (by kernel_rfl) (nq (P := Tryz.prog) (fn := Tryz.f42)) (fun _ => hS.cb) y_move ?_
       refine hy0 1 rfl wn (by kernel_rfl) (nq (P := Tryz.prog) (fn := Tryz.f42)) (fun _ => hS.cb) y_move ?_
       refine hy0 2 rfl wn (by kernel_rfl) (nq (P := Tryz.prog) (fn := Tryz.f42)) (fun _ => hS.cb) y_nilCheck ?_
       refine hy0 3 rfl wn (by kernel_rfl) (nq (P := Tryz.prog) (fn := Tryz.f42)) (fun _ => hS.cb) (y_field fa_api_State_8) ?_
       refine hy 4 rfl wn (by kernel_rfl) (nq (P := Tryz.prog) (fn := Tryz.f42)) hS.cb (y_load (fun w hS => hS.own (mH)) underlying60 rfl rfl) ?_
       refine hy0 5 rfl wn (by kernel_rfl) (nq (P := Tryz.prog) (fn := Tryz.f42)) (fun _ => hS.cb) (y_field fa_api_Ins_1) ?_
       refine hy 6 rfl wn (by kernel_rfl) (nq (P := Tryz.prog) (fn := Tryz.f42)) hS.cb (y_load (fun w hS => hS.own (mC (mC (mH)))) underlying3 rfl rfl) ?_
       refine hy0 7 rfl wn (by kernel_rfl) (nq (P := Tryz.prog) (fn := Tryz.f42)) (fun _ => hS.cb) (y_field fa_sledgeref5_deed_1) ?_
       refine hy 8 rfl wn (by kernel_rfl) (nq (P := Tryz.prog) (fn := Tryz.f42)) hS.cb (y_load (fun w hS => hS.own (mC (mC (mC (mH))))) underlying87 rfl rfl) ?_
       refine hy0 9 rfl wn (by kernel_rfl) (nq (P := Tryz.prog) (fn := Tryz.f42)) (fun _ => hS.cb) (y_field fa_api_Ins_0) ?_
       refine hy 10 rfl wn (by kernel_rfl) (nq (P := Tryz.prog) (fn := Tryz.f42)) hS.cb (y_load (fun w hS => hS.own (mC (mC (mH)))) underlying3 rfl rfl) ?_
       refine hb1 11 (by kernel_rfl) (hb_op rfl wn (nl (P := Tryz.prog) (fn := Tryz.f42)) ?_)
       refine o_callS hS func75 rfl rfl (hc := (w_r3_Latency (a0 := E0.Op))) (h := ?_)
       clear hS; intro w hS
       refine hb_next (fun _ => hS.cb) ?_
       refine hy0 12 rfl wn (by kernel_rfl) (nq (P := Tryz.prog) (fn := Tryz.f42)) (fun _ => hS.cb) y_bin ?_
       refine hy0 13 rfl wn (by kernel_rfl) (nq (P := Tryz.prog) (fn := Tryz.f42)) (fun _ => hS.cb) (y_build (cl := (enc_Write ⟨E0.D, E1, IntKind.i64.wrap ((r3_Latency E0.Op) - 1)⟩)) bt_api_Write rfl (by kernel_rfl)) ?_
       refine hb1 14 (by kernel_rfl) (hb_op rfl wn (nl (P := Tryz.prog) (fn := Tryz.f42)) ?_)
       refine o_buildT val_Write ([(⟨E0.D, E1, IntKind.i64.wrap ((r3_Latency E0.Op) - 1)⟩ : T_Write)] : List T_Write) hS el_api_Write (fun _ => rfl) enc_len_Write (by decide) rfl (by decide) (hp := rfl) (h := ?_)
       clear hS; intro Bc w hS Jd
       have hS : St W g LB1_ ([(Bc, blk (([(⟨E0.D, E1, IntKind.i64.wrap ((r3_Latency E0.Op) - 1)⟩ : T_Write)] : List T_Write).flatMap enc_Write) 89)] ++ ((b1_, blk (cl_State G0 I0 J0 D1 K0 M0 D0 U0 R0 J2 V0) 62) :: ((b14, blk (enc_Bundle x2) 83) :: ((Ma, blk (enc_Ins E0) 81) :: ((I8, blk (enc_deed ⟨M5, E1, N5, G1, X2⟩) 122) :: (X0 ++ (Y0 ++ (Z0 ++ (B1 ++ (N0 ++ (T0 ++ (LX_0_20 ++ [])))))))))))) w := hS
       refine hb_next (fun _ => (hS.re (.b (.d .hb) (.b (.d .hb) (.b (.d .hb) (.b (.d .hb) (.t (.d .h) (.t (.d .h) (.t (.d .h) (.t (.d .h) (.t (.d .h) (.t (.d .h) (.t (.d .h) .n)))))))))))).cb) ?_
       refine hb1 15 (by kernel_rfl) (hb_op rfl wn (nl (P := Tryz.prog) (fn := Tryz.f42)) ?_)
       obtain ⟨Vc, Ua, hF⟩ := ob hF
       have hS := hS.re (.t .h (.t (.e (.e (.e (.e (.d (.d (.d (.d (.d .h))))))))) (.b .hb (.b .hb (.b .hb (.b .hb (.t .h (.t .h (.t .h (.t .h (.t .h (.t .h .n))))))))))))
       refine o_appPn (ys := ([(⟨E0.D, E1, IntKind.i64.wrap ((r3_Latency E0.Op) - 1)⟩ : T_Write)] : List T_Write)) (LX := T0) Ua hS el_api_Write R5 rfl enc_len_Write (enc_ones_Write _) (by decide) ?_
       clear hS; intro B4 Da w T5 hS
       refine hb_next (fun h => absurd h (by decide)) ?_
       refine hy0 16 rfl wn (by kernel_rfl) (nq (P := Tryz.prog) (fn := Tryz.f42)) (fun h => absurd h (by decide)) y_nilCheck ?_
       refine hy0 17 rfl wn (by kernel_rfl) (nq (P := Tryz.prog) (fn := Tryz.f42)) (fun h => absurd h (by decide)) (y_field fa_api_State_8) ?_
       refine hb1 18 (by kernel_rfl) (hb_op rfl wn (nl (P := Tryz.prog) (fn := Tryz.f42)) ?_)
       have hS := hS.re (.b (.d .hb) (.t .h (.b .hb (.b .hb (.b .hb (.t .h (.t .h (.t .h (.t .h (.t .h (.t .h .n)))))))))))
       refine o_storeA1 (o := 8) (cl' := (cl_State G0 I0 J0 D1 K0 M0 D0 U0 B4 J2 V0)) hS (by kernel_rfl) (by exact Nat.le_of_ble_eq_true rfl) (Upd.here _) (by exact sz_S_api_Write) (T5).one (T5).cell ?_
       clear hS; intro w hS
       refine hb_next (fun h => absurd h (by decide)) ?_
       refine hb_done (by kernel_rfl) ?_
       refine c_seq <| c_region <| oy hS (y_field fa_sledgeref5_deed_2) <| oy hS (y_load (fun w hS => hS.own (mC (mB (mC (mC (mH)))))) underlying4 rfl rfl) <| n_thenN ?_
       refine c_if (ht := fun N8 => ?_) (hf := fun N8 => ?_)
       · replace hF := bt N8 hF
         refine c_region ?_
         iterate 2 (refine oy hS y_move ?_)
         refine oy hS (y_field fa_sledgeref5_deed_3) <| oy hS (y_load (fun w hS => hS.own (mC (mB (mC (mC (mH)))))) underlying3 rfl rfl) <| oy hS y_nilCheck <| oy hS (y_field fa_api_State_9) ?_
         refine o_storeA1 (o := 9) (cl' := (cl_State G0 I0 J0 D1 K0 M0 D0 U0 B4 G1 V0)) hS (by kernel_rfl) (by exact Nat.le_of_ble_eq_true rfl) (Upd.here _) (by exact sz_int) rfl rfl ?_
         clear hS; intro w hS
         refine oy hS y_nilCheck <| oy hS (y_field fa_api_State_10) ?_
         refine o_storeA1 (o := 10) (cl' := (cl_State G0 I0 J0 D1 K0 M0 D0 U0 B4 G1 2)) hS (by kernel_rfl) (by exact Nat.le_of_ble_eq_true rfl) (Upd.here _) (by exact sz_int) rfl rfl ?_
         clear hS; intro w hS
         refine oy hS y_assign ?_
         refine n_anyN ?_
         refine c_region <| oy hS y_move <| oy hS y_bin <| oy hS y_assign <| n_thenN ?_
         obtain rfl := osi hF
         exact ⟨_, V2, G0, I0, J0, K0, D0, B4, X0, Y0, Z0, B1, N0, Da, B7, D7, E7, G7, Z3, T5, mk_exF, (hS.re (.b .hb (.b (.d .hb) (.t (.d (.e (.e .h))) (.t (.d (.e (.e .h))) (.t (.d (.e (.e .h))) (.t (.d (.e (.e .h))) (.t (.d (.e (.e .h))) (.t .h (.t (.e (.e .h)) .n))))))))))⟩
       replace hF := bf N8 hF
       refine wp_skip <| c_region <| oy hS y_move <| oy hS y_bin <| oy hS y_assign <| n_thenN ?_
       obtain rfl := osi hF
       exact ⟨_, V2, G0, I0, J0, K0, D0, B4, X0, Y0, Z0, B1, N0, Da, B7, D7, E7, G7, Z3, T5, mk_exF, (hS.re (.b .hb (.b (.d .hb) (.t (.d (.e (.e .h))) (.t (.d (.e (.e .h))) (.t (.d (.e (.e .h))) (.t (.d (.e (.e .h))) (.t (.d (.e (.e .h))) (.t .h (.t (.e (.e .h)) .n))))))))))⟩
     replace hF := bf M8 hF
     refine wp_skip <| c_seq <| c_region <| oy hS (y_field fa_sledgeref5_deed_2) <| oy hS (y_load (fun w hS => hS.own (mC (mC (mC (mH))))) underlying4 rfl rfl) <| n_thenN ?_
     refine c_if (ht := fun R8 => ?_) (hf := fun R8 => ?_)
     · replace hF := bt R8 hF
       refine c_region ?_
       iterate 2 (refine oy hS y_move ?_)
       refine oy hS (y_field fa_sledgeref5_deed_3) <| oy hS (y_load (fun w hS => hS.own (mC (mC (mC (mH))))) underlying3 rfl rfl) <| oy hS y_nilCheck <| oy hS (y_field fa_api_State_9) ?_
       refine o_storeA1 (o := 9) (cl' := (cl_State G0 I0 J0 D1 K0 M0 D0 U0 R0 G1 V0)) hS (by kernel_rfl) (by exact Nat.le_of_ble_eq_true rfl) (Upd.here _) (by exact sz_int) rfl rfl ?_
       clear hS; intro w hS
       refine oy hS y_nilCheck <| oy hS (y_field fa_api_State_10) ?_
       refine o_storeA1 (o := 10) (cl' := (cl_State G0 I0 J0 D1 K0 M0 D0 U0 R0 G1 2)) hS (by kernel_rfl) (by exact Nat.le_of_ble_eq_true rfl) (Upd.here _) (by exact sz_int) rfl rfl ?_
       clear hS; intro w hS
       refine oy hS y_assign ?_
       refine n_anyN ?_
       refine c_region <| oy hS y_move <| oy hS y_bin <| oy hS y_assign <| n_thenN ?_
       obtain rfl := osi hF
       exact ⟨_, V2, G0, I0, J0, K0, D0, R0, X0, Y0, Z0, B1, N0, T0, B7, D7, E7, G7, Z3, R5, mk_exF, (hS.re (.b .hb (.b .hb (.t (.e (.e .h)) (.t (.e (.e .h)) (.t (.e (.e .h)) (.t (.e (.e .h)) (.t (.e (.e .h)) (.t (.e (.e .h)) (.t (.e (.e .h)) .n))))))))))⟩
     replace hF := bf R8 hF
     refine wp_skip <| c_region <| oy hS y_move <| oy hS y_bin <| oy hS y_assign <| n_thenN ?_
     obtain rfl := osi hF
     exact ⟨_, V2, G0, I0, J0, K0, D0, R0, X0, Y0, Z0, B1, N0, T0, B7, D7, E7, G7, Z3, R5, mk_exF, (hS.re (.b .hb (.b .hb (.t (.e (.e .h)) (.t (.e (.e .h)) (.t (.e (.e .h)) (.t (.e (.e .h)) (.t (.e (.e .h)) (.t (.e (.e .h)) (.t (.e (.e .h)) .n))))))))))⟩
   replace hF := bf Ka hF
   refine wp_exit ?_
   obtain rfl := osi hF
   obtain rfl : _ = Va := V2
   change ∃ _, _
   exact ⟨Y7, R4, T4, U4, J3, V4, I2, X4, K3, Y4, M3, N3, Z2, B3, D3, E3, G3, I3, Y1, Z1, B2, D2, E2, G2, Na, N6, R6, T6, U6, V6, X6, mk_exF, (hS.re (.b .hb (.t (.e .h) (.t (.e .h) (.t (.e .h) (.t (.e .h) (.t (.e .h) (.t (.e .h) .n))))))))⟩
 rintro a w ⟨M6, N7, R7, T7, J1, U7, Y2, V7, K1, X7, I1, M1, N1, R1, T1, U1, V1, X1, R3, T3, U3, V3, X3, Y3, hF, Z4, B5, D5, E5, G5, I5, ⟨Kd, rfl⟩, hS⟩
 dsimp only [r5_issue_k1] at hF
 obtain ⟨Dc, hF, Ea⟩ := cut_step hF
 refine c_cutP (fun a w' => r5_issue_k4 K1 N7 R7 T7 J1 U7 Y2 V7 X7 I1 M1 M6 () = some r ∧ (∃ s : Nat → Value, a = Ac (((Fm.dead 155 s).upd 1 (.pointer (some ⟨b1_, 0, none⟩))).upd 6 (.bool M6))) ∧ St W g LB1_ ((b1_, blk (cl_State N1 R1 T1 J1 U1 Y2 V1 K1 X1 I1 M1) 62) :: (R3 ++ (T3 ++ (U3 ++ (V3 ++ (X3 ++ (Y3 ++ []))))))) w') ?_ ?_
 · skip
   refine c_seq <| c_region <| oy hS y_move <| oy hS y_nilCheck <| oy hS (y_field fa_api_State_7) <| oy hS (y_load oH underlying3 rfl rfl) <| oy hS y_bin <| n_thenN ?_
   refine c_if (ht := fun T8 => ?_) (hf := fun T8 => ?_)
   · replace hF := bt T8 hF
     refine c_seq <| c_block ?_
     refine c_loopP hF (fun (q : ((List Int) × (List Int) × (List Int) × Int × (List Int) × Int × (List Int) × Int × (List T_Write) × Int × Int)) a w' => ∃ (D4 : Value) (E4 : Value) (G4 : Value) (I4 : Value) (J4 : Value) (K4 : Value) (K2 : Own) (M2 : Own) (N2 : Own) (R2 : Own) (T2 : Own) (U2 : Own), OwT 87 enc_uint32 1 q.1 D4 K2 ∧ OwT 87 enc_uint32 1 q.2.1 E4 M2 ∧ OwT 87 enc_uint32 1 q.2.2.1 G4 N2 ∧ OwT 87 enc_uint32 1 q.2.2.2.2.1 I4 R2 ∧ OwT 3 enc_int 1 q.2.2.2.2.2.2.1 J4 T2 ∧ OwT 89 enc_Write 3 q.2.2.2.2.2.2.2.2.1 K4 U2 ∧ (∃ s : Nat → Value, a = Ac ((Fm.dead 155 s).upd 1 (.pointer (some ⟨b1_, 0, none⟩)))) ∧ St W g LB1_ ((b1_, blk (cl_State D4 E4 G4 q.2.2.2.1 I4 q.2.2.2.2.2.1 J4 q.2.2.2.2.2.2.2.1 K4 q.2.2.2.2.2.2.2.2.2.1 q.2.2.2.2.2.2.2.2.2.2) 62) :: (K2 ++ (M2 ++ (N2 ++ (R2 ++ (T2 ++ (U2 ++ []))))))) w') ⟨N1, R1, T1, U1, V1, X1, R3, T3, U3, V3, X3, Y3, Z4, B5, D5, E5, G5, I5, mk_exF, (hS.re (.b .hb (.t .h (.t .h (.t .h (.t .h (.t .h (.t .h .n))))))))⟩ ?_
     clear hS hF
     intro Md q a w hI hq
     obtain ⟨U8, V8, X8, Y8, Z8, B9, D9, E9, G9, I9, J9⟩ := q
     obtain ⟨D4, E4, G4, I4, J4, K4, K2, M2, N2, R2, T2, U2, U5, V5, X5, Y5, Z5, M4, ⟨Nd, rfl⟩, hS⟩ := hq
     replace U5 : OwT 87 enc_uint32 1 U8 D4 K2 := U5
     replace V5 : OwT 87 enc_uint32 1 V8 E4 M2 := V5
     replace X5 : OwT 87 enc_uint32 1 X8 G4 N2 := X5
     replace Y5 : OwT 87 enc_uint32 1 Z8 I4 R2 := Y5
     replace Z5 : OwT 3 enc_int 1 D9 J4 T2 := Z5
     replace M4 : OwT 89 enc_Write 3 G9 K4 U2 := M4
     obtain ⟨Rd, hF, Ga⟩ := iter_step hI
     clear hI
     dsimp only [r5_issue_b5] at hF
     iterate 2 (refine c_seq ?_)
     refine c_region <| oy hS y_move <| oy hS y_nilCheck <| oy hS (y_field fa_api_State_8) <| oy hS (y_load oH underlying60 rfl rfl) <| oy hS (y_lenO M4 underlying60) <| oy hS y_bin <| n_thenN ?_
     refine c_if (ht := fun K9 => ?_) (hf := fun K9 => ?_)
     · replace hF := bt K9 hF
       refine wp_skip <| c_block <| c_region <| oy hS y_move ?_
       have hS2 := hS.spl (.cons _ (.app _ (.app _ (.app _ (.app _ (.app _ (.app _ (.nil _))))))))
       obtain ⟨Td, Vb, hF⟩ := ob hF
       refine o_call hS2 func40 rfl rfl (hc := (w_r5_lands (a0 := (⟨U8, V8, X8, Y8, Z8, B9, D9, E9, G9, I9, J9⟩ : T_State)) (h0 := (⟨_, _, _, _, _, _, _, _, _, _, _, _, rfl, U5, V5, X5, Y5, Z5, M4⟩ : Bx_State b1_ (⟨U8, V8, X8, Y8, Z8, B9, D9, E9, G9, I9, J9⟩ : T_State) ((b1_, blk (cl_State D4 E4 G4 Y8 I4 B9 J4 E9 K4 I9 J9) 62) :: (K2 ++ (M2 ++ (N2 ++ (R2 ++ (T2 ++ (U2 ++ []))))))))) (hF := Vb))) (h := ?_)
       clear hS; intro Ud Xc w hS Xb
       clear hS2
       obtain ⟨Yc, rfl, rfl, Yb⟩ := Xb
       obtain ⟨vB_0_1328, vB_1_1332, vB_2_1336, vB_4_1340, vB_6_1344, vB_8_1348, LXB_0_1329, LXB_1_1333, LXB_2_1337, LXB_4_1341, LXB_6_1345, LXB_8_1349, rfl, hB_0_1330, hB_1_1334, hB_2_1338, hB_4_1342, hB_6_1346, hB_8_1350⟩ := Yb
       simp only [aa, ac, al] at hS
       refine n_anyN ?_
       obtain rfl := osi hF
       exact ⟨_, Ga, vB_0_1328, vB_1_1332, vB_2_1336, vB_4_1340, vB_6_1344, vB_8_1348, LXB_0_1329, LXB_1_1333, LXB_2_1337, LXB_4_1341, LXB_6_1345, LXB_8_1349, hB_0_1330, hB_1_1334, hB_2_1338, hB_4_1342, hB_6_1346, hB_8_1350, mk_exF, (hS.re (.b .hb (.t .h (.t .h (.t .h (.t .h (.t .h (.t .h .n))))))))⟩
     replace hF := bf K9 hF
     refine wp_exit ?_
     obtain rfl := osi hF
     obtain rfl : _ = Dc := Ga
     obtain rfl : _ = r := Ea
     refine wp_ret (r_ret (vs := []) (hS.re (.b .hb (.t .h (.t .h (.t .h (.t .h (.t .h (.t .h .n)))))))) rsN rfl ⟨_, rfl, (by first | rfl | simp only [aa, ac, al, an]), ⟨_, _, _, _, _, _, _, _, _, _, _, _, rfl, U5, V5, X5, Y5, Z5, M4⟩⟩)
   replace hF := bf T8 hF
   refine wp_skip ?_
   obtain rfl := osi hF
   change _ ∧ _
   exact ⟨Ea, mk_exF, (hS.re (.b .hb (.t .h (.t .h (.t .h (.t .h (.t .h (.t .h .n))))))))⟩
 rintro a w ⟨hF, ⟨Vd, rfl⟩, hS⟩
 dsimp only [r5_issue_k4] at hF
 iterate 2 (refine c_seq ?_)
 refine c_region <| oy hS y_move <| oy hS y_nilCheck <| oy hS (y_field fa_api_State_7) <| oy hS (y_load oH underlying3 rfl rfl) <| oy hS y_bin <| n_thenN ?_
 refine c_if (ht := fun M9 => ?_) (hf := fun M9 => ?_)
 · replace hF := bt M9 hF
   obtain rfl := osi hF
   refine wp_ret (r_ret (vs := []) (hS.re (.b .hb (.t .h (.t .h (.t .h (.t .h (.t .h (.t .h .n)))))))) rsN rfl ⟨_, rfl, (by first | rfl | simp only [aa, ac, al, an]), ⟨_, _, _, _, _, _, _, _, _, _, _, _, rfl, Z4, B5, D5, E5, G5, I5⟩⟩)
 replace hF := bf M9 hF
 refine wp_skip <| c_seq <| c_region ?_
 iterate 2 (refine oy hS y_move ?_)
 refine oy hS y_nilCheck <| oy hS (y_field fa_api_State_5) <| oy hS (y_load oH underlying3 rfl rfl) <| oy hS y_bin <| oy hS y_nilCheck <| oy hS (y_field fa_api_State_5) ?_
 refine o_storeA1 (o := 5) (cl' := (cl_State N1 R1 T1 J1 U1 (IntKind.i64.wrap (Y2 + 1)) V1 K1 X1 I1 M1)) hS (by kernel_rfl) (by exact Nat.le_of_ble_eq_true rfl) (Upd.here _) (by exact sz_int) rfl rfl ?_
 clear hS; intro w hS
 refine n_thenN <| c_seq <| c_region <| oy hS y_move <| oy hS y_not ?_
 refine o_split (ht := fun N9 => ?_) (hf := fun N9 => ?_)
 · replace hF := bt N9 hF
   refine o_gu rfl rfl rfl <| oy hS y_move <| o_gu rfl rfl rfl <| oy hS y_nilCheck <| o_gu rfl rfl rfl <| oy hS (y_field fa_api_State_10) <| o_gu rfl rfl rfl <| oy hS (y_load oH underlying3 rfl rfl) ?_
   refine o_gu rfl rfl rfl <| oy hS y_bin <| oy hS y_pickT <| n_thenN ?_
   refine c_if (ht := fun R9 => ?_) (hf := fun R9 => ?_)
   · replace hF := bt R9 hF
     refine c_seq <| c_region ?_
     iterate 2 (refine oy hS y_move ?_)
     refine oy hS y_nilCheck <| oy hS (y_field fa_api_State_10) <| oy hS (y_load oH underlying3 rfl rfl) <| oy hS y_bin <| oy hS y_nilCheck <| oy hS (y_field fa_api_State_10) ?_
     refine o_storeA1 (o := 10) (cl' := (cl_State N1 R1 T1 J1 U1 (IntKind.i64.wrap (Y2 + 1)) V1 K1 X1 I1 (IntKind.i64.wrap (M1 - 1)))) hS (by kernel_rfl) (by exact Nat.le_of_ble_eq_true rfl) (Upd.here _) (by exact sz_int) rfl rfl ?_
     clear hS; intro w hS
     refine n_thenN <| c_seq <| c_region <| oy hS y_move <| oy hS y_nilCheck <| oy hS (y_field fa_api_State_10) <| oy hS (y_load oH underlying3 rfl rfl) <| oy hS y_bin ?_
     refine n_thenN ?_
     refine c_if (ht := fun T9 => ?_) (hf := fun T9 => ?_)
     · replace hF := bt T9 hF
       refine c_region ?_
       iterate 3 (refine oy hS y_move ?_)
       refine oy hS y_nilCheck <| oy hS (y_field fa_api_State_9) <| oy hS (y_load oH underlying3 rfl rfl) <| oy hS y_nilCheck <| oy hS (y_field fa_api_State_5) ?_
       refine o_storeA1 (o := 5) (cl' := (cl_State N1 R1 T1 J1 U1 I1 V1 K1 X1 I1 (IntKind.i64.wrap (M1 - 1)))) hS (by kernel_rfl) (by exact Nat.le_of_ble_eq_true rfl) (Upd.here _) (by exact sz_int) rfl rfl ?_
       clear hS; intro w hS
       refine oy hS y_nilCheck <| oy hS (y_field fa_api_State_9) ?_
       refine o_storeA1 (o := 9) (cl' := (cl_State N1 R1 T1 J1 U1 I1 V1 K1 X1 0 (IntKind.i64.wrap (M1 - 1)))) hS (by kernel_rfl) (by exact Nat.le_of_ble_eq_true rfl) (Upd.here _) (by exact sz_int) rfl rfl ?_
       clear hS; intro w hS
       refine n_anyN ?_
       obtain rfl := osi hF
       refine (r_end (vs := []) (hS.re (.b .hb (.t .h (.t .h (.t .h (.t .h (.t .h (.t .h .n)))))))) rsN rfl ⟨_, rfl, (by first | rfl | simp only [aa, ac, al, an]), ⟨_, _, _, _, _, _, _, _, _, _, _, _, rfl, Z4, B5, D5, E5, G5, I5⟩⟩)
     replace hF := bf T9 hF
     refine wp_skip ?_
     obtain rfl := osi hF
     refine (r_end (vs := []) (hS.re (.b .hb (.t .h (.t .h (.t .h (.t .h (.t .h (.t .h .n)))))))) rsN rfl ⟨_, rfl, (by first | rfl | simp only [aa, ac, al, an]), ⟨_, _, _, _, _, _, _, _, _, _, _, _, rfl, Z4, B5, D5, E5, G5, I5⟩⟩)
   replace hF := bf R9 hF
   refine wp_skip ?_
   obtain rfl := osi hF
   refine (r_end (vs := []) (hS.re (.b .hb (.t .h (.t .h (.t .h (.t .h (.t .h (.t .h .n)))))))) rsN rfl ⟨_, rfl, (by first | rfl | simp only [aa, ac, al, an]), ⟨_, _, _, _, _, _, _, _, _, _, _, _, rfl, Z4, B5, D5, E5, G5, I5⟩⟩)
 replace hF := bf N9 hF
 iterate 5 (refine o_sk rfl rfl ?_)
 refine oy hS y_pickF <| n_thenN ?_
 refine c_if_false (h := ?_)
 refine wp_skip ?_
 obtain rfl := osi hF
 refine (r_end (vs := []) (hS.re (.b .hb (.t .h (.t .h (.t .h (.t .h (.t .h (.t .h .n)))))))) rsN rfl ⟨_, rfl, (by first | rfl | simp only [aa, ac, al, an]), ⟨_, _, _, _, _, _, _, _, _, _, _, _, rfl, Z4, B5, D5, E5, G5, I5⟩⟩)
theorem w_r5_issue {g : Frag} {a0 : (List (A4 T_Ins))} {v0_ : Value} {a1 : T_State} {b1_ : Nat} {LB1_ : Own} {r : T_State} (h0 : SlT g enc_Bundle 24 a0 v0_) (h1 : Bx_State b1_ a1 LB1_) (hF : r5_issue a0 a1 = some r) : LC Tryz.prog 42 #[v0_, .pointer (some ⟨b1_, 0, none⟩)] g LB1_ (fun v L => ∃ (LB' : Own), v = .tuple #[] ∧ L = (LB' ++ []) ∧ Bx_State b1_ r LB') := w_r5_issue_ h0 h1 hF

noncomputable def r5_Cycles_b1 (a2 : Int) (a3 : Bool) (a0 : (List (A4 T_Ins))) : (Int × (List Int) × (List Int) × (List Int) × Int × (List Int) × Int × (List Int) × Int × (List T_Write) × Int × Int) → Option (Step (Int × (List Int) × (List Int) × (List Int) × Int × (List Int) × Int × (List Int) × Int × (List T_Write) × Int × Int) (T_State × Int)) := fun (G0, J0, K0, M0, N0, R0, T0, U0, I0, V0, X0, Y0) => bif decide (G0 < a2) then bif decide (I0 = 0) then (r5_lands (⟨J0, K0, M0, N0, R0, T0, U0, I0, V0, X0, Y0⟩ : T_State)).bind fun B0 => bif a3 then (r5_find a0 B0).bind fun Z0 => bif decide (0 ≤ Z0) then some (.next (IntKind.i64.wrap (G0 + 1), B0.Regs, B0.Mem, B0.In_, B0.Taken, B0.Out, B0.PC, B0.Stack, 6, B0.Fly, B0.Jump, B0.Delay)) else (r5_issue a0 B0).bind fun D0 => some (.next (IntKind.i64.wrap (G0 + 1), D0.Regs, D0.Mem, D0.In_, D0.Taken, D0.Out, D0.PC, D0.Stack, D0.Stop, D0.Fly, D0.Jump, D0.Delay)) else (r5_issue a0 B0).bind fun E0 => some (.next (IntKind.i64.wrap (G0 + 1), E0.Regs, E0.Mem, E0.In_, E0.Taken, E0.Out, E0.PC, E0.Stack, E0.Stop, E0.Fly, E0.Jump, E0.Delay)) else some (.done (((⟨J0, K0, M0, N0, R0, T0, U0, I0, V0, X0, Y0⟩ : T_State), G0))) else some (.done (((⟨J0, K0, M0, N0, R0, T0, U0, I0, V0, X0, Y0⟩ : T_State), G0)))
noncomputable def r5_Cycles (a0 : (List (A4 T_Ins))) (a1 : T_State) (a2 : Int) (a3 : Bool) : Option (T_State × Int) :=
  (r0_CopyState a1).bind fun r3 => loop (σ := (Int × (List Int) × (List Int) × (List Int) × Int × (List Int) × Int × (List Int) × Int × (List T_Write) × Int × Int)) (r5_Cycles_b1 a2 a3 a0) (0, r3.Regs, r3.Mem, r3.In_, r3.Taken, r3.Out, r3.PC, r3.Stack, r3.Stop, r3.Fly, r3.Jump, r3.Delay)
theorem w_r5_Cycles_ {g : Frag} {a0 : (List (A4 T_Ins))} {v0_ : Value} {a1 : T_State} {v1_ : Value} {a2 : Int} {a3 : Bool} {r : (T_State × Int)} (h0 : SlT g enc_Bundle 24 a0 v0_) (h1 : Rd_State g a1 v1_) (hF : r5_Cycles a0 a1 a2 a3 = some r) : LC Tryz.prog 21 #[v0_, v1_, .int .i64 a2, .bool a3] g [] (fun v L => ∃ (u0 : Value) (M0 : Own), v = .tuple #[u0, .int .i64 r.2] ∧ L = (M0 ++ []) ∧ Ow_State r.1 u0 M0) := by
 obtain ⟨K3, M3, N3, R3, T3, U3, rfl, X3, Y3, Z3, B4, D4, E4⟩ := h1
 unfold r5_Cycles at hF
 refine lc_body (k := 36) (av := [v0_, .agg (cl_State K3 M3 N3 a1.Taken R3 a1.PC T3 a1.Stop U3 a1.Jump a1.Delay).toArray, .int .i64 a2, .bool a3]) func21 rfl rfl (h := fun W hS => ?_)
 refine c_seq <| c_region ?_
 refine o_boxP (cl := (cl_State K3 M3 N3 a1.Taken R3 a1.PC T3 a1.Stop U3 a1.Jump a1.Delay)) rfl hS ?_
 clear hS; intro b1 w hS
 refine o_allocP (cl := (cl_State (.slice none 0 0) (.slice none 0 0) (.slice none 0 0) 0 (.slice none 0 0) 0 (.slice none 0 0) 0 (.slice none 0 0) 0 0)) zr_api_State rfl hS ?_
 clear hS; intro b2 w hS
 refine oy hS y_assign <| n_thenN <| c_seq <| c_region ?_
 refine oy hS (y_loadW (fun w hS => hS.own (mC (mH))) underlying62 rfl (by exact sz_api_State)) ?_
 obtain ⟨r3, hr3, hF⟩ := ob hF
 refine o_call0 hS func39 rfl rfl (hc := (w_r0_CopyState (a0 := a1) (h0 := ⟨_, _, _, _, _, _, rfl, X3.plus, Y3.plus, Z3.plus, B4.plus, D4.plus, E4.plus⟩) (hF := hr3))) (h := ?_)
 clear hS; intro v4 LY5 w hS hr6
 obtain ⟨v_0_7, LX_0_8, rfl, rfl, h_0_9⟩ := hr6
 obtain ⟨T1, U1, V1, X1, Y1, Z1, K2, M2, N2, R2, T2, U2, rfl, rfl, B2, D2, E2, G2, I2, J2⟩ := h_0_9
 simp only [aa, ac, al] at hS
 have hS := hS.re (.b (.d (.d (.d (.d (.d (.d (.e .hb))))))) (.t .h (.t .h (.t .h (.t .h (.t .h (.t .h (.b .hb .n))))))))
 refine o_storeW (vs := (cl_State T1 U1 V1 r3.Taken X1 r3.PC Y1 r3.Stop Z1 r3.Jump r3.Delay)) hS (by exact rfl) (Upd.here _) (by exact sz_api_State) (one_State (B2).one (D2).one (E2).one (G2).one (I2).one (J2).one) ?_
 clear hS; intro w hS
 refine n_thenN <| c_seq <| c_region <| oy hS y_assign <| n_thenN <| c_seq <| c_block ?_
 refine c_loopP hF (fun (q : (Int × (List Int) × (List Int) × (List Int) × Int × (List Int) × Int × (List Int) × Int × (List T_Write) × Int × Int)) a w' => ∃ (D0 : Value) (E0 : Value) (G0 : Value) (I0 : Value) (J0 : Value) (K0 : Value) (G1 : Own) (I1 : Own) (J1 : Own) (K1 : Own) (M1 : Own) (N1 : Own), OwT 87 enc_uint32 1 q.2.1 D0 G1 ∧ OwT 87 enc_uint32 1 q.2.2.1 E0 I1 ∧ OwT 87 enc_uint32 1 q.2.2.2.1 G0 J1 ∧ OwT 87 enc_uint32 1 q.2.2.2.2.2.1 I0 K1 ∧ OwT 3 enc_int 1 q.2.2.2.2.2.2.2.1 J0 M1 ∧ OwT 89 enc_Write 3 q.2.2.2.2.2.2.2.2.2.1 K0 N1 ∧ (∃ s : Nat → Value, a = Ac (((((((Fm.dead 36 s).upd 0 v0_).upd 2 (.int .i64 a2)).upd 3 (.bool a3)).upd 5 (.pointer (some ⟨b1, 0, none⟩))).upd 8 (.pointer (some ⟨b2, 0, none⟩))).upd 10 (.int .i64 q.1))) ∧ St W g [] ((b1, blk (cl_State D0 E0 G0 q.2.2.2.2.1 I0 q.2.2.2.2.2.2.1 J0 q.2.2.2.2.2.2.2.2.1 K0 q.2.2.2.2.2.2.2.2.2.2.1 q.2.2.2.2.2.2.2.2.2.2.2) 62) :: ((b2, blk (cl_State (.slice none 0 0) (.slice none 0 0) (.slice none 0 0) 0 (.slice none 0 0) 0 (.slice none 0 0) 0 (.slice none 0 0) 0 0) 62) :: (G1 ++ (I1 ++ (J1 ++ (K1 ++ (M1 ++ (N1 ++ [])))))))) w') ⟨T1, U1, V1, X1, Y1, Z1, K2, M2, N2, R2, T2, U2, B2, D2, E2, G2, I2, J2, mk_exF, (hS.re (.b .hb (.b (.d (.d (.d (.d (.d (.d .hb)))))) (.t .h (.t .h (.t .h (.t .h (.t .h (.t .h .n)))))))))⟩ ?_
 clear hS hF
 intro G5 q a w hI hq
 obtain ⟨V3, V2, X2, Y2, N0, Z2, R0, B3, T0, D3, U0, V0⟩ := q
 obtain ⟨D0, E0, G0, I0, J0, K0, G1, I1, J1, K1, M1, N1, X0, Y0, Z0, B1, D1, E1, ⟨I5, rfl⟩, hS⟩ := hq
 replace X0 : OwT 87 enc_uint32 1 V2 D0 G1 := X0
 replace Y0 : OwT 87 enc_uint32 1 X2 E0 I1 := Y0
 replace Z0 : OwT 87 enc_uint32 1 Y2 G0 J1 := Z0
 replace B1 : OwT 87 enc_uint32 1 Z2 I0 K1 := B1
 replace D1 : OwT 3 enc_int 1 B3 J0 M1 := D1
 replace E1 : OwT 89 enc_Write 3 D3 K0 N1 := E1
 obtain ⟨J5, hF, R1⟩ := iter_step hI
 clear hI
 dsimp only [r5_Cycles_b1] at hF
 iterate 2 (refine c_seq ?_)
 refine c_region ?_
 iterate 2 (refine oy hS y_move ?_)
 refine oy hS y_bin ?_
 refine o_split (ht := fun E3 => ?_) (hf := fun E3 => ?_)
 · replace hF := bt E3 hF
   refine o_gu rfl rfl rfl <| oy hS (y_field fa_api_State_7) <| o_gu rfl rfl rfl <| oy hS (y_load oH underlying3 rfl rfl) <| o_gu rfl rfl rfl <| oy hS y_bin <| oy hS y_pickT <| n_thenN ?_
   refine c_if (ht := fun G3 => ?_) (hf := fun G3 => ?_)
   · replace hF := bt G3 hF
     refine wp_skip <| c_block <| c_seq <| c_region ?_
     have hS := hS.re (.b .hb (.t (.e .h) (.t (.e .h) (.t (.e .h) (.t (.e .h) (.t (.e .h) (.t (.e .h) (.b .hb .n))))))))
     have hS2 := hS.spl (.cons _ (.app _ (.app _ (.app _ (.app _ (.app _ (.app _ (.nil _))))))))
     obtain ⟨B0, G4, hF⟩ := ob hF
     refine o_call hS2 func40 rfl rfl (hc := (w_r5_lands (a0 := (⟨V2, X2, Y2, N0, Z2, R0, B3, T0, D3, U0, V0⟩ : T_State)) (h0 := (⟨_, _, _, _, _, _, _, _, _, _, _, _, rfl, X0, Y0, Z0, B1, D1, E1⟩ : Bx_State b1 (⟨V2, X2, Y2, N0, Z2, R0, B3, T0, D3, U0, V0⟩ : T_State) ((b1, blk (cl_State D0 E0 G0 N0 I0 R0 J0 T0 K0 U0 V0) 62) :: (G1 ++ (I1 ++ (J1 ++ (K1 ++ (M1 ++ (N1 ++ []))))))))) (hF := G4))) (h := ?_)
     clear hS; intro K5 X4 w hS I4
     clear hS2
     obtain ⟨Y4, rfl, rfl, J4⟩ := I4
     obtain ⟨vB_0_272, vB_1_276, vB_2_280, vB_4_284, vB_6_288, vB_8_292, LXB_0_273, LXB_1_277, LXB_2_281, LXB_4_285, LXB_6_289, LXB_8_293, rfl, hB_0_274, hB_1_278, hB_2_282, hB_4_286, hB_6_290, hB_8_294⟩ := J4
     simp only [aa, ac, al] at hS
     refine n_thenN ?_
     iterate 2 (refine c_seq ?_)
     refine c_region <| oy hS y_move ?_
     refine o_split (ht := fun I3 => ?_) (hf := fun I3 => ?_)
     · replace hF := bt I3 hF
       refine o_gu rfl rfl rfl <| oy hS y_move <| o_gu rfl rfl rfl ?_
       refine oy hS (y_loadW oH underlying62 rfl (by exact sz_api_State)) ?_
       refine o_gu rfl rfl rfl ?_
       obtain ⟨M5, K4, hF⟩ := ob hF
       refine o_callS hS func41 rfl rfl (hc := (w_r5_find (a0 := a0) (a1 := B0) (h0 := h0.plus) (h1 := ⟨_, _, _, _, _, _, rfl, (OwT.plus hB_0_274 hS (fun p hp => mC (mA (hp)))), (OwT.plus hB_1_278 hS (fun p hp => mC (mB (mA (hp))))), (OwT.plus hB_2_282 hS (fun p hp => mC (mB (mB (mA (hp)))))), (OwT.plus hB_4_286 hS (fun p hp => mC (mB (mB (mB (mA (hp))))))), (OwT.plus hB_6_290 hS (fun p hp => mC (mB (mB (mB (mB (mA (hp)))))))), (OwT.plus hB_8_294 hS (fun p hp => mC (mB (mB (mB (mB (mB (mA (hp)))))))))⟩) (hF := K4))) (h := ?_)
       clear hS; intro w hS
       refine o_gu rfl rfl rfl <| oy hS y_bin <| oy hS y_pickT <| n_thenN ?_
       refine c_if (ht := fun J3 => ?_) (hf := fun J3 => ?_)
       · replace hF := bt J3 hF
         refine c_region <| oy hS (y_field fa_api_State_7) ?_
         refine o_storeA1 (o := 7) (cl' := (cl_State vB_0_272 vB_1_276 vB_2_280 B0.Taken vB_4_284 B0.PC vB_6_288 6 vB_8_292 B0.Jump B0.Delay)) hS (by kernel_rfl) (by exact Nat.le_of_ble_eq_true rfl) (Upd.here _) (by exact sz_int) rfl rfl ?_
         clear hS; intro w hS
         refine n_thenN <| c_region <| oy hS y_move <| oy hS y_bin <| oy hS y_assign ?_
         refine n_anyN ?_
         obtain rfl := osi hF
         exact ⟨_, R1, vB_0_272, vB_1_276, vB_2_280, vB_4_284, vB_6_288, vB_8_292, LXB_0_273, LXB_1_277, LXB_2_281, LXB_4_285, LXB_6_289, LXB_8_293, hB_0_274, hB_1_278, hB_2_282, hB_4_286, hB_6_290, hB_8_294, mk_exF, (hS.re (.b .hb (.b (.d (.d (.d (.d (.d (.d .hb)))))) (.t .h (.t .h (.t .h (.t .h (.t .h (.t .h .n)))))))))⟩
       replace hF := bf J3 hF
       refine c_region <| oy hS y_move ?_
       have hS2 := hS.spl (.cons _ (.app _ (.app _ (.app _ (.app _ (.app _ (.app _ (.nil _))))))))
       obtain ⟨N5, M4, hF⟩ := ob hF
       refine o_call hS2 func42 rfl rfl (hc := (w_r5_issue (a0 := a0) (a1 := B0) (h0 := h0.plus) (h1 := (⟨_, _, _, _, _, _, _, _, _, _, _, _, rfl, hB_0_274, hB_1_278, hB_2_282, hB_4_286, hB_6_290, hB_8_294⟩ : Bx_State b1 B0 ((b1, blk (cl_State vB_0_272 vB_1_276 vB_2_280 B0.Taken vB_4_284 B0.PC vB_6_288 B0.Stop vB_8_292 B0.Jump B0.Delay) 62) :: (LXB_0_273 ++ (LXB_1_277 ++ (LXB_2_281 ++ (LXB_4_285 ++ (LXB_6_289 ++ (LXB_8_293 ++ []))))))))) (hF := M4))) (h := ?_)
       clear hS; intro R5 Z4 w hS N4
       clear hS2
       obtain ⟨B5, rfl, rfl, R4⟩ := N4
       obtain ⟨vB_0_305, vB_1_309, vB_2_313, vB_4_317, vB_6_321, vB_8_325, LXB_0_306, LXB_1_310, LXB_2_314, LXB_4_318, LXB_6_322, LXB_8_326, rfl, hB_0_307, hB_1_311, hB_2_315, hB_4_319, hB_6_323, hB_8_327⟩ := R4
       simp only [aa, ac, al] at hS
       refine n_thenN <| c_region <| oy hS y_move <| oy hS y_bin <| oy hS y_assign ?_
       refine n_anyN ?_
       obtain rfl := osi hF
       exact ⟨_, R1, vB_0_305, vB_1_309, vB_2_313, vB_4_317, vB_6_321, vB_8_325, LXB_0_306, LXB_1_310, LXB_2_314, LXB_4_318, LXB_6_322, LXB_8_326, hB_0_307, hB_1_311, hB_2_315, hB_4_319, hB_6_323, hB_8_327, mk_exF, (hS.re (.b .hb (.b (.d (.d (.d (.d (.d (.d .hb)))))) (.t .h (.t .h (.t .h (.t .h (.t .h (.t .h .n)))))))))⟩
     replace hF := bf I3 hF
     iterate 4 (refine o_sk rfl rfl ?_)
     refine oy hS y_pickF <| n_thenN ?_
     refine c_if_false (h := ?_)
     refine c_region <| oy hS y_move ?_
     have hS2 := hS.spl (.cons _ (.app _ (.app _ (.app _ (.app _ (.app _ (.app _ (.nil _))))))))
     obtain ⟨T5, T4, hF⟩ := ob hF
     refine o_call hS2 func42 rfl rfl (hc := (w_r5_issue (a0 := a0) (a1 := B0) (h0 := h0.plus) (h1 := (⟨_, _, _, _, _, _, _, _, _, _, _, _, rfl, hB_0_274, hB_1_278, hB_2_282, hB_4_286, hB_6_290, hB_8_294⟩ : Bx_State b1 B0 ((b1, blk (cl_State vB_0_272 vB_1_276 vB_2_280 B0.Taken vB_4_284 B0.PC vB_6_288 B0.Stop vB_8_292 B0.Jump B0.Delay) 62) :: (LXB_0_273 ++ (LXB_1_277 ++ (LXB_2_281 ++ (LXB_4_285 ++ (LXB_6_289 ++ (LXB_8_293 ++ []))))))))) (hF := T4))) (h := ?_)
     clear hS; intro U5 D5 w hS U4
     clear hS2
     obtain ⟨E5, rfl, rfl, V4⟩ := U4
     obtain ⟨vB_0_335, vB_1_339, vB_2_343, vB_4_347, vB_6_351, vB_8_355, LXB_0_336, LXB_1_340, LXB_2_344, LXB_4_348, LXB_6_352, LXB_8_356, rfl, hB_0_337, hB_1_341, hB_2_345, hB_4_349, hB_6_353, hB_8_357⟩ := V4
     simp only [aa, ac, al] at hS
     refine n_thenN <| c_region <| oy hS y_move <| oy hS y_bin <| oy hS y_assign ?_
     refine n_anyN ?_
     obtain rfl := osi hF
     exact ⟨_, R1, vB_0_335, vB_1_339, vB_2_343, vB_4_347, vB_6_351, vB_8_355, LXB_0_336, LXB_1_340, LXB_2_344, LXB_4_348, LXB_6_352, LXB_8_356, hB_0_337, hB_1_341, hB_2_345, hB_4_349, hB_6_353, hB_8_357, mk_exF, (hS.re (.b .hb (.b (.d (.d (.d (.d (.d (.d .hb)))))) (.t .h (.t .h (.t .h (.t .h (.t .h (.t .h .n)))))))))⟩
   replace hF := bf G3 hF
   refine wp_exit ?_
   refine c_seq <| c_region ?_
   refine oy hS (y_loadW oH underlying62 rfl (by exact sz_api_State)) ?_
   refine oy hS y_move ?_
   refine o_storeW (vs := (cl_State D0 E0 G0 N0 I0 R0 J0 T0 K0 U0 V0)) hS (by exact rfl) (Upd.there _ (Upd.here _)) (by exact sz_api_State) (one_State (X0).one (Y0).one (Z0).one (B1).one (D1).one (E1).one) ?_
   clear hS; intro w hS
   refine oy hS y_assign <| n_thenN ?_
   obtain rfl := osi hF
   obtain rfl : _ = r := R1
   refine wp_ret (r_ret (vs := [.agg (cl_State D0 E0 G0 N0 I0 R0 J0 T0 K0 U0 V0).toArray, .int .i64 V3]) (hS.re (.t (.e (.e .h)) (.t (.e (.e .h)) (.t (.e (.e .h)) (.t (.e (.e .h)) (.t (.e (.e .h)) (.t (.e (.e .h)) .n))))))) (rsC (res_cell (hS.own (mC (mH))) underlying62 rfl (by exact sz_api_State)) (rsC res_tmp rsN)) rfl ⟨_, _, rfl, (by first | rfl | simp only [aa, ac, al, an]), ⟨_, _, _, _, _, _, _, _, _, _, _, _, rfl, rfl, X0, Y0, Z0, B1, D1, E1⟩⟩)
 replace hF := bf E3 hF
 iterate 3 (refine o_sk rfl rfl ?_)
 refine oy hS y_pickF <| n_thenN ?_
 refine c_if_false (h := ?_)
 refine wp_exit ?_
 refine c_seq <| c_region ?_
 refine oy hS (y_loadW oH underlying62 rfl (by exact sz_api_State)) ?_
 refine oy hS y_move ?_
 refine o_storeW (vs := (cl_State D0 E0 G0 N0 I0 R0 J0 T0 K0 U0 V0)) hS (by exact rfl) (Upd.there _ (Upd.here _)) (by exact sz_api_State) (one_State (X0).one (Y0).one (Z0).one (B1).one (D1).one (E1).one) ?_
 clear hS; intro w hS
 refine oy hS y_assign <| n_thenN ?_
 obtain rfl := osi hF
 obtain rfl : _ = r := R1
 refine wp_ret (r_ret (vs := [.agg (cl_State D0 E0 G0 N0 I0 R0 J0 T0 K0 U0 V0).toArray, .int .i64 V3]) (hS.re (.t (.e (.e .h)) (.t (.e (.e .h)) (.t (.e (.e .h)) (.t (.e (.e .h)) (.t (.e (.e .h)) (.t (.e (.e .h)) .n))))))) (rsC (res_cell (hS.own (mC (mH))) underlying62 rfl (by exact sz_api_State)) (rsC res_tmp rsN)) rfl ⟨_, _, rfl, (by first | rfl | simp only [aa, ac, al, an]), ⟨_, _, _, _, _, _, _, _, _, _, _, _, rfl, rfl, X0, Y0, Z0, B1, D1, E1⟩⟩)
theorem w_r5_Cycles {g : Frag} {a0 : (List (A4 T_Ins))} {v0_ : Value} {a1 : T_State} {v1_ : Value} {a2 : Int} {a3 : Bool} {r : (T_State × Int)} (h0 : SlT g enc_Bundle 24 a0 v0_) (h1 : Rd_State g a1 v1_) (hF : r5_Cycles a0 a1 a2 a3 = some r) : LC Tryz.prog 21 #[v0_, v1_, .int .i64 a2, .bool a3] g [] (fun v L => ∃ (u0 : Value) (M0 : Own), v = .tuple #[u0, .int .i64 r.2] ∧ L = (M0 ++ []) ∧ Ow_State r.1 u0 M0) := w_r5_Cycles_ h0 h1 hF

noncomputable def r19_Trace_b1 (a1 : Int) (a0 : T_Image) : ((List Int) × Int × (List Int) × (List Int) × (List Int) × Int × (List Int) × Int × (List Int) × Int × (List T_Write) × Int × Int) → Option (Step ((List Int) × Int × (List Int) × (List Int) × (List Int) × Int × (List Int) × Int × (List Int) × Int × (List T_Write) × Int × Int) (List Int)) := fun (x78, x83, x84, x89, x94, x99, I0, D0, J0, E0, K0, M0, N0) => bif decide (x83 < a1) then bif decide (E0 = 0) then (app' x78 ([D0] : List Int)).bind fun G0 => (r5_Cycles a0.Code (⟨x84, x89, x94, x99, I0, D0, J0, E0, K0, M0, N0⟩ : T_State) 1 false).bind fun B0 => some (.next (G0, IntKind.i64.wrap (x83 + 1), B0.1.Regs, B0.1.Mem, B0.1.In_, B0.1.Taken, B0.1.Out, B0.1.PC, B0.1.Stack, B0.1.Stop, B0.1.Fly, B0.1.Jump, B0.1.Delay)) else some (.done (x78)) else some (.done (x78))
noncomputable def r19_Trace (a0 : T_Image) (a1 : Int) (a2 : (List Int)) : Option (List Int) :=
  (r19_Load a0.Data a0.Entry a2).bind fun r2 => loop (σ := ((List Int) × Int × (List Int) × (List Int) × (List Int) × Int × (List Int) × Int × (List Int) × Int × (List T_Write) × Int × Int)) (r19_Trace_b1 a1 a0) ([], 0, r2.Regs, r2.Mem, r2.In_, r2.Taken, r2.Out, r2.PC, r2.Stack, r2.Stop, r2.Fly, r2.Jump, r2.Delay)
theorem w_r19_Trace_ {g : Frag} {a0 : T_Image} {v0_ : Value} {a1 : Int} {a2 : (List Int)} {v2_ : Value} {r : (List Int)} (h0 : Rd_Image g a0 v0_) (h2 : SlT g enc_uint32 1 a2 v2_) (hF : r19_Trace a0 a1 a2 = some r) : LC Tryz.prog 8 #[v0_, .int .i64 a1, v2_] g [] (fun v L => ∃ (u0 : Value) (M0 : Own), u0 = v ∧ L = (M0 ++ []) ∧ OwT 3 enc_int 1 r u0 M0) := by
 obtain ⟨D1, E1, rfl, B4, D4⟩ := h0
 unfold r19_Trace at hF
 refine lc_body (k := 39) (av := [.agg (cl_Image D1 E1 a0.Entry).toArray, .int .i64 a1, v2_]) func8 rfl rfl (h := fun W hS => ?_)
 refine c_seq <| c_region ?_
 refine o_boxP (cl := (cl_Image D1 E1 a0.Entry)) rfl hS ?_
 clear hS; intro b1 w hS
 refine oy hS y_assign <| n_thenN <| c_seq <| c_region <| oy hS y_assign <| n_thenN <| c_seq <| c_region ?_
 refine oy hS (y_field fa_api_Image_1) <| oy hS (y_load oH underlying31 rfl rfl) <| oy hS (y_field fa_api_Image_2) <| oy hS (y_load oH underlying3 rfl rfl) <| oy hS y_move ?_
 obtain ⟨r2, hr2, hF⟩ := ob hF
 refine o_call0 hS func20 rfl rfl (hc := (w_r19_Load (a0 := a0.Data) (a1 := a0.Entry) (a2 := a2) (h0 := D4.plus) (h2 := h2.plus) (hF := hr2))) (h := ?_)
 clear hS; intro v3 LY4 w hS hr5
 obtain ⟨v_0_6, LX_0_7, rfl, rfl, h_0_8⟩ := hr5
 obtain ⟨K2, G1, I1, J1, K1, M1, Y2, Z2, B3, D3, E3, G3, rfl, rfl, N1, R1, T1, U1, V1, X1⟩ := h_0_8
 simp only [aa, ac, al] at hS
 refine o_allocP (cl := (cl_State (.slice none 0 0) (.slice none 0 0) (.slice none 0 0) 0 (.slice none 0 0) 0 (.slice none 0 0) 0 (.slice none 0 0) 0 0)) zr_api_State rfl hS ?_
 clear hS; intro b33 w hS
 refine o_storeW (vs := (cl_State K2 G1 I1 r2.Taken J1 r2.PC K1 r2.Stop M1 r2.Jump r2.Delay)) hS (by exact rfl) (Upd.here _) (by exact sz_api_State) (one_State (N1).one (R1).one (T1).one (U1).one (V1).one (X1).one) ?_
 clear hS; intro w hS
 refine n_thenN ?_
 iterate 2 (refine c_seq ?_)
 refine c_region <| oy hS y_assign <| n_thenN <| c_block ?_
 refine c_loopP hF (fun (q : ((List Int) × Int × (List Int) × (List Int) × (List Int) × Int × (List Int) × Int × (List Int) × Int × (List T_Write) × Int × Int)) a w' => ∃ (v79 : Value) (v85 : Value) (v90 : Value) (v95 : Value) (Y1 : Value) (Z1 : Value) (B2 : Value) (G0 : Own) (D2 : Own) (E2 : Own) (G2 : Own) (B0 : Own) (D0 : Own) (E0 : Own), OwT 3 enc_int 1 q.1 v79 G0 ∧ OwT 87 enc_uint32 1 q.2.2.1 v85 D2 ∧ OwT 87 enc_uint32 1 q.2.2.2.1 v90 E2 ∧ OwT 87 enc_uint32 1 q.2.2.2.2.1 v95 G2 ∧ OwT 87 enc_uint32 1 q.2.2.2.2.2.2.1 Y1 B0 ∧ OwT 3 enc_int 1 q.2.2.2.2.2.2.2.2.1 Z1 D0 ∧ OwT 89 enc_Write 3 q.2.2.2.2.2.2.2.2.2.2.1 B2 E0 ∧ (∃ s : Nat → Value, a = Ac ((((((Fm.dead 39 s).upd 1 (.int .i64 a1)).upd 3 (.pointer (some ⟨b1, 0, none⟩))).upd 7 v79).upd 8 (.pointer (some ⟨b33, 0, none⟩))).upd 9 (.int .i64 q.2.1))) ∧ St W g [] ((b1, blk (cl_Image D1 E1 a0.Entry) 40) :: ((b33, blk (cl_State v85 v90 v95 q.2.2.2.2.2.1 Y1 q.2.2.2.2.2.2.2.1 Z1 q.2.2.2.2.2.2.2.2.2.1 B2 q.2.2.2.2.2.2.2.2.2.2.2.1 q.2.2.2.2.2.2.2.2.2.2.2.2) 62) :: (D2 ++ (E2 ++ (G2 ++ (B0 ++ (D0 ++ (E0 ++ (G0 ++ []))))))))) w') ⟨(.slice none 0 0), K2, G1, I1, J1, K1, M1, [], Y2, Z2, B3, D3, E3, G3, (OwT.nil _ _ _), N1, R1, T1, U1, V1, X1, mk_exF, (hS.re (.b (.e (.d (.d (.d (.d (.d (.d .hb))))))) (.b .hb (.t .h (.t .h (.t .h (.t .h (.t .h (.t .h (.take (X := []) (.here [] _) .n))))))))))⟩ ?_
 clear hS hF
 intro T4 q a w hI hq
 obtain ⟨x78, x83, x84, x89, x94, x99, R3, I2, T3, U3, V3, X3, Y3⟩ := q
 obtain ⟨v79, v85, v90, v95, Y1, Z1, B2, G0, D2, E2, G2, B0, D0, E0, h80, h86, h91, h96, I3, J3, K3, ⟨U4, rfl⟩, hS⟩ := hq
 replace h80 : OwT 3 enc_int 1 x78 v79 G0 := h80
 replace h86 : OwT 87 enc_uint32 1 x84 v85 D2 := h86
 replace h91 : OwT 87 enc_uint32 1 x89 v90 E2 := h91
 replace h96 : OwT 87 enc_uint32 1 x94 v95 G2 := h96
 replace I3 : OwT 87 enc_uint32 1 R3 Y1 B0 := I3
 replace J3 : OwT 3 enc_int 1 T3 Z1 D0 := J3
 replace K3 : OwT 89 enc_Write 3 V3 B2 E0 := K3
 obtain ⟨V4, hF, M2⟩ := iter_step hI
 clear hI
 dsimp only [r19_Trace_b1] at hF
 iterate 2 (refine c_seq ?_)
 refine c_region ?_
 iterate 2 (refine oy hS y_move ?_)
 refine oy hS y_bin ?_
 refine o_split (ht := fun M3 => ?_) (hf := fun M3 => ?_)
 · replace hF := bt M3 hF
   refine o_gu rfl rfl rfl <| oy hS (y_field fa_api_State_7) <| o_gu rfl rfl rfl <| oy hS (y_load (fun w hS => hS.own (mC (mH))) underlying3 rfl rfl) <| o_gu rfl rfl rfl <| oy hS y_bin <| oy hS y_pickT <| n_thenN ?_
   refine c_if (ht := fun N3 => ?_) (hf := fun N3 => ?_)
   · replace hF := bt N3 hF
     refine wp_skip <| c_seq <| c_block <| c_seq <| c_region <| oy hS y_move <| oy hS (y_field fa_api_State_5) <| oy hS (y_load (fun w hS => hS.own (mC (mH))) underlying3 rfl rfl) ?_
     refine o_buildT val_int ([I2] : List Int) hS el_int (fun _ => rfl) enc_len_int (by decide) rfl (by decide) (hp := rfl) (h := ?_)
     clear hS; intro J4 w hS X4
     have hS : St W g [] ([(J4, blk (([I2] : List Int).flatMap enc_int) 3)] ++ ((b1, blk (cl_Image D1 E1 a0.Entry) 40) :: ((b33, blk (cl_State v85 v90 v95 x99 Y1 I2 Z1 U3 B2 X3 Y3) 62) :: (D2 ++ (E2 ++ (G2 ++ (B0 ++ (D0 ++ (E0 ++ (G0 ++ [])))))))))) w := hS
     obtain ⟨N4, Z3, hF⟩ := ob hF
     have hS := hS.re (.t .h (.t (.e (.e (.d (.d (.d (.d (.d (.d .h)))))))) (.b .hb (.b .hb (.t .h (.t .h (.t .h (.t .h (.t .h (.t .h .n))))))))))
     refine o_appPn (ys := ([I2] : List Int)) (LX := G0) Z3 hS el_int h80 rfl enc_len_int (enc_ones_int _) (by decide) ?_
     clear hS; intro K4 E4 w M4 hS
     refine oy hS y_assign <| n_thenN <| c_region <| oy hS (y_field fa_api_Image_0) <| oy hS (y_load (fun w hS => hS.own (mB (mH))) underlying38 rfl rfl) ?_
     refine oy hS (y_loadW (fun w hS => hS.own (mB (mC (mH)))) underlying62 rfl (by exact sz_api_State)) ?_
     obtain ⟨J2, G4, hF⟩ := ob hF
     refine o_call0 hS func21 rfl rfl (hc := (w_r5_Cycles (a0 := a0.Code) (a1 := (⟨x84, x89, x94, x99, R3, I2, T3, U3, V3, X3, Y3⟩ : T_State)) (a2 := 1) (a3 := false) (h0 := B4.plus) (h1 := ⟨_, _, _, _, _, _, rfl, (OwT.plus h86 hS (fun p hp => mB (mC (mC (mA (hp)))))), (OwT.plus h91 hS (fun p hp => mB (mC (mC (mB (mA (hp))))))), (OwT.plus h96 hS (fun p hp => mB (mC (mC (mB (mB (mA (hp)))))))), (OwT.plus I3 hS (fun p hp => mB (mC (mC (mB (mB (mB (mA (hp))))))))), (OwT.plus J3 hS (fun p hp => mB (mC (mC (mB (mB (mB (mB (mA (hp)))))))))), (OwT.plus K3 hS (fun p hp => mB (mC (mC (mB (mB (mB (mB (mB (mA (hp)))))))))))⟩) (hF := G4))) (h := ?_)
     clear hS; intro Y4 R4 w hS I4
     obtain ⟨v_0_179, LX_0_180, rfl, rfl, h_0_181⟩ := I4
     obtain ⟨I0, J0, K0, N0, R0, T0, N2, R2, T2, U2, V2, X2, rfl, rfl, U0, V0, X0, Y0, Z0, B1⟩ := h_0_181
     simp only [aa, ac, al] at hS
     refine oy hS y_move ?_
     iterate 2 (refine oy hS (y_extract rfl) ?_)
     have hS := hS.re (.b (.d (.d (.d (.d (.d (.d (.d (.e .hb)))))))) (.t .h (.t .h (.t .h (.t .h (.t .h (.t .h (.t .h (.b .hb (.t .h (.t .h (.t .h (.t .h (.t .h (.t .h .n)))))))))))))))
     refine o_storeW (vs := (cl_State I0 J0 K0 J2.1.Taken N0 J2.1.PC R0 J2.1.Stop T0 J2.1.Jump J2.1.Delay)) hS (by exact rfl) (Upd.here _) (by exact sz_api_State) (one_State (U0).one (V0).one (X0).one (Y0).one (Z0).one (B1).one) ?_
     clear hS; intro w hS
     refine n_anyN ?_
     refine c_region <| oy hS y_move <| oy hS y_bin <| oy hS y_assign <| n_thenN ?_
     obtain rfl := osi hF
     exact ⟨_, M2, K4, I0, J0, K0, N0, R0, T0, E4, N2, R2, T2, U2, V2, X2, M4, U0, V0, X0, Y0, Z0, B1, mk_exF, (hS.re (.b (.e (.d (.d (.d (.d (.d (.d (.d .hb)))))))) (.b .hb (.t .h (.t .h (.t .h (.t .h (.t .h (.t .h (.t .h .n))))))))))⟩
   replace hF := bf N3 hF
   refine wp_exit ?_
   refine c_seq <| c_region <| oy hS y_move <| oy hS y_assign <| n_thenN ?_
   obtain rfl := osi hF
   obtain rfl : _ = r := M2
   refine wp_ret (r_ret (vs := [v79]) (hS.re (.t (.e (.e (.d (.d (.d (.d (.d (.d .h)))))))) .n)) (rsC res_tmp rsN) rfl ⟨_, _, rfl, (by first | rfl | simp only [aa, ac, al, an]), h80⟩)
 replace hF := bf M3 hF
 iterate 3 (refine o_sk rfl rfl ?_)
 refine oy hS y_pickF <| n_thenN ?_
 refine c_if_false (h := ?_)
 refine wp_exit ?_
 refine c_seq <| c_region <| oy hS y_move <| oy hS y_assign <| n_thenN ?_
 obtain rfl := osi hF
 obtain rfl : _ = r := M2
 refine wp_ret (r_ret (vs := [v79]) (hS.re (.t (.e (.e (.d (.d (.d (.d (.d (.d .h)))))))) .n)) (rsC res_tmp rsN) rfl ⟨_, _, rfl, (by first | rfl | simp only [aa, ac, al, an]), h80⟩)
theorem w_r19_Trace {g : Frag} {a0 : T_Image} {v0_ : Value} {a1 : Int} {a2 : (List Int)} {v2_ : Value} {r : (List Int)} (h0 : Rd_Image g a0 v0_) (h2 : SlT g enc_uint32 1 a2 v2_) (hF : r19_Trace a0 a1 a2 = some r) : LC Tryz.prog 8 #[v0_, .int .i64 a1, v2_] g [] (fun v L => ∃ (u0 : Value) (M0 : Own), u0 = v ∧ L = (M0 ++ []) ∧ OwT 3 enc_int 1 r u0 M0) := w_r19_Trace_ h0 h2 hF

noncomputable def r0_EqNumbers_b1 (a0 : (List Int)) (a1 : (List Int)) : Int → Option (Step Int Bool) := fun x28 => bif decide (x28 < (a0.length : Int)) then (at' a0 x28).bind fun x60 => (at' a1 x28).bind fun x72 => bif decide (x60 ≠ x72) then some (.done (false)) else some (.next (IntKind.i64.wrap (x28 + 1))) else some (.done (true))
noncomputable def r0_EqNumbers (a0 : (List Int)) (a1 : (List Int)) : Option Bool :=
  bif decide ((a0.length : Int) ≠ (a1.length : Int)) then some (false) else loop (σ := Int) (r0_EqNumbers_b1 a0 a1) 0
theorem w_r0_EqNumbers_ {g : Frag} {a0 : (List Int)} {v0_ : Value} {a1 : (List Int)} {v1_ : Value} {r : Bool} (h0 : SlT g enc_int 1 a0 v0_) (h1 : SlT g enc_int 1 a1 v1_) (hF : r0_EqNumbers a0 a1 = some r) : LCs Tryz.prog 10 #[v0_, v1_] g (.bool r) := by
 unfold r0_EqNumbers at hF
 refine lc_body (k := 26) (av := [v0_, v1_]) func10 rfl rfl (h := fun W hS => ?_)
 refine c_seq <| c_region <| oy hS y_assign <| n_thenN ?_
 iterate 2 (refine c_seq ?_)
 refine c_region <| oy hS y_move <| oy hS (y_len h0 underlying37) <| oy hS y_move <| oy hS (y_len h1 underlying37) <| oy hS y_bin <| n_thenN ?_
 refine c_if (ht := fun c1 => ?_) (hf := fun c1 => ?_)
 · replace hF := bt c1 hF
   refine c_seq <| c_region <| oy hS y_assign <| n_thenN ?_
   obtain rfl := osi hF
   exact wp_ret (wr1 hS)
 replace hF := bf c1 hF
 refine wp_skip ?_
 iterate 2 (refine c_seq ?_)
 refine c_region <| oy hS y_assign <| n_thenN <| c_block ?_
 refine c_loopP hF (fun (q : Int) a w' => (∃ s : Nat → Value, a = Ac ((((Fm.dead 26 s).upd 0 v0_).upd 1 v1_).upd 5 (.int .i64 q))) ∧ St W g [] [] w') ⟨mk_exF, (hS.re (.n))⟩ ?_
 clear hS hF
 intro n57 q a w hI hq
 revert hq hI; revert q; intro x28 hI hq
 obtain ⟨⟨s58, rfl⟩, hS⟩ := hq
 obtain ⟨z55, hF, B0⟩ := iter_step hI
 clear hI
 dsimp only [r0_EqNumbers_b1] at hF
 iterate 2 (refine c_seq ?_)
 refine c_region ?_
 iterate 2 (refine oy hS y_move ?_)
 refine oy hS (y_len h0 underlying37) <| oy hS y_bin <| n_thenN ?_
 refine c_if (ht := fun c59 => ?_) (hf := fun c59 => ?_)
 · replace hF := bt c59 hF
   refine wp_skip <| c_seq <| c_block <| c_seq ?_
   refine c_quiet (by kernel_rfl) (by kernel_rfl) hS ?_
   iterate 2 (refine qy y_move ?_)
   obtain ⟨x60, D0, hF⟩ := ob hF
   obtain ⟨b61, o62, c63, X0, e65, Y0, E0, G0, I0, J0, K0⟩ := SlT.at D0 h0 enc_len_int
   refine qy (y_index E0 G0 I0 underlying37 el_int.size) <| qy (y_load (fun w hS => hS.block J0) underlying3 rfl (K0 0 _ rfl)) ?_
   iterate 2 (refine qy y_move ?_)
   obtain ⟨x72, M0, hF⟩ := ob hF
   obtain ⟨b73, o74, c75, Z0, e77, B1, N0, R0, T0, U0, V0⟩ := SlT.at M0 h1 enc_len_int
   refine qy (y_index N0 R0 T0 underlying37 el_int.size) <| qy (y_load (fun w hS => hS.block U0) underlying3 rfl (V0 0 _ rfl)) <| qy y_bin ?_
   refine q_nilN (h := ?_)
   clear hS; intro w hS
   refine c_if (ht := fun c84 => ?_) (hf := fun c84 => ?_)
   · replace hF := bt c84 hF
     refine c_seq <| c_region <| oy hS y_assign <| n_thenN ?_
     obtain rfl := osi hF
     obtain rfl : _ = r := B0
     exact wp_ret (wr1 hS)
   replace hF := bf c84 hF
   refine wp_skip <| c_region <| oy hS y_move <| oy hS y_bin <| oy hS y_assign <| n_thenN ?_
   obtain rfl := osi hF
   exact ⟨_, B0, mk_exF, (hS.re (.n))⟩
 replace hF := bf c59 hF
 refine wp_exit ?_
 refine c_seq <| c_region <| oy hS y_assign <| n_thenN ?_
 obtain rfl := osi hF
 obtain rfl : _ = r := B0
 exact wp_ret (wr1 hS)
theorem w_r0_EqNumbers {g : Frag} {a0 : (List Int)} {v0_ : Value} {a1 : (List Int)} {v1_ : Value} {r : Bool} (h0 : SlT g enc_int 1 a0 v0_) (h1 : SlT g enc_int 1 a1 v1_) (hF : r0_EqNumbers a0 a1 = some r) : LCs Tryz.prog 10 #[v0_, v1_] g (.bool r) := w_r0_EqNumbers_ h0 h1 hF

noncomputable def r19_FlatMay (a0 : T_Flat) : Option Bool :=
  (r3_Program a0.Code).bind fun r2 => bif r2 then bif decide ((a0.Data.length : Int) ≤ 256) then some (r0_Num a0.Entry (a0.Code.length : Int)) else some (false) else some (false)
theorem w_r19_FlatMay_ {g : Frag} {a0 : T_Flat} {v0_ : Value} {r : Bool} (h0 : Rd_Flat g a0 v0_) (hF : r19_FlatMay a0 = some r) : LCs Tryz.prog 12 #[v0_] g (.bool r) := by
 obtain ⟨B0, D0, rfl, E0, G0⟩ := h0
 unfold r19_FlatMay at hF
 refine lc_body (k := 20) (av := [.agg (cl_Flat B0 D0 a0.Entry).toArray]) func12 rfl rfl (h := fun W hS => ?_)
 refine c_seq <| c_region ?_
 refine o_boxP (cl := (cl_Flat B0 D0 a0.Entry)) rfl hS ?_
 clear hS; intro b1 w hS
 refine oy hS y_assign <| n_thenN <| c_seq <| c_region <| oy hS (y_field fa_api_Flat_0) <| oy hS (y_load oH underlying53 rfl rfl) ?_
 obtain ⟨r2, hr2, hF⟩ := ob hF
 refine o_callS hS func27 rfl rfl (hc := (w_r3_Program (a0 := a0.Code) (h0 := E0.plus) (hF := hr2))) (h := ?_)
 clear hS; intro w hS
 refine o_split (ht := fun c3 => ?_) (hf := fun c3 => ?_)
 · replace hF := bt c3 hF
   refine o_gu rfl rfl rfl <| oy hS (y_field fa_api_Flat_1) <| o_gu rfl rfl rfl <| oy hS (y_load oH underlying31 rfl rfl) <| o_gu rfl rfl rfl <| oy hS (y_len G0 underlying31) <| o_gu rfl rfl rfl <| oy hS y_bin ?_
   refine oy hS y_pickT ?_
   refine o_split (ht := fun c4 => ?_) (hf := fun c4 => ?_)
   · replace hF := bt c4 hF
     refine o_gu rfl rfl rfl <| oy hS (y_field fa_api_Flat_2) <| o_gu rfl rfl rfl <| oy hS (y_load oH underlying3 rfl rfl) <| o_gu rfl rfl rfl <| oy hS (y_field fa_api_Flat_0) <| o_gu rfl rfl rfl <| oy hS (y_load oH underlying53 rfl rfl) ?_
     refine o_gu rfl rfl rfl <| oy hS (y_len E0 underlying53) <| o_gu rfl rfl rfl ?_
     refine o_callS hS func7 rfl rfl (hc := (w_r0_Num (a0 := a0.Entry) (a1 := (a0.Code.length : Int)))) (h := ?_)
     clear hS; intro w hS
     refine oy hS y_pickT <| oy hS y_assign <| n_thenN ?_
     obtain rfl := osi hF
     exact wp_ret (wr1 hS)
   replace hF := bf c4 hF
   iterate 6 (refine o_sk rfl rfl ?_)
   refine oy hS y_pickF <| oy hS y_assign <| n_thenN ?_
   obtain rfl := osi hF
   exact wp_ret (wr1 hS)
 replace hF := bf c3 hF
 iterate 4 (refine o_sk rfl rfl ?_)
 refine oy hS y_pickF <| oy hS y_move ?_
 iterate 6 (refine o_sk rfl rfl ?_)
 refine oy hS y_pickF <| oy hS y_assign <| n_thenN ?_
 obtain rfl := osi hF
 exact wp_ret (wr1 hS)
theorem w_r19_FlatMay {g : Frag} {a0 : T_Flat} {v0_ : Value} {r : Bool} (h0 : Rd_Flat g a0 v0_) (hF : r19_FlatMay a0 = some r) : LCs Tryz.prog 12 #[v0_] g (.bool r) := w_r19_FlatMay_ h0 hF
end Go.Proofs.YtfnmihhcopkkbaaGreat
