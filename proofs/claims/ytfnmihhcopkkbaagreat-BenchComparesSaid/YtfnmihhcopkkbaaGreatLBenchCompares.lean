/- The law BenchCompares, lifted. Printed by lift.py. -/
import Derived.Test.YtfnmihhcopkkbaaGreatProg
import Derived.Test.YtfnmihhcopkkbaaGreatP13
import Derived.KernelRfl
namespace Go.Proofs.YtfnmihhcopkkbaaGreat
open Go Go.RowKit Fr
set_option linter.unusedVariables false
set_option linter.unusedSimpArgs false
set_option maxRecDepth 20000
open Tryz
set_option maxHeartbeats 2000000
noncomputable def l23_BenchCompares_k11 (a0 : T_Ask23) (E0 : Int) (D0 : T_Image) (G0 : (List Int)) (I0 : Int) : Bool → Option (Step (Int × Int × Int × Int × Int × Bool × Bool) (Step Int (Step Int (Step Int Bool)))) := fun J0 => bif J0 then (at' a0.I.F E0).bind fun K0 => (r19_Compare (⟨D0.Code, G0, D0.Entry⟩ : T_Image) K0 I0 a0.I.In_).bind fun B0 => some (.next (0, B0.Steps, B0.Cycles, B0.Seq, B0.Pipe, B0.Same, B0.Begins)) else some (.next (1, 0, 0, 0, 0, false, false))
noncomputable def l23_BenchCompares_k10 (B0 : Int) (D0 : Int) (E0 : Int) (G0 : Int) (I0 : Int) (J0 : Bool) (K0 : Bool) (M0 : Int) : (Int × Int × Int × Int × Int × Bool × Bool) → Option (Step Int (Step Int (Step Int Bool))) := fun (N0, R0, T0, U0, V0, X0, Y0) => bif decide ((l23_num B0) ≠ N0) then some (.done (.done (.done (false)))) else bif !(eqb_Verdict (⟨D0, E0, G0, I0, J0, K0⟩ : T_Verdict) (⟨R0, T0, U0, V0, X0, Y0⟩ : T_Verdict)) then some (.done (.done (.done (false)))) else some (.next (IntKind.i64.wrap (M0 + 1)))
noncomputable def l23_BenchCompares_k9 (D0 : Int) (a0 : T_Ask23) (B0 : Int) (E0 : T_Image) (G0 : (List Int)) (I0 : Int) : (Int × Int × Int × Int × Int × Bool × Bool) → Option (Step Int (Step Int (Step Int Bool))) := fun (J0, K0, M0, N0, R0, T0, U0) => cut (σ := (Int × Int × Int × Int × Int × Bool × Bool)) (cut (σ := Bool) (bif decide (D0 = 0) then (at' a0.I.F B0).bind fun V0 => (r19_FlatMay V0).bind fun X0 => some (.next X0) else some (.next false)) (l23_BenchCompares_k11 a0 B0 E0 G0 I0)) (l23_BenchCompares_k10 J0 K0 M0 N0 R0 T0 U0 B0)
noncomputable def l23_BenchCompares_k8 (a0 : T_Ask23) (E0 : Int) (D0 : T_Image) (G0 : (List Int)) (I0 : Int) (J0 : Int) : Unit → Option (Step Int (Step Int (Step Int Bool))) := fun _ => cut (σ := (Int × Int × Int × Int × Int × Bool × Bool)) ((at' a0.I.F E0).bind fun K0 => (bench_Compare (⟨D0.Code, G0, D0.Entry⟩ : T_Image) K0 I0 a0.I.In_).bind fun B0 => some (.next (B0.2, B0.1.Steps, B0.1.Cycles, B0.1.Seq, B0.1.Pipe, B0.1.Same, B0.1.Begins))) (l23_BenchCompares_k9 J0 a0 E0 D0 G0 I0)
noncomputable def l23_BenchCompares_b7 (a0 : T_Ask23) (D0 : Int) (E0 : T_Image) (G0 : (List Int)) (I0 : Int) (J0 : Int) : Int → Option (Step Int (Step Int (Step Int Bool))) := fun B0 => cut (σ := Unit) (bif decide (B0 < (a0.I.F.length : Int)) then bif decide (B0 < 5) then some (.next ()) else some (.done (.done (.next (IntKind.i64.wrap (D0 + 1))))) else some (.done (.done (.next (IntKind.i64.wrap (D0 + 1)))))) (l23_BenchCompares_k8 a0 B0 E0 G0 I0 J0)
noncomputable def l23_BenchCompares_k6 (a0 : T_Ask23) (B0 : Int) (D0 : T_Image) (E0 : (List Int)) (G0 : Int) (I0 : Int) : Unit → Option (Step Int (Step Int Bool)) := fun _ => loop (σ := Int) (l23_BenchCompares_b7 a0 B0 D0 E0 G0 I0) 0
noncomputable def l23_BenchCompares_k5 (B0 : ((List Int) × Int)) (a0 : T_Ask23) (E0 : Int) (G0 : T_Image) (I0 : Int) : (Int × (List Int) × (List Int)) → Option (Step Int (Step Int Bool)) := fun (D0, J0, K0) => cut (σ := Unit) (bif decide ((l23_num B0.2) ≠ D0) then some (.done (.done (.done (false)))) else (r0_EqNumbers B0.1 J0).bind fun M0 => bif !M0 then some (.done (.done (.done (false)))) else some (.next ())) (l23_BenchCompares_k6 a0 E0 G0 K0 I0 D0)
noncomputable def l23_BenchCompares_k4 (a0 : T_Ask23) (E0 : Int) (G0 : Int) : Int → Option (Step Int (Step Int Bool)) := fun D0 => (at' a0.I.X E0).bind fun B0 => (bench_Trace B0 D0 a0.I.In_).bind fun I0 => cut (σ := (Int × (List Int) × (List Int))) ((r19_Image B0).bind fun J0 => bif J0 then bif decide ((a0.I.In_.length : Int) ≤ 100) then bif (r0_Num D0 4000) then (r19_Trace B0 D0 a0.I.In_).bind fun K0 => some (.next (0, K0, B0.Data)) else some (.next (1, [], B0.Data)) else some (.next (1, [], B0.Data)) else some (.next (1, [], B0.Data))) (l23_BenchCompares_k5 I0 a0 G0 B0 D0)
noncomputable def l23_BenchCompares_b3 (a0 : T_Ask23) (E0 : Int) : Int → Option (Step Int (Step Int Bool)) := fun D0 => bif decide (D0 < (([0, 1, 40, a0.N, (-1), 4001] : List Int).length : Int)) then (at' ([0, 1, 40, a0.N, (-1), 4001] : List Int) D0).bind fun B0 => cut (σ := Int) (bif decide (60 < B0) then bif decide (B0 ≤ 4000) then some (.next 60) else some (.next B0) else some (.next B0)) (l23_BenchCompares_k4 a0 E0 D0) else some (.done (.next (IntKind.i64.wrap (E0 + 1))))
noncomputable def l23_BenchCompares_k2 (a0 : T_Ask23) (B0 : Int) : Unit → Option (Step Int Bool) := fun _ => loop (σ := Int) (l23_BenchCompares_b3 a0 B0) 0
noncomputable def l23_BenchCompares_b1 (a0 : T_Ask23) : Int → Option (Step Int Bool) := fun B0 => cut (σ := Unit) (bif decide (B0 < (a0.I.X.length : Int)) then bif decide (B0 < 5) then some (.next ()) else (l23_wakes).bind fun D0 => some (.done (.done (D0))) else (l23_wakes).bind fun E0 => some (.done (.done (E0)))) (l23_BenchCompares_k2 a0 B0)
noncomputable def l23_BenchCompares (a0 : T_Ask23) : Option Bool :=
  (l23_Heavy a0).bind fun r2 => bif r2 then some (true) else loop (σ := Int) (l23_BenchCompares_b1 a0) 0
theorem w_l23_BenchCompares_ {g : Frag} {a0 : T_Ask23} {v0_ : Value} {r : Bool} (h0 : Rd_Ask23 g a0 v0_) (hF : l23_BenchCompares a0 = some r) : LCs Tryz.prog 3 #[v0_] g (.bool r) := by
 obtain ⟨G0, I0, J0, K0, M0, D0, rfl, K8, M8, N8, Y2, G2, N1⟩ := h0
 unfold l23_BenchCompares at hF
 refine lc_body (k := 148) (av := [.agg (cl_Ask23 G0 I0 J0 K0 M0 D0 a0.N).toArray]) func3 rfl rfl (h := fun W hS => ?_)
 refine c_seq <| c_region ?_
 refine o_boxP (cl := (cl_Ask23 G0 I0 J0 K0 M0 D0 a0.N)) rfl hS ?_
 clear hS; intro b1 w hS
 refine oy hS y_assign <| n_thenN ?_
 iterate 2 (refine c_seq ?_)
 refine c_region ?_
 refine oy hS (y_loadW oH underlying35 rfl (by exact sz_sledgelaw23_Ask23)) ?_
 obtain ⟨r2, hr2, hF⟩ := ob hF
 refine o_callS hS func4 rfl rfl (hc := (w_l23_Heavy (a0 := a0) (h0 := ⟨_, _, _, _, _, _, rfl, K8.plus, (SlN.plus mono_Unit M8), (SlN.plus mono_Object N8), (SlN.plus mono_Image Y2), (SlN.plus mono_Flat G2), N1.plus⟩) (hF := hr2))) (h := ?_)
 clear hS; intro w hS
 refine n_thenN ?_
 refine c_if (ht := fun c3 => ?_) (hf := fun c3 => ?_)
 · replace hF := bt c3 hF
   refine c_seq <| c_region <| oy hS y_assign <| n_thenN ?_
   obtain rfl := osi hF
   exact wp_ret (wr1 hS)
 replace hF := bf c3 hF
 refine wp_skip <| c_seq <| c_region <| oy hS (y_field fa_sledgelaw23_Ask23_1) <| oy hS (y_load oH underlying3 rfl rfl) ?_
 refine o_buildT val_int ([0, 1, 40, a0.N, (-1), 4001] : List Int) hS el_int (fun _ => rfl) enc_len_int (by decide) rfl (by decide) (hp := rfl) (h := ?_)
 clear hS; intro b4 w hS h5
 have hS : St W g [] ([(b4, blk (([0, 1, 40, a0.N, (-1), 4001] : List Int).flatMap enc_int) 3)] ++ ((b1, blk (cl_Ask23 G0 I0 J0 K0 M0 D0 a0.N) 35) :: [])) w := hS
 refine oy hS y_assign <| n_thenN ?_
 iterate 2 (refine c_seq ?_)
 refine c_region <| oy hS y_assign <| n_thenN <| c_block ?_
 refine c_loopP hF (fun (q : Int) a w' => (∃ s : Nat → Value, a = Ac ((((Fm.dead 148 s).upd 1 (.pointer (some ⟨b1, 0, none⟩))).upd 3 (.slice (some ⟨b4, 0, none⟩) 6 6)).upd 4 (.int .i64 q))) ∧ St W g [] ((b1, blk (cl_Ask23 G0 I0 J0 K0 M0 D0 a0.N) 35) :: ([(b4, blk (([0, 1, 40, a0.N, (-1), 4001] : List Int).flatMap enc_int) 3)] ++ [])) w') ⟨mk_exF, (hS.re (.b (.d .hb) (.t .h .n)))⟩ ?_
 clear hS hF
 intro N9 q a w hI hq
 revert hq hI; revert q; intro U0 hI hq
 obtain ⟨⟨R9, rfl⟩, hS⟩ := hq
 obtain ⟨K1, hF, G1⟩ := iter_step hI
 clear hI
 dsimp only [l23_BenchCompares_b1] at hF
 obtain ⟨T9, hF, R2⟩ := cut_step hF
 refine c_cutP (fun a w' => l23_BenchCompares_k2 a0 U0 () = some K1 ∧ (∃ s : Nat → Value, a = Ac ((((Fm.dead 148 s).upd 1 (.pointer (some ⟨b1, 0, none⟩))).upd 3 (.slice (some ⟨b4, 0, none⟩) 6 6)).upd 4 (.int .i64 U0))) ∧ St W g [] ((b1, blk (cl_Ask23 G0 I0 J0 K0 M0 D0 a0.N) 35) :: ([(b4, blk (([0, 1, 40, a0.N, (-1), 4001] : List Int).flatMap enc_int) 3)] ++ [])) w') ?_ ?_
 · skip
   refine c_seq <| c_region <| oy hS y_move <| oy hS (y_field fa_sledgelaw23_Ask23_0) <| oy hS (y_field fa_sledgelaw20_Ask20_1) <| oy hS (y_load oH underlying29 rfl rfl) <| oy hS (y_lenN Y2 underlying29) <| oy hS y_bin ?_
   refine o_split (ht := fun Z2 => ?_) (hf := fun Z2 => ?_)
   · replace hF := bt Z2 hF
     refine o_gu rfl rfl rfl <| oy hS y_move <| o_gu rfl rfl rfl <| oy hS y_bin <| oy hS y_pickT <| n_thenN ?_
     refine c_if (ht := fun B3 => ?_) (hf := fun B3 => ?_)
     · replace hF := bt B3 hF
       refine wp_skip ?_
       obtain rfl := osi hF
       change _ ∧ _
       exact ⟨R2, mk_exF, (hS.re (.b .hb (.t .h .n)))⟩
     replace hF := bf B3 hF
     refine wp_exit ?_
     refine c_seq <| c_region ?_
     obtain ⟨U9, I5, hF⟩ := ob hF
     refine o_callS hS func14 rfl rfl (hc := (w_l23_wakes  (hF := I5))) (h := ?_)
     clear hS; intro w hS
     refine oy hS y_assign <| n_thenN ?_
     obtain rfl := osi hF
     obtain rfl : _ = K1 := R2
     obtain rfl : _ = r := G1
     exact wp_ret (wr1 hS)
   replace hF := bf Z2 hF
   iterate 2 (refine o_sk rfl rfl ?_)
   refine oy hS y_pickF <| n_thenN ?_
   refine c_if_false (h := ?_)
   refine wp_exit ?_
   refine c_seq <| c_region ?_
   obtain ⟨V9, J5, hF⟩ := ob hF
   refine o_callS hS func14 rfl rfl (hc := (w_l23_wakes  (hF := J5))) (h := ?_)
   clear hS; intro w hS
   refine oy hS y_assign <| n_thenN ?_
   obtain rfl := osi hF
   obtain rfl : _ = K1 := R2
   obtain rfl : _ = r := G1
   exact wp_ret (wr1 hS)
 rintro a w ⟨hF, ⟨X9, rfl⟩, hS⟩
 dsimp only [l23_BenchCompares_k2] at hF
 refine c_seq <| c_block <| c_seq <| c_region <| oy hS y_assign <| n_thenN <| c_block ?_
 refine c_loopP hF (fun (q : Int) a w' => (∃ s : Nat → Value, a = Ac (((((Fm.dead 148 s).upd 1 (.pointer (some ⟨b1, 0, none⟩))).upd 3 (.slice (some ⟨b4, 0, none⟩) 6 6)).upd 4 (.int .i64 U0)).upd 5 (.int .i64 q))) ∧ St W g [] ((b1, blk (cl_Ask23 G0 I0 J0 K0 M0 D0 a0.N) 35) :: ([(b4, blk (([0, 1, 40, a0.N, (-1), 4001] : List Int).flatMap enc_int) 3)] ++ [])) w') ⟨mk_exF, (hS.re (.b .hb (.t .h .n)))⟩ ?_
 clear hS hF
 intro Y9 q a w hI hq
 revert hq hI; revert q; intro X0 hI hq
 obtain ⟨⟨Z9, rfl⟩, hS⟩ := hq
 obtain ⟨D1, hF, I1⟩ := iter_step hI
 clear hI
 dsimp only [l23_BenchCompares_b3] at hF
 iterate 2 (refine c_seq ?_)
 refine c_region ?_
 iterate 2 (refine oy hS y_move ?_)
 refine oy hS (y_lenO h5 underlying37) <| oy hS y_bin <| n_thenN ?_
 refine c_if (ht := fun D3 => ?_) (hf := fun D3 => ?_)
 · replace hF := bt D3 hF
   refine wp_skip <| c_seq <| c_block <| c_seq <| c_region ?_
   iterate 2 (refine oy hS y_move ?_)
   obtain ⟨D5, K5, hF⟩ := ob hF
   obtain ⟨Ba, Da, X8, M5, N5, R5, T5, U5⟩ := OwT.at K5 h5 enc_len_int
   refine oy hS (y_index M5 N5 R5 underlying37 el_int.size) <| oy hS (y_load (fun w hS => hS.own (mC (mA (mX T5)))) underlying3 rfl (U5 0 _ rfl)) <| oy hS y_assign <| n_thenN ?_
   obtain ⟨Ea, hF, T2⟩ := cut_step hF
   refine c_cutP (fun a w' => ∃ (E0 : Int), l23_BenchCompares_k4 a0 U0 X0 E0 = some D1 ∧ (∃ s : Nat → Value, a = Ac ((((((Fm.dead 148 s).upd 1 (.pointer (some ⟨b1, 0, none⟩))).upd 3 (.slice (some ⟨b4, 0, none⟩) 6 6)).upd 4 (.int .i64 U0)).upd 5 (.int .i64 X0)).upd 6 (.int .i64 E0))) ∧ St W g [] ((b1, blk (cl_Ask23 G0 I0 J0 K0 M0 D0 a0.N) 35) :: ([(b4, blk (([0, 1, 40, a0.N, (-1), 4001] : List Int).flatMap enc_int) 3)] ++ [])) w') ?_ ?_
   · skip
     refine c_seq <| c_region <| oy hS y_move <| oy hS y_bin ?_
     refine o_split (ht := fun E3 => ?_) (hf := fun E3 => ?_)
     · replace hF := bt E3 hF
       refine o_gu rfl rfl rfl <| oy hS y_move <| o_gu rfl rfl rfl <| oy hS y_bin <| oy hS y_pickT <| n_thenN ?_
       refine c_if (ht := fun G3 => ?_) (hf := fun G3 => ?_)
       · replace hF := bt G3 hF
         refine c_region <| oy hS y_assign <| n_thenN ?_
         obtain rfl := osi hF
         change ∃ _, _
         exact ⟨60, T2, mk_exF, (hS.re (.b .hb (.t .h .n)))⟩
       replace hF := bf G3 hF
       refine wp_skip ?_
       obtain rfl := osi hF
       change ∃ _, _
       exact ⟨D5, T2, mk_exF, (hS.re (.b .hb (.t .h .n)))⟩
     replace hF := bf E3 hF
     iterate 2 (refine o_sk rfl rfl ?_)
     refine oy hS y_pickF <| n_thenN ?_
     refine c_if_false (h := ?_)
     refine wp_skip ?_
     obtain rfl := osi hF
     change ∃ _, _
     exact ⟨D5, T2, mk_exF, (hS.re (.b .hb (.t .h .n)))⟩
   rintro a w ⟨E0, hF, ⟨Ga, rfl⟩, hS⟩
   dsimp only [l23_BenchCompares_k4] at hF
   refine c_seq <| c_region <| oy hS (y_field fa_sledgelaw23_Ask23_0) <| oy hS (y_field fa_sledgelaw20_Ask20_3) <| oy hS (y_load oH underlying31 rfl rfl) <| oy hS y_assign <| n_thenN <| c_seq ?_
   refine c_region <| oy hS (y_field fa_sledgelaw23_Ask23_0) <| oy hS (y_field fa_sledgelaw20_Ask20_1) <| oy hS (y_load oH underlying29 rfl rfl) <| oy hS y_move ?_
   obtain ⟨B0, V5, hF⟩ := ob hF
   obtain ⟨Ia, Ja, Ka, Y8, Ma, Z8, _, X5, Y5, Z5, B6, D6, T0, Z0, rfl, J1, B1⟩ := SlN.at V5 Y2
   refine oy hS (y_index X5 Y5 Z5 underlying29 el_api_Image.size) ?_
   refine oy hS (y_loadN (vs := (cl_Image T0 Z0 B0.Entry)) (fun w hS => hS.block B6) underlying40 rfl (by exact sz_api_Image) (fun j u hj => D6 j u hj)) ?_
   refine o_allocP (cl := (cl_Image (.slice none 0 0) (.slice none 0 0) 0)) zr_api_Image rfl hS ?_
   clear hS; intro N0 w hS
   refine o_storeW (vs := (cl_Image T0 Z0 B0.Entry)) hS (by exact rfl) (Upd.here _) (by exact sz_api_Image) (one_Image (J1).one (B1).one) ?_
   clear hS; intro w hS
   refine n_thenN <| c_seq <| c_region ?_
   refine oy hS (y_loadW oH underlying40 rfl (by exact sz_api_Image)) ?_
   iterate 2 (refine oy hS y_move ?_)
   obtain ⟨K2, E6, hF⟩ := ob hF
   refine o_call0 hS func5 rfl rfl (hc := (w_bench_Trace (a0 := B0) (a1 := E0) (a2 := a0.I.In_) (h0 := ⟨_, _, rfl, J1.plus, B1.plus⟩) (h2 := N1.plus) (hF := E6))) (h := ?_)
   clear hS; intro Na B9 w hS G6
   obtain ⟨v_0_5259, LX_0_5260, rfl, rfl, h_0_5261⟩ := G6
   simp only [aa, ac, al] at hS
   have hS : St W g [] (LX_0_5260 ++ ((N0, blk (cl_Image T0 Z0 B0.Entry) 40) :: ((b1, blk (cl_Ask23 G0 I0 J0 K0 M0 D0 a0.N) 35) :: ([(b4, blk (([0, 1, 40, a0.N, (-1), 4001] : List Int).flatMap enc_int) 3)] ++ [])))) w := hS
   refine oy hS y_move ?_
   iterate 2 (refine oy hS (y_extract rfl) ?_)
   iterate 2 (refine oy hS y_assign ?_)
   refine n_thenN <| c_seq <| c_region <| oy hS y_assign <| n_thenN <| c_seq <| c_region <| oy hS y_assign ?_
   refine n_thenN ?_
   obtain ⟨Ra, hF, I2⟩ := cut_step hF
   refine c_cutP (fun a w' => ∃ (V0 : Int) (M2 : (List Int)) (Y0 : (List Int)) (I3 : Value) (E1 : Value) (U2 : Own), l23_BenchCompares_k5 K2 a0 X0 B0 E0 (V0, M2, Y0) = some D1 ∧ OwT 3 enc_int 1 M2 I3 U2 ∧ SlT g enc_uint32 1 Y0 E1 ∧ (∃ s : Nat → Value, a = Ac ((((((((((((Fm.dead 148 s).upd 1 (.pointer (some ⟨b1, 0, none⟩))).upd 3 (.slice (some ⟨b4, 0, none⟩) 6 6)).upd 4 (.int .i64 U0)).upd 5 (.int .i64 X0)).upd 6 (.int .i64 E0)).upd 7 D0).upd 8 (.pointer (some ⟨N0, 0, none⟩))).upd 9 v_0_5259).upd 10 (.int .i64 K2.2)).upd 11 (.int .i64 V0)).upd 12 I3)) ∧ St W g [] ((b1, blk (cl_Ask23 G0 I0 J0 K0 M0 D0 a0.N) 35) :: ((N0, blk (cl_Image T0 E1 B0.Entry) 40) :: ([(b4, blk (([0, 1, 40, a0.N, (-1), 4001] : List Int).flatMap enc_int) 3)] ++ (LX_0_5260 ++ (U2 ++ []))))) w') ?_ ?_
   · skip
     refine c_seq <| c_region ?_
     refine oy hS (y_loadW (fun w hS => hS.own (mB (mH))) underlying40 rfl (by exact sz_api_Image)) ?_
     obtain ⟨Ta, I6, hF⟩ := ob hF
     refine o_callS hS func6 rfl rfl (hc := (w_r19_Image (a0 := B0) (h0 := ⟨_, _, rfl, J1.plus, B1.plus⟩) (hF := I6))) (h := ?_)
     clear hS; intro w hS
     refine o_split (ht := fun J3 => ?_) (hf := fun J3 => ?_)
     · replace hF := bt J3 hF
       refine o_gu rfl rfl rfl <| oy hS y_move <| o_gu rfl rfl rfl <| oy hS (y_len N1 underlying31) <| o_gu rfl rfl rfl <| oy hS y_bin <| oy hS y_pickT ?_
       refine o_split (ht := fun K3 => ?_) (hf := fun K3 => ?_)
       · replace hF := bt K3 hF
         refine o_gu rfl rfl rfl <| oy hS y_move <| o_gu rfl rfl rfl ?_
         refine o_callS hS func7 rfl rfl (hc := (w_r0_Num (a0 := E0) (a1 := 4000))) (h := ?_)
         clear hS; intro w hS
         refine oy hS y_pickT <| n_thenN ?_
         refine c_if (ht := fun M3 => ?_) (hf := fun M3 => ?_)
         · replace hF := bt M3 hF
           refine c_region ?_
           refine oy hS (y_loadW (fun w hS => hS.own (mB (mH))) underlying40 rfl (by exact sz_api_Image)) ?_
           iterate 2 (refine oy hS y_move ?_)
           obtain ⟨R8, J6, hF⟩ := ob hF
           refine o_call0 hS func8 rfl rfl (hc := (w_r19_Trace (a0 := B0) (a1 := E0) (a2 := a0.I.In_) (h0 := ⟨_, _, rfl, J1.plus, B1.plus⟩) (h2 := N1.plus) (hF := J6))) (h := ?_)
           clear hS; intro Ua D9 w hS K6
           obtain ⟨v_0_5294, LX_0_5295, rfl, rfl, h_0_5296⟩ := K6
           simp only [aa, ac, al] at hS
           have hS : St W g [] (LX_0_5295 ++ (LX_0_5260 ++ ((N0, blk (cl_Image T0 Z0 B0.Entry) 40) :: ((b1, blk (cl_Ask23 G0 I0 J0 K0 M0 D0 a0.N) 35) :: ([(b4, blk (([0, 1, 40, a0.N, (-1), 4001] : List Int).flatMap enc_int) 3)] ++ []))))) w := hS
           iterate 2 (refine oy hS y_assign ?_)
           refine n_thenN ?_
           obtain rfl := osi hF
           change ∃ _, _
           exact ⟨0, R8, B0.Data, v_0_5294, Z0, LX_0_5295, I2, h_0_5296, B1, mk_exF, (hS.re (.b (.d (.d (.e .hb))) (.b (.d (.d .hb)) (.t (.d (.d .h)) (.t (.d .h) (.t .h .n))))))⟩
         replace hF := bf M3 hF
         refine wp_skip ?_
         obtain rfl := osi hF
         change ∃ _, _
         exact ⟨1, [], B0.Data, (.slice none 0 0), Z0, [], I2, (OwT.nil _ _ _), B1, mk_exF, (hS.re (.b (.d (.e .hb)) (.b (.d .hb) (.t (.d .h) (.t .h (.take (X := []) (.here [] _) .n))))))⟩
       replace hF := bf K3 hF
       iterate 2 (refine o_sk rfl rfl ?_)
       refine oy hS y_pickF <| n_thenN ?_
       refine c_if_false (h := ?_)
       refine wp_skip ?_
       obtain rfl := osi hF
       change ∃ _, _
       exact ⟨1, [], B0.Data, (.slice none 0 0), Z0, [], I2, (OwT.nil _ _ _), B1, mk_exF, (hS.re (.b (.d (.e .hb)) (.b (.d .hb) (.t (.d .h) (.t .h (.take (X := []) (.here [] _) .n))))))⟩
     replace hF := bf J3 hF
     iterate 3 (refine o_sk rfl rfl ?_)
     refine oy hS y_pickF <| oy hS y_move ?_
     iterate 2 (refine o_sk rfl rfl ?_)
     refine oy hS y_pickF <| n_thenN ?_
     refine c_if_false (h := ?_)
     refine wp_skip ?_
     obtain rfl := osi hF
     change ∃ _, _
     exact ⟨1, [], B0.Data, (.slice none 0 0), Z0, [], I2, (OwT.nil _ _ _), B1, mk_exF, (hS.re (.b (.d (.e .hb)) (.b (.d .hb) (.t (.d .h) (.t .h (.take (X := []) (.here [] _) .n))))))⟩
   rintro a w ⟨V0, M2, Y0, I3, E1, U2, hF, T8, N3, ⟨Va, rfl⟩, hS⟩
   dsimp only [l23_BenchCompares_k5] at hF
   obtain ⟨Xa, hF, V2⟩ := cut_step hF
   refine c_cutP (fun a w' => l23_BenchCompares_k6 a0 X0 B0 Y0 E0 V0 () = some D1 ∧ (∃ s : Nat → Value, a = Ac (((((((((Fm.dead 148 s).upd 1 (.pointer (some ⟨b1, 0, none⟩))).upd 3 (.slice (some ⟨b4, 0, none⟩) 6 6)).upd 4 (.int .i64 U0)).upd 5 (.int .i64 X0)).upd 6 (.int .i64 E0)).upd 7 D0).upd 8 (.pointer (some ⟨N0, 0, none⟩))).upd 11 (.int .i64 V0))) ∧ St W g [] ((b1, blk (cl_Ask23 G0 I0 J0 K0 M0 D0 a0.N) 35) :: ((N0, blk (cl_Image T0 E1 B0.Entry) 40) :: ([(b4, blk (([0, 1, 40, a0.N, (-1), 4001] : List Int).flatMap enc_int) 3)] ++ []))) w') ?_ ?_
   · skip
     refine c_seq <| c_region <| oy hS y_move ?_
     refine o_callS hS func9 rfl rfl (hc := (w_l23_num (a0 := K2.2))) (h := ?_)
     clear hS; intro w hS
     refine oy hS y_move <| oy hS y_bin ?_
     refine o_split (ht := fun R3 => ?_) (hf := fun R3 => ?_)
     · replace hF := bt R3 hF
       iterate 4 (refine o_sk rfl rfl ?_)
       refine oy hS y_pickT <| n_thenN ?_
       refine c_if_true (h := ?_)
       refine c_seq <| c_region <| oy hS y_assign <| n_thenN ?_
       obtain rfl := osi hF
       obtain rfl : _ = D1 := V2
       obtain rfl : _ = K1 := I1
       obtain rfl : _ = r := G1
       exact wp_ret (wr1 hS)
     replace hF := bf R3 hF
     refine o_gu rfl rfl rfl <| oy hS y_move <| o_gu rfl rfl rfl <| oy hS y_move <| o_gu rfl rfl rfl ?_
     obtain ⟨Ya, M6, hF⟩ := ob hF
     refine o_callS hS func10 rfl rfl (hc := (w_r0_EqNumbers (a0 := K2.1) (a1 := M2) (h0 := (OwT.plus h_0_5261 hS (fun p hp => mC (mC (mB (mA (hp))))))) (h1 := (OwT.plus T8 hS (fun p hp => mC (mC (mB (mB (mA (hp)))))))) (hF := M6))) (h := ?_)
     clear hS; intro w hS
     refine o_gu rfl rfl rfl <| oy hS y_not <| oy hS y_pickF <| n_thenN ?_
     refine c_if (ht := fun T3 => ?_) (hf := fun T3 => ?_)
     · replace hF := bt T3 hF
       refine c_seq <| c_region <| oy hS y_assign <| n_thenN ?_
       obtain rfl := osi hF
       obtain rfl : _ = D1 := V2
       obtain rfl : _ = K1 := I1
       obtain rfl : _ = r := G1
       exact wp_ret (wr1 hS)
     replace hF := bf T3 hF
     refine wp_skip ?_
     obtain rfl := osi hF
     change _ ∧ _
     exact ⟨V2, mk_exF, (hS.re (.b .hb (.b .hb (.t .h .n))))⟩
   rintro a w ⟨hF, ⟨Za, rfl⟩, hS⟩
   dsimp only [l23_BenchCompares_k6] at hF
   refine c_seq <| c_region <| oy hS y_assign <| n_thenN <| c_block ?_
   refine c_loopP hF (fun (q : Int) a w' => (∃ s : Nat → Value, a = Ac ((((((((((Fm.dead 148 s).upd 1 (.pointer (some ⟨b1, 0, none⟩))).upd 3 (.slice (some ⟨b4, 0, none⟩) 6 6)).upd 4 (.int .i64 U0)).upd 5 (.int .i64 X0)).upd 6 (.int .i64 E0)).upd 7 D0).upd 8 (.pointer (some ⟨N0, 0, none⟩))).upd 11 (.int .i64 V0)).upd 13 (.int .i64 q))) ∧ St W g [] ((b1, blk (cl_Ask23 G0 I0 J0 K0 M0 D0 a0.N) 35) :: ((N0, blk (cl_Image T0 E1 B0.Entry) 40) :: ([(b4, blk (([0, 1, 40, a0.N, (-1), 4001] : List Int).flatMap enc_int) 3)] ++ []))) w') ⟨mk_exF, (hS.re (.b .hb (.b .hb (.t .h .n))))⟩ ?_
   clear hS hF
   intro Bb q a w hI hq
   revert hq hI; revert q; intro M1 hI hq
   obtain ⟨⟨Db, rfl⟩, hS⟩ := hq
   obtain ⟨J2, hF, V1⟩ := iter_step hI
   clear hI
   dsimp only [l23_BenchCompares_b7] at hF
   obtain ⟨Eb, hF, X2⟩ := cut_step hF
   refine c_cutP (fun a w' => l23_BenchCompares_k8 a0 M1 B0 Y0 E0 V0 () = some J2 ∧ (∃ s : Nat → Value, a = Ac ((((((((((Fm.dead 148 s).upd 1 (.pointer (some ⟨b1, 0, none⟩))).upd 3 (.slice (some ⟨b4, 0, none⟩) 6 6)).upd 4 (.int .i64 U0)).upd 5 (.int .i64 X0)).upd 6 (.int .i64 E0)).upd 7 D0).upd 8 (.pointer (some ⟨N0, 0, none⟩))).upd 11 (.int .i64 V0)).upd 13 (.int .i64 M1))) ∧ St W g [] ((b1, blk (cl_Ask23 G0 I0 J0 K0 M0 D0 a0.N) 35) :: ((N0, blk (cl_Image T0 E1 B0.Entry) 40) :: ([(b4, blk (([0, 1, 40, a0.N, (-1), 4001] : List Int).flatMap enc_int) 3)] ++ []))) w') ?_ ?_
   · skip
     refine c_seq <| c_region <| oy hS y_move <| oy hS (y_field fa_sledgelaw23_Ask23_0) <| oy hS (y_field fa_sledgelaw20_Ask20_2) <| oy hS (y_load oH underlying30 rfl rfl) <| oy hS (y_lenN G2 underlying30) <| oy hS y_bin ?_
     refine o_split (ht := fun U3 => ?_) (hf := fun U3 => ?_)
     · replace hF := bt U3 hF
       refine o_gu rfl rfl rfl <| oy hS y_move <| o_gu rfl rfl rfl <| oy hS y_bin <| oy hS y_pickT <| n_thenN ?_
       refine c_if (ht := fun V3 => ?_) (hf := fun V3 => ?_)
       · replace hF := bt V3 hF
         refine wp_skip ?_
         obtain rfl := osi hF
         change _ ∧ _
         exact ⟨X2, mk_exF, (hS.re (.b .hb (.b .hb (.t .h .n))))⟩
       replace hF := bf V3 hF
       refine wp_exit ?_
       refine c_region <| oy hS y_move <| oy hS y_bin <| oy hS y_assign <| n_thenN ?_
       obtain rfl := osi hF
       obtain rfl : _ = J2 := X2
       obtain rfl : _ = D1 := V1
       exact ⟨_, I1, mk_exF, (hS.re (.b .hb (.t (.e .h) .n)))⟩
     replace hF := bf U3 hF
     iterate 2 (refine o_sk rfl rfl ?_)
     refine oy hS y_pickF <| n_thenN ?_
     refine c_if_false (h := ?_)
     refine wp_exit ?_
     refine c_region <| oy hS y_move <| oy hS y_bin <| oy hS y_assign <| n_thenN ?_
     obtain rfl := osi hF
     obtain rfl : _ = J2 := X2
     obtain rfl : _ = D1 := V1
     exact ⟨_, I1, mk_exF, (hS.re (.b .hb (.t (.e .h) .n)))⟩
   rintro a w ⟨hF, ⟨Gb, rfl⟩, hS⟩
   dsimp only [l23_BenchCompares_k8] at hF
   refine c_seq <| c_block ?_
   obtain ⟨Ib, hF, U4⟩ := cut_step hF
   refine c_cutP (fun a w' => ∃ (R1 : Int) (X1 : Int) (Y1 : Int) (Z1 : Int) (B2 : Int) (D2 : Bool) (E2 : Bool) (T1 : Nat), l23_BenchCompares_k9 V0 a0 M1 B0 Y0 E0 (R1, X1, Y1, Z1, B2, D2, E2) = some J2 ∧ (∃ s : Nat → Value, a = Ac ((((((((((((Fm.dead 148 s).upd 1 (.pointer (some ⟨b1, 0, none⟩))).upd 3 (.slice (some ⟨b4, 0, none⟩) 6 6)).upd 4 (.int .i64 U0)).upd 5 (.int .i64 X0)).upd 6 (.int .i64 E0)).upd 7 D0).upd 8 (.pointer (some ⟨N0, 0, none⟩))).upd 11 (.int .i64 V0)).upd 13 (.int .i64 M1)).upd 14 (.pointer (some ⟨T1, 0, none⟩))).upd 15 (.int .i64 R1))) ∧ St W g [] ((b1, blk (cl_Ask23 G0 I0 J0 K0 M0 D0 a0.N) 35) :: ((N0, blk (cl_Image T0 E1 B0.Entry) 40) :: ((T1, blk (enc_Verdict ⟨X1, Y1, Z1, B2, D2, E2⟩) 50) :: ([(b4, blk (([0, 1, 40, a0.N, (-1), 4001] : List Int).flatMap enc_int) 3)] ++ [])))) w') ?_ ?_
   · skip
     obtain ⟨X3, N6, hF⟩ := ob hF
     obtain ⟨Jb, Kb, Mb, E9, Nb, G9, _, R6, T6, U6, V6, X6, Y6, Z6, rfl, V4, X4⟩ := SlN.at N6 G2
     obtain ⟨R0, Y4, hF⟩ := ob hF
     refine c_heldL 14 16 (by kernel_rfl) rfl hS ?_
     clear hS; intro w hS
     refine hy 0 rfl wn (by kernel_rfl) (nq (P := Tryz.prog) (fn := Tryz.f3)) hS.cb (y_loadW (fun w hS => hS.own (mC (mH))) underlying40 rfl (by exact sz_api_Image)) ?_
     refine hy0 1 rfl wn (by kernel_rfl) (nq (P := Tryz.prog) (fn := Tryz.f3)) (fun _ => hS.cb) (y_field fa_sledgelaw23_Ask23_0) ?_
     refine hy0 2 rfl wn (by kernel_rfl) (nq (P := Tryz.prog) (fn := Tryz.f3)) (fun _ => hS.cb) (y_field fa_sledgelaw20_Ask20_2) ?_
     refine hy 3 rfl wn (by kernel_rfl) (nq (P := Tryz.prog) (fn := Tryz.f3)) hS.cb (y_load (fun w hS => hS.own (mH)) underlying30 rfl rfl) ?_
     refine hy0 4 rfl wn (by kernel_rfl) (nq (P := Tryz.prog) (fn := Tryz.f3)) (fun _ => hS.cb) y_move ?_
     refine hy0 5 rfl wn (by kernel_rfl) (nq (P := Tryz.prog) (fn := Tryz.f3)) (fun _ => hS.cb) (y_index R6 T6 U6 underlying30 el_api_Flat.size) ?_
     refine hy 6 rfl wn (by kernel_rfl) (nq (P := Tryz.prog) (fn := Tryz.f3)) hS.cb (y_loadN (vs := (cl_Flat Y6 Z6 X3.Entry)) (fun w hS => hS.block V6) underlying55 rfl (by exact sz_api_Flat) (fun j u hj => X6 j u hj)) ?_
     refine hy0 7 rfl wn (by kernel_rfl) (nq (P := Tryz.prog) (fn := Tryz.f3)) (fun _ => hS.cb) y_move ?_
     refine hy0 8 rfl wn (by kernel_rfl) (nq (P := Tryz.prog) (fn := Tryz.f3)) (fun _ => hS.cb) y_move ?_
     refine hb2 9 13 (by kernel_rfl) (hb_op rfl wn (nl (P := Tryz.prog) (fn := Tryz.f3)) ?_) (hb_op rfl wn (nl (P := Tryz.prog) (fn := Tryz.f3)) ?_)
     · skip
       refine o_callS hS func11 rfl rfl (hc := (w_bench_Compare (a0 := (⟨B0.Code, Y0, B0.Entry⟩ : T_Image)) (a1 := X3) (a2 := E0) (a3 := a0.I.In_) (h0 := ⟨_, _, rfl, J1.plus, N3.plus⟩) (h1 := ⟨_, _, rfl, V4.plus, X4.plus⟩) (h3 := N1.plus) (hF := Y4))) (h := ?_)
       clear hS; intro w hS
       refine hb_next (fun _ => hS.cb) ?_
       refine hy0 10 rfl wn (by kernel_rfl) (nq (P := Tryz.prog) (fn := Tryz.f3)) (fun _ => hS.cb) y_move ?_
       refine hy0 11 rfl wn (by kernel_rfl) (nq (P := Tryz.prog) (fn := Tryz.f3)) (fun _ => hS.cb) (y_extract rfl) ?_
       refine hy0 12 rfl wn (by kernel_rfl) (nq (P := Tryz.prog) (fn := Tryz.f3)) (fun _ => hS.cb) (y_extract rfl) ?_
       refine hb1 13 (by kernel_rfl) (hb_op rfl wn (nl (P := Tryz.prog) (fn := Tryz.f3)) ?_)
       refine o_allocP (cl := (enc_Verdict ⟨0, 0, 0, 0, false, false⟩)) zr_api_Verdict rfl hS ?_
       clear hS; intro Y3 w hS
       refine hb_next (fun _ => (hS.re (.b (.e .hb) (.b (.e .hb) (.t (.e .h) .n)))).cb) ?_
       refine hb1 14 (by kernel_rfl) (hb_op rfl wn (nl (P := Tryz.prog) (fn := Tryz.f3)) ?_)
       refine o_storeW (vs := (enc_Verdict R0.1)) hS (by exact rfl) (Upd.here _) (by exact sz_api_Verdict) (enc_one_Verdict _) ?_
       clear hS; intro w hS
       refine hb_next (fun h => absurd h (by decide)) ?_
       refine hy0 15 rfl wn (by kernel_rfl) (nq (P := Tryz.prog) (fn := Tryz.f3)) (fun h => absurd h (by decide)) y_assign ?_
       refine hb_done (by kernel_rfl) ?_
       obtain rfl := osi hF
       change ∃ _, _
       exact ⟨R0.2, R0.1.Steps, R0.1.Cycles, R0.1.Seq, R0.1.Pipe, R0.1.Same, R0.1.Begins, Y3, U4, mk_exF, (hS.re (.b (.e .hb) (.b (.e .hb) (.b .hb (.t .h .n)))))⟩
     refine o_allocP (cl := (enc_Verdict ⟨0, 0, 0, 0, false, false⟩)) zr_api_Verdict rfl hS ?_
     clear hS; intro Y3 w hS
     refine hb_next (fun _ => (hS.re (.b (.e .hb) (.b (.e .hb) (.t (.e .h) .n)))).cb) ?_
     refine hb1 9 (by kernel_rfl) (hb_op rfl wn (nl (P := Tryz.prog) (fn := Tryz.f3)) ?_)
     refine o_callS hS func11 rfl rfl (hc := (w_bench_Compare (a0 := (⟨B0.Code, Y0, B0.Entry⟩ : T_Image)) (a1 := X3) (a2 := E0) (a3 := a0.I.In_) (h0 := ⟨_, _, rfl, J1.plus, N3.plus⟩) (h1 := ⟨_, _, rfl, V4.plus, X4.plus⟩) (h3 := N1.plus) (hF := Y4))) (h := ?_)
     clear hS; intro w hS
     have hC := (hS.re (.b (.e .hb) (.b (.e .hb) (.t (.e .h) .n)))).cb
     refine hb_next (fun _ => hC) ?_
     refine hy0 10 rfl wn (by kernel_rfl) (nq (P := Tryz.prog) (fn := Tryz.f3)) (fun _ => hC) y_move ?_
     refine hy0 11 rfl wn (by kernel_rfl) (nq (P := Tryz.prog) (fn := Tryz.f3)) (fun _ => hC) (y_extract rfl) ?_
     refine hy0 12 rfl wn (by kernel_rfl) (nq (P := Tryz.prog) (fn := Tryz.f3)) (fun _ => hC) (y_extract rfl) ?_
     refine hb1 14 (by kernel_rfl) (hb_op rfl wn (nl (P := Tryz.prog) (fn := Tryz.f3)) ?_)
     refine o_storeW (vs := (enc_Verdict R0.1)) hS (by exact rfl) (Upd.here _) (by exact sz_api_Verdict) (enc_one_Verdict _) ?_
     clear hS; intro w hS
     refine hb_next (fun h => absurd h (by decide)) ?_
     refine hy0 15 rfl wn (by kernel_rfl) (nq (P := Tryz.prog) (fn := Tryz.f3)) (fun h => absurd h (by decide)) y_assign ?_
     refine hb_done (by kernel_rfl) ?_
     obtain rfl := osi hF
     change ∃ _, _
     exact ⟨R0.2, R0.1.Steps, R0.1.Cycles, R0.1.Seq, R0.1.Pipe, R0.1.Same, R0.1.Begins, Y3, U4, mk_exF, (hS.re (.b (.e .hb) (.b (.e .hb) (.b .hb (.t .h .n)))))⟩
   rintro a w ⟨R1, X1, Y1, Z1, B2, D2, E2, T1, hF, ⟨Rb, rfl⟩, hS⟩
   dsimp only [l23_BenchCompares_k9] at hF
   refine c_seq <| c_region <| oy hS y_assign <| n_thenN <| c_seq <| c_region ?_
   refine o_allocP (cl := (enc_Verdict ⟨0, 0, 0, 0, false, false⟩)) zr_api_Verdict rfl hS ?_
   clear hS; intro N2 w hS
   refine n_thenN ?_
   obtain ⟨U8, hF, Z4⟩ := cut_step hF
   refine c_cutP (fun a w' => ∃ (Z3 : Int) (B4 : Int) (D4 : Int) (E4 : Int) (G4 : Int) (I4 : Bool) (J4 : Bool), l23_BenchCompares_k10 R1 X1 Y1 Z1 B2 D2 E2 M1 (Z3, B4, D4, E4, G4, I4, J4) = some J2 ∧ (∃ s : Nat → Value, a = Ac ((((((((((((((Fm.dead 148 s).upd 1 (.pointer (some ⟨b1, 0, none⟩))).upd 3 (.slice (some ⟨b4, 0, none⟩) 6 6)).upd 4 (.int .i64 U0)).upd 5 (.int .i64 X0)).upd 6 (.int .i64 E0)).upd 7 D0).upd 8 (.pointer (some ⟨N0, 0, none⟩))).upd 11 (.int .i64 V0)).upd 13 (.int .i64 M1)).upd 14 (.pointer (some ⟨T1, 0, none⟩))).upd 15 (.int .i64 R1)).upd 16 (.int .i64 Z3)).upd 17 (.pointer (some ⟨N2, 0, none⟩)))) ∧ St W g [] ((b1, blk (cl_Ask23 G0 I0 J0 K0 M0 D0 a0.N) 35) :: ((N0, blk (cl_Image T0 E1 B0.Entry) 40) :: ((T1, blk (enc_Verdict ⟨X1, Y1, Z1, B2, D2, E2⟩) 50) :: ((N2, blk (enc_Verdict ⟨B4, D4, E4, G4, I4, J4⟩) 50) :: ([(b4, blk (([0, 1, 40, a0.N, (-1), 4001] : List Int).flatMap enc_int) 3)] ++ []))))) w') ?_ ?_
   · skip
     obtain ⟨Tb, hF, B5⟩ := cut_step hF
     refine c_cutP (fun a w' => ∃ (K4 : Bool), l23_BenchCompares_k11 a0 M1 B0 Y0 E0 K4 = some U8 ∧ (∃ s : Nat → Value, a = Ac (((((((((((((((Fm.dead 148 s).upd 1 (.pointer (some ⟨b1, 0, none⟩))).upd 3 (.slice (some ⟨b4, 0, none⟩) 6 6)).upd 4 (.int .i64 U0)).upd 5 (.int .i64 X0)).upd 6 (.int .i64 E0)).upd 7 D0).upd 8 (.pointer (some ⟨N0, 0, none⟩))).upd 11 (.int .i64 V0)).upd 13 (.int .i64 M1)).upd 14 (.pointer (some ⟨T1, 0, none⟩))).upd 15 (.int .i64 R1)).upd 16 (.int .i64 1)).upd 17 (.pointer (some ⟨N2, 0, none⟩))).upd 127 (.bool K4))) ∧ St W g [] ((b1, blk (cl_Ask23 G0 I0 J0 K0 M0 D0 a0.N) 35) :: ((N0, blk (cl_Image T0 E1 B0.Entry) 40) :: ((T1, blk (enc_Verdict ⟨X1, Y1, Z1, B2, D2, E2⟩) 50) :: ((N2, blk (enc_Verdict ⟨0, 0, 0, 0, false, false⟩) 50) :: ([(b4, blk (([0, 1, 40, a0.N, (-1), 4001] : List Int).flatMap enc_int) 3)] ++ []))))) w') ?_ ?_
     · skip
       refine c_region <| oy hS y_move <| oy hS y_bin ?_
       refine o_split (ht := fun M4 => ?_) (hf := fun M4 => ?_)
       · replace hF := bt M4 hF
         refine o_gu rfl rfl rfl <| oy hS (y_field fa_sledgelaw23_Ask23_0) <| o_gu rfl rfl rfl <| oy hS (y_field fa_sledgelaw20_Ask20_2) <| o_gu rfl rfl rfl <| oy hS (y_load (fun w hS => hS.own (mC (mH))) underlying30 rfl rfl) <| o_gu rfl rfl rfl <| oy hS y_move ?_
         refine o_gu rfl rfl rfl ?_
         obtain ⟨E5, B7, hF⟩ := ob hF
         obtain ⟨Ub, Vb, Xb, I9, Yb, J9, _, D7, E7, G7, I7, J7, K7, M7, rfl, N7, R7⟩ := SlN.at B7 G2
         refine oy hS (y_index D7 E7 G7 underlying30 el_api_Flat.size) <| o_gu rfl rfl rfl ?_
         refine oy hS (y_loadN (vs := (cl_Flat K7 M7 E5.Entry)) (fun w hS => hS.block I7) underlying55 rfl (by exact sz_api_Flat) (fun j u hj => J7 j u hj)) ?_
         refine o_gu rfl rfl rfl ?_
         obtain ⟨V8, T7, hF⟩ := ob hF
         refine o_callS hS func12 rfl rfl (hc := (w_r19_FlatMay (a0 := E5) (h0 := ⟨_, _, rfl, N7.plus, R7.plus⟩) (hF := T7))) (h := ?_)
         clear hS; intro w hS
         refine oy hS y_pickT <| n_thenN ?_
         obtain rfl := osi hF
         change ∃ _, _
         exact ⟨V8, B5, mk_exF, (hS.re (.b (.e .hb) (.b (.e .hb) (.b (.e .hb) (.b .hb (.t .h .n))))))⟩
       replace hF := bf M4 hF
       iterate 7 (refine o_sk rfl rfl ?_)
       refine oy hS y_pickF <| n_thenN ?_
       obtain rfl := osi hF
       change ∃ _, _
       exact ⟨false, B5, mk_exF, (hS.re (.b (.e .hb) (.b (.e .hb) (.b (.e .hb) (.b .hb (.t .h .n))))))⟩
     rintro a w ⟨K4, hF, ⟨Zb, rfl⟩, hS⟩
     dsimp only [l23_BenchCompares_k11] at hF
     refine c_if (ht := fun N4 => ?_) (hf := fun N4 => ?_)
     · replace hF := bt N4 hF
       refine c_heldL 11 12 (by kernel_rfl) rfl hS ?_
       clear hS; intro w hS
       refine hy 0 rfl wn (by kernel_rfl) (nq (P := Tryz.prog) (fn := Tryz.f3)) hS.cb (y_loadW (fun w hS => hS.own (mC (mH))) underlying40 rfl (by exact sz_api_Image)) ?_
       refine hy0 1 rfl wn (by kernel_rfl) (nq (P := Tryz.prog) (fn := Tryz.f3)) (fun _ => hS.cb) (y_field fa_sledgelaw23_Ask23_0) ?_
       refine hy0 2 rfl wn (by kernel_rfl) (nq (P := Tryz.prog) (fn := Tryz.f3)) (fun _ => hS.cb) (y_field fa_sledgelaw20_Ask20_2) ?_
       refine hy 3 rfl wn (by kernel_rfl) (nq (P := Tryz.prog) (fn := Tryz.f3)) hS.cb (y_load (fun w hS => hS.own (mH)) underlying30 rfl rfl) ?_
       refine hy0 4 rfl wn (by kernel_rfl) (nq (P := Tryz.prog) (fn := Tryz.f3)) (fun _ => hS.cb) y_move ?_
       obtain ⟨G5, U7, hF⟩ := ob hF
       obtain ⟨Bc, Dc, Ec, K9, Gc, M9, _, V7, X7, Y7, Z7, B8, D8, E8, rfl, G8, I8⟩ := SlN.at U7 G2
       refine hy0 5 rfl wn (by kernel_rfl) (nq (P := Tryz.prog) (fn := Tryz.f3)) (fun _ => hS.cb) (y_index V7 X7 Y7 underlying30 el_api_Flat.size) ?_
       refine hy 6 rfl wn (by kernel_rfl) (nq (P := Tryz.prog) (fn := Tryz.f3)) hS.cb (y_loadN (vs := (cl_Flat D8 E8 G5.Entry)) (fun w hS => hS.block Z7) underlying55 rfl (by exact sz_api_Flat) (fun j u hj => B8 j u hj)) ?_
       refine hy0 7 rfl wn (by kernel_rfl) (nq (P := Tryz.prog) (fn := Tryz.f3)) (fun _ => hS.cb) y_move ?_
       refine hy0 8 rfl wn (by kernel_rfl) (nq (P := Tryz.prog) (fn := Tryz.f3)) (fun _ => hS.cb) y_move ?_
       refine hb1 9 (by kernel_rfl) (hb_op rfl wn (nl (P := Tryz.prog) (fn := Tryz.f3)) ?_)
       obtain ⟨U1, J8, hF⟩ := ob hF
       refine o_callS hS func13 rfl rfl (hc := (w_r19_Compare (a0 := (⟨B0.Code, Y0, B0.Entry⟩ : T_Image)) (a1 := G5) (a2 := E0) (a3 := a0.I.In_) (h0 := ⟨_, _, rfl, J1.plus, N3.plus⟩) (h1 := ⟨_, _, rfl, G8.plus, I8.plus⟩) (h3 := N1.plus) (hF := J8))) (h := ?_)
       clear hS; intro w hS
       refine hb_next (fun _ => hS.cb) ?_
       refine hy0 10 rfl wn (by kernel_rfl) (nq (P := Tryz.prog) (fn := Tryz.f3)) (fun _ => hS.cb) y_assign ?_
       refine hb1 11 (by kernel_rfl) (hb_op rfl wn (nl (P := Tryz.prog) (fn := Tryz.f3)) ?_)
       refine o_storeW (vs := (enc_Verdict U1)) hS (by exact rfl) (Upd.there _ (Upd.there _ (Upd.there _ (Upd.here _)))) (by exact sz_api_Verdict) (enc_one_Verdict _) ?_
       clear hS; intro w hS
       refine hb_next (fun h => absurd h (by decide)) ?_
       refine hb_done (by kernel_rfl) ?_
       obtain rfl := osi hF
       change ∃ _, _
       exact ⟨0, U1.Steps, U1.Cycles, U1.Seq, U1.Pipe, U1.Same, U1.Begins, Z4, mk_exF, (hS.re (.b .hb (.b .hb (.b .hb (.b .hb (.t .h .n))))))⟩
     replace hF := bf N4 hF
     refine wp_skip ?_
     obtain rfl := osi hF
     change ∃ _, _
     exact ⟨1, 0, 0, 0, 0, false, false, Z4, mk_exF, (hS.re (.b .hb (.b .hb (.b .hb (.b .hb (.t .h .n))))))⟩
   rintro a w ⟨Z3, B4, D4, E4, G4, I4, J4, hF, ⟨Ic, rfl⟩, hS⟩
   dsimp only [l23_BenchCompares_k10] at hF
   refine c_seq <| c_region <| oy hS y_move ?_
   refine o_callS hS func9 rfl rfl (hc := (w_l23_num (a0 := R1))) (h := ?_)
   clear hS; intro w hS
   refine oy hS y_move <| oy hS y_bin ?_
   refine o_split (ht := fun R4 => ?_) (hf := fun R4 => ?_)
   · replace hF := bt R4 hF
     iterate 3 (refine o_sk rfl rfl ?_)
     refine oy hS y_pickT <| n_thenN ?_
     refine c_if_true (h := ?_)
     refine c_seq <| c_region <| oy hS y_assign <| n_thenN ?_
     obtain rfl := osi hF
     obtain rfl : _ = D1 := V1
     obtain rfl : _ = K1 := I1
     obtain rfl : _ = r := G1
     exact wp_ret (wr1 hS)
   replace hF := bf R4 hF
   refine o_gu rfl rfl rfl ?_
   refine oy hS (y_loadW (fun w hS => hS.own (mC (mC (mH)))) underlying50 rfl (by exact sz_api_Verdict)) ?_
   refine o_gu rfl rfl rfl ?_
   refine oy hS (y_loadW (fun w hS => hS.own (mC (mC (mC (mH))))) underlying50 rfl (by exact sz_api_Verdict)) ?_
   refine o_gu rfl rfl rfl <| oy hS (y_neq_Verdict) <| oy hS y_pickF <| n_thenN ?_
   refine c_if (ht := fun T4 => ?_) (hf := fun T4 => ?_)
   · replace hF := bt T4 hF
     refine c_seq <| c_region <| oy hS y_assign <| n_thenN ?_
     obtain rfl := osi hF
     obtain rfl : _ = D1 := V1
     obtain rfl : _ = K1 := I1
     obtain rfl : _ = r := G1
     exact wp_ret (wr1 hS)
   replace hF := bf T4 hF
   refine wp_skip <| c_region <| oy hS y_move <| oy hS y_bin <| oy hS y_assign <| n_thenN ?_
   obtain rfl := osi hF
   exact ⟨_, V1, mk_exF, (hS.re (.b .hb (.b .hb (.t (.e (.e .h)) .n))))⟩
 replace hF := bf D3 hF
 refine wp_exit ?_
 refine c_region <| oy hS y_move <| oy hS y_bin <| oy hS y_assign <| n_thenN ?_
 obtain rfl := osi hF
 obtain rfl : _ = K1 := I1
 exact ⟨_, G1, mk_exF, (hS.re (.b .hb (.t .h .n)))⟩
theorem w_l23_BenchCompares {g : Frag} {a0 : T_Ask23} {v0_ : Value} {r : Bool} (h0 : Rd_Ask23 g a0 v0_) (hF : l23_BenchCompares a0 = some r) : LCs Tryz.prog 3 #[v0_] g (.bool r) := w_l23_BenchCompares_ h0 hF
end Go.Proofs.YtfnmihhcopkkbaaGreat
