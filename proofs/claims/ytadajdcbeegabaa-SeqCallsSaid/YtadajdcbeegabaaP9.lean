/- Functions, lifted. Printed by lift.py. -/
import Derived.Test.YtadajdcbeegabaaProg
import Derived.Test.YtadajdcbeegabaaP8
import Derived.KernelRfl
namespace Go.Proofs.Ytadajdcbeegabaa
open Go Go.RowKit Fr
set_option linter.unusedVariables false
set_option linter.unusedSimpArgs false
set_option maxRecDepth 20000
noncomputable def r5_step_k2 (x102 : Bool) (x70 : (List Int)) (x75 : (List Int)) (x80 : Int) (x81 : (List Int)) (x103 : Int) (x87 : (List Int)) (x92 : Int) (x93 : (List T_Write)) (x98 : Int) (x99 : Int) (x86 : Int) : (List Int) → Option T_State := fun x170 => bif x102 then some (⟨x170, x70, x75, x80, x81, x103, x87, x92, x93, x98, x99⟩ : T_State) else some (⟨x170, x70, x75, x80, x81, IntKind.i64.wrap (x86 + 1), x87, x92, x93, x98, x99⟩ : T_State)
noncomputable def r5_step_k1 (x2 : T_Ins) : ((List Int) × (List Int) × (List Int) × Int × (List Int) × Int × (List Int) × Int × (List T_Write) × Int × Int × Bool × Int × Bool × Int × Int) → Option T_State := fun (x65, x70, x75, x80, x81, x86, x87, x92, x93, x98, x99, x100, x101, x102, x103, x104) => bif decide (x104 ≠ 0) then some (⟨x65, x70, x75, x80, x81, x86, x87, x104, x93, x98, x99⟩ : T_State) else cut (σ := (List Int)) (bif x100 then (set' x65 x2.D x101).bind fun zs185 => some (.next zs185) else some (.next x65)) (r5_step_k2 x102 x70 x75 x80 x81 x103 x87 x92 x93 x98 x99 x86)
noncomputable def r5_step (a0 : (List T_Ins)) (a1 : T_State) : Option T_State :=
  bif decide ((a0.length : Int) ≤ a1.PC) then some (⟨a1.Regs, a1.Mem, a1.In_, a1.Taken, a1.Out, a1.PC, a1.Stack, 5, a1.Fly, a1.Jump, a1.Delay⟩ : T_State) else (at' a0 a1.PC).bind fun x2 => cut (σ := ((List Int) × (List Int) × (List Int) × Int × (List Int) × Int × (List Int) × Int × (List T_Write) × Int × Int × Bool × Int × Bool × Int × Int)) ((at' a1.Regs x2.A).bind fun x107 => (at' a1.Regs x2.B).bind fun x116 => (r5_do a1 x2 x107 x116 (IntKind.i64.wrap (a1.PC + 1))).bind fun r125 => some (.next (r125.1.Regs, r125.1.Mem, r125.1.In_, r125.1.Taken, r125.1.Out, r125.1.PC, r125.1.Stack, r125.1.Stop, r125.1.Fly, r125.1.Jump, r125.1.Delay, r125.2.has, r125.2.result, r125.2.jumps, r125.2.to, r125.2.stop))) (r5_step_k1 x2)
set_option maxHeartbeats 2000000 in
theorem w_r5_step_ {g : Frag} {a0 : (List T_Ins)} {v0_ : Value} {a1 : T_State} {b1_ : Nat} {LB1_ : Own} {r : T_State} (h0 : SlT g enc_Ins 6 a0 v0_) (h1 : Bx_State b1_ a1 LB1_) (hF : r5_step a0 a1 = some r) : LC Try.prog 50 #[v0_, .pointer (some ⟨b1_, 0, none⟩)] g LB1_ (fun v L => ∃ (LB' : Own), v = .tuple #[] ∧ L = (LB' ++ []) ∧ Bx_State b1_ r LB') := by
 obtain ⟨vP1_0_1, vP1_1_5, vP1_2_9, vP1_4_13, vP1_6_17, vP1_8_21, LXP1_0_2, LXP1_1_6, LXP1_2_10, LXP1_4_14, LXP1_6_18, LXP1_8_22, rfl, hP1_0_3, hP1_1_7, hP1_2_11, hP1_4_15, hP1_6_19, hP1_8_23⟩ := h1
 unfold r5_step at hF
 refine lc_body (k := 81) (av := [v0_, .pointer (some ⟨b1_, 0, none⟩)]) Try.func50 rfl rfl (h := fun W hS => ?_)
 iterate 2 (refine c_seq ?_)
 refine c_region ?_
 refine oy hS y_move ?_
 refine oy hS y_nilCheck ?_
 refine oy hS (y_field fa_api_State_5) ?_
 refine oy hS (y_load (fun w hS => hS.own (mH)) Try.underlying3 rfl rfl) ?_
 refine oy hS y_move ?_
 refine oy hS (y_len h0 Try.underlying22) ?_
 refine oy hS y_bin ?_
 refine n_thenN ?_
 refine c_if (ht := fun c1 => ?_) (hf := fun c1 => ?_)
 · replace hF := bt c1 hF
   refine c_seq ?_
   refine c_region ?_
   refine oy hS y_move ?_
   refine oy hS y_nilCheck ?_
   refine oy hS (y_field fa_api_State_7) ?_
   refine o_store hS (hm := Upd.here _) (hi := by exact sz_int) (h1 := rfl) (hc := rfl) (ho := by exact Nat.le_of_ble_eq_true rfl) (h := ?_)
   clear hS; intro w hS
   refine n_thenN ?_
   obtain rfl := Option.some.inj hF
   refine wp_ret (r_ret (vs := []) (L' := ((b1_, blk [vP1_0_1, vP1_1_5, vP1_2_9, .int .i64 a1.Taken, vP1_4_13, .int .i64 a1.PC, vP1_6_17, .int .i64 5, vP1_8_21, .int .i64 a1.Jump, .int .i64 a1.Delay] 27) :: (LXP1_0_2 ++ (LXP1_1_6 ++ (LXP1_2_10 ++ (LXP1_4_14 ++ (LXP1_6_18 ++ (LXP1_8_22 ++ [])))))))) (hS.re (.takeb (.hereb _ _) (.take (.here _ _) (.take (.here _ _) (.take (.here _ _) (.take (.here _ _) (.take (.here _ _) (.take (.here _ _) (.nil _))))))))) (show resAll _ _ _ [] _ from trivial) rfl ⟨_, rfl, (by first | rfl | simp only [List.append_assoc, List.cons_append, List.nil_append, List.append_nil]), ⟨_, _, _, _, _, _, _, _, _, _, _, _, rfl, hP1_0_3, hP1_1_7, hP1_2_11, hP1_4_15, hP1_6_19, hP1_8_23⟩⟩)
 replace hF := bf c1 hF
 refine wp_skip ?_
 refine c_seq ?_
 refine c_region ?_
 iterate 2 (refine oy hS y_move ?_)
 refine oy hS y_nilCheck ?_
 refine oy hS (y_field fa_api_State_5) ?_
 refine oy hS (y_load (fun w hS => hS.own (mH)) Try.underlying3 rfl rfl) ?_
 obtain ⟨x2, hx2, hF⟩ := ob hF
 obtain ⟨b3, o4, c5, cs6, e7, fz8, hv9, ha10, hb11, hd12, hc13⟩ := SlT.at hx2 h0 enc_len_Ins
 refine oy hS (y_index hv9 ha10 hb11 Try.underlying22 el_api_Ins.size) ?_
 refine oy hS (y_loadN (vs := [.int .i64 x2.Op, .int .i64 x2.D, .int .i64 x2.A, .int .i64 x2.B, .int .i64 x2.Imm, .string x2.Sym]) (fun w hS => hS.block hd12) Try.underlying43 rfl (by exact sz_api_Ins) (fun j u hj => hc13 j u hj)) ?_
 refine o_allocP (cl := [.int .i64 0, .int .i64 0, .int .i64 0, .int .i64 0, .int .i64 0, .string ByteArray.empty]) zr_api_Ins rfl hS ?_
 clear hS; intro b14 w hS
 refine o_storeP (vs := [.int .i64 x2.Op, .int .i64 x2.D, .int .i64 x2.A, .int .i64 x2.B, .int .i64 x2.Imm, .string x2.Sym]) hS (hm := Upd.here _) (hi := by exact sz_api_Ins) (h1 := (onC rfl (onC rfl (onC rfl (onC rfl (onC rfl (onC rfl onN))))))) ?_
 clear hS; intro w hS
 refine n_thenN ?_
 obtain ⟨z105, hF, hK106⟩ := cut_step hF
 refine c_cutP (fun a w' => ∃ (x65 : (List Int)) (x70 : (List Int)) (x75 : (List Int)) (x80 : Int) (x81 : (List Int)) (x86 : Int) (x87 : (List Int)) (x92 : Int) (x93 : (List T_Write)) (x98 : Int) (x99 : Int) (x100 : Bool) (x101 : Int) (x102 : Bool) (x103 : Int) (x104 : Int) (v66 : Value) (v71 : Value) (v76 : Value) (v82 : Value) (v88 : Value) (v94 : Value) (LX68 : Own) (LX73 : Own) (LX78 : Own) (LX84 : Own) (LX90 : Own) (LX96 : Own) (b64 : Nat), r5_step_k1 x2 (x65, x70, x75, x80, x81, x86, x87, x92, x93, x98, x99, x100, x101, x102, x103, x104) = some r ∧ OwT 63 enc_uint32 1 x65 v66 LX68 ∧ OwT 63 enc_uint32 1 x70 v71 LX73 ∧ OwT 63 enc_uint32 1 x75 v76 LX78 ∧ OwT 63 enc_uint32 1 x81 v82 LX84 ∧ OwT 3 enc_int 1 x87 v88 LX90 ∧ OwT 71 enc_Write 3 x93 v94 LX96 ∧ (∃ s : Nat → Value, a = Ac (.lit 81 [s 0, .pointer (some ⟨b1_, 0, none⟩), s 2, s 3, .pointer (some ⟨b14, 0, none⟩), .pointer (some ⟨b64, 0, none⟩), s 6, s 7, s 8, s 9, s 10, s 11, s 12, s 13, s 14, s 15, s 16, s 17, s 18, s 19, s 20, s 21, s 22, s 23, s 24, s 25, s 26, s 27, s 28, s 29, s 30, s 31, s 32, s 33, s 34, s 35, s 36, s 37, s 38, s 39, s 40, s 41, s 42, s 43, s 44, s 45, s 46, s 47, s 48, s 49, s 50, s 51, s 52, s 53, s 54, s 55, s 56, s 57, s 58, s 59, s 60, s 61, s 62, s 63, s 64, s 65, s 66, s 67, s 68, s 69, s 70, s 71, s 72, s 73, s 74, s 75, s 76, s 77, s 78, s 79, s 80])) ∧ St W g (((b1_, blk [vP1_0_1, vP1_1_5, vP1_2_9, .int .i64 a1.Taken, vP1_4_13, .int .i64 a1.PC, vP1_6_17, .int .i64 a1.Stop, vP1_8_21, .int .i64 a1.Jump, .int .i64 a1.Delay] 27) :: (LXP1_0_2 ++ (LXP1_1_6 ++ (LXP1_2_10 ++ (LXP1_4_14 ++ (LXP1_6_18 ++ (LXP1_8_22 ++ [])))))))) ((b1_, blk [v66, v71, v76, .int .i64 x80, v82, .int .i64 x86, v88, .int .i64 x92, v94, .int .i64 x98, .int .i64 x99] 27) :: ((b14, blk [.int .i64 x2.Op, .int .i64 x2.D, .int .i64 x2.A, .int .i64 x2.B, .int .i64 x2.Imm, .string x2.Sym] 43) :: ((b64, blk [.bool x100, .int .u32 x101, .bool x102, .int .i64 x103, .int .i64 x104] 82) :: (LX68 ++ (LX73 ++ (LX78 ++ (LX84 ++ (LX90 ++ (LX96 ++ []))))))))) w') ?_ ?_
 · skip
   obtain ⟨x107, hx107, hF⟩ := ob hF
   obtain ⟨b108, c109, cl110, hv111, ha112, hb113, hl114, hc115⟩ := OwT.at hx107 hP1_0_3 enc_len_uint32
   obtain ⟨x116, hx116, hF⟩ := ob hF
   obtain ⟨b117, c118, cl119, hv120, ha121, hb122, hl123, hc124⟩ := OwT.at hx116 hP1_0_3 enc_len_uint32
   obtain ⟨r125, hr125, hF⟩ := ob hF
   refine c_heldB (CB g ((b14, blk [.int .i64 x2.Op, .int .i64 x2.D, .int .i64 x2.A, .int .i64 x2.B, .int .i64 x2.Imm, .string x2.Sym] 43) :: ((b1_, blk [vP1_0_1, vP1_1_5, vP1_2_9, .int .i64 a1.Taken, vP1_4_13, .int .i64 a1.PC, vP1_6_17, .int .i64 a1.Stop, vP1_8_21, .int .i64 a1.Jump, .int .i64 a1.Delay] 27) :: (LXP1_0_2 ++ (LXP1_1_6 ++ (LXP1_2_10 ++ (LXP1_4_14 ++ (LXP1_6_18 ++ (LXP1_8_22 ++ []))))))))) 23 26 (by kernel_rfl) rfl hS ?_
   clear hS; intro w hS
   refine hy0 0 rfl wn (by kernel_rfl) (nq (P := Try.prog) (fn := Try.f50)) (fun _ => hS.cb) y_move ?_
   refine hy 1 rfl wn (by kernel_rfl) (nq (P := Try.prog) (fn := Try.f50)) hS.cb (y_loadW (fun w hS => hS.own (mH)) Try.underlying43 rfl (by exact sz_api_Ins)) ?_
   refine hy0 2 rfl wn (by kernel_rfl) (nq (P := Try.prog) (fn := Try.f50)) (fun _ => hS.cb) y_move ?_
   refine hy0 3 rfl wn (by kernel_rfl) (nq (P := Try.prog) (fn := Try.f50)) (fun _ => hS.cb) y_nilCheck ?_
   refine hy0 4 rfl wn (by kernel_rfl) (nq (P := Try.prog) (fn := Try.f50)) (fun _ => hS.cb) (y_field fa_api_State_0) ?_
   refine hy 5 rfl wn (by kernel_rfl) (nq (P := Try.prog) (fn := Try.f50)) hS.cb (y_load (fun w hS => hS.own (mC (mH))) Try.underlying23 rfl rfl) ?_
   refine hy0 6 rfl wn (by kernel_rfl) (nq (P := Try.prog) (fn := Try.f50)) (fun _ => hS.cb) (y_field fa_api_Ins_2) ?_
   refine hy 7 rfl wn (by kernel_rfl) (nq (P := Try.prog) (fn := Try.f50)) hS.cb (y_load (fun w hS => hS.own (mH)) Try.underlying3 rfl rfl) ?_
   refine hy0 8 rfl wn (by kernel_rfl) (nq (P := Try.prog) (fn := Try.f50)) (fun _ => hS.cb) (y_index hv111 ha112 hb113 Try.underlying23 el_uint32.size) ?_
   refine hy 9 rfl wn (by kernel_rfl) (nq (P := Try.prog) (fn := Try.f50)) hS.cb (y_load (fun w hS => hS.own (mC (mC (mA (mX hl114))))) Try.underlying63 rfl (hc115 0 _ rfl)) ?_
   refine hy0 10 rfl wn (by kernel_rfl) (nq (P := Try.prog) (fn := Try.f50)) (fun _ => hS.cb) y_move ?_
   refine hy0 11 rfl wn (by kernel_rfl) (nq (P := Try.prog) (fn := Try.f50)) (fun _ => hS.cb) y_nilCheck ?_
   refine hy0 12 rfl wn (by kernel_rfl) (nq (P := Try.prog) (fn := Try.f50)) (fun _ => hS.cb) (y_field fa_api_State_0) ?_
   refine hy 13 rfl wn (by kernel_rfl) (nq (P := Try.prog) (fn := Try.f50)) hS.cb (y_load (fun w hS => hS.own (mC (mH))) Try.underlying23 rfl rfl) ?_
   refine hy0 14 rfl wn (by kernel_rfl) (nq (P := Try.prog) (fn := Try.f50)) (fun _ => hS.cb) (y_field fa_api_Ins_3) ?_
   refine hy 15 rfl wn (by kernel_rfl) (nq (P := Try.prog) (fn := Try.f50)) hS.cb (y_load (fun w hS => hS.own (mH)) Try.underlying3 rfl rfl) ?_
   refine hy0 16 rfl wn (by kernel_rfl) (nq (P := Try.prog) (fn := Try.f50)) (fun _ => hS.cb) (y_index hv120 ha121 hb122 Try.underlying23 el_uint32.size) ?_
   refine hy 17 rfl wn (by kernel_rfl) (nq (P := Try.prog) (fn := Try.f50)) hS.cb (y_load (fun w hS => hS.own (mC (mC (mA (mX hl123))))) Try.underlying63 rfl (hc124 0 _ rfl)) ?_
   refine hy0 18 rfl wn (by kernel_rfl) (nq (P := Try.prog) (fn := Try.f50)) (fun _ => hS.cb) y_move ?_
   refine hy0 19 rfl wn (by kernel_rfl) (nq (P := Try.prog) (fn := Try.f50)) (fun _ => hS.cb) y_nilCheck ?_
   refine hy0 20 rfl wn (by kernel_rfl) (nq (P := Try.prog) (fn := Try.f50)) (fun _ => hS.cb) (y_field fa_api_State_5) ?_
   refine hy 21 rfl wn (by kernel_rfl) (nq (P := Try.prog) (fn := Try.f50)) hS.cb (y_load (fun w hS => hS.own (mC (mH))) Try.underlying3 rfl rfl) ?_
   refine hy0 22 rfl wn (by kernel_rfl) (nq (P := Try.prog) (fn := Try.f50)) (fun _ => hS.cb) y_bin ?_
   refine hb2 23 24 (by kernel_rfl) (hb_op rfl wn (nl (P := Try.prog) (fn := Try.f50)) ?_) (hb_op rfl wn (nl (P := Try.prog) (fn := Try.f50)) ?_)
   · skip
     have hS : St W g (((b1_, blk [vP1_0_1, vP1_1_5, vP1_2_9, .int .i64 a1.Taken, vP1_4_13, .int .i64 a1.PC, vP1_6_17, .int .i64 a1.Stop, vP1_8_21, .int .i64 a1.Jump, .int .i64 a1.Delay] 27) :: (LXP1_0_2 ++ (LXP1_1_6 ++ (LXP1_2_10 ++ (LXP1_4_14 ++ (LXP1_6_18 ++ (LXP1_8_22 ++ [])))))))) ((b1_, blk [vP1_0_1, vP1_1_5, vP1_2_9, .int .i64 a1.Taken, vP1_4_13, .int .i64 a1.PC, vP1_6_17, .int .i64 a1.Stop, vP1_8_21, .int .i64 a1.Jump, .int .i64 a1.Delay] 27) :: (LXP1_0_2 ++ (LXP1_1_6 ++ (LXP1_2_10 ++ (LXP1_4_14 ++ (LXP1_6_18 ++ (LXP1_8_22 ++ ((b14, blk [.int .i64 x2.Op, .int .i64 x2.D, .int .i64 x2.A, .int .i64 x2.B, .int .i64 x2.Imm, .string x2.Sym] 43) :: [])))))))) w := hS.re (.takeb (.thereb _ (.hereb _ _)) (.take (.thereb _ (.here _ _)) (.take (.thereb _ (.here _ _)) (.take (.thereb _ (.here _ _)) (.take (.thereb _ (.here _ _)) (.take (.thereb _ (.here _ _)) (.take (.thereb _ (.here _ _)) (.takeb (.hereb _ _) (.nil _)))))))))
     have hS2 : St W g (((b1_, blk [vP1_0_1, vP1_1_5, vP1_2_9, .int .i64 a1.Taken, vP1_4_13, .int .i64 a1.PC, vP1_6_17, .int .i64 a1.Stop, vP1_8_21, .int .i64 a1.Jump, .int .i64 a1.Delay] 27) :: (LXP1_0_2 ++ (LXP1_1_6 ++ (LXP1_2_10 ++ (LXP1_4_14 ++ (LXP1_6_18 ++ (LXP1_8_22 ++ [])))))))) (((b1_, blk [vP1_0_1, vP1_1_5, vP1_2_9, .int .i64 a1.Taken, vP1_4_13, .int .i64 a1.PC, vP1_6_17, .int .i64 a1.Stop, vP1_8_21, .int .i64 a1.Jump, .int .i64 a1.Delay] 27) :: (LXP1_0_2 ++ (LXP1_1_6 ++ (LXP1_2_10 ++ (LXP1_4_14 ++ (LXP1_6_18 ++ (LXP1_8_22 ++ []))))))) ++ ((b14, blk [.int .i64 x2.Op, .int .i64 x2.D, .int .i64 x2.A, .int .i64 x2.B, .int .i64 x2.Imm, .string x2.Sym] 43) :: [])) w := by simpa only [List.append_assoc, List.cons_append, List.nil_append, List.append_nil] using hS
     refine o_call (L1 := ((b1_, blk [vP1_0_1, vP1_1_5, vP1_2_9, .int .i64 a1.Taken, vP1_4_13, .int .i64 a1.PC, vP1_6_17, .int .i64 a1.Stop, vP1_8_21, .int .i64 a1.Jump, .int .i64 a1.Delay] 27) :: (LXP1_0_2 ++ (LXP1_1_6 ++ (LXP1_2_10 ++ (LXP1_4_14 ++ (LXP1_6_18 ++ (LXP1_8_22 ++ [])))))))) (L2 := ((b14, blk [.int .i64 x2.Op, .int .i64 x2.D, .int .i64 x2.A, .int .i64 x2.B, .int .i64 x2.Imm, .string x2.Sym] 43) :: [])) hS2 Try.func73 rfl rfl (hc := (w_r5_do (a0 := a1) (a1 := x2) (a2 := x107) (a3 := x116) (a4 := (IntKind.i64.wrap (a1.PC + 1))) (h0 := (⟨_, _, _, _, _, _, _, _, _, _, _, _, rfl, hP1_0_3, hP1_1_7, hP1_2_11, hP1_4_15, hP1_6_19, hP1_8_23⟩ : Bx_State b1_ a1 ((b1_, blk [vP1_0_1, vP1_1_5, vP1_2_9, .int .i64 a1.Taken, vP1_4_13, .int .i64 a1.PC, vP1_6_17, .int .i64 a1.Stop, vP1_8_21, .int .i64 a1.Jump, .int .i64 a1.Delay] 27) :: (LXP1_0_2 ++ (LXP1_1_6 ++ (LXP1_2_10 ++ (LXP1_4_14 ++ (LXP1_6_18 ++ (LXP1_8_22 ++ []))))))))) (hF := hr125))) (h := ?_)
     clear hS; intro v126 LY127 w hS hr128
     clear hS2
     obtain ⟨LB129, rfl, rfl, hb130⟩ := hr128
     obtain ⟨vB_0_131, vB_1_135, vB_2_139, vB_4_143, vB_6_147, vB_8_151, LXB_0_132, LXB_1_136, LXB_2_140, LXB_4_144, LXB_6_148, LXB_8_152, rfl, hB_0_133, hB_1_137, hB_2_141, hB_4_145, hB_6_149, hB_8_153⟩ := hb130
     simp only [List.append_assoc, List.cons_append, List.nil_append] at hS
     refine hb_next (fun h => absurd h (by decide)) ?_
     refine hb1 24 (by kernel_rfl) (hb_op rfl wn (nl (P := Try.prog) (fn := Try.f50)) ?_)
     refine o_allocP (cl := [.bool false, .int .u32 0, .bool false, .int .i64 0, .int .i64 0]) zr_sledgeref5_deed rfl hS ?_
     clear hS; intro b155 w hS
     refine hb_next (fun h => absurd h (by decide)) ?_
     refine hb1 25 (by kernel_rfl) (hb_op rfl wn (nl (P := Try.prog) (fn := Try.f50)) ?_)
     refine o_storeP (vs := [.bool r125.2.has, .int .u32 r125.2.result, .bool r125.2.jumps, .int .i64 r125.2.to, .int .i64 r125.2.stop]) hS (hm := Upd.here _) (hi := by exact sz_sledgeref5_deed) (h1 := (onC rfl (onC rfl (onC rfl (onC rfl (onC rfl onN)))))) ?_
     clear hS; intro w hS
     refine hb_next (fun h => absurd h (by decide)) ?_
     refine hb_done (by kernel_rfl) ?_
     obtain rfl := Option.some.inj hF
     change ∃ _, _
     exact ⟨r125.1.Regs, r125.1.Mem, r125.1.In_, r125.1.Taken, r125.1.Out, r125.1.PC, r125.1.Stack, r125.1.Stop, r125.1.Fly, r125.1.Jump, r125.1.Delay, r125.2.has, r125.2.result, r125.2.jumps, r125.2.to, r125.2.stop, vB_0_131, vB_1_135, vB_2_139, vB_4_143, vB_6_147, vB_8_151, LXB_0_132, LXB_1_136, LXB_2_140, LXB_4_144, LXB_6_148, LXB_8_152, b155, hK106, hB_0_133, hB_1_137, hB_2_141, hB_4_145, hB_6_149, hB_8_153, mk_ex, (hS.re (.takeb (.thereb _ (.hereb _ _)) (.takeb (.thereb _ (.there _ (.there _ (.there _ (.there _ (.there _ (.there _ (.hereb _ _)))))))) (.takeb (.hereb _ _) (.take (.here _ _) (.take (.here _ _) (.take (.here _ _) (.take (.here _ _) (.take (.here _ _) (.take (.here _ _) (.nil _)))))))))))⟩
   refine o_allocP (cl := [.bool false, .int .u32 0, .bool false, .int .i64 0, .int .i64 0]) zr_sledgeref5_deed rfl hS ?_
   clear hS; intro b155 w hS
   refine hb_next (fun _ => (hS.re (.takeb (.thereb _ (.hereb _ _)) (.takeb (.thereb _ (.hereb _ _)) (.take (.thereb _ (.here _ _)) (.take (.thereb _ (.here _ _)) (.take (.thereb _ (.here _ _)) (.take (.thereb _ (.here _ _)) (.take (.thereb _ (.here _ _)) (.take (.thereb _ (.here _ _)) (.nil _)))))))))).cb) ?_
   refine hb1 23 (by kernel_rfl) (hb_op rfl wn (nl (P := Try.prog) (fn := Try.f50)) ?_)
   have hS : St W g (((b1_, blk [vP1_0_1, vP1_1_5, vP1_2_9, .int .i64 a1.Taken, vP1_4_13, .int .i64 a1.PC, vP1_6_17, .int .i64 a1.Stop, vP1_8_21, .int .i64 a1.Jump, .int .i64 a1.Delay] 27) :: (LXP1_0_2 ++ (LXP1_1_6 ++ (LXP1_2_10 ++ (LXP1_4_14 ++ (LXP1_6_18 ++ (LXP1_8_22 ++ [])))))))) ((b1_, blk [vP1_0_1, vP1_1_5, vP1_2_9, .int .i64 a1.Taken, vP1_4_13, .int .i64 a1.PC, vP1_6_17, .int .i64 a1.Stop, vP1_8_21, .int .i64 a1.Jump, .int .i64 a1.Delay] 27) :: (LXP1_0_2 ++ (LXP1_1_6 ++ (LXP1_2_10 ++ (LXP1_4_14 ++ (LXP1_6_18 ++ (LXP1_8_22 ++ ((b155, blk [.bool false, .int .u32 0, .bool false, .int .i64 0, .int .i64 0] 82) :: ((b14, blk [.int .i64 x2.Op, .int .i64 x2.D, .int .i64 x2.A, .int .i64 x2.B, .int .i64 x2.Imm, .string x2.Sym] 43) :: []))))))))) w := hS.re (.takeb (.thereb _ (.thereb _ (.hereb _ _))) (.take (.thereb _ (.thereb _ (.here _ _))) (.take (.thereb _ (.thereb _ (.here _ _))) (.take (.thereb _ (.thereb _ (.here _ _))) (.take (.thereb _ (.thereb _ (.here _ _))) (.take (.thereb _ (.thereb _ (.here _ _))) (.take (.thereb _ (.thereb _ (.here _ _))) (.takeb (.hereb _ _) (.takeb (.hereb _ _) (.nil _))))))))))
   have hS2 : St W g (((b1_, blk [vP1_0_1, vP1_1_5, vP1_2_9, .int .i64 a1.Taken, vP1_4_13, .int .i64 a1.PC, vP1_6_17, .int .i64 a1.Stop, vP1_8_21, .int .i64 a1.Jump, .int .i64 a1.Delay] 27) :: (LXP1_0_2 ++ (LXP1_1_6 ++ (LXP1_2_10 ++ (LXP1_4_14 ++ (LXP1_6_18 ++ (LXP1_8_22 ++ [])))))))) (((b1_, blk [vP1_0_1, vP1_1_5, vP1_2_9, .int .i64 a1.Taken, vP1_4_13, .int .i64 a1.PC, vP1_6_17, .int .i64 a1.Stop, vP1_8_21, .int .i64 a1.Jump, .int .i64 a1.Delay] 27) :: (LXP1_0_2 ++ (LXP1_1_6 ++ (LXP1_2_10 ++ (LXP1_4_14 ++ (LXP1_6_18 ++ (LXP1_8_22 ++ []))))))) ++ ((b155, blk [.bool false, .int .u32 0, .bool false, .int .i64 0, .int .i64 0] 82) :: ((b14, blk [.int .i64 x2.Op, .int .i64 x2.D, .int .i64 x2.A, .int .i64 x2.B, .int .i64 x2.Imm, .string x2.Sym] 43) :: []))) w := by simpa only [List.append_assoc, List.cons_append, List.nil_append, List.append_nil] using hS
   refine o_call (L1 := ((b1_, blk [vP1_0_1, vP1_1_5, vP1_2_9, .int .i64 a1.Taken, vP1_4_13, .int .i64 a1.PC, vP1_6_17, .int .i64 a1.Stop, vP1_8_21, .int .i64 a1.Jump, .int .i64 a1.Delay] 27) :: (LXP1_0_2 ++ (LXP1_1_6 ++ (LXP1_2_10 ++ (LXP1_4_14 ++ (LXP1_6_18 ++ (LXP1_8_22 ++ [])))))))) (L2 := ((b155, blk [.bool false, .int .u32 0, .bool false, .int .i64 0, .int .i64 0] 82) :: ((b14, blk [.int .i64 x2.Op, .int .i64 x2.D, .int .i64 x2.A, .int .i64 x2.B, .int .i64 x2.Imm, .string x2.Sym] 43) :: []))) hS2 Try.func73 rfl rfl (hc := (w_r5_do (a0 := a1) (a1 := x2) (a2 := x107) (a3 := x116) (a4 := (IntKind.i64.wrap (a1.PC + 1))) (h0 := (⟨_, _, _, _, _, _, _, _, _, _, _, _, rfl, hP1_0_3, hP1_1_7, hP1_2_11, hP1_4_15, hP1_6_19, hP1_8_23⟩ : Bx_State b1_ a1 ((b1_, blk [vP1_0_1, vP1_1_5, vP1_2_9, .int .i64 a1.Taken, vP1_4_13, .int .i64 a1.PC, vP1_6_17, .int .i64 a1.Stop, vP1_8_21, .int .i64 a1.Jump, .int .i64 a1.Delay] 27) :: (LXP1_0_2 ++ (LXP1_1_6 ++ (LXP1_2_10 ++ (LXP1_4_14 ++ (LXP1_6_18 ++ (LXP1_8_22 ++ []))))))))) (hF := hr125))) (h := ?_)
   clear hS; intro v126 LY127 w hS hr128
   clear hS2
   obtain ⟨LB129, rfl, rfl, hb130⟩ := hr128
   obtain ⟨vB_0_131, vB_1_135, vB_2_139, vB_4_143, vB_6_147, vB_8_151, LXB_0_132, LXB_1_136, LXB_2_140, LXB_4_144, LXB_6_148, LXB_8_152, rfl, hB_0_133, hB_1_137, hB_2_141, hB_4_145, hB_6_149, hB_8_153⟩ := hb130
   simp only [List.append_assoc, List.cons_append, List.nil_append] at hS
   refine hb_next (fun h => absurd h (by decide)) ?_
   refine hb1 25 (by kernel_rfl) (hb_op rfl wn (nl (P := Try.prog) (fn := Try.f50)) ?_)
   have hS : St W g (((b1_, blk [vP1_0_1, vP1_1_5, vP1_2_9, .int .i64 a1.Taken, vP1_4_13, .int .i64 a1.PC, vP1_6_17, .int .i64 a1.Stop, vP1_8_21, .int .i64 a1.Jump, .int .i64 a1.Delay] 27) :: (LXP1_0_2 ++ (LXP1_1_6 ++ (LXP1_2_10 ++ (LXP1_4_14 ++ (LXP1_6_18 ++ (LXP1_8_22 ++ [])))))))) ((b155, blk [.bool false, .int .u32 0, .bool false, .int .i64 0, .int .i64 0] 82) :: ((b1_, blk [vB_0_131, vB_1_135, vB_2_139, .int .i64 r125.1.Taken, vB_4_143, .int .i64 r125.1.PC, vB_6_147, .int .i64 r125.1.Stop, vB_8_151, .int .i64 r125.1.Jump, .int .i64 r125.1.Delay] 27) :: (LXB_0_132 ++ (LXB_1_136 ++ (LXB_2_140 ++ (LXB_4_144 ++ (LXB_6_148 ++ (LXB_8_152 ++ ((b14, blk [.int .i64 x2.Op, .int .i64 x2.D, .int .i64 x2.A, .int .i64 x2.B, .int .i64 x2.Imm, .string x2.Sym] 43) :: []))))))))) w := hS.re (.takeb (.thereb _ (.there _ (.there _ (.there _ (.there _ (.there _ (.there _ (.hereb _ _)))))))) (.takeb (.hereb _ _) (.take (.here _ _) (.take (.here _ _) (.take (.here _ _) (.take (.here _ _) (.take (.here _ _) (.take (.here _ _) (.takeb (.hereb _ _) (.nil _))))))))))
   refine o_storeP (vs := [.bool r125.2.has, .int .u32 r125.2.result, .bool r125.2.jumps, .int .i64 r125.2.to, .int .i64 r125.2.stop]) hS (hm := Upd.here _) (hi := by exact sz_sledgeref5_deed) (h1 := (onC rfl (onC rfl (onC rfl (onC rfl (onC rfl onN)))))) ?_
   clear hS; intro w hS
   refine hb_next (fun h => absurd h (by decide)) ?_
   refine hb_done (by kernel_rfl) ?_
   obtain rfl := Option.some.inj hF
   change ∃ _, _
   exact ⟨r125.1.Regs, r125.1.Mem, r125.1.In_, r125.1.Taken, r125.1.Out, r125.1.PC, r125.1.Stack, r125.1.Stop, r125.1.Fly, r125.1.Jump, r125.1.Delay, r125.2.has, r125.2.result, r125.2.jumps, r125.2.to, r125.2.stop, vB_0_131, vB_1_135, vB_2_139, vB_4_143, vB_6_147, vB_8_151, LXB_0_132, LXB_1_136, LXB_2_140, LXB_4_144, LXB_6_148, LXB_8_152, b155, hK106, hB_0_133, hB_1_137, hB_2_141, hB_4_145, hB_6_149, hB_8_153, mk_ex, (hS.re (.takeb (.thereb _ (.hereb _ _)) (.takeb (.thereb _ (.there _ (.there _ (.there _ (.there _ (.there _ (.there _ (.hereb _ _)))))))) (.takeb (.hereb _ _) (.take (.here _ _) (.take (.here _ _) (.take (.here _ _) (.take (.here _ _) (.take (.here _ _) (.take (.here _ _) (.nil _)))))))))))⟩
 rintro a w ⟨x65, x70, x75, x80, x81, x86, x87, x92, x93, x98, x99, x100, x101, x102, x103, x104, v66, v71, v76, v82, v88, v94, LX68, LX73, LX78, LX84, LX90, LX96, b64, hF, h67, h72, h77, h83, h89, h95, ⟨s156, rfl⟩, hS⟩
 dsimp only [r5_step_k1] at hF
 iterate 2 (refine c_seq ?_)
 refine c_region ?_
 refine oy hS (y_field fa_sledgeref5_deed_4) ?_
 refine oy hS (y_load (fun w hS => hS.own (mC (mC (mH)))) Try.underlying3 rfl rfl) ?_
 refine oy hS y_bin ?_
 refine n_thenN ?_
 refine c_if (ht := fun c157 => ?_) (hf := fun c157 => ?_)
 · replace hF := bt c157 hF
   refine c_seq ?_
   refine c_region ?_
   refine oy hS y_move ?_
   refine oy hS (y_field fa_sledgeref5_deed_4) ?_
   refine oy hS (y_load (fun w hS => hS.own (mC (mC (mH)))) Try.underlying3 rfl rfl) ?_
   refine oy hS y_nilCheck ?_
   refine oy hS (y_field fa_api_State_7) ?_
   refine o_store hS (hm := Upd.here _) (hi := by exact sz_int) (h1 := rfl) (hc := rfl) (ho := by exact Nat.le_of_ble_eq_true rfl) (h := ?_)
   clear hS; intro w hS
   refine n_thenN ?_
   obtain rfl := Option.some.inj hF
   refine wp_ret (r_ret (vs := []) (L' := ((b1_, blk [v66, v71, v76, .int .i64 x80, v82, .int .i64 x86, v88, .int .i64 x104, v94, .int .i64 x98, .int .i64 x99] 27) :: (LX68 ++ (LX73 ++ (LX78 ++ (LX84 ++ (LX90 ++ (LX96 ++ [])))))))) (hS.re (.takeb (.hereb _ _) (.take (.thereb _ (.thereb _ (.here _ _))) (.take (.thereb _ (.thereb _ (.here _ _))) (.take (.thereb _ (.thereb _ (.here _ _))) (.take (.thereb _ (.thereb _ (.here _ _))) (.take (.thereb _ (.thereb _ (.here _ _))) (.take (.thereb _ (.thereb _ (.here _ _))) (.nil _))))))))) (show resAll _ _ _ [] _ from trivial) rfl ⟨_, rfl, (by first | rfl | simp only [List.append_assoc, List.cons_append, List.nil_append, List.append_nil]), ⟨_, _, _, _, _, _, _, _, _, _, _, _, rfl, h67, h72, h77, h83, h89, h95⟩⟩)
 replace hF := bf c157 hF
 refine wp_skip ?_
 obtain ⟨z175, hF, hK176⟩ := cut_step hF
 refine c_cutP (fun a w' => ∃ (x170 : (List Int)) (v171 : Value) (LX173 : Own), r5_step_k2 x102 x70 x75 x80 x81 x103 x87 x92 x93 x98 x99 x86 x170 = some r ∧ OwT 63 enc_uint32 1 x170 v171 LX173 ∧ (∃ s : Nat → Value, a = Ac (.lit 81 [s 0, .pointer (some ⟨b1_, 0, none⟩), s 2, s 3, s 4, .pointer (some ⟨b64, 0, none⟩), s 6, s 7, s 8, s 9, s 10, s 11, s 12, s 13, s 14, s 15, s 16, s 17, s 18, s 19, s 20, s 21, s 22, s 23, s 24, s 25, s 26, s 27, s 28, s 29, s 30, s 31, s 32, s 33, s 34, s 35, s 36, s 37, s 38, s 39, s 40, s 41, s 42, s 43, s 44, s 45, s 46, s 47, s 48, s 49, s 50, s 51, s 52, s 53, s 54, s 55, s 56, s 57, s 58, s 59, s 60, s 61, s 62, s 63, s 64, s 65, s 66, s 67, s 68, s 69, s 70, s 71, s 72, s 73, s 74, s 75, s 76, s 77, s 78, s 79, s 80])) ∧ St W g (((b1_, blk [vP1_0_1, vP1_1_5, vP1_2_9, .int .i64 a1.Taken, vP1_4_13, .int .i64 a1.PC, vP1_6_17, .int .i64 a1.Stop, vP1_8_21, .int .i64 a1.Jump, .int .i64 a1.Delay] 27) :: (LXP1_0_2 ++ (LXP1_1_6 ++ (LXP1_2_10 ++ (LXP1_4_14 ++ (LXP1_6_18 ++ (LXP1_8_22 ++ [])))))))) ((b1_, blk [v171, v71, v76, .int .i64 x80, v82, .int .i64 x86, v88, .int .i64 x92, v94, .int .i64 x98, .int .i64 x99] 27) :: ((b64, blk [.bool x100, .int .u32 x101, .bool x102, .int .i64 x103, .int .i64 x104] 82) :: (LX173 ++ (LX73 ++ (LX78 ++ (LX84 ++ (LX90 ++ (LX96 ++ [])))))))) w') ?_ ?_
 · skip
   refine c_seq ?_
   refine c_region ?_
   refine oy hS (y_field fa_sledgeref5_deed_0) ?_
   refine oy hS (y_load (fun w hS => hS.own (mC (mC (mH)))) Try.underlying4 rfl rfl) ?_
   refine n_thenN ?_
   refine c_if (ht := fun c177 => ?_) (hf := fun c177 => ?_)
   · replace hF := bt c177 hF
     refine c_heldB (CB g ((b1_, blk [v66, v71, v76, .int .i64 x80, v82, .int .i64 x86, v88, .int .i64 x92, v94, .int .i64 x98, .int .i64 x99] 27) :: ((b14, blk [.int .i64 x2.Op, .int .i64 x2.D, .int .i64 x2.A, .int .i64 x2.B, .int .i64 x2.Imm, .string x2.Sym] 43) :: ((b64, blk [.bool x100, .int .u32 x101, .bool x102, .int .i64 x103, .int .i64 x104] 82) :: (LX68 ++ (LX73 ++ (LX78 ++ (LX84 ++ (LX90 ++ (LX96 ++ [])))))))))) 9 10 (by kernel_rfl) rfl hS ?_
     clear hS; intro w hS
     refine hy0 0 rfl wn (by kernel_rfl) (nq (P := Try.prog) (fn := Try.f50)) (fun _ => hS.cb) y_move ?_
     refine hy0 1 rfl wn (by kernel_rfl) (nq (P := Try.prog) (fn := Try.f50)) (fun _ => hS.cb) y_nilCheck ?_
     refine hy0 2 rfl wn (by kernel_rfl) (nq (P := Try.prog) (fn := Try.f50)) (fun _ => hS.cb) (y_field fa_api_State_0) ?_
     refine hy 3 rfl wn (by kernel_rfl) (nq (P := Try.prog) (fn := Try.f50)) hS.cb (y_load (fun w hS => hS.own (mH)) Try.underlying23 rfl rfl) ?_
     refine hy0 4 rfl wn (by kernel_rfl) (nq (P := Try.prog) (fn := Try.f50)) (fun _ => hS.cb) (y_field fa_api_Ins_1) ?_
     refine hy 5 rfl wn (by kernel_rfl) (nq (P := Try.prog) (fn := Try.f50)) hS.cb (y_load (fun w hS => hS.own (mC (mH))) Try.underlying3 rfl rfl) ?_
     refine hy0 6 rfl wn (by kernel_rfl) (nq (P := Try.prog) (fn := Try.f50)) (fun _ => hS.cb) (y_field fa_sledgeref5_deed_1) ?_
     refine hy 7 rfl wn (by kernel_rfl) (nq (P := Try.prog) (fn := Try.f50)) hS.cb (y_load (fun w hS => hS.own (mC (mC (mH)))) Try.underlying63 rfl rfl) ?_
     obtain ⟨zs185, hzs185, hF⟩ := ob hF
     obtain ⟨b178, c179, cl180, hv181, ha182, hb183, hl184⟩ := OwT.at_set hzs185 h67 enc_len_uint32
     refine hy0 8 rfl wn (by kernel_rfl) (nq (P := Try.prog) (fn := Try.f50)) (fun _ => hS.cb) (y_index hv181 ha182 hb183 Try.underlying23 el_uint32.size) ?_
     refine hb1 9 (by kernel_rfl) (hb_op rfl wn (nl (P := Try.prog) (fn := Try.f50)) ?_)
     refine o_storeO (L' := fun X => ((b1_, blk [v66, v71, v76, .int .i64 x80, v82, .int .i64 x86, v88, .int .i64 x92, v94, .int .i64 x98, .int .i64 x99] 27) :: ((b14, blk [.int .i64 x2.Op, .int .i64 x2.D, .int .i64 x2.A, .int .i64 x2.B, .int .i64 x2.Imm, .string x2.Sym] 43) :: ((b64, blk [.bool x100, .int .u32 x101, .bool x102, .int .i64 x103, .int .i64 x104] 82) :: (X ++ (LX73 ++ (LX78 ++ (LX84 ++ (LX90 ++ (LX96 ++ [])))))))))) hzs185 hS h67 hl184 (fun X => .thereb _ (.thereb _ (.thereb _ (.here _)))) enc_len_uint32 rfl (by exact sz_uint32) rfl rfl ?_
     clear hS; intro LX186 w h187 hS
     refine hb_next (fun h => absurd h (by decide)) ?_
     refine hb_done (by kernel_rfl) ?_
     obtain rfl := Option.some.inj hF
     change ∃ _, _
     exact ⟨zs185, v66, LX186, hK176, h187, mk_ex, (hS.re (.takeb (.hereb _ _) (.takeb (.thereb _ (.hereb _ _)) (.take (.thereb _ (.here _ _)) (.take (.thereb _ (.here _ _)) (.take (.thereb _ (.here _ _)) (.take (.thereb _ (.here _ _)) (.take (.thereb _ (.here _ _)) (.take (.thereb _ (.here _ _)) (.nil _))))))))))⟩
   replace hF := bf c177 hF
   refine wp_skip ?_
   obtain rfl := Option.some.inj hF
   change ∃ _, _
   exact ⟨x65, v66, LX68, hK176, h67, mk_ex, (hS.re (.takeb (.hereb _ _) (.takeb (.thereb _ (.hereb _ _)) (.take (.thereb _ (.here _ _)) (.take (.thereb _ (.here _ _)) (.take (.thereb _ (.here _ _)) (.take (.thereb _ (.here _ _)) (.take (.thereb _ (.here _ _)) (.take (.thereb _ (.here _ _)) (.nil _))))))))))⟩
 rintro a w ⟨x170, v171, LX173, hF, h172, ⟨s189, rfl⟩, hS⟩
 dsimp only [r5_step_k2] at hF
 refine c_seq ?_
 refine c_region ?_
 refine oy hS (y_field fa_sledgeref5_deed_2) ?_
 refine oy hS (y_load (fun w hS => hS.own (mC (mH))) Try.underlying4 rfl rfl) ?_
 refine n_thenN ?_
 refine c_if (ht := fun c190 => ?_) (hf := fun c190 => ?_)
 · replace hF := bt c190 hF
   refine c_region ?_
   refine oy hS y_move ?_
   refine oy hS (y_field fa_sledgeref5_deed_3) ?_
   refine oy hS (y_load (fun w hS => hS.own (mC (mH))) Try.underlying3 rfl rfl) ?_
   refine oy hS y_nilCheck ?_
   refine oy hS (y_field fa_api_State_5) ?_
   refine o_store hS (hm := Upd.here _) (hi := by exact sz_int) (h1 := rfl) (hc := rfl) (ho := by exact Nat.le_of_ble_eq_true rfl) (h := ?_)
   clear hS; intro w hS
   refine n_anyN ?_
   obtain rfl := Option.some.inj hF
   refine (r_end (vs := []) (L' := ((b1_, blk [v171, v71, v76, .int .i64 x80, v82, .int .i64 x103, v88, .int .i64 x92, v94, .int .i64 x98, .int .i64 x99] 27) :: (LX173 ++ (LX73 ++ (LX78 ++ (LX84 ++ (LX90 ++ (LX96 ++ [])))))))) (hS.re (.takeb (.hereb _ _) (.take (.thereb _ (.here _ _)) (.take (.thereb _ (.here _ _)) (.take (.thereb _ (.here _ _)) (.take (.thereb _ (.here _ _)) (.take (.thereb _ (.here _ _)) (.take (.thereb _ (.here _ _)) (.nil _))))))))) (show resAll _ _ _ [] _ from trivial) rfl ⟨_, rfl, (by first | rfl | simp only [List.append_assoc, List.cons_append, List.nil_append, List.append_nil]), ⟨_, _, _, _, _, _, _, _, _, _, _, _, rfl, h172, h72, h77, h83, h89, h95⟩⟩)
 replace hF := bf c190 hF
 refine c_region ?_
 iterate 2 (refine oy hS y_move ?_)
 refine oy hS y_nilCheck ?_
 refine oy hS (y_field fa_api_State_5) ?_
 refine oy hS (y_load (fun w hS => hS.own (mH)) Try.underlying3 rfl rfl) ?_
 refine oy hS y_bin ?_
 refine oy hS y_nilCheck ?_
 refine oy hS (y_field fa_api_State_5) ?_
 refine o_store hS (hm := Upd.here _) (hi := by exact sz_int) (h1 := rfl) (hc := rfl) (ho := by exact Nat.le_of_ble_eq_true rfl) (h := ?_)
 clear hS; intro w hS
 refine n_anyN ?_
 obtain rfl := Option.some.inj hF
 refine (r_end (vs := []) (L' := ((b1_, blk [v171, v71, v76, .int .i64 x80, v82, .int .i64 (IntKind.i64.wrap (x86 + 1)), v88, .int .i64 x92, v94, .int .i64 x98, .int .i64 x99] 27) :: (LX173 ++ (LX73 ++ (LX78 ++ (LX84 ++ (LX90 ++ (LX96 ++ [])))))))) (hS.re (.takeb (.hereb _ _) (.take (.thereb _ (.here _ _)) (.take (.thereb _ (.here _ _)) (.take (.thereb _ (.here _ _)) (.take (.thereb _ (.here _ _)) (.take (.thereb _ (.here _ _)) (.take (.thereb _ (.here _ _)) (.nil _))))))))) (show resAll _ _ _ [] _ from trivial) rfl ⟨_, rfl, (by first | rfl | simp only [List.append_assoc, List.cons_append, List.nil_append, List.append_nil]), ⟨_, _, _, _, _, _, _, _, _, _, _, _, rfl, h172, h72, h77, h83, h89, h95⟩⟩)
theorem w_r5_step {g : Frag} {a0 : (List T_Ins)} {v0_ : Value} {a1 : T_State} {b1_ : Nat} {LB1_ : Own} {r : T_State} (h0 : SlT g enc_Ins 6 a0 v0_) (h1 : Bx_State b1_ a1 LB1_) (hF : r5_step a0 a1 = some r) : LC Try.prog 50 #[v0_, .pointer (some ⟨b1_, 0, none⟩)] g LB1_ (fun v L => ∃ (LB' : Own), v = .tuple #[] ∧ L = (LB' ++ []) ∧ Bx_State b1_ r LB') := w_r5_step_ h0 h1 hF

noncomputable def r5_Run_b1 (a2 : Int) (a0 : (List T_Ins)) : (Int × (List Int) × (List Int) × (List Int) × Int × (List Int) × Int × (List Int) × Int × (List T_Write) × Int × Int) → Option (Step (Int × (List Int) × (List Int) × (List Int) × Int × (List Int) × Int × (List Int) × Int × (List T_Write) × Int × Int) (T_State × Int)) := fun (x66, x67, x72, x77, x82, x83, x88, x89, x94, x95, x100, x101) => bif decide (x66 < a2) then bif decide (x94 = 0) then (r5_step a0 (⟨x67, x72, x77, x82, x83, x88, x89, x94, x95, x100, x101⟩ : T_State)).bind fun r140 => some (.next (IntKind.i64.wrap (x66 + 1), r140.Regs, r140.Mem, r140.In_, r140.Taken, r140.Out, r140.PC, r140.Stack, r140.Stop, r140.Fly, r140.Jump, r140.Delay)) else some (.done (((⟨x67, x72, x77, x82, x83, x88, x89, x94, x95, x100, x101⟩ : T_State), x66))) else some (.done (((⟨x67, x72, x77, x82, x83, x88, x89, x94, x95, x100, x101⟩ : T_State), x66)))
noncomputable def r5_Run (a0 : (List T_Ins)) (a1 : T_State) (a2 : Int) : Option (T_State × Int) :=
  (r0_CopyState a1).bind fun r3 => loop (σ := (Int × (List Int) × (List Int) × (List Int) × Int × (List Int) × Int × (List Int) × Int × (List T_Write) × Int × Int)) (r5_Run_b1 a2 a0) (0, r3.Regs, r3.Mem, r3.In_, r3.Taken, r3.Out, r3.PC, r3.Stack, r3.Stop, r3.Fly, r3.Jump, r3.Delay)
set_option maxHeartbeats 2000000 in
theorem w_r5_Run_ {g : Frag} {a0 : (List T_Ins)} {v0_ : Value} {a1 : T_State} {v1_ : Value} {a2 : Int} {r : (T_State × Int)} (h0 : SlT g enc_Ins 6 a0 v0_) (h1 : Rd_State g a1 v1_) (hF : r5_Run a0 a1 a2 = some r) : LC Try.prog 30 #[v0_, v1_, .int .i64 a2] g [] (fun v L => ∃ (u0 : Value) (M0 : Own), v = .tuple #[u0, .int .i64 r.2] ∧ L = (M0 ++ []) ∧ Ow_State r.1 u0 M0) := by
 obtain ⟨v1_0_, v1_1_, v1_2_, v1_4_, v1_6_, v1_8_, rfl, h1_0_, h1_1_, h1_2_, h1_4_, h1_6_, h1_8_⟩ := h1
 unfold r5_Run at hF
 refine lc_body (k := 25) (av := [v0_, .agg #[v1_0_, v1_1_, v1_2_, .int .i64 a1.Taken, v1_4_, .int .i64 a1.PC, v1_6_, .int .i64 a1.Stop, v1_8_, .int .i64 a1.Jump, .int .i64 a1.Delay], .int .i64 a2]) Try.func30 rfl rfl (h := fun W hS => ?_)
 refine c_seq ?_
 refine c_region ?_
 refine o_boxP (cl := [v1_0_, v1_1_, v1_2_, .int .i64 a1.Taken, v1_4_, .int .i64 a1.PC, v1_6_, .int .i64 a1.Stop, v1_8_, .int .i64 a1.Jump, .int .i64 a1.Delay]) rfl hS ?_
 clear hS; intro b1 w hS
 refine o_allocP (cl := [(.slice none 0 0), (.slice none 0 0), (.slice none 0 0), .int .i64 0, (.slice none 0 0), .int .i64 0, (.slice none 0 0), .int .i64 0, (.slice none 0 0), .int .i64 0, .int .i64 0]) zr_api_State rfl hS ?_
 clear hS; intro b2 w hS
 refine oy hS y_assign ?_
 refine n_thenN ?_
 refine c_seq ?_
 refine c_region ?_
 refine oy hS (y_loadW (fun w hS => hS.own (mC (mH))) Try.underlying27 rfl (by exact sz_api_State)) ?_
 obtain ⟨r3, hr3, hF⟩ := ob hF
 refine o_call (L1 := []) (L2 := ((b2, blk [(.slice none 0 0), (.slice none 0 0), (.slice none 0 0), .int .i64 0, (.slice none 0 0), .int .i64 0, (.slice none 0 0), .int .i64 0, (.slice none 0 0), .int .i64 0, .int .i64 0] 27) :: ((b1, blk [v1_0_, v1_1_, v1_2_, .int .i64 a1.Taken, v1_4_, .int .i64 a1.PC, v1_6_, .int .i64 a1.Stop, v1_8_, .int .i64 a1.Jump, .int .i64 a1.Delay] 27) :: []))) hS Try.func23 rfl rfl (hc := (w_r0_CopyState (a0 := a1) (h0 := ⟨_, _, _, _, _, _, rfl, h1_0_.plus, h1_1_.plus, h1_2_.plus, h1_4_.plus, h1_6_.plus, h1_8_.plus⟩) (hF := hr3))) (h := ?_)
 clear hS; intro v4 LY5 w hS hr6
 obtain ⟨v_0_7, LX_0_8, rfl, rfl, h_0_9⟩ := hr6
 obtain ⟨vR0_0_10, vR0_1_14, vR0_2_18, vR0_4_22, vR0_6_26, vR0_8_30, LXR0_0_11, LXR0_1_15, LXR0_2_19, LXR0_4_23, LXR0_6_27, LXR0_8_31, rfl, rfl, hR0_0_12, hR0_1_16, hR0_2_20, hR0_4_24, hR0_6_28, hR0_8_32⟩ := h_0_9
 simp only [List.append_assoc, List.cons_append, List.nil_append] at hS
 have hS : St W g [] ((b1, blk [v1_0_, v1_1_, v1_2_, .int .i64 a1.Taken, v1_4_, .int .i64 a1.PC, v1_6_, .int .i64 a1.Stop, v1_8_, .int .i64 a1.Jump, .int .i64 a1.Delay] 27) :: (LXR0_0_11 ++ (LXR0_1_15 ++ (LXR0_2_19 ++ (LXR0_4_23 ++ (LXR0_6_27 ++ (LXR0_8_31 ++ ((b2, blk [(.slice none 0 0), (.slice none 0 0), (.slice none 0 0), .int .i64 0, (.slice none 0 0), .int .i64 0, (.slice none 0 0), .int .i64 0, (.slice none 0 0), .int .i64 0, .int .i64 0] 27) :: [])))))))) w := hS.re (.takeb (.there _ (.there _ (.there _ (.there _ (.there _ (.there _ (.thereb _ (.hereb _ _)))))))) (.take (.here _ _) (.take (.here _ _) (.take (.here _ _) (.take (.here _ _) (.take (.here _ _) (.take (.here _ _) (.takeb (.hereb _ _) (.nil _)))))))))
 refine o_storeP (vs := [vR0_0_10, vR0_1_14, vR0_2_18, .int .i64 r3.Taken, vR0_4_22, .int .i64 r3.PC, vR0_6_26, .int .i64 r3.Stop, vR0_8_30, .int .i64 r3.Jump, .int .i64 r3.Delay]) hS (hm := Upd.here _) (hi := by exact sz_api_State) (h1 := (onC (hR0_0_12).one (onC (hR0_1_16).one (onC (hR0_2_20).one (onC rfl (onC (hR0_4_24).one (onC rfl (onC (hR0_6_28).one (onC rfl (onC (hR0_8_32).one (onC rfl (onC rfl onN)))))))))))) ?_
 clear hS; intro w hS
 refine n_thenN ?_
 refine c_seq ?_
 refine c_region ?_
 refine oy hS y_assign ?_
 refine n_thenN ?_
 refine c_seq ?_
 refine c_block ?_
 refine c_loopP hF (fun (q : (Int × (List Int) × (List Int) × (List Int) × Int × (List Int) × Int × (List Int) × Int × (List T_Write) × Int × Int)) a w' => ∃ (v68 : Value) (v73 : Value) (v78 : Value) (v84 : Value) (v90 : Value) (v96 : Value) (LX70 : Own) (LX75 : Own) (LX80 : Own) (LX86 : Own) (LX92 : Own) (LX98 : Own), OwT 63 enc_uint32 1 q.2.1 v68 LX70 ∧ OwT 63 enc_uint32 1 q.2.2.1 v73 LX75 ∧ OwT 63 enc_uint32 1 q.2.2.2.1 v78 LX80 ∧ OwT 63 enc_uint32 1 q.2.2.2.2.2.1 v84 LX86 ∧ OwT 3 enc_int 1 q.2.2.2.2.2.2.2.1 v90 LX92 ∧ OwT 71 enc_Write 3 q.2.2.2.2.2.2.2.2.2.1 v96 LX98 ∧ (∃ s : Nat → Value, a = Ac (.lit 25 [v0_, s 1, .int .i64 a2, s 3, .pointer (some ⟨b1, 0, none⟩), s 5, .pointer (some ⟨b2, 0, none⟩), s 7, .int .i64 q.1, s 9, s 10, s 11, s 12, s 13, s 14, s 15, s 16, s 17, s 18, s 19, s 20, s 21, s 22, s 23, s 24])) ∧ St W g [] ((b1, blk [v68, v73, v78, .int .i64 q.2.2.2.2.1, v84, .int .i64 q.2.2.2.2.2.2.1, v90, .int .i64 q.2.2.2.2.2.2.2.2.1, v96, .int .i64 q.2.2.2.2.2.2.2.2.2.2.1, .int .i64 q.2.2.2.2.2.2.2.2.2.2.2] 27) :: ((b2, blk [(.slice none 0 0), (.slice none 0 0), (.slice none 0 0), .int .i64 0, (.slice none 0 0), .int .i64 0, (.slice none 0 0), .int .i64 0, (.slice none 0 0), .int .i64 0, .int .i64 0] 27) :: (LX70 ++ (LX75 ++ (LX80 ++ (LX86 ++ (LX92 ++ (LX98 ++ [])))))))) w') ⟨vR0_0_10, vR0_1_14, vR0_2_18, vR0_4_22, vR0_6_26, vR0_8_30, LXR0_0_11, LXR0_1_15, LXR0_2_19, LXR0_4_23, LXR0_6_27, LXR0_8_31, hR0_0_12, hR0_1_16, hR0_2_20, hR0_4_24, hR0_6_28, hR0_8_32, mk_ex, (hS.re (.takeb (.hereb _ _) (.takeb (.there _ (.there _ (.there _ (.there _ (.there _ (.there _ (.hereb _ _))))))) (.take (.here _ _) (.take (.here _ _) (.take (.here _ _) (.take (.here _ _) (.take (.here _ _) (.take (.here _ _) (.nil _))))))))))⟩ ?_
 clear hS hF
 intro n136 q a w hI hq
 obtain ⟨x66, x67, x72, x77, x82, x83, x88, x89, x94, x95, x100, x101⟩ := q
 obtain ⟨v68, v73, v78, v84, v90, v96, LX70, LX75, LX80, LX86, LX92, LX98, h69, h74, h79, h85, h91, h97, ⟨s137, rfl⟩, hS⟩ := hq
 replace h69 : OwT 63 enc_uint32 1 x67 v68 LX70 := h69
 replace h74 : OwT 63 enc_uint32 1 x72 v73 LX75 := h74
 replace h79 : OwT 63 enc_uint32 1 x77 v78 LX80 := h79
 replace h85 : OwT 63 enc_uint32 1 x83 v84 LX86 := h85
 replace h91 : OwT 3 enc_int 1 x89 v90 LX92 := h91
 replace h97 : OwT 71 enc_Write 3 x95 v96 LX98 := h97
 obtain ⟨z134, hF, hK135⟩ := iter_step hI
 clear hI
 dsimp only [r5_Run_b1] at hF
 iterate 2 (refine c_seq ?_)
 refine c_region ?_
 iterate 2 (refine oy hS y_move ?_)
 refine oy hS y_bin ?_
 refine o_split (ht := fun c138 => ?_) (hf := fun c138 => ?_)
 · replace hF := bt c138 hF
   refine o_gu rfl rfl rfl ?_
   refine oy hS (y_field fa_api_State_7) ?_
   refine o_gu rfl rfl rfl ?_
   refine oy hS (y_load (fun w hS => hS.own (mH)) Try.underlying3 rfl rfl) ?_
   refine o_gu rfl rfl rfl ?_
   refine oy hS y_bin ?_
   refine oy hS y_pickT ?_
   refine n_thenN ?_
   refine c_if (ht := fun c139 => ?_) (hf := fun c139 => ?_)
   · replace hF := bt c139 hF
     refine wp_skip ?_
     refine c_block ?_
     refine c_seq ?_
     refine c_region ?_
     refine oy hS y_move ?_
     have hS : St W g [] ((b1, blk [v68, v73, v78, .int .i64 x82, v84, .int .i64 x88, v90, .int .i64 x94, v96, .int .i64 x100, .int .i64 x101] 27) :: (LX70 ++ (LX75 ++ (LX80 ++ (LX86 ++ (LX92 ++ (LX98 ++ ((b2, blk [(.slice none 0 0), (.slice none 0 0), (.slice none 0 0), .int .i64 0, (.slice none 0 0), .int .i64 0, (.slice none 0 0), .int .i64 0, (.slice none 0 0), .int .i64 0, .int .i64 0] 27) :: [])))))))) w := hS.re (.takeb (.hereb _ _) (.take (.thereb _ (.here _ _)) (.take (.thereb _ (.here _ _)) (.take (.thereb _ (.here _ _)) (.take (.thereb _ (.here _ _)) (.take (.thereb _ (.here _ _)) (.take (.thereb _ (.here _ _)) (.takeb (.hereb _ _) (.nil _)))))))))
     have hS2 : St W g [] (((b1, blk [v68, v73, v78, .int .i64 x82, v84, .int .i64 x88, v90, .int .i64 x94, v96, .int .i64 x100, .int .i64 x101] 27) :: (LX70 ++ (LX75 ++ (LX80 ++ (LX86 ++ (LX92 ++ (LX98 ++ []))))))) ++ ((b2, blk [(.slice none 0 0), (.slice none 0 0), (.slice none 0 0), .int .i64 0, (.slice none 0 0), .int .i64 0, (.slice none 0 0), .int .i64 0, (.slice none 0 0), .int .i64 0, .int .i64 0] 27) :: [])) w := by simpa only [List.append_assoc, List.cons_append, List.nil_append, List.append_nil] using hS
     obtain ⟨r140, hr140, hF⟩ := ob hF
     refine o_call (L1 := ((b1, blk [v68, v73, v78, .int .i64 x82, v84, .int .i64 x88, v90, .int .i64 x94, v96, .int .i64 x100, .int .i64 x101] 27) :: (LX70 ++ (LX75 ++ (LX80 ++ (LX86 ++ (LX92 ++ (LX98 ++ [])))))))) (L2 := ((b2, blk [(.slice none 0 0), (.slice none 0 0), (.slice none 0 0), .int .i64 0, (.slice none 0 0), .int .i64 0, (.slice none 0 0), .int .i64 0, (.slice none 0 0), .int .i64 0, .int .i64 0] 27) :: [])) hS2 Try.func50 rfl rfl (hc := (w_r5_step (a0 := a0) (a1 := (⟨x67, x72, x77, x82, x83, x88, x89, x94, x95, x100, x101⟩ : T_State)) (h0 := h0.plus) (h1 := (⟨_, _, _, _, _, _, _, _, _, _, _, _, rfl, h69, h74, h79, h85, h91, h97⟩ : Bx_State b1 (⟨x67, x72, x77, x82, x83, x88, x89, x94, x95, x100, x101⟩ : T_State) ((b1, blk [v68, v73, v78, .int .i64 x82, v84, .int .i64 x88, v90, .int .i64 x94, v96, .int .i64 x100, .int .i64 x101] 27) :: (LX70 ++ (LX75 ++ (LX80 ++ (LX86 ++ (LX92 ++ (LX98 ++ []))))))))) (hF := hr140))) (h := ?_)
     clear hS; intro v141 LY142 w hS hr143
     clear hS2
     obtain ⟨LB144, rfl, rfl, hb145⟩ := hr143
     obtain ⟨vB_0_146, vB_1_150, vB_2_154, vB_4_158, vB_6_162, vB_8_166, LXB_0_147, LXB_1_151, LXB_2_155, LXB_4_159, LXB_6_163, LXB_8_167, rfl, hB_0_148, hB_1_152, hB_2_156, hB_4_160, hB_6_164, hB_8_168⟩ := hb145
     simp only [List.append_assoc, List.cons_append, List.nil_append] at hS
     refine n_thenN ?_
     refine c_region ?_
     refine oy hS y_move ?_
     refine oy hS y_bin ?_
     refine oy hS y_assign ?_
     refine n_anyN ?_
     obtain rfl := Option.some.inj hF
     exact ⟨_, hK135, vB_0_146, vB_1_150, vB_2_154, vB_4_158, vB_6_162, vB_8_166, LXB_0_147, LXB_1_151, LXB_2_155, LXB_4_159, LXB_6_163, LXB_8_167, hB_0_148, hB_1_152, hB_2_156, hB_4_160, hB_6_164, hB_8_168, mk_ex, (hS.re (.takeb (.hereb _ _) (.takeb (.there _ (.there _ (.there _ (.there _ (.there _ (.there _ (.hereb _ _))))))) (.take (.here _ _) (.take (.here _ _) (.take (.here _ _) (.take (.here _ _) (.take (.here _ _) (.take (.here _ _) (.nil _))))))))))⟩
   replace hF := bf c139 hF
   refine wp_exit ?_
   refine c_seq ?_
   refine c_region ?_
   refine oy hS (y_loadW (fun w hS => hS.own (mH)) Try.underlying27 rfl (by exact sz_api_State)) ?_
   refine oy hS y_move ?_
   refine o_storeP (vs := [v68, v73, v78, .int .i64 x82, v84, .int .i64 x88, v90, .int .i64 x94, v96, .int .i64 x100, .int .i64 x101]) hS (hm := Upd.there _ (Upd.here _)) (hi := by exact sz_api_State) (h1 := (onC (h69).one (onC (h74).one (onC (h79).one (onC rfl (onC (h85).one (onC rfl (onC (h91).one (onC rfl (onC (h97).one (onC rfl (onC rfl onN)))))))))))) ?_
   clear hS; intro w hS
   refine oy hS y_assign ?_
   refine n_thenN ?_
   obtain rfl := Option.some.inj hF
   obtain rfl : _ = r := hK135
   refine wp_ret (r_ret (vs := [.agg #[v68, v73, v78, .int .i64 x82, v84, .int .i64 x88, v90, .int .i64 x94, v96, .int .i64 x100, .int .i64 x101], .int .i64 x66]) (L' := (LX70 ++ (LX75 ++ (LX80 ++ (LX86 ++ (LX92 ++ (LX98 ++ []))))))) (hS.re (.take (.thereb _ (.thereb _ (.here _ _))) (.take (.thereb _ (.thereb _ (.here _ _))) (.take (.thereb _ (.thereb _ (.here _ _))) (.take (.thereb _ (.thereb _ (.here _ _))) (.take (.thereb _ (.thereb _ (.here _ _))) (.take (.thereb _ (.thereb _ (.here _ _))) (.nil _)))))))) (show resAll _ _ _ [.cell 6 27, .tmp 7] _ from ⟨(res_cell (hS.own (mC (mH))) Try.underlying27 rfl (by exact sz_api_State)), res_tmp, trivial⟩) rfl ⟨_, _, rfl, (by first | rfl | simp only [List.append_assoc, List.cons_append, List.nil_append, List.append_nil]), ⟨_, _, _, _, _, _, _, _, _, _, _, _, rfl, rfl, h69, h74, h79, h85, h91, h97⟩⟩)
 replace hF := bf c138 hF
 iterate 3 (refine o_sk rfl rfl ?_)
 refine oy hS y_pickF ?_
 refine n_thenN ?_
 refine c_if_false (h := ?_)
 refine wp_exit ?_
 refine c_seq ?_
 refine c_region ?_
 refine oy hS (y_loadW (fun w hS => hS.own (mH)) Try.underlying27 rfl (by exact sz_api_State)) ?_
 refine oy hS y_move ?_
 refine o_storeP (vs := [v68, v73, v78, .int .i64 x82, v84, .int .i64 x88, v90, .int .i64 x94, v96, .int .i64 x100, .int .i64 x101]) hS (hm := Upd.there _ (Upd.here _)) (hi := by exact sz_api_State) (h1 := (onC (h69).one (onC (h74).one (onC (h79).one (onC rfl (onC (h85).one (onC rfl (onC (h91).one (onC rfl (onC (h97).one (onC rfl (onC rfl onN)))))))))))) ?_
 clear hS; intro w hS
 refine oy hS y_assign ?_
 refine n_thenN ?_
 obtain rfl := Option.some.inj hF
 obtain rfl : _ = r := hK135
 refine wp_ret (r_ret (vs := [.agg #[v68, v73, v78, .int .i64 x82, v84, .int .i64 x88, v90, .int .i64 x94, v96, .int .i64 x100, .int .i64 x101], .int .i64 x66]) (L' := (LX70 ++ (LX75 ++ (LX80 ++ (LX86 ++ (LX92 ++ (LX98 ++ []))))))) (hS.re (.take (.thereb _ (.thereb _ (.here _ _))) (.take (.thereb _ (.thereb _ (.here _ _))) (.take (.thereb _ (.thereb _ (.here _ _))) (.take (.thereb _ (.thereb _ (.here _ _))) (.take (.thereb _ (.thereb _ (.here _ _))) (.take (.thereb _ (.thereb _ (.here _ _))) (.nil _)))))))) (show resAll _ _ _ [.cell 6 27, .tmp 7] _ from ⟨(res_cell (hS.own (mC (mH))) Try.underlying27 rfl (by exact sz_api_State)), res_tmp, trivial⟩) rfl ⟨_, _, rfl, (by first | rfl | simp only [List.append_assoc, List.cons_append, List.nil_append, List.append_nil]), ⟨_, _, _, _, _, _, _, _, _, _, _, _, rfl, rfl, h69, h74, h79, h85, h91, h97⟩⟩)
theorem w_r5_Run {g : Frag} {a0 : (List T_Ins)} {v0_ : Value} {a1 : T_State} {v1_ : Value} {a2 : Int} {r : (T_State × Int)} (h0 : SlT g enc_Ins 6 a0 v0_) (h1 : Rd_State g a1 v1_) (hF : r5_Run a0 a1 a2 = some r) : LC Try.prog 30 #[v0_, v1_, .int .i64 a2] g [] (fun v L => ∃ (u0 : Value) (M0 : Own), v = .tuple #[u0, .int .i64 r.2] ∧ L = (M0 ++ []) ∧ Ow_State r.1 u0 M0) := w_r5_Run_ h0 h1 hF

noncomputable def l5_runs_b4 (a1 : (List T_Ins)) : (Int × (List Int) × (List Int) × (List Int) × Int × (List Int) × Int × (List Int) × Int × (List T_Write) × Int × Int) → Option (Step (Int × (List Int) × (List Int) × (List Int) × Int × (List Int) × Int × (List Int) × Int × (List T_Write) × Int × Int) (Step ((List Int) × (List Int) × (List Int) × Int × (List Int) × Int × (List Int) × Int × (List T_Write) × Int × Int) Bool)) := fun (x404, x405, x410, x415, x420, x421, x426, x427, x432, x433, x438, x439) => bif decide (x404 < 60) then (seq_Step a1 (⟨x405, x410, x415, x420, x421, x426, x427, x432, x433, x438, x439⟩ : T_State)).bind fun r513 => (r5_Run a1 (⟨x405, x410, x415, x420, x421, x426, x427, x432, x433, x438, x439⟩ : T_State) 1).bind fun r545 => bif decide ((l5_num r513.2) ≠ 0) then some (.done (.done (false))) else (r0_EqState r513.1 r545.1).bind fun r578 => bif !r578 then some (.done (.done (false))) else some (.next (IntKind.i64.wrap (x404 + 1), r513.1.Regs, r513.1.Mem, r513.1.In_, r513.1.Taken, r513.1.Out, r513.1.PC, r513.1.Stack, r513.1.Stop, r513.1.Fly, r513.1.Jump, r513.1.Delay)) else some (.done (.next (x405, x410, x415, x420, x421, x426, x427, x432, x433, x438, x439)))
noncomputable def l5_runs_k3 (a1 : (List T_Ins)) : ((List Int) × (List Int) × (List Int) × Int × (List Int) × Int × (List Int) × Int × (List T_Write) × Int × Int) → Option Bool := fun (x299, x304, x309, x314, x315, x320, x321, x326, x327, x332, x333) => (seq_Run a1 (⟨x299, x304, x309, x314, x315, x320, x321, x326, x327, x332, x333⟩ : T_State) 100).bind fun r581 => (r5_Run a1 (⟨x299, x304, x309, x314, x315, x320, x321, x326, x327, x332, x333⟩ : T_State) 100).bind fun r613 => bif decide ((l5_num r581.2.2) = 0) then bif decide (r581.2.1 = r613.2) then (r0_EqState r581.1 r613.1).bind fun r647 => some (r647) else some (false) else some (false)
noncomputable def l5_runs_k2 (a0 : T_Script) (a1 : (List T_Ins)) : Unit → Option Bool := fun _ => (seq_New a0.In_).bind fun r22 => bif decide ((l5_num r22.2) ≠ 0) then some (false) else cut (σ := ((List Int) × (List Int) × (List Int) × Int × (List Int) × Int × (List Int) × Int × (List T_Write) × Int × Int)) (loop (σ := (Int × (List Int) × (List Int) × (List Int) × Int × (List Int) × Int × (List Int) × Int × (List T_Write) × Int × Int)) (l5_runs_b4 a1) (0, r22.1.Regs, r22.1.Mem, r22.1.In_, r22.1.Taken, r22.1.Out, r22.1.PC, r22.1.Stack, r22.1.Stop, r22.1.Fly, r22.1.Jump, r22.1.Delay)) (l5_runs_k3 a1)
noncomputable def l5_runs_k1 (a1 : (List T_Ins)) (a0 : T_Script) : Unit → Option Bool := fun _ => cut (σ := Unit) ((l5_wakes).bind fun r17 => bif !r17 then some (.done (false)) else (r3_Program a1).bind fun r19 => bif !r19 then some (.done (false)) else some (.next ())) (l5_runs_k2 a0 a1)
noncomputable def l5_runs (a0 : T_Script) (a1 : (List T_Ins)) : Option Bool :=
  cut (σ := Unit) ((l5_Heavy a0).bind fun r7 => bif r7 then some (.done (true)) else bif decide (100 < (a0.In_.length : Int)) then some (.done (true)) else some (.next ())) (l5_runs_k1 a1 a0)
set_option maxHeartbeats 2000000 in
theorem w_l5_runs_ {g : Frag} {a0 : T_Script} {v0_ : Value} {a1 : (List T_Ins)} {v1_ : Value} {r : Bool} (h0 : Rd_Script g a0 v0_) (h1 : SlT g enc_Ins 6 a1 v1_) (hF : l5_runs a0 a1 = some r) : LCs Try.prog 21 #[v0_, v1_] g (.bool r) := by
 obtain ⟨v0_0_, v0_1_, v0_2_, v0_3_, v0_5_, v0_7_, v0_9_, v0_12_, v0_13_, rfl, h0_0_, h0_1_, h0_2_, h0_3_, h0_5_, h0_7_, h0_9_, h0_12_, h0_13_⟩ := h0
 unfold l5_runs at hF
 refine lc_body (k := 93) (av := [.agg #[v0_0_, v0_1_, v0_2_, v0_3_, .int .i64 a0.S.Taken, v0_5_, .int .i64 a0.S.PC, v0_7_, .int .i64 a0.S.Stop, v0_9_, .int .i64 a0.S.Jump, .int .i64 a0.S.Delay, v0_12_, v0_13_], v1_]) Try.func21 rfl rfl (h := fun W hS => ?_)
 refine c_seq ?_
 refine c_region ?_
 refine o_boxP (cl := [v0_0_, v0_1_, v0_2_, v0_3_, .int .i64 a0.S.Taken, v0_5_, .int .i64 a0.S.PC, v0_7_, .int .i64 a0.S.Stop, v0_9_, .int .i64 a0.S.Jump, .int .i64 a0.S.Delay, v0_12_, v0_13_]) rfl hS ?_
 clear hS; intro b1 w hS
 refine oy hS y_assign ?_
 refine n_thenN ?_
 obtain ⟨z5, hF, hK6⟩ := cut_step hF
 refine c_cutP (fun a w' => l5_runs_k1 a1 a0 () = some r ∧ (∃ s : Nat → Value, a = Ac (.lit 93 [s 0, v1_, .pointer (some ⟨b1, 0, none⟩), s 3, s 4, s 5, s 6, s 7, s 8, s 9, s 10, s 11, s 12, s 13, s 14, s 15, s 16, s 17, s 18, s 19, s 20, s 21, s 22, s 23, s 24, s 25, s 26, s 27, s 28, s 29, s 30, s 31, s 32, s 33, s 34, s 35, s 36, s 37, s 38, s 39, s 40, s 41, s 42, s 43, s 44, s 45, s 46, s 47, s 48, s 49, s 50, s 51, s 52, s 53, s 54, s 55, s 56, s 57, s 58, s 59, s 60, s 61, s 62, s 63, s 64, s 65, s 66, s 67, s 68, s 69, s 70, s 71, s 72, s 73, s 74, s 75, s 76, s 77, s 78, s 79, s 80, s 81, s 82, s 83, s 84, s 85, s 86, s 87, s 88, s 89, s 90, s 91, s 92])) ∧ St W g [] ((b1, blk [v0_0_, v0_1_, v0_2_, v0_3_, .int .i64 a0.S.Taken, v0_5_, .int .i64 a0.S.PC, v0_7_, .int .i64 a0.S.Stop, v0_9_, .int .i64 a0.S.Jump, .int .i64 a0.S.Delay, v0_12_, v0_13_] 29) :: []) w') ?_ ?_
 · skip
   refine c_seq ?_
   refine c_region ?_
   refine oy hS (y_loadW (fun w hS => hS.own (mH)) Try.underlying29 rfl (by exact sz_sledgelaw5_Script)) ?_
   obtain ⟨r7, hr7, hF⟩ := ob hF
   refine o_callS hS Try.func12 rfl rfl (hc := (w_l5_Heavy (a0 := a0) (h0 := ⟨_, _, _, _, _, _, _, _, _, rfl, h0_0_.plus, h0_1_.plus, h0_2_.plus, h0_3_.plus, h0_5_.plus, h0_7_.plus, h0_9_.plus, h0_12_.plus, h0_13_.plus⟩) (hF := hr7))) (h := ?_)
   clear hS; intro w hS
   refine o_split (ht := fun c8 => ?_) (hf := fun c8 => ?_)
   · replace hF := bt c8 hF
     iterate 4 (refine o_sk rfl rfl ?_)
     refine oy hS y_pickT ?_
     refine n_thenN ?_
     refine c_if_true (h := ?_)
     refine c_seq ?_
     refine c_region ?_
     refine oy hS y_assign ?_
     refine n_thenN ?_
     obtain rfl := Option.some.inj hF
     obtain rfl : _ = r := hK6
     exact wp_ret (wr1 hS)
   replace hF := bf c8 hF
   refine o_gu rfl rfl rfl ?_
   refine oy hS (y_field fa_sledgelaw5_Script_2) ?_
   refine o_gu rfl rfl rfl ?_
   refine oy hS (y_load (fun w hS => hS.own (mH)) Try.underlying23 rfl rfl) ?_
   refine o_gu rfl rfl rfl ?_
   refine oy hS (y_len h0_12_ Try.underlying23) ?_
   refine o_gu rfl rfl rfl ?_
   refine oy hS y_bin ?_
   refine oy hS y_pickF ?_
   refine n_thenN ?_
   refine c_if (ht := fun c9 => ?_) (hf := fun c9 => ?_)
   · replace hF := bt c9 hF
     refine c_seq ?_
     refine c_region ?_
     refine oy hS y_assign ?_
     refine n_thenN ?_
     obtain rfl := Option.some.inj hF
     obtain rfl : _ = r := hK6
     exact wp_ret (wr1 hS)
   replace hF := bf c9 hF
   refine wp_skip ?_
   obtain rfl := Option.some.inj hF
   change _ ∧ _
   exact ⟨hK6, mk_ex, (hS.re (.takeb (.hereb _ _) (.nil _)))⟩
 rintro a w ⟨hF, ⟨s10, rfl⟩, hS⟩
 dsimp only [l5_runs_k1] at hF
 obtain ⟨z15, hF, hK16⟩ := cut_step hF
 refine c_cutP (fun a w' => l5_runs_k2 a0 a1 () = some r ∧ (∃ s : Nat → Value, a = Ac (.lit 93 [s 0, v1_, .pointer (some ⟨b1, 0, none⟩), s 3, s 4, s 5, s 6, s 7, s 8, s 9, s 10, s 11, s 12, s 13, s 14, s 15, s 16, s 17, s 18, s 19, s 20, s 21, s 22, s 23, s 24, s 25, s 26, s 27, s 28, s 29, s 30, s 31, s 32, s 33, s 34, s 35, s 36, s 37, s 38, s 39, s 40, s 41, s 42, s 43, s 44, s 45, s 46, s 47, s 48, s 49, s 50, s 51, s 52, s 53, s 54, s 55, s 56, s 57, s 58, s 59, s 60, s 61, s 62, s 63, s 64, s 65, s 66, s 67, s 68, s 69, s 70, s 71, s 72, s 73, s 74, s 75, s 76, s 77, s 78, s 79, s 80, s 81, s 82, s 83, s 84, s 85, s 86, s 87, s 88, s 89, s 90, s 91, s 92])) ∧ St W g [] ((b1, blk [v0_0_, v0_1_, v0_2_, v0_3_, .int .i64 a0.S.Taken, v0_5_, .int .i64 a0.S.PC, v0_7_, .int .i64 a0.S.Stop, v0_9_, .int .i64 a0.S.Jump, .int .i64 a0.S.Delay, v0_12_, v0_13_] 29) :: []) w') ?_ ?_
 · skip
   refine c_seq ?_
   refine c_region ?_
   obtain ⟨r17, hr17, hF⟩ := ob hF
   refine o_callS hS Try.func20 rfl rfl (hc := (w_l5_wakes  (hF := hr17))) (h := ?_)
   clear hS; intro w hS
   refine oy hS y_not ?_
   refine o_split (ht := fun c18 => ?_) (hf := fun c18 => ?_)
   · replace hF := bt c18 hF
     iterate 3 (refine o_sk rfl rfl ?_)
     refine oy hS y_pickT ?_
     refine n_thenN ?_
     refine c_if_true (h := ?_)
     refine c_seq ?_
     refine c_region ?_
     refine oy hS y_assign ?_
     refine n_thenN ?_
     obtain rfl := Option.some.inj hF
     obtain rfl : _ = r := hK16
     exact wp_ret (wr1 hS)
   replace hF := bf c18 hF
   refine o_gu rfl rfl rfl ?_
   refine oy hS y_move ?_
   refine o_gu rfl rfl rfl ?_
   obtain ⟨r19, hr19, hF⟩ := ob hF
   refine o_callS hS Try.func35 rfl rfl (hc := (w_r3_Program (a0 := a1) (h0 := h1.plus) (hF := hr19))) (h := ?_)
   clear hS; intro w hS
   refine o_gu rfl rfl rfl ?_
   refine oy hS y_not ?_
   refine oy hS y_pickF ?_
   refine n_thenN ?_
   refine c_if (ht := fun c20 => ?_) (hf := fun c20 => ?_)
   · replace hF := bt c20 hF
     refine c_seq ?_
     refine c_region ?_
     refine oy hS y_assign ?_
     refine n_thenN ?_
     obtain rfl := Option.some.inj hF
     obtain rfl : _ = r := hK16
     exact wp_ret (wr1 hS)
   replace hF := bf c20 hF
   refine wp_skip ?_
   obtain rfl := Option.some.inj hF
   change _ ∧ _
   exact ⟨hK16, mk_ex, (hS.re (.takeb (.hereb _ _) (.nil _)))⟩
 rintro a w ⟨hF, ⟨s21, rfl⟩, hS⟩
 dsimp only [l5_runs_k2] at hF
 refine c_seq ?_
 refine c_region ?_
 refine oy hS (y_field fa_sledgelaw5_Script_2) ?_
 refine oy hS (y_load (fun w hS => hS.own (mH)) Try.underlying23 rfl rfl) ?_
 obtain ⟨r22, hr22, hF⟩ := ob hF
 refine o_call (L1 := []) (L2 := ((b1, blk [v0_0_, v0_1_, v0_2_, v0_3_, .int .i64 a0.S.Taken, v0_5_, .int .i64 a0.S.PC, v0_7_, .int .i64 a0.S.Stop, v0_9_, .int .i64 a0.S.Jump, .int .i64 a0.S.Delay, v0_12_, v0_13_] 29) :: [])) hS Try.func27 rfl rfl (hc := (w_seq_New (a0 := a0.In_) (h0 := h0_12_.plus) (hF := hr22))) (h := ?_)
 clear hS; intro v23 LY24 w hS hr25
 obtain ⟨v_0_26, LX_0_27, rfl, rfl, h_0_28⟩ := hr25
 obtain ⟨vR0_0_29, vR0_1_33, vR0_2_37, vR0_4_41, vR0_6_45, vR0_8_49, LXR0_0_30, LXR0_1_34, LXR0_2_38, LXR0_4_42, LXR0_6_46, LXR0_8_50, rfl, rfl, hR0_0_31, hR0_1_35, hR0_2_39, hR0_4_43, hR0_6_47, hR0_8_51⟩ := h_0_28
 simp only [List.append_assoc, List.cons_append, List.nil_append] at hS
 refine oy hS y_move ?_
 iterate 2 (refine oy hS (y_extract rfl) ?_)
 refine o_allocP (cl := [(.slice none 0 0), (.slice none 0 0), (.slice none 0 0), .int .i64 0, (.slice none 0 0), .int .i64 0, (.slice none 0 0), .int .i64 0, (.slice none 0 0), .int .i64 0, .int .i64 0]) zr_api_State rfl hS ?_
 clear hS; intro b53 w hS
 refine o_storeP (vs := [vR0_0_29, vR0_1_33, vR0_2_37, .int .i64 r22.1.Taken, vR0_4_41, .int .i64 r22.1.PC, vR0_6_45, .int .i64 r22.1.Stop, vR0_8_49, .int .i64 r22.1.Jump, .int .i64 r22.1.Delay]) hS (hm := Upd.here _) (hi := by exact sz_api_State) (h1 := (onC (hR0_0_31).one (onC (hR0_1_35).one (onC (hR0_2_39).one (onC rfl (onC (hR0_4_43).one (onC rfl (onC (hR0_6_47).one (onC rfl (onC (hR0_8_51).one (onC rfl (onC rfl onN)))))))))))) ?_
 clear hS; intro w hS
 refine oy hS y_assign ?_
 refine n_thenN ?_
 iterate 2 (refine c_seq ?_)
 refine c_region ?_
 refine oy hS y_move ?_
 refine o_callS hS Try.func15 rfl rfl (hc := (w_l5_num (a0 := r22.2))) (h := ?_)
 clear hS; intro w hS
 refine oy hS y_bin ?_
 refine n_thenN ?_
 refine c_if (ht := fun c54 => ?_) (hf := fun c54 => ?_)
 · replace hF := bt c54 hF
   refine c_seq ?_
   refine c_region ?_
   refine oy hS y_assign ?_
   refine n_thenN ?_
   obtain rfl := Option.some.inj hF
   exact wp_ret (wr1 hS)
 replace hF := bf c54 hF
 refine wp_skip ?_
 obtain ⟨z334, hF, hK335⟩ := cut_step hF
 refine c_cutP (fun a w' => ∃ (x299 : (List Int)) (x304 : (List Int)) (x309 : (List Int)) (x314 : Int) (x315 : (List Int)) (x320 : Int) (x321 : (List Int)) (x326 : Int) (x327 : (List T_Write)) (x332 : Int) (x333 : Int) (v300 : Value) (v305 : Value) (v310 : Value) (v316 : Value) (v322 : Value) (v328 : Value) (LX302 : Own) (LX307 : Own) (LX312 : Own) (LX318 : Own) (LX324 : Own) (LX330 : Own), l5_runs_k3 a1 (x299, x304, x309, x314, x315, x320, x321, x326, x327, x332, x333) = some r ∧ OwT 63 enc_uint32 1 x299 v300 LX302 ∧ OwT 63 enc_uint32 1 x304 v305 LX307 ∧ OwT 63 enc_uint32 1 x309 v310 LX312 ∧ OwT 63 enc_uint32 1 x315 v316 LX318 ∧ OwT 3 enc_int 1 x321 v322 LX324 ∧ OwT 71 enc_Write 3 x327 v328 LX330 ∧ (∃ s : Nat → Value, a = Ac (.lit 93 [s 0, v1_, s 2, s 3, s 4, .pointer (some ⟨b53, 0, none⟩), s 6, s 7, s 8, s 9, s 10, s 11, s 12, s 13, s 14, s 15, s 16, s 17, s 18, s 19, s 20, s 21, s 22, s 23, s 24, s 25, s 26, s 27, s 28, s 29, s 30, s 31, s 32, s 33, s 34, s 35, s 36, s 37, s 38, s 39, s 40, s 41, s 42, s 43, s 44, s 45, s 46, s 47, s 48, s 49, s 50, s 51, s 52, s 53, s 54, s 55, s 56, s 57, s 58, s 59, s 60, s 61, s 62, s 63, s 64, s 65, s 66, s 67, s 68, s 69, s 70, s 71, s 72, s 73, s 74, s 75, s 76, s 77, s 78, s 79, s 80, s 81, s 82, s 83, s 84, s 85, s 86, s 87, s 88, s 89, s 90, s 91, s 92])) ∧ St W g [] ((b53, blk [v300, v305, v310, .int .i64 x314, v316, .int .i64 x320, v322, .int .i64 x326, v328, .int .i64 x332, .int .i64 x333] 27) :: (LX302 ++ (LX307 ++ (LX312 ++ (LX318 ++ (LX324 ++ (LX330 ++ []))))))) w') ?_ ?_
 · skip
   refine c_seq ?_
   refine c_region ?_
   refine oy hS y_assign ?_
   refine n_thenN ?_
   refine c_block ?_
   refine c_loopP hF (fun (q : (Int × (List Int) × (List Int) × (List Int) × Int × (List Int) × Int × (List Int) × Int × (List T_Write) × Int × Int)) a w' => ∃ (v406 : Value) (v411 : Value) (v416 : Value) (v422 : Value) (v428 : Value) (v434 : Value) (LX408 : Own) (LX413 : Own) (LX418 : Own) (LX424 : Own) (LX430 : Own) (LX436 : Own), OwT 63 enc_uint32 1 q.2.1 v406 LX408 ∧ OwT 63 enc_uint32 1 q.2.2.1 v411 LX413 ∧ OwT 63 enc_uint32 1 q.2.2.2.1 v416 LX418 ∧ OwT 63 enc_uint32 1 q.2.2.2.2.2.1 v422 LX424 ∧ OwT 3 enc_int 1 q.2.2.2.2.2.2.2.1 v428 LX430 ∧ OwT 71 enc_Write 3 q.2.2.2.2.2.2.2.2.2.1 v434 LX436 ∧ (∃ s : Nat → Value, a = Ac (.lit 93 [s 0, v1_, s 2, s 3, s 4, .pointer (some ⟨b53, 0, none⟩), s 6, .int .i64 q.1, s 8, s 9, s 10, s 11, s 12, s 13, s 14, s 15, s 16, s 17, s 18, s 19, s 20, s 21, s 22, s 23, s 24, s 25, s 26, s 27, s 28, s 29, s 30, s 31, s 32, s 33, s 34, s 35, s 36, s 37, s 38, s 39, s 40, s 41, s 42, s 43, s 44, s 45, s 46, s 47, s 48, s 49, s 50, s 51, s 52, s 53, s 54, s 55, s 56, s 57, s 58, s 59, s 60, s 61, s 62, s 63, s 64, s 65, s 66, s 67, s 68, s 69, s 70, s 71, s 72, s 73, s 74, s 75, s 76, s 77, s 78, s 79, s 80, s 81, s 82, s 83, s 84, s 85, s 86, s 87, s 88, s 89, s 90, s 91, s 92])) ∧ St W g [] ((b53, blk [v406, v411, v416, .int .i64 q.2.2.2.2.1, v422, .int .i64 q.2.2.2.2.2.2.1, v428, .int .i64 q.2.2.2.2.2.2.2.2.1, v434, .int .i64 q.2.2.2.2.2.2.2.2.2.2.1, .int .i64 q.2.2.2.2.2.2.2.2.2.2.2] 27) :: (LX408 ++ (LX413 ++ (LX418 ++ (LX424 ++ (LX430 ++ (LX436 ++ []))))))) w') ⟨vR0_0_29, vR0_1_33, vR0_2_37, vR0_4_41, vR0_6_45, vR0_8_49, LXR0_0_30, LXR0_1_34, LXR0_2_38, LXR0_4_42, LXR0_6_46, LXR0_8_50, hR0_0_31, hR0_1_35, hR0_2_39, hR0_4_43, hR0_6_47, hR0_8_51, mk_ex, (hS.re (.takeb (.hereb _ _) (.take (.here _ _) (.take (.here _ _) (.take (.here _ _) (.take (.here _ _) (.take (.here _ _) (.take (.here _ _) (.nil _)))))))))⟩ ?_
   clear hS hF
   intro n510 q a w hI hq
   obtain ⟨x404, x405, x410, x415, x420, x421, x426, x427, x432, x433, x438, x439⟩ := q
   obtain ⟨v406, v411, v416, v422, v428, v434, LX408, LX413, LX418, LX424, LX430, LX436, h407, h412, h417, h423, h429, h435, ⟨s511, rfl⟩, hS⟩ := hq
   replace h407 : OwT 63 enc_uint32 1 x405 v406 LX408 := h407
   replace h412 : OwT 63 enc_uint32 1 x410 v411 LX413 := h412
   replace h417 : OwT 63 enc_uint32 1 x415 v416 LX418 := h417
   replace h423 : OwT 63 enc_uint32 1 x421 v422 LX424 := h423
   replace h429 : OwT 3 enc_int 1 x427 v428 LX430 := h429
   replace h435 : OwT 71 enc_Write 3 x433 v434 LX436 := h435
   obtain ⟨z508, hF, hK509⟩ := iter_step hI
   clear hI
   dsimp only [l5_runs_b4] at hF
   iterate 2 (refine c_seq ?_)
   refine c_region ?_
   refine oy hS y_move ?_
   refine oy hS y_bin ?_
   refine n_thenN ?_
   refine c_if (ht := fun c512 => ?_) (hf := fun c512 => ?_)
   · replace hF := bt c512 hF
     refine wp_skip ?_
     refine c_seq ?_
     refine c_block ?_
     refine c_seq ?_
     refine c_region ?_
     refine oy hS y_move ?_
     refine oy hS (y_loadW (fun w hS => hS.own (mH)) Try.underlying27 rfl (by exact sz_api_State)) ?_
     obtain ⟨r513, hr513, hF⟩ := ob hF
     refine o_call (L1 := []) (L2 := ((b53, blk [v406, v411, v416, .int .i64 x420, v422, .int .i64 x426, v428, .int .i64 x432, v434, .int .i64 x438, .int .i64 x439] 27) :: (LX408 ++ (LX413 ++ (LX418 ++ (LX424 ++ (LX430 ++ (LX436 ++ [])))))))) hS Try.func19 rfl rfl (hc := (w_seq_Step (a0 := a1) (a1 := (⟨x405, x410, x415, x420, x421, x426, x427, x432, x433, x438, x439⟩ : T_State)) (h0 := h1.plus) (h1 := ⟨_, _, _, _, _, _, rfl, (OwT.plus h407 hS (fun p hp => mC (mA (hp)))), (OwT.plus h412 hS (fun p hp => mC (mB (mA (hp))))), (OwT.plus h417 hS (fun p hp => mC (mB (mB (mA (hp)))))), (OwT.plus h423 hS (fun p hp => mC (mB (mB (mB (mA (hp))))))), (OwT.plus h429 hS (fun p hp => mC (mB (mB (mB (mB (mA (hp)))))))), (OwT.plus h435 hS (fun p hp => mC (mB (mB (mB (mB (mB (mA (hp)))))))))⟩) (hF := hr513))) (h := ?_)
     clear hS; intro v514 LY515 w hS hr516
     obtain ⟨v_0_517, LX_0_518, rfl, rfl, h_0_519⟩ := hr516
     obtain ⟨vR0_0_520, vR0_1_524, vR0_2_528, vR0_4_532, vR0_6_536, vR0_8_540, LXR0_0_521, LXR0_1_525, LXR0_2_529, LXR0_4_533, LXR0_6_537, LXR0_8_541, rfl, rfl, hR0_0_522, hR0_1_526, hR0_2_530, hR0_4_534, hR0_6_538, hR0_8_542⟩ := h_0_519
     simp only [List.append_assoc, List.cons_append, List.nil_append] at hS
     refine oy hS y_move ?_
     iterate 2 (refine oy hS (y_extract rfl) ?_)
     refine o_allocP (cl := [(.slice none 0 0), (.slice none 0 0), (.slice none 0 0), .int .i64 0, (.slice none 0 0), .int .i64 0, (.slice none 0 0), .int .i64 0, (.slice none 0 0), .int .i64 0, .int .i64 0]) zr_api_State rfl hS ?_
     clear hS; intro b544 w hS
     refine o_storeP (vs := [vR0_0_520, vR0_1_524, vR0_2_528, .int .i64 r513.1.Taken, vR0_4_532, .int .i64 r513.1.PC, vR0_6_536, .int .i64 r513.1.Stop, vR0_8_540, .int .i64 r513.1.Jump, .int .i64 r513.1.Delay]) hS (hm := Upd.here _) (hi := by exact sz_api_State) (h1 := (onC (hR0_0_522).one (onC (hR0_1_526).one (onC (hR0_2_530).one (onC rfl (onC (hR0_4_534).one (onC rfl (onC (hR0_6_538).one (onC rfl (onC (hR0_8_542).one (onC rfl (onC rfl onN)))))))))))) ?_
     clear hS; intro w hS
     refine oy hS y_assign ?_
     refine n_thenN ?_
     refine c_seq ?_
     refine c_region ?_
     refine oy hS y_move ?_
     refine oy hS (y_loadW (fun w hS => hS.own (mC (mB (mB (mB (mB (mB (mB (mH))))))))) Try.underlying27 rfl (by exact sz_api_State)) ?_
     obtain ⟨r545, hr545, hF⟩ := ob hF
     refine o_call (L1 := []) (L2 := ((b544, blk [vR0_0_520, vR0_1_524, vR0_2_528, .int .i64 r513.1.Taken, vR0_4_532, .int .i64 r513.1.PC, vR0_6_536, .int .i64 r513.1.Stop, vR0_8_540, .int .i64 r513.1.Jump, .int .i64 r513.1.Delay] 27) :: (LXR0_0_521 ++ (LXR0_1_525 ++ (LXR0_2_529 ++ (LXR0_4_533 ++ (LXR0_6_537 ++ (LXR0_8_541 ++ ((b53, blk [v406, v411, v416, .int .i64 x420, v422, .int .i64 x426, v428, .int .i64 x432, v434, .int .i64 x438, .int .i64 x439] 27) :: (LX408 ++ (LX413 ++ (LX418 ++ (LX424 ++ (LX430 ++ (LX436 ++ []))))))))))))))) hS Try.func30 rfl rfl (hc := (w_r5_Run (a0 := a1) (a1 := (⟨x405, x410, x415, x420, x421, x426, x427, x432, x433, x438, x439⟩ : T_State)) (a2 := 1) (h0 := h1.plus) (h1 := ⟨_, _, _, _, _, _, rfl, (OwT.plus h407 hS (fun p hp => mC (mB (mB (mB (mB (mB (mB (mC (mA (hp))))))))))), (OwT.plus h412 hS (fun p hp => mC (mB (mB (mB (mB (mB (mB (mC (mB (mA (hp)))))))))))), (OwT.plus h417 hS (fun p hp => mC (mB (mB (mB (mB (mB (mB (mC (mB (mB (mA (hp))))))))))))), (OwT.plus h423 hS (fun p hp => mC (mB (mB (mB (mB (mB (mB (mC (mB (mB (mB (mA (hp)))))))))))))), (OwT.plus h429 hS (fun p hp => mC (mB (mB (mB (mB (mB (mB (mC (mB (mB (mB (mB (mA (hp))))))))))))))), (OwT.plus h435 hS (fun p hp => mC (mB (mB (mB (mB (mB (mB (mC (mB (mB (mB (mB (mB (mA (hp))))))))))))))))⟩) (hF := hr545))) (h := ?_)
     clear hS; intro v546 LY547 w hS hr548
     obtain ⟨v_0_549, LX_0_550, rfl, rfl, h_0_551⟩ := hr548
     obtain ⟨vR0_0_552, vR0_1_556, vR0_2_560, vR0_4_564, vR0_6_568, vR0_8_572, LXR0_0_553, LXR0_1_557, LXR0_2_561, LXR0_4_565, LXR0_6_569, LXR0_8_573, rfl, rfl, hR0_0_554, hR0_1_558, hR0_2_562, hR0_4_566, hR0_6_570, hR0_8_574⟩ := h_0_551
     simp only [List.append_assoc, List.cons_append, List.nil_append] at hS
     refine oy hS y_move ?_
     iterate 2 (refine oy hS (y_extract rfl) ?_)
     refine o_allocP (cl := [(.slice none 0 0), (.slice none 0 0), (.slice none 0 0), .int .i64 0, (.slice none 0 0), .int .i64 0, (.slice none 0 0), .int .i64 0, (.slice none 0 0), .int .i64 0, .int .i64 0]) zr_api_State rfl hS ?_
     clear hS; intro b576 w hS
     refine o_storeP (vs := [vR0_0_552, vR0_1_556, vR0_2_560, .int .i64 r545.1.Taken, vR0_4_564, .int .i64 r545.1.PC, vR0_6_568, .int .i64 r545.1.Stop, vR0_8_572, .int .i64 r545.1.Jump, .int .i64 r545.1.Delay]) hS (hm := Upd.here _) (hi := by exact sz_api_State) (h1 := (onC (hR0_0_554).one (onC (hR0_1_558).one (onC (hR0_2_562).one (onC rfl (onC (hR0_4_566).one (onC rfl (onC (hR0_6_570).one (onC rfl (onC (hR0_8_574).one (onC rfl (onC rfl onN)))))))))))) ?_
     clear hS; intro w hS
     refine oy hS y_assign ?_
     refine n_thenN ?_
     iterate 2 (refine c_seq ?_)
     refine c_region ?_
     refine oy hS y_move ?_
     refine o_callS hS Try.func15 rfl rfl (hc := (w_l5_num (a0 := r513.2))) (h := ?_)
     clear hS; intro w hS
     refine oy hS y_bin ?_
     refine o_split (ht := fun c577 => ?_) (hf := fun c577 => ?_)
     · replace hF := bt c577 hF
       iterate 4 (refine o_sk rfl rfl ?_)
       refine oy hS y_pickT ?_
       refine n_thenN ?_
       refine c_if_true (h := ?_)
       refine c_seq ?_
       refine c_region ?_
       refine oy hS y_assign ?_
       refine n_thenN ?_
       obtain rfl := Option.some.inj hF
       obtain rfl : _ = z334 := hK509
       obtain rfl : _ = r := hK335
       exact wp_ret (wr1 hS)
     replace hF := bf c577 hF
     refine o_gu rfl rfl rfl ?_
     refine oy hS (y_loadW (fun w hS => hS.own (mC (mB (mB (mB (mB (mB (mB (mH))))))))) Try.underlying27 rfl (by exact sz_api_State)) ?_
     refine o_gu rfl rfl rfl ?_
     refine oy hS (y_loadW (fun w hS => hS.own (mH)) Try.underlying27 rfl (by exact sz_api_State)) ?_
     refine o_gu rfl rfl rfl ?_
     obtain ⟨r578, hr578, hF⟩ := ob hF
     refine o_callS hS Try.func16 rfl rfl (hc := (w_r0_EqState (a0 := r513.1) (a1 := r545.1) (h0 := ⟨_, _, _, _, _, _, rfl, (OwT.plus hR0_0_522 hS (fun p hp => mC (mB (mB (mB (mB (mB (mB (mC (mA (hp))))))))))), (OwT.plus hR0_1_526 hS (fun p hp => mC (mB (mB (mB (mB (mB (mB (mC (mB (mA (hp)))))))))))), (OwT.plus hR0_2_530 hS (fun p hp => mC (mB (mB (mB (mB (mB (mB (mC (mB (mB (mA (hp))))))))))))), (OwT.plus hR0_4_534 hS (fun p hp => mC (mB (mB (mB (mB (mB (mB (mC (mB (mB (mB (mA (hp)))))))))))))), (OwT.plus hR0_6_538 hS (fun p hp => mC (mB (mB (mB (mB (mB (mB (mC (mB (mB (mB (mB (mA (hp))))))))))))))), (OwT.plus hR0_8_542 hS (fun p hp => mC (mB (mB (mB (mB (mB (mB (mC (mB (mB (mB (mB (mB (mA (hp))))))))))))))))⟩) (h1 := ⟨_, _, _, _, _, _, rfl, (OwT.plus hR0_0_554 hS (fun p hp => mC (mA (hp)))), (OwT.plus hR0_1_558 hS (fun p hp => mC (mB (mA (hp))))), (OwT.plus hR0_2_562 hS (fun p hp => mC (mB (mB (mA (hp)))))), (OwT.plus hR0_4_566 hS (fun p hp => mC (mB (mB (mB (mA (hp))))))), (OwT.plus hR0_6_570 hS (fun p hp => mC (mB (mB (mB (mB (mA (hp)))))))), (OwT.plus hR0_8_574 hS (fun p hp => mC (mB (mB (mB (mB (mB (mA (hp)))))))))⟩) (hF := hr578))) (h := ?_)
     clear hS; intro w hS
     refine o_gu rfl rfl rfl ?_
     refine oy hS y_not ?_
     refine oy hS y_pickF ?_
     refine n_thenN ?_
     refine c_if (ht := fun c579 => ?_) (hf := fun c579 => ?_)
     · replace hF := bt c579 hF
       refine c_seq ?_
       refine c_region ?_
       refine oy hS y_assign ?_
       refine n_thenN ?_
       obtain rfl := Option.some.inj hF
       obtain rfl : _ = z334 := hK509
       obtain rfl : _ = r := hK335
       exact wp_ret (wr1 hS)
     replace hF := bf c579 hF
     refine wp_skip ?_
     refine c_region ?_
     refine oy hS (y_loadW (fun w hS => hS.own (mC (mB (mB (mB (mB (mB (mB (mH))))))))) Try.underlying27 rfl (by exact sz_api_State)) ?_
     have hS : St W g [] ((b53, blk [v406, v411, v416, .int .i64 x420, v422, .int .i64 x426, v428, .int .i64 x432, v434, .int .i64 x438, .int .i64 x439] 27) :: ((b576, blk [vR0_0_552, vR0_1_556, vR0_2_560, .int .i64 r545.1.Taken, vR0_4_564, .int .i64 r545.1.PC, vR0_6_568, .int .i64 r545.1.Stop, vR0_8_572, .int .i64 r545.1.Jump, .int .i64 r545.1.Delay] 27) :: (LXR0_0_553 ++ (LXR0_1_557 ++ (LXR0_2_561 ++ (LXR0_4_565 ++ (LXR0_6_569 ++ (LXR0_8_573 ++ ((b544, blk [vR0_0_520, vR0_1_524, vR0_2_528, .int .i64 r513.1.Taken, vR0_4_532, .int .i64 r513.1.PC, vR0_6_536, .int .i64 r513.1.Stop, vR0_8_540, .int .i64 r513.1.Jump, .int .i64 r513.1.Delay] 27) :: (LXR0_0_521 ++ (LXR0_1_525 ++ (LXR0_2_529 ++ (LXR0_4_533 ++ (LXR0_6_537 ++ (LXR0_8_541 ++ (LX408 ++ (LX413 ++ (LX418 ++ (LX424 ++ (LX430 ++ (LX436 ++ []))))))))))))))))))))) w := hS.re (.takeb (.thereb _ (.there _ (.there _ (.there _ (.there _ (.there _ (.there _ (.thereb _ (.there _ (.there _ (.there _ (.there _ (.there _ (.there _ (.hereb _ _))))))))))))))) (.takeb (.hereb _ _) (.take (.here _ _) (.take (.here _ _) (.take (.here _ _) (.take (.here _ _) (.take (.here _ _) (.take (.here _ _) (.takeb (.hereb _ _) (.take (.here _ _) (.take (.here _ _) (.take (.here _ _) (.take (.here _ _) (.take (.here _ _) (.take (.here _ _) (.take (.here _ _) (.take (.here _ _) (.take (.here _ _) (.take (.here _ _) (.take (.here _ _) (.take (.here _ _) (.nil _))))))))))))))))))))))
     refine o_storeP (vs := [vR0_0_520, vR0_1_524, vR0_2_528, .int .i64 r513.1.Taken, vR0_4_532, .int .i64 r513.1.PC, vR0_6_536, .int .i64 r513.1.Stop, vR0_8_540, .int .i64 r513.1.Jump, .int .i64 r513.1.Delay]) hS (hm := Upd.here _) (hi := by exact sz_api_State) (h1 := (onC (hR0_0_522).one (onC (hR0_1_526).one (onC (hR0_2_530).one (onC rfl (onC (hR0_4_534).one (onC rfl (onC (hR0_6_538).one (onC rfl (onC (hR0_8_542).one (onC rfl (onC rfl onN)))))))))))) ?_
     clear hS; intro w hS
     refine n_anyN ?_
     refine c_region ?_
     refine oy hS y_move ?_
     refine oy hS y_bin ?_
     refine oy hS y_assign ?_
     refine n_thenN ?_
     obtain rfl := Option.some.inj hF
     exact ⟨_, hK509, vR0_0_520, vR0_1_524, vR0_2_528, vR0_4_532, vR0_6_536, vR0_8_540, LXR0_0_521, LXR0_1_525, LXR0_2_529, LXR0_4_533, LXR0_6_537, LXR0_8_541, hR0_0_522, hR0_1_526, hR0_2_530, hR0_4_534, hR0_6_538, hR0_8_542, mk_ex, (hS.re (.takeb (.hereb _ _) (.take (.thereb _ (.there _ (.there _ (.there _ (.there _ (.there _ (.there _ (.thereb _ (.here _ _))))))))) (.take (.thereb _ (.there _ (.there _ (.there _ (.there _ (.there _ (.there _ (.thereb _ (.here _ _))))))))) (.take (.thereb _ (.there _ (.there _ (.there _ (.there _ (.there _ (.there _ (.thereb _ (.here _ _))))))))) (.take (.thereb _ (.there _ (.there _ (.there _ (.there _ (.there _ (.there _ (.thereb _ (.here _ _))))))))) (.take (.thereb _ (.there _ (.there _ (.there _ (.there _ (.there _ (.there _ (.thereb _ (.here _ _))))))))) (.take (.thereb _ (.there _ (.there _ (.there _ (.there _ (.there _ (.there _ (.thereb _ (.here _ _))))))))) (.nil _)))))))))⟩
   replace hF := bf c512 hF
   refine wp_exit ?_
   obtain rfl := Option.some.inj hF
   obtain rfl : _ = z334 := hK509
   change ∃ _, _
   exact ⟨x405, x410, x415, x420, x421, x426, x427, x432, x433, x438, x439, v406, v411, v416, v422, v428, v434, LX408, LX413, LX418, LX424, LX430, LX436, hK335, h407, h412, h417, h423, h429, h435, mk_ex, (hS.re (.takeb (.hereb _ _) (.take (.here _ _) (.take (.here _ _) (.take (.here _ _) (.take (.here _ _) (.take (.here _ _) (.take (.here _ _) (.nil _)))))))))⟩
 rintro a w ⟨x299, x304, x309, x314, x315, x320, x321, x326, x327, x332, x333, v300, v305, v310, v316, v322, v328, LX302, LX307, LX312, LX318, LX324, LX330, hF, h301, h306, h311, h317, h323, h329, ⟨s580, rfl⟩, hS⟩
 dsimp only [l5_runs_k3] at hF
 refine c_seq ?_
 refine c_region ?_
 refine oy hS y_move ?_
 refine oy hS (y_loadW (fun w hS => hS.own (mH)) Try.underlying27 rfl (by exact sz_api_State)) ?_
 obtain ⟨r581, hr581, hF⟩ := ob hF
 refine o_call (L1 := []) (L2 := ((b53, blk [v300, v305, v310, .int .i64 x314, v316, .int .i64 x320, v322, .int .i64 x326, v328, .int .i64 x332, .int .i64 x333] 27) :: (LX302 ++ (LX307 ++ (LX312 ++ (LX318 ++ (LX324 ++ (LX330 ++ [])))))))) hS Try.func14 rfl rfl (hc := (w_seq_Run (a0 := a1) (a1 := (⟨x299, x304, x309, x314, x315, x320, x321, x326, x327, x332, x333⟩ : T_State)) (a2 := 100) (h0 := h1.plus) (h1 := ⟨_, _, _, _, _, _, rfl, (OwT.plus h301 hS (fun p hp => mC (mA (hp)))), (OwT.plus h306 hS (fun p hp => mC (mB (mA (hp))))), (OwT.plus h311 hS (fun p hp => mC (mB (mB (mA (hp)))))), (OwT.plus h317 hS (fun p hp => mC (mB (mB (mB (mA (hp))))))), (OwT.plus h323 hS (fun p hp => mC (mB (mB (mB (mB (mA (hp)))))))), (OwT.plus h329 hS (fun p hp => mC (mB (mB (mB (mB (mB (mA (hp)))))))))⟩) (hF := hr581))) (h := ?_)
 clear hS; intro v582 LY583 w hS hr584
 obtain ⟨v_0_585, LX_0_586, rfl, rfl, h_0_587⟩ := hr584
 obtain ⟨vR0_0_588, vR0_1_592, vR0_2_596, vR0_4_600, vR0_6_604, vR0_8_608, LXR0_0_589, LXR0_1_593, LXR0_2_597, LXR0_4_601, LXR0_6_605, LXR0_8_609, rfl, rfl, hR0_0_590, hR0_1_594, hR0_2_598, hR0_4_602, hR0_6_606, hR0_8_610⟩ := h_0_587
 simp only [List.append_assoc, List.cons_append, List.nil_append] at hS
 refine oy hS y_move ?_
 iterate 3 (refine oy hS (y_extract rfl) ?_)
 refine o_allocP (cl := [(.slice none 0 0), (.slice none 0 0), (.slice none 0 0), .int .i64 0, (.slice none 0 0), .int .i64 0, (.slice none 0 0), .int .i64 0, (.slice none 0 0), .int .i64 0, .int .i64 0]) zr_api_State rfl hS ?_
 clear hS; intro b612 w hS
 refine o_storeP (vs := [vR0_0_588, vR0_1_592, vR0_2_596, .int .i64 r581.1.Taken, vR0_4_600, .int .i64 r581.1.PC, vR0_6_604, .int .i64 r581.1.Stop, vR0_8_608, .int .i64 r581.1.Jump, .int .i64 r581.1.Delay]) hS (hm := Upd.here _) (hi := by exact sz_api_State) (h1 := (onC (hR0_0_590).one (onC (hR0_1_594).one (onC (hR0_2_598).one (onC rfl (onC (hR0_4_602).one (onC rfl (onC (hR0_6_606).one (onC rfl (onC (hR0_8_610).one (onC rfl (onC rfl onN)))))))))))) ?_
 clear hS; intro w hS
 iterate 2 (refine oy hS y_assign ?_)
 refine n_thenN ?_
 refine c_seq ?_
 refine c_region ?_
 refine oy hS y_move ?_
 refine oy hS (y_loadW (fun w hS => hS.own (mC (mB (mB (mB (mB (mB (mB (mH))))))))) Try.underlying27 rfl (by exact sz_api_State)) ?_
 obtain ⟨r613, hr613, hF⟩ := ob hF
 refine o_call (L1 := []) (L2 := ((b612, blk [vR0_0_588, vR0_1_592, vR0_2_596, .int .i64 r581.1.Taken, vR0_4_600, .int .i64 r581.1.PC, vR0_6_604, .int .i64 r581.1.Stop, vR0_8_608, .int .i64 r581.1.Jump, .int .i64 r581.1.Delay] 27) :: (LXR0_0_589 ++ (LXR0_1_593 ++ (LXR0_2_597 ++ (LXR0_4_601 ++ (LXR0_6_605 ++ (LXR0_8_609 ++ ((b53, blk [v300, v305, v310, .int .i64 x314, v316, .int .i64 x320, v322, .int .i64 x326, v328, .int .i64 x332, .int .i64 x333] 27) :: (LX302 ++ (LX307 ++ (LX312 ++ (LX318 ++ (LX324 ++ (LX330 ++ []))))))))))))))) hS Try.func30 rfl rfl (hc := (w_r5_Run (a0 := a1) (a1 := (⟨x299, x304, x309, x314, x315, x320, x321, x326, x327, x332, x333⟩ : T_State)) (a2 := 100) (h0 := h1.plus) (h1 := ⟨_, _, _, _, _, _, rfl, (OwT.plus h301 hS (fun p hp => mC (mB (mB (mB (mB (mB (mB (mC (mA (hp))))))))))), (OwT.plus h306 hS (fun p hp => mC (mB (mB (mB (mB (mB (mB (mC (mB (mA (hp)))))))))))), (OwT.plus h311 hS (fun p hp => mC (mB (mB (mB (mB (mB (mB (mC (mB (mB (mA (hp))))))))))))), (OwT.plus h317 hS (fun p hp => mC (mB (mB (mB (mB (mB (mB (mC (mB (mB (mB (mA (hp)))))))))))))), (OwT.plus h323 hS (fun p hp => mC (mB (mB (mB (mB (mB (mB (mC (mB (mB (mB (mB (mA (hp))))))))))))))), (OwT.plus h329 hS (fun p hp => mC (mB (mB (mB (mB (mB (mB (mC (mB (mB (mB (mB (mB (mA (hp))))))))))))))))⟩) (hF := hr613))) (h := ?_)
 clear hS; intro v614 LY615 w hS hr616
 obtain ⟨v_0_617, LX_0_618, rfl, rfl, h_0_619⟩ := hr616
 obtain ⟨vR0_0_620, vR0_1_624, vR0_2_628, vR0_4_632, vR0_6_636, vR0_8_640, LXR0_0_621, LXR0_1_625, LXR0_2_629, LXR0_4_633, LXR0_6_637, LXR0_8_641, rfl, rfl, hR0_0_622, hR0_1_626, hR0_2_630, hR0_4_634, hR0_6_638, hR0_8_642⟩ := h_0_619
 simp only [List.append_assoc, List.cons_append, List.nil_append] at hS
 refine oy hS y_move ?_
 iterate 2 (refine oy hS (y_extract rfl) ?_)
 refine o_allocP (cl := [(.slice none 0 0), (.slice none 0 0), (.slice none 0 0), .int .i64 0, (.slice none 0 0), .int .i64 0, (.slice none 0 0), .int .i64 0, (.slice none 0 0), .int .i64 0, .int .i64 0]) zr_api_State rfl hS ?_
 clear hS; intro b644 w hS
 refine o_storeP (vs := [vR0_0_620, vR0_1_624, vR0_2_628, .int .i64 r613.1.Taken, vR0_4_632, .int .i64 r613.1.PC, vR0_6_636, .int .i64 r613.1.Stop, vR0_8_640, .int .i64 r613.1.Jump, .int .i64 r613.1.Delay]) hS (hm := Upd.here _) (hi := by exact sz_api_State) (h1 := (onC (hR0_0_622).one (onC (hR0_1_626).one (onC (hR0_2_630).one (onC rfl (onC (hR0_4_634).one (onC rfl (onC (hR0_6_638).one (onC rfl (onC (hR0_8_642).one (onC rfl (onC rfl onN)))))))))))) ?_
 clear hS; intro w hS
 refine oy hS y_assign ?_
 refine n_thenN ?_
 refine c_seq ?_
 refine c_region ?_
 refine oy hS y_move ?_
 refine o_callS hS Try.func15 rfl rfl (hc := (w_l5_num (a0 := r581.2.2))) (h := ?_)
 clear hS; intro w hS
 refine oy hS y_bin ?_
 refine o_split (ht := fun c645 => ?_) (hf := fun c645 => ?_)
 · replace hF := bt c645 hF
   refine o_gu rfl rfl rfl ?_
   refine oy hS y_move ?_
   refine o_gu rfl rfl rfl ?_
   refine oy hS y_move ?_
   refine o_gu rfl rfl rfl ?_
   refine oy hS y_bin ?_
   refine oy hS y_pickT ?_
   refine o_split (ht := fun c646 => ?_) (hf := fun c646 => ?_)
   · replace hF := bt c646 hF
     refine o_gu rfl rfl rfl ?_
     refine oy hS (y_loadW (fun w hS => hS.own (mC (mB (mB (mB (mB (mB (mB (mH))))))))) Try.underlying27 rfl (by exact sz_api_State)) ?_
     refine o_gu rfl rfl rfl ?_
     refine oy hS (y_loadW (fun w hS => hS.own (mH)) Try.underlying27 rfl (by exact sz_api_State)) ?_
     refine o_gu rfl rfl rfl ?_
     obtain ⟨r647, hr647, hF⟩ := ob hF
     refine o_callS hS Try.func16 rfl rfl (hc := (w_r0_EqState (a0 := r581.1) (a1 := r613.1) (h0 := ⟨_, _, _, _, _, _, rfl, (OwT.plus hR0_0_590 hS (fun p hp => mC (mB (mB (mB (mB (mB (mB (mC (mA (hp))))))))))), (OwT.plus hR0_1_594 hS (fun p hp => mC (mB (mB (mB (mB (mB (mB (mC (mB (mA (hp)))))))))))), (OwT.plus hR0_2_598 hS (fun p hp => mC (mB (mB (mB (mB (mB (mB (mC (mB (mB (mA (hp))))))))))))), (OwT.plus hR0_4_602 hS (fun p hp => mC (mB (mB (mB (mB (mB (mB (mC (mB (mB (mB (mA (hp)))))))))))))), (OwT.plus hR0_6_606 hS (fun p hp => mC (mB (mB (mB (mB (mB (mB (mC (mB (mB (mB (mB (mA (hp))))))))))))))), (OwT.plus hR0_8_610 hS (fun p hp => mC (mB (mB (mB (mB (mB (mB (mC (mB (mB (mB (mB (mB (mA (hp))))))))))))))))⟩) (h1 := ⟨_, _, _, _, _, _, rfl, (OwT.plus hR0_0_622 hS (fun p hp => mC (mA (hp)))), (OwT.plus hR0_1_626 hS (fun p hp => mC (mB (mA (hp))))), (OwT.plus hR0_2_630 hS (fun p hp => mC (mB (mB (mA (hp)))))), (OwT.plus hR0_4_634 hS (fun p hp => mC (mB (mB (mB (mA (hp))))))), (OwT.plus hR0_6_638 hS (fun p hp => mC (mB (mB (mB (mB (mA (hp)))))))), (OwT.plus hR0_8_642 hS (fun p hp => mC (mB (mB (mB (mB (mB (mA (hp)))))))))⟩) (hF := hr647))) (h := ?_)
     clear hS; intro w hS
     refine oy hS y_pickT ?_
     refine oy hS y_assign ?_
     refine n_thenN ?_
     obtain rfl := Option.some.inj hF
     exact wp_ret (wr1 hS)
   replace hF := bf c646 hF
   iterate 3 (refine o_sk rfl rfl ?_)
   refine oy hS y_pickF ?_
   refine oy hS y_assign ?_
   refine n_thenN ?_
   obtain rfl := Option.some.inj hF
   exact wp_ret (wr1 hS)
 replace hF := bf c645 hF
 iterate 3 (refine o_sk rfl rfl ?_)
 refine oy hS y_pickF ?_
 refine oy hS y_move ?_
 iterate 3 (refine o_sk rfl rfl ?_)
 refine oy hS y_pickF ?_
 refine oy hS y_assign ?_
 refine n_thenN ?_
 obtain rfl := Option.some.inj hF
 exact wp_ret (wr1 hS)
theorem w_l5_runs {g : Frag} {a0 : T_Script} {v0_ : Value} {a1 : (List T_Ins)} {v1_ : Value} {r : Bool} (h0 : Rd_Script g a0 v0_) (h1 : SlT g enc_Ins 6 a1 v1_) (hF : l5_runs a0 a1 = some r) : LCs Try.prog 21 #[v0_, v1_] g (.bool r) := w_l5_runs_ h0 h1 hF
end Go.Proofs.Ytadajdcbeegabaa
