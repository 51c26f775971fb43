/- The statements over ops, walked. -/
import Derived.Test.YthpnbgkhoocadaaProg
import Derived.Test.YthpnbgkhoocadaaWLaw1
import Derived.KernelRfl
namespace Go.Proofs.Ythpnbgkhoocadaa
open Go.RowKit Fr
set_option linter.unusedVariables false
set_option linter.unusedSimpArgs false
set_option maxRecDepth 20000

set_option maxHeartbeats 1000000 in
theorem law_WordSums {g : Frag} {zs ns : List Int} {vW vN : Value} (hA : AskIn g zs ns vW vN) : LCs Try.prog 4 #[.agg #[vW, vN]] g (.bool true) := by
  refine lc_body (k := 4) (av := [.agg #[vW, vN]]) Try.func4 rfl rfl fun W hS => ?_
  simp only [List.replicate, List.cons_append, List.nil_append]
  refine c_seq ?_
  refine c_region ?_
  refine o_box hS (h := ?_)
  clear hS; intro b1 w hS
  refine o_assign (h := ?_)
  refine n_thenN (h := ?_)
  refine c_seq ?_
  refine c_region ?_
  refine o_loadW (hb := (hS.own (by repeat (first | exact List.mem_cons_self | apply List.mem_cons_of_mem | apply List.mem_append_right)))) (hu := Try.underlying25) (hd := rfl) (hi := by exact sz_sledgelaw1_Ask) (h := ?_)
  refine o_callS hS Try.func19 rfl rfl (hc := (l1_ops (by omega) (by omega) hA.plus)) (h := ?_)
  clear hS; intro w hS
  refine o_assign (h := ?_)
  refine n_thenN (h := ?_)
  refine wp_ret (r_retS1 hS rfl (hR := ?_))
  rfl

set_option maxHeartbeats 1000000 in
theorem law_WordLogic {g : Frag} {zs ns : List Int} {vW vN : Value} (hA : AskIn g zs ns vW vN) : LCs Try.prog 5 #[.agg #[vW, vN]] g (.bool true) := by
  refine lc_body (k := 4) (av := [.agg #[vW, vN]]) Try.func5 rfl rfl fun W hS => ?_
  simp only [List.replicate, List.cons_append, List.nil_append]
  refine c_seq ?_
  refine c_region ?_
  refine o_box hS (h := ?_)
  clear hS; intro b1 w hS
  refine o_assign (h := ?_)
  refine n_thenN (h := ?_)
  refine c_seq ?_
  refine c_region ?_
  refine o_loadW (hb := (hS.own (by repeat (first | exact List.mem_cons_self | apply List.mem_cons_of_mem | apply List.mem_append_right)))) (hu := Try.underlying25) (hd := rfl) (hi := by exact sz_sledgelaw1_Ask) (h := ?_)
  refine o_callS hS Try.func19 rfl rfl (hc := (l1_ops (by omega) (by omega) hA.plus)) (h := ?_)
  clear hS; intro w hS
  refine o_assign (h := ?_)
  refine n_thenN (h := ?_)
  refine wp_ret (r_retS1 hS rfl (hR := ?_))
  rfl

set_option maxHeartbeats 1000000 in
theorem law_WordShifts {g : Frag} {zs ns : List Int} {vW vN : Value} (hA : AskIn g zs ns vW vN) : LCs Try.prog 6 #[.agg #[vW, vN]] g (.bool true) := by
  refine lc_body (k := 4) (av := [.agg #[vW, vN]]) Try.func6 rfl rfl fun W hS => ?_
  simp only [List.replicate, List.cons_append, List.nil_append]
  refine c_seq ?_
  refine c_region ?_
  refine o_box hS (h := ?_)
  clear hS; intro b1 w hS
  refine o_assign (h := ?_)
  refine n_thenN (h := ?_)
  refine c_seq ?_
  refine c_region ?_
  refine o_loadW (hb := (hS.own (by repeat (first | exact List.mem_cons_self | apply List.mem_cons_of_mem | apply List.mem_append_right)))) (hu := Try.underlying25) (hd := rfl) (hi := by exact sz_sledgelaw1_Ask) (h := ?_)
  refine o_callS hS Try.func19 rfl rfl (hc := (l1_ops (by omega) (by omega) hA.plus)) (h := ?_)
  clear hS; intro w hS
  refine o_assign (h := ?_)
  refine n_thenN (h := ?_)
  refine wp_ret (r_retS1 hS rfl (hR := ?_))
  rfl

set_option maxHeartbeats 1000000 in
theorem law_WordCompares {g : Frag} {zs ns : List Int} {vW vN : Value} (hA : AskIn g zs ns vW vN) : LCs Try.prog 7 #[.agg #[vW, vN]] g (.bool true) := by
  refine lc_body (k := 4) (av := [.agg #[vW, vN]]) Try.func7 rfl rfl fun W hS => ?_
  simp only [List.replicate, List.cons_append, List.nil_append]
  refine c_seq ?_
  refine c_region ?_
  refine o_box hS (h := ?_)
  clear hS; intro b1 w hS
  refine o_assign (h := ?_)
  refine n_thenN (h := ?_)
  refine c_seq ?_
  refine c_region ?_
  refine o_loadW (hb := (hS.own (by repeat (first | exact List.mem_cons_self | apply List.mem_cons_of_mem | apply List.mem_append_right)))) (hu := Try.underlying25) (hd := rfl) (hi := by exact sz_sledgelaw1_Ask) (h := ?_)
  refine o_callS hS Try.func19 rfl rfl (hc := (l1_ops (by omega) (by omega) hA.plus)) (h := ?_)
  clear hS; intro w hS
  refine o_assign (h := ?_)
  refine n_thenN (h := ?_)
  refine wp_ret (r_retS1 hS rfl (hR := ?_))
  rfl

set_option maxHeartbeats 1000000 in
theorem law_WordProducts {g : Frag} {zs ns : List Int} {vW vN : Value} (hA : AskIn g zs ns vW vN) : LCs Try.prog 8 #[.agg #[vW, vN]] g (.bool true) := by
  refine lc_body (k := 4) (av := [.agg #[vW, vN]]) Try.func8 rfl rfl fun W hS => ?_
  simp only [List.replicate, List.cons_append, List.nil_append]
  refine c_seq ?_
  refine c_region ?_
  refine o_box hS (h := ?_)
  clear hS; intro b1 w hS
  refine o_assign (h := ?_)
  refine n_thenN (h := ?_)
  refine c_seq ?_
  refine c_region ?_
  refine o_loadW (hb := (hS.own (by repeat (first | exact List.mem_cons_self | apply List.mem_cons_of_mem | apply List.mem_append_right)))) (hu := Try.underlying25) (hd := rfl) (hi := by exact sz_sledgelaw1_Ask) (h := ?_)
  refine o_callS hS Try.func19 rfl rfl (hc := (l1_ops (by omega) (by omega) hA.plus)) (h := ?_)
  clear hS; intro w hS
  refine o_assign (h := ?_)
  refine n_thenN (h := ?_)
  refine wp_ret (r_retS1 hS rfl (hR := ?_))
  rfl

set_option maxHeartbeats 1000000 in
theorem law_WordQuotients {g : Frag} {zs ns : List Int} {vW vN : Value} (hA : AskIn g zs ns vW vN) : LCs Try.prog 9 #[.agg #[vW, vN]] g (.bool true) := by
  refine lc_body (k := 4) (av := [.agg #[vW, vN]]) Try.func9 rfl rfl fun W hS => ?_
  simp only [List.replicate, List.cons_append, List.nil_append]
  refine c_seq ?_
  refine c_region ?_
  refine o_box hS (h := ?_)
  clear hS; intro b1 w hS
  refine o_assign (h := ?_)
  refine n_thenN (h := ?_)
  refine c_seq ?_
  refine c_region ?_
  refine o_loadW (hb := (hS.own (by repeat (first | exact List.mem_cons_self | apply List.mem_cons_of_mem | apply List.mem_append_right)))) (hu := Try.underlying25) (hd := rfl) (hi := by exact sz_sledgelaw1_Ask) (h := ?_)
  refine o_callS hS Try.func19 rfl rfl (hc := (l1_ops (by omega) (by omega) hA.plus)) (h := ?_)
  clear hS; intro w hS
  refine o_assign (h := ?_)
  refine n_thenN (h := ?_)
  refine wp_ret (r_retS1 hS rfl (hR := ?_))
  rfl


end Go.Proofs.Ythpnbgkhoocadaa
