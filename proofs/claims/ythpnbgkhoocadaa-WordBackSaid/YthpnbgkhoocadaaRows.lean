/-
  No cell of these rows narrows 'for every input' (looked for: loops, veiled, ifaces, maps, wideKeys, modest, calm, conditions, laid).
  DERIVED. THE GIVEN ROWS OF THIS SEAT. 9 by the template 'for every input the law returns true; each argument reads behind the call as it read before'; 0 by the template 'total and deterministic' (their statements: YthpnbgkhoocadaaTotals.lean).
  GIVEN WITH THE SEED: the statements are not yours to turn. If you find one false, say at which input.
  Laid BY PROGRAM, IN A SANDBOX (cutbox-rows.mjs): the forced cells as the released guide's own fill.sh prints them over the translation 501ff8ce66610ac8… (all of the seat's roots in one cut). By AI agents, Wed Nov 11 2026. No macro, syntax, notation, axiom, sorry.
-/
import Derived.Test.YthpnbgkhoocadaaChecked
import GoSem.Claim
import GoSem.ClaimJoined
import GoSem.ClaimMapViews
import Derived.JoinedTies
import Derived.KernelRfl
namespace Go.Proofs.Ythpnbgkhoocadaa
/- THE CELL 'sum', in the pinned program and in every row, IS THE sha256 OF THE DUMP (.gsa) THAT YthpnbgkhoocadaaProg.lean LOADS. Nothing in Lean hashes anything: it is a label: what it is worth is what the hold of that sum in a sandbox is worth. -/
noncomputable def Try.pinned : Pinned := { name := "ythpnbgkhoocadaa", sum := "501ff8ce66610ac8fa879f2e0f0a231ad204c8f41c821437091a61bae93c8a98", checked := Try.checked }
namespace Rows
def none {H : Type} : Left H := { results := [], args := [] }

/-- 'sledgelaw1.WordOps': WHATEVER THE INPUT: true; the input reads as it did. -/
def wordOpsSpec : ChangeSpec := { name := "wordOps", fn := fun _ => fun
  | [d] => { results := [.lit (.bool true)], args := [d] }
  | _ => none }
def wordOpsRow : OpenClaim := { program := "ythpnbgkhoocadaa", sum := "501ff8ce66610ac8fa879f2e0f0a231ad204c8f41c821437091a61bae93c8a98", func := "sledge/sledgelaw1.WordOps", spec := "wordOps", apart := false }
def WordOpsSaid : Prop := wordOpsRow.holds Try.pinned (OpenSpec.ofChange wordOpsSpec)

/-- ITS FALSE NEIGHBOUR: 'it returns false'. Refute it at one input. -/
def wordOpsWrong : ChangeSpec := { name := "wordOps", fn := fun _ => fun
  | [d] => { results := [.lit (.bool false)], args := [d] }
  | _ => none }
def WordOpsWrongFalsely : Prop := wordOpsRow.holds Try.pinned (OpenSpec.ofChange wordOpsWrong)

/-- 'sledgelaw1.WordSums': WHATEVER THE INPUT: true; the input reads as it did. -/
def wordSumsSpec : ChangeSpec := { name := "wordSums", fn := fun _ => fun
  | [d] => { results := [.lit (.bool true)], args := [d] }
  | _ => none }
def wordSumsRow : OpenClaim := { program := "ythpnbgkhoocadaa", sum := "501ff8ce66610ac8fa879f2e0f0a231ad204c8f41c821437091a61bae93c8a98", func := "sledge/sledgelaw1.WordSums", spec := "wordSums", apart := false }
def WordSumsSaid : Prop := wordSumsRow.holds Try.pinned (OpenSpec.ofChange wordSumsSpec)

/-- ITS FALSE NEIGHBOUR: 'it returns false'. Refute it at one input. -/
def wordSumsWrong : ChangeSpec := { name := "wordSums", fn := fun _ => fun
  | [d] => { results := [.lit (.bool false)], args := [d] }
  | _ => none }
def WordSumsWrongFalsely : Prop := wordSumsRow.holds Try.pinned (OpenSpec.ofChange wordSumsWrong)

/-- 'sledgelaw1.WordLogic': WHATEVER THE INPUT: true; the input reads as it did. -/
def wordLogicSpec : ChangeSpec := { name := "wordLogic", fn := fun _ => fun
  | [d] => { results := [.lit (.bool true)], args := [d] }
  | _ => none }
def wordLogicRow : OpenClaim := { program := "ythpnbgkhoocadaa", sum := "501ff8ce66610ac8fa879f2e0f0a231ad204c8f41c821437091a61bae93c8a98", func := "sledge/sledgelaw1.WordLogic", spec := "wordLogic", apart := false }
def WordLogicSaid : Prop := wordLogicRow.holds Try.pinned (OpenSpec.ofChange wordLogicSpec)

/-- ITS FALSE NEIGHBOUR: 'it returns false'. Refute it at one input. -/
def wordLogicWrong : ChangeSpec := { name := "wordLogic", fn := fun _ => fun
  | [d] => { results := [.lit (.bool false)], args := [d] }
  | _ => none }
def WordLogicWrongFalsely : Prop := wordLogicRow.holds Try.pinned (OpenSpec.ofChange wordLogicWrong)

/-- 'sledgelaw1.WordShifts': WHATEVER THE INPUT: true; the input reads as it did. -/
def wordShiftsSpec : ChangeSpec := { name := "wordShifts", fn := fun _ => fun
  | [d] => { results := [.lit (.bool true)], args := [d] }
  | _ => none }
def wordShiftsRow : OpenClaim := { program := "ythpnbgkhoocadaa", sum := "501ff8ce66610ac8fa879f2e0f0a231ad204c8f41c821437091a61bae93c8a98", func := "sledge/sledgelaw1.WordShifts", spec := "wordShifts", apart := false }
def WordShiftsSaid : Prop := wordShiftsRow.holds Try.pinned (OpenSpec.ofChange wordShiftsSpec)

/-- ITS FALSE NEIGHBOUR: 'it returns false'. Refute it at one input. -/
def wordShiftsWrong : ChangeSpec := { name := "wordShifts", fn := fun _ => fun
  | [d] => { results := [.lit (.bool false)], args := [d] }
  | _ => none }
def WordShiftsWrongFalsely : Prop := wordShiftsRow.holds Try.pinned (OpenSpec.ofChange wordShiftsWrong)

/-- 'sledgelaw1.WordCompares': WHATEVER THE INPUT: true; the input reads as it did. -/
def wordComparesSpec : ChangeSpec := { name := "wordCompares", fn := fun _ => fun
  | [d] => { results := [.lit (.bool true)], args := [d] }
  | _ => none }
def wordComparesRow : OpenClaim := { program := "ythpnbgkhoocadaa", sum := "501ff8ce66610ac8fa879f2e0f0a231ad204c8f41c821437091a61bae93c8a98", func := "sledge/sledgelaw1.WordCompares", spec := "wordCompares", apart := false }
def WordComparesSaid : Prop := wordComparesRow.holds Try.pinned (OpenSpec.ofChange wordComparesSpec)

/-- ITS FALSE NEIGHBOUR: 'it returns false'. Refute it at one input. -/
def wordComparesWrong : ChangeSpec := { name := "wordCompares", fn := fun _ => fun
  | [d] => { results := [.lit (.bool false)], args := [d] }
  | _ => none }
def WordComparesWrongFalsely : Prop := wordComparesRow.holds Try.pinned (OpenSpec.ofChange wordComparesWrong)

/-- 'sledgelaw1.WordProducts': WHATEVER THE INPUT: true; the input reads as it did. -/
def wordProductsSpec : ChangeSpec := { name := "wordProducts", fn := fun _ => fun
  | [d] => { results := [.lit (.bool true)], args := [d] }
  | _ => none }
def wordProductsRow : OpenClaim := { program := "ythpnbgkhoocadaa", sum := "501ff8ce66610ac8fa879f2e0f0a231ad204c8f41c821437091a61bae93c8a98", func := "sledge/sledgelaw1.WordProducts", spec := "wordProducts", apart := false }
def WordProductsSaid : Prop := wordProductsRow.holds Try.pinned (OpenSpec.ofChange wordProductsSpec)

/-- ITS FALSE NEIGHBOUR: 'it returns false'. Refute it at one input. -/
def wordProductsWrong : ChangeSpec := { name := "wordProducts", fn := fun _ => fun
  | [d] => { results := [.lit (.bool false)], args := [d] }
  | _ => none }
def WordProductsWrongFalsely : Prop := wordProductsRow.holds Try.pinned (OpenSpec.ofChange wordProductsWrong)

/-- 'sledgelaw1.WordQuotients': WHATEVER THE INPUT: true; the input reads as it did. -/
def wordQuotientsSpec : ChangeSpec := { name := "wordQuotients", fn := fun _ => fun
  | [d] => { results := [.lit (.bool true)], args := [d] }
  | _ => none }
def wordQuotientsRow : OpenClaim := { program := "ythpnbgkhoocadaa", sum := "501ff8ce66610ac8fa879f2e0f0a231ad204c8f41c821437091a61bae93c8a98", func := "sledge/sledgelaw1.WordQuotients", spec := "wordQuotients", apart := false }
def WordQuotientsSaid : Prop := wordQuotientsRow.holds Try.pinned (OpenSpec.ofChange wordQuotientsSpec)

/-- ITS FALSE NEIGHBOUR: 'it returns false'. Refute it at one input. -/
def wordQuotientsWrong : ChangeSpec := { name := "wordQuotients", fn := fun _ => fun
  | [d] => { results := [.lit (.bool false)], args := [d] }
  | _ => none }
def WordQuotientsWrongFalsely : Prop := wordQuotientsRow.holds Try.pinned (OpenSpec.ofChange wordQuotientsWrong)

/-- 'sledgelaw1.WordBits': WHATEVER THE INPUT: true; the input reads as it did. -/
def wordBitsSpec : ChangeSpec := { name := "wordBits", fn := fun _ => fun
  | [d] => { results := [.lit (.bool true)], args := [d] }
  | _ => none }
def wordBitsRow : OpenClaim := { program := "ythpnbgkhoocadaa", sum := "501ff8ce66610ac8fa879f2e0f0a231ad204c8f41c821437091a61bae93c8a98", func := "sledge/sledgelaw1.WordBits", spec := "wordBits", apart := false }
def WordBitsSaid : Prop := wordBitsRow.holds Try.pinned (OpenSpec.ofChange wordBitsSpec)

/-- ITS FALSE NEIGHBOUR: 'it returns false'. Refute it at one input. -/
def wordBitsWrong : ChangeSpec := { name := "wordBits", fn := fun _ => fun
  | [d] => { results := [.lit (.bool false)], args := [d] }
  | _ => none }
def WordBitsWrongFalsely : Prop := wordBitsRow.holds Try.pinned (OpenSpec.ofChange wordBitsWrong)

/-- 'sledgelaw1.WordBack': WHATEVER THE INPUT: true; the input reads as it did. -/
def wordBackSpec : ChangeSpec := { name := "wordBack", fn := fun _ => fun
  | [d] => { results := [.lit (.bool true)], args := [d] }
  | _ => none }
def wordBackRow : OpenClaim := { program := "ythpnbgkhoocadaa", sum := "501ff8ce66610ac8fa879f2e0f0a231ad204c8f41c821437091a61bae93c8a98", func := "sledge/sledgelaw1.WordBack", spec := "wordBack", apart := false }
def WordBackSaid : Prop := wordBackRow.holds Try.pinned (OpenSpec.ofChange wordBackSpec)

/-- ITS FALSE NEIGHBOUR: 'it returns false'. Refute it at one input. -/
def wordBackWrong : ChangeSpec := { name := "wordBack", fn := fun _ => fun
  | [d] => { results := [.lit (.bool false)], args := [d] }
  | _ => none }
def WordBackWrongFalsely : Prop := wordBackRow.holds Try.pinned (OpenSpec.ofChange wordBackWrong)

/- THE SECOND FORM. 'bulk': how many values and letters a reading holds, each counted each time it is reached (what is shared counts as often as it is met; a slice's spare places count too). A statement '..UptoSaid' is the law's where the arguments, and the package variables that the reading takes, are together of bulk at most 1048576: NARROWER than '..Said'. Prove '..Said' where nothing that the law and all that it calls make is longer than what came in: it says more and counts as full. Else prove '..UptoSaid'. A law counts once. -/
mutual
def uptoBulk {H : Type} : DataW H → Nat
  | .lit (.string bytes) => bytes.length + 1
  | .lit _ => 1
  | .nil => 1
  | .ptr d => uptoBulk d + 1
  | .slice elems spare => uptoBulkAll elems + uptoBulkAll spare + 1
  | .agg parts => uptoBulkAll parts + 1
  | .iface _ d => uptoBulk d + 1
  | .map entries => uptoBulkEntries entries + 1
  | .held _ => 1
def uptoBulkAll {H : Type} : List (DataW H) → Nat
  | [] => 0
  | d :: r => uptoBulk d + uptoBulkAll r
def uptoBulkEntries {H : Type} : List (Lit × DataW H) → Nat
  | [] => 0
  | x :: r => uptoBulkEntry x + uptoBulkEntries r
def uptoBulkEntry {H : Type} : Lit × DataW H → Nat
  | (.string bytes, d) => bytes.length + uptoBulk d + 1
  | (_, d) => uptoBulk d + 1
 end
def uptoSmall : (H : Type) → List (DataW H) → Bool := fun _ ds => decide (uptoBulkAll ds ≤ 1048576)
def OpenSpec.upto (s : _root_.Go.ChangeSpec) : _root_.Go.OpenSpec := { _root_.Go.OpenSpec.ofChange s with cond := some uptoSmall }

/-- 'sledgelaw1.WordOps', WHERE WHAT IT READS IS OF BULK AT MOST 1048576: true; the input reads as it did. -/
def wordOpsUptoRow : OpenClaim := { program := "ythpnbgkhoocadaa", sum := "501ff8ce66610ac8fa879f2e0f0a231ad204c8f41c821437091a61bae93c8a98", func := "sledge/sledgelaw1.WordOps", spec := "wordOps", apart := false, narrowed := true }
def WordOpsUptoSaid : Prop := wordOpsUptoRow.holds Try.pinned (OpenSpec.upto wordOpsSpec)

/-- 'sledgelaw1.WordSums', WHERE WHAT IT READS IS OF BULK AT MOST 1048576: true; the input reads as it did. -/
def wordSumsUptoRow : OpenClaim := { program := "ythpnbgkhoocadaa", sum := "501ff8ce66610ac8fa879f2e0f0a231ad204c8f41c821437091a61bae93c8a98", func := "sledge/sledgelaw1.WordSums", spec := "wordSums", apart := false, narrowed := true }
def WordSumsUptoSaid : Prop := wordSumsUptoRow.holds Try.pinned (OpenSpec.upto wordSumsSpec)

/-- 'sledgelaw1.WordLogic', WHERE WHAT IT READS IS OF BULK AT MOST 1048576: true; the input reads as it did. -/
def wordLogicUptoRow : OpenClaim := { program := "ythpnbgkhoocadaa", sum := "501ff8ce66610ac8fa879f2e0f0a231ad204c8f41c821437091a61bae93c8a98", func := "sledge/sledgelaw1.WordLogic", spec := "wordLogic", apart := false, narrowed := true }
def WordLogicUptoSaid : Prop := wordLogicUptoRow.holds Try.pinned (OpenSpec.upto wordLogicSpec)

/-- 'sledgelaw1.WordShifts', WHERE WHAT IT READS IS OF BULK AT MOST 1048576: true; the input reads as it did. -/
def wordShiftsUptoRow : OpenClaim := { program := "ythpnbgkhoocadaa", sum := "501ff8ce66610ac8fa879f2e0f0a231ad204c8f41c821437091a61bae93c8a98", func := "sledge/sledgelaw1.WordShifts", spec := "wordShifts", apart := false, narrowed := true }
def WordShiftsUptoSaid : Prop := wordShiftsUptoRow.holds Try.pinned (OpenSpec.upto wordShiftsSpec)

/-- 'sledgelaw1.WordCompares', WHERE WHAT IT READS IS OF BULK AT MOST 1048576: true; the input reads as it did. -/
def wordComparesUptoRow : OpenClaim := { program := "ythpnbgkhoocadaa", sum := "501ff8ce66610ac8fa879f2e0f0a231ad204c8f41c821437091a61bae93c8a98", func := "sledge/sledgelaw1.WordCompares", spec := "wordCompares", apart := false, narrowed := true }
def WordComparesUptoSaid : Prop := wordComparesUptoRow.holds Try.pinned (OpenSpec.upto wordComparesSpec)

/-- 'sledgelaw1.WordProducts', WHERE WHAT IT READS IS OF BULK AT MOST 1048576: true; the input reads as it did. -/
def wordProductsUptoRow : OpenClaim := { program := "ythpnbgkhoocadaa", sum := "501ff8ce66610ac8fa879f2e0f0a231ad204c8f41c821437091a61bae93c8a98", func := "sledge/sledgelaw1.WordProducts", spec := "wordProducts", apart := false, narrowed := true }
def WordProductsUptoSaid : Prop := wordProductsUptoRow.holds Try.pinned (OpenSpec.upto wordProductsSpec)

/-- 'sledgelaw1.WordQuotients', WHERE WHAT IT READS IS OF BULK AT MOST 1048576: true; the input reads as it did. -/
def wordQuotientsUptoRow : OpenClaim := { program := "ythpnbgkhoocadaa", sum := "501ff8ce66610ac8fa879f2e0f0a231ad204c8f41c821437091a61bae93c8a98", func := "sledge/sledgelaw1.WordQuotients", spec := "wordQuotients", apart := false, narrowed := true }
def WordQuotientsUptoSaid : Prop := wordQuotientsUptoRow.holds Try.pinned (OpenSpec.upto wordQuotientsSpec)

/-- 'sledgelaw1.WordBits', WHERE WHAT IT READS IS OF BULK AT MOST 1048576: true; the input reads as it did. -/
def wordBitsUptoRow : OpenClaim := { program := "ythpnbgkhoocadaa", sum := "501ff8ce66610ac8fa879f2e0f0a231ad204c8f41c821437091a61bae93c8a98", func := "sledge/sledgelaw1.WordBits", spec := "wordBits", apart := false, narrowed := true }
def WordBitsUptoSaid : Prop := wordBitsUptoRow.holds Try.pinned (OpenSpec.upto wordBitsSpec)

/-- 'sledgelaw1.WordBack', WHERE WHAT IT READS IS OF BULK AT MOST 1048576: true; the input reads as it did. -/
def wordBackUptoRow : OpenClaim := { program := "ythpnbgkhoocadaa", sum := "501ff8ce66610ac8fa879f2e0f0a231ad204c8f41c821437091a61bae93c8a98", func := "sledge/sledgelaw1.WordBack", spec := "wordBack", apart := false, narrowed := true }
def WordBackUptoSaid : Prop := wordBackUptoRow.holds Try.pinned (OpenSpec.upto wordBackSpec)

end Rows
end Go.Proofs.Ythpnbgkhoocadaa
