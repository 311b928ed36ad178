/-
  No cell of these rows narrows 'for every input' (looked for: loops, veiled, ifaces, maps, wideKeys, modest, calm, conditions, laid).
  DERIVED. THE GIVEN ROWS OF THIS SEAT. 12 by the template 'for every input the law returns true; each argument reads behind the call as it read before'; 0 by the template 'total and deterministic' (their statements: YtmfbijfghonnjaaTotals.lean).
  GIVEN WITH THE SEED: the statements are not yours to turn. If you find one false, say at which input.
  Laid BY PROGRAM, IN A SANDBOX (cutbox-rows.mjs): the forced cells as the released guide's own fill.sh prints them over the translation bd37cef2bff81bf4… (all of the seat's roots in one cut). By AI agents, Wed Nov 11 2026. No macro, syntax, notation, axiom, sorry.
-/
import Derived.Test.YtmfbijfghonnjaaChecked
import GoSem.Claim
import GoSem.ClaimJoined
import GoSem.ClaimMapViews
import Derived.JoinedTies
import Derived.KernelRfl
namespace Go.Proofs.Ytmfbijfghonnjaa
/- THE CELL 'sum', in the pinned program and in every row, IS THE sha256 OF THE DUMP (.gsa) THAT YtmfbijfghonnjaaProg.lean LOADS. Nothing in Lean hashes anything: it is a label: what it is worth is what the hold of that sum in a sandbox is worth. -/
noncomputable def Try.pinned : Pinned := { name := "ytmfbijfghonnjaa", sum := "bd37cef2bff81bf43e902ca9fb713755b9e75df372f1fc96c5e07e88f5fe2089", checked := Try.checked }
namespace Rows
def none {H : Type} : Left H := { results := [], args := [] }

/-- 'citadellaw01.WordAlus': WHATEVER THE INPUT: true; the input reads as it did. -/
def wordAlusSpec : ChangeSpec := { name := "wordAlus", fn := fun _ => fun
  | [d1, d2, d3] => { results := [.lit (.bool true)], args := [d1, d2, d3] }
  | _ => none }
def wordAlusRow : OpenClaim := { program := "ytmfbijfghonnjaa", sum := "bd37cef2bff81bf43e902ca9fb713755b9e75df372f1fc96c5e07e88f5fe2089", func := "citadel/citadellaw01.WordAlus", spec := "wordAlus", unfollowed := true, recurses := true, apart := false }
def WordAlusSaid : Prop := wordAlusRow.holds Try.pinned (OpenSpec.ofChange wordAlusSpec)

/-- ITS FALSE NEIGHBOUR: 'it returns false'. Refute it at one input. -/
def wordAlusWrong : ChangeSpec := { name := "wordAlus", fn := fun _ => fun
  | [d1, d2, d3] => { results := [.lit (.bool false)], args := [d1, d2, d3] }
  | _ => none }
def WordAlusWrongFalsely : Prop := wordAlusRow.holds Try.pinned (OpenSpec.ofChange wordAlusWrong)

/-- 'citadellaw01.WordAll': WHATEVER THE INPUT: true; the input reads as it did. -/
def wordAllSpec : ChangeSpec := { name := "wordAll", fn := fun _ => fun
  | [d1, d2] => { results := [.lit (.bool true)], args := [d1, d2] }
  | _ => none }
def wordAllRow : OpenClaim := { program := "ytmfbijfghonnjaa", sum := "bd37cef2bff81bf43e902ca9fb713755b9e75df372f1fc96c5e07e88f5fe2089", func := "citadel/citadellaw01.WordAll", spec := "wordAll", unfollowed := true, recurses := true, apart := false }
def WordAllSaid : Prop := wordAllRow.holds Try.pinned (OpenSpec.ofChange wordAllSpec)

/-- ITS FALSE NEIGHBOUR: 'it returns false'. Refute it at one input. -/
def wordAllWrong : ChangeSpec := { name := "wordAll", fn := fun _ => fun
  | [d1, d2] => { results := [.lit (.bool false)], args := [d1, d2] }
  | _ => none }
def WordAllWrongFalsely : Prop := wordAllRow.holds Try.pinned (OpenSpec.ofChange wordAllWrong)

/-- 'citadellaw01.WordAmos': WHATEVER THE INPUT: true; the input reads as it did. -/
def wordAmosSpec : ChangeSpec := { name := "wordAmos", fn := fun _ => fun
  | [d1, d2, d3] => { results := [.lit (.bool true)], args := [d1, d2, d3] }
  | _ => none }
def wordAmosRow : OpenClaim := { program := "ytmfbijfghonnjaa", sum := "bd37cef2bff81bf43e902ca9fb713755b9e75df372f1fc96c5e07e88f5fe2089", func := "citadel/citadellaw01.WordAmos", spec := "wordAmos", unfollowed := true, recurses := true, apart := false }
def WordAmosSaid : Prop := wordAmosRow.holds Try.pinned (OpenSpec.ofChange wordAmosSpec)

/-- ITS FALSE NEIGHBOUR: 'it returns false'. Refute it at one input. -/
def wordAmosWrong : ChangeSpec := { name := "wordAmos", fn := fun _ => fun
  | [d1, d2, d3] => { results := [.lit (.bool false)], args := [d1, d2, d3] }
  | _ => none }
def WordAmosWrongFalsely : Prop := wordAmosRow.holds Try.pinned (OpenSpec.ofChange wordAmosWrong)

/-- 'citadellaw01.WordDivides': WHATEVER THE INPUT: true; the input reads as it did. -/
def wordDividesSpec : ChangeSpec := { name := "wordDivides", fn := fun _ => fun
  | [d1, d2] => { results := [.lit (.bool true)], args := [d1, d2] }
  | _ => none }
def wordDividesRow : OpenClaim := { program := "ytmfbijfghonnjaa", sum := "bd37cef2bff81bf43e902ca9fb713755b9e75df372f1fc96c5e07e88f5fe2089", func := "citadel/citadellaw01.WordDivides", spec := "wordDivides", unfollowed := true, recurses := true, apart := false }
def WordDividesSaid : Prop := wordDividesRow.holds Try.pinned (OpenSpec.ofChange wordDividesSpec)

/-- ITS FALSE NEIGHBOUR: 'it returns false'. Refute it at one input. -/
def wordDividesWrong : ChangeSpec := { name := "wordDivides", fn := fun _ => fun
  | [d1, d2] => { results := [.lit (.bool false)], args := [d1, d2] }
  | _ => none }
def WordDividesWrongFalsely : Prop := wordDividesRow.holds Try.pinned (OpenSpec.ofChange wordDividesWrong)

/-- 'citadellaw01.WordProducts': WHATEVER THE INPUT: true; the input reads as it did. -/
def wordProductsSpec : ChangeSpec := { name := "wordProducts", fn := fun _ => fun
  | [d1, d2, d3] => { results := [.lit (.bool true)], args := [d1, d2, d3] }
  | _ => none }
def wordProductsRow : OpenClaim := { program := "ytmfbijfghonnjaa", sum := "bd37cef2bff81bf43e902ca9fb713755b9e75df372f1fc96c5e07e88f5fe2089", func := "citadel/citadellaw01.WordProducts", spec := "wordProducts", unfollowed := true, recurses := true, apart := false }
def WordProductsSaid : Prop := wordProductsRow.holds Try.pinned (OpenSpec.ofChange wordProductsSpec)

/-- ITS FALSE NEIGHBOUR: 'it returns false'. Refute it at one input. -/
def wordProductsWrong : ChangeSpec := { name := "wordProducts", fn := fun _ => fun
  | [d1, d2, d3] => { results := [.lit (.bool false)], args := [d1, d2, d3] }
  | _ => none }
def WordProductsWrongFalsely : Prop := wordProductsRow.holds Try.pinned (OpenSpec.ofChange wordProductsWrong)

/-- 'citadellaw01.WordShifts': WHATEVER THE INPUT: true; the input reads as it did. -/
def wordShiftsSpec : ChangeSpec := { name := "wordShifts", fn := fun _ => fun
  | [d1, d2] => { results := [.lit (.bool true)], args := [d1, d2] }
  | _ => none }
def wordShiftsRow : OpenClaim := { program := "ytmfbijfghonnjaa", sum := "bd37cef2bff81bf43e902ca9fb713755b9e75df372f1fc96c5e07e88f5fe2089", func := "citadel/citadellaw01.WordShifts", spec := "wordShifts", unfollowed := true, recurses := true, apart := false }
def WordShiftsSaid : Prop := wordShiftsRow.holds Try.pinned (OpenSpec.ofChange wordShiftsSpec)

/-- ITS FALSE NEIGHBOUR: 'it returns false'. Refute it at one input. -/
def wordShiftsWrong : ChangeSpec := { name := "wordShifts", fn := fun _ => fun
  | [d1, d2] => { results := [.lit (.bool false)], args := [d1, d2] }
  | _ => none }
def WordShiftsWrongFalsely : Prop := wordShiftsRow.holds Try.pinned (OpenSpec.ofChange wordShiftsWrong)

/-- 'citadellaw01.WordExtends': WHATEVER THE INPUT: true; the input reads as it did. -/
def wordExtendsSpec : ChangeSpec := { name := "wordExtends", fn := fun _ => fun
  | [d1, d2] => { results := [.lit (.bool true)], args := [d1, d2] }
  | _ => none }
def wordExtendsRow : OpenClaim := { program := "ytmfbijfghonnjaa", sum := "bd37cef2bff81bf43e902ca9fb713755b9e75df372f1fc96c5e07e88f5fe2089", func := "citadel/citadellaw01.WordExtends", spec := "wordExtends", unfollowed := true, recurses := true, apart := false }
def WordExtendsSaid : Prop := wordExtendsRow.holds Try.pinned (OpenSpec.ofChange wordExtendsSpec)

/-- ITS FALSE NEIGHBOUR: 'it returns false'. Refute it at one input. -/
def wordExtendsWrong : ChangeSpec := { name := "wordExtends", fn := fun _ => fun
  | [d1, d2] => { results := [.lit (.bool false)], args := [d1, d2] }
  | _ => none }
def WordExtendsWrongFalsely : Prop := wordExtendsRow.holds Try.pinned (OpenSpec.ofChange wordExtendsWrong)

/-- 'citadellaw01.WordHalves': WHATEVER THE INPUT: true; the input reads as it did. -/
def wordHalvesSpec : ChangeSpec := { name := "wordHalves", fn := fun _ => fun
  | [d1, d2, d3, d4] => { results := [.lit (.bool true)], args := [d1, d2, d3, d4] }
  | _ => none }
def wordHalvesRow : OpenClaim := { program := "ytmfbijfghonnjaa", sum := "bd37cef2bff81bf43e902ca9fb713755b9e75df372f1fc96c5e07e88f5fe2089", func := "citadel/citadellaw01.WordHalves", spec := "wordHalves", unfollowed := true, recurses := true, apart := false }
def WordHalvesSaid : Prop := wordHalvesRow.holds Try.pinned (OpenSpec.ofChange wordHalvesSpec)

/-- ITS FALSE NEIGHBOUR: 'it returns false'. Refute it at one input. -/
def wordHalvesWrong : ChangeSpec := { name := "wordHalves", fn := fun _ => fun
  | [d1, d2, d3, d4] => { results := [.lit (.bool false)], args := [d1, d2, d3, d4] }
  | _ => none }
def WordHalvesWrongFalsely : Prop := wordHalvesRow.holds Try.pinned (OpenSpec.ofChange wordHalvesWrong)

/-- 'citadellaw01.WordWidens': WHATEVER THE INPUT: true; the input reads as it did. -/
def wordWidensSpec : ChangeSpec := { name := "wordWidens", fn := fun _ => fun
  | [d1, d2] => { results := [.lit (.bool true)], args := [d1, d2] }
  | _ => none }
def wordWidensRow : OpenClaim := { program := "ytmfbijfghonnjaa", sum := "bd37cef2bff81bf43e902ca9fb713755b9e75df372f1fc96c5e07e88f5fe2089", func := "citadel/citadellaw01.WordWidens", spec := "wordWidens", unfollowed := true, recurses := true, apart := false }
def WordWidensSaid : Prop := wordWidensRow.holds Try.pinned (OpenSpec.ofChange wordWidensSpec)

/-- ITS FALSE NEIGHBOUR: 'it returns false'. Refute it at one input. -/
def wordWidensWrong : ChangeSpec := { name := "wordWidens", fn := fun _ => fun
  | [d1, d2] => { results := [.lit (.bool false)], args := [d1, d2] }
  | _ => none }
def WordWidensWrongFalsely : Prop := wordWidensRow.holds Try.pinned (OpenSpec.ofChange wordWidensWrong)

/-- 'citadellaw01.WordBranches': WHATEVER THE INPUT: true; the input reads as it did. -/
def wordBranchesSpec : ChangeSpec := { name := "wordBranches", fn := fun _ => fun
  | [d1, d2] => { results := [.lit (.bool true)], args := [d1, d2] }
  | _ => none }
def wordBranchesRow : OpenClaim := { program := "ytmfbijfghonnjaa", sum := "bd37cef2bff81bf43e902ca9fb713755b9e75df372f1fc96c5e07e88f5fe2089", func := "citadel/citadellaw01.WordBranches", spec := "wordBranches", unfollowed := true, recurses := true, apart := false }
def WordBranchesSaid : Prop := wordBranchesRow.holds Try.pinned (OpenSpec.ofChange wordBranchesSpec)

/-- ITS FALSE NEIGHBOUR: 'it returns false'. Refute it at one input. -/
def wordBranchesWrong : ChangeSpec := { name := "wordBranches", fn := fun _ => fun
  | [d1, d2] => { results := [.lit (.bool false)], args := [d1, d2] }
  | _ => none }
def WordBranchesWrongFalsely : Prop := wordBranchesRow.holds Try.pinned (OpenSpec.ofChange wordBranchesWrong)

/-- 'citadellaw01.WordOrders': WHATEVER THE INPUT: true; the input reads as it did. -/
def wordOrdersSpec : ChangeSpec := { name := "wordOrders", fn := fun _ => fun
  | [d1, d2, d3] => { results := [.lit (.bool true)], args := [d1, d2, d3] }
  | _ => none }
def wordOrdersRow : OpenClaim := { program := "ytmfbijfghonnjaa", sum := "bd37cef2bff81bf43e902ca9fb713755b9e75df372f1fc96c5e07e88f5fe2089", func := "citadel/citadellaw01.WordOrders", spec := "wordOrders", unfollowed := true, recurses := true, apart := false }
def WordOrdersSaid : Prop := wordOrdersRow.holds Try.pinned (OpenSpec.ofChange wordOrdersSpec)

/-- ITS FALSE NEIGHBOUR: 'it returns false'. Refute it at one input. -/
def wordOrdersWrong : ChangeSpec := { name := "wordOrders", fn := fun _ => fun
  | [d1, d2, d3] => { results := [.lit (.bool false)], args := [d1, d2, d3] }
  | _ => none }
def WordOrdersWrongFalsely : Prop := wordOrdersRow.holds Try.pinned (OpenSpec.ofChange wordOrdersWrong)

/-- 'citadellaw01.WordAtomics': WHATEVER THE INPUT: true; the input reads as it did. -/
def wordAtomicsSpec : ChangeSpec := { name := "wordAtomics", fn := fun _ => fun
  | [d1, d2] => { results := [.lit (.bool true)], args := [d1, d2] }
  | _ => none }
def wordAtomicsRow : OpenClaim := { program := "ytmfbijfghonnjaa", sum := "bd37cef2bff81bf43e902ca9fb713755b9e75df372f1fc96c5e07e88f5fe2089", func := "citadel/citadellaw01.WordAtomics", spec := "wordAtomics", unfollowed := true, recurses := true, apart := false }
def WordAtomicsSaid : Prop := wordAtomicsRow.holds Try.pinned (OpenSpec.ofChange wordAtomicsSpec)

/-- ITS FALSE NEIGHBOUR: 'it returns false'. Refute it at one input. -/
def wordAtomicsWrong : ChangeSpec := { name := "wordAtomics", fn := fun _ => fun
  | [d1, d2] => { results := [.lit (.bool false)], args := [d1, d2] }
  | _ => none }
def WordAtomicsWrongFalsely : Prop := wordAtomicsRow.holds Try.pinned (OpenSpec.ofChange wordAtomicsWrong)

/- THE SECOND FORM. 'bulk': how many values and letters a reading holds, each counted each time it is reached (what is shared counts as often as it is met; a slice's spare places count too). A statement '..UptoSaid' is the law's where the arguments, and the package variables that the reading takes, are together of bulk at most 1048576: NARROWER than '..Said'. Prove '..Said' where nothing that the law and all that it calls make is longer than what came in: it says more and counts as full. Else prove '..UptoSaid'. A law counts once. -/
mutual
def uptoBulk {H : Type} : DataW H → Nat
  | .lit (.string bytes) => bytes.length + 1
  | .lit _ => 1
  | .nil => 1
  | .ptr d => uptoBulk d + 1
  | .slice elems spare => uptoBulkAll elems + uptoBulkAll spare + 1
  | .agg parts => uptoBulkAll parts + 1
  | .iface _ d => uptoBulk d + 1
  | .map entries => uptoBulkEntries entries + 1
  | .held _ => 1
def uptoBulkAll {H : Type} : List (DataW H) → Nat
  | [] => 0
  | d :: r => uptoBulk d + uptoBulkAll r
def uptoBulkEntries {H : Type} : List (Lit × DataW H) → Nat
  | [] => 0
  | x :: r => uptoBulkEntry x + uptoBulkEntries r
def uptoBulkEntry {H : Type} : Lit × DataW H → Nat
  | (.string bytes, d) => bytes.length + uptoBulk d + 1
  | (_, d) => uptoBulk d + 1
 end
def uptoSmall : (H : Type) → List (DataW H) → Bool := fun _ ds => decide (uptoBulkAll ds ≤ 1048576)
def OpenSpec.upto (s : _root_.Go.ChangeSpec) : _root_.Go.OpenSpec := { _root_.Go.OpenSpec.ofChange s with cond := some uptoSmall }

/-- 'citadellaw01.WordAlus', WHERE WHAT IT READS IS OF BULK AT MOST 1048576: true; the input reads as it did. -/
def wordAlusUptoRow : OpenClaim := { program := "ytmfbijfghonnjaa", sum := "bd37cef2bff81bf43e902ca9fb713755b9e75df372f1fc96c5e07e88f5fe2089", func := "citadel/citadellaw01.WordAlus", spec := "wordAlus", unfollowed := true, recurses := true, apart := false, narrowed := true }
def WordAlusUptoSaid : Prop := wordAlusUptoRow.holds Try.pinned (OpenSpec.upto wordAlusSpec)

/-- 'citadellaw01.WordAll', WHERE WHAT IT READS IS OF BULK AT MOST 1048576: true; the input reads as it did. -/
def wordAllUptoRow : OpenClaim := { program := "ytmfbijfghonnjaa", sum := "bd37cef2bff81bf43e902ca9fb713755b9e75df372f1fc96c5e07e88f5fe2089", func := "citadel/citadellaw01.WordAll", spec := "wordAll", unfollowed := true, recurses := true, apart := false, narrowed := true }
def WordAllUptoSaid : Prop := wordAllUptoRow.holds Try.pinned (OpenSpec.upto wordAllSpec)

/-- 'citadellaw01.WordAmos', WHERE WHAT IT READS IS OF BULK AT MOST 1048576: true; the input reads as it did. -/
def wordAmosUptoRow : OpenClaim := { program := "ytmfbijfghonnjaa", sum := "bd37cef2bff81bf43e902ca9fb713755b9e75df372f1fc96c5e07e88f5fe2089", func := "citadel/citadellaw01.WordAmos", spec := "wordAmos", unfollowed := true, recurses := true, apart := false, narrowed := true }
def WordAmosUptoSaid : Prop := wordAmosUptoRow.holds Try.pinned (OpenSpec.upto wordAmosSpec)

/-- 'citadellaw01.WordDivides', WHERE WHAT IT READS IS OF BULK AT MOST 1048576: true; the input reads as it did. -/
def wordDividesUptoRow : OpenClaim := { program := "ytmfbijfghonnjaa", sum := "bd37cef2bff81bf43e902ca9fb713755b9e75df372f1fc96c5e07e88f5fe2089", func := "citadel/citadellaw01.WordDivides", spec := "wordDivides", unfollowed := true, recurses := true, apart := false, narrowed := true }
def WordDividesUptoSaid : Prop := wordDividesUptoRow.holds Try.pinned (OpenSpec.upto wordDividesSpec)

/-- 'citadellaw01.WordProducts', WHERE WHAT IT READS IS OF BULK AT MOST 1048576: true; the input reads as it did. -/
def wordProductsUptoRow : OpenClaim := { program := "ytmfbijfghonnjaa", sum := "bd37cef2bff81bf43e902ca9fb713755b9e75df372f1fc96c5e07e88f5fe2089", func := "citadel/citadellaw01.WordProducts", spec := "wordProducts", unfollowed := true, recurses := true, apart := false, narrowed := true }
def WordProductsUptoSaid : Prop := wordProductsUptoRow.holds Try.pinned (OpenSpec.upto wordProductsSpec)

/-- 'citadellaw01.WordShifts', WHERE WHAT IT READS IS OF BULK AT MOST 1048576: true; the input reads as it did. -/
def wordShiftsUptoRow : OpenClaim := { program := "ytmfbijfghonnjaa", sum := "bd37cef2bff81bf43e902ca9fb713755b9e75df372f1fc96c5e07e88f5fe2089", func := "citadel/citadellaw01.WordShifts", spec := "wordShifts", unfollowed := true, recurses := true, apart := false, narrowed := true }
def WordShiftsUptoSaid : Prop := wordShiftsUptoRow.holds Try.pinned (OpenSpec.upto wordShiftsSpec)

/-- 'citadellaw01.WordExtends', WHERE WHAT IT READS IS OF BULK AT MOST 1048576: true; the input reads as it did. -/
def wordExtendsUptoRow : OpenClaim := { program := "ytmfbijfghonnjaa", sum := "bd37cef2bff81bf43e902ca9fb713755b9e75df372f1fc96c5e07e88f5fe2089", func := "citadel/citadellaw01.WordExtends", spec := "wordExtends", unfollowed := true, recurses := true, apart := false, narrowed := true }
def WordExtendsUptoSaid : Prop := wordExtendsUptoRow.holds Try.pinned (OpenSpec.upto wordExtendsSpec)

/-- 'citadellaw01.WordHalves', WHERE WHAT IT READS IS OF BULK AT MOST 1048576: true; the input reads as it did. -/
def wordHalvesUptoRow : OpenClaim := { program := "ytmfbijfghonnjaa", sum := "bd37cef2bff81bf43e902ca9fb713755b9e75df372f1fc96c5e07e88f5fe2089", func := "citadel/citadellaw01.WordHalves", spec := "wordHalves", unfollowed := true, recurses := true, apart := false, narrowed := true }
def WordHalvesUptoSaid : Prop := wordHalvesUptoRow.holds Try.pinned (OpenSpec.upto wordHalvesSpec)

/-- 'citadellaw01.WordWidens', WHERE WHAT IT READS IS OF BULK AT MOST 1048576: true; the input reads as it did. -/
def wordWidensUptoRow : OpenClaim := { program := "ytmfbijfghonnjaa", sum := "bd37cef2bff81bf43e902ca9fb713755b9e75df372f1fc96c5e07e88f5fe2089", func := "citadel/citadellaw01.WordWidens", spec := "wordWidens", unfollowed := true, recurses := true, apart := false, narrowed := true }
def WordWidensUptoSaid : Prop := wordWidensUptoRow.holds Try.pinned (OpenSpec.upto wordWidensSpec)

/-- 'citadellaw01.WordBranches', WHERE WHAT IT READS IS OF BULK AT MOST 1048576: true; the input reads as it did. -/
def wordBranchesUptoRow : OpenClaim := { program := "ytmfbijfghonnjaa", sum := "bd37cef2bff81bf43e902ca9fb713755b9e75df372f1fc96c5e07e88f5fe2089", func := "citadel/citadellaw01.WordBranches", spec := "wordBranches", unfollowed := true, recurses := true, apart := false, narrowed := true }
def WordBranchesUptoSaid : Prop := wordBranchesUptoRow.holds Try.pinned (OpenSpec.upto wordBranchesSpec)

/-- 'citadellaw01.WordOrders', WHERE WHAT IT READS IS OF BULK AT MOST 1048576: true; the input reads as it did. -/
def wordOrdersUptoRow : OpenClaim := { program := "ytmfbijfghonnjaa", sum := "bd37cef2bff81bf43e902ca9fb713755b9e75df372f1fc96c5e07e88f5fe2089", func := "citadel/citadellaw01.WordOrders", spec := "wordOrders", unfollowed := true, recurses := true, apart := false, narrowed := true }
def WordOrdersUptoSaid : Prop := wordOrdersUptoRow.holds Try.pinned (OpenSpec.upto wordOrdersSpec)

/-- 'citadellaw01.WordAtomics', WHERE WHAT IT READS IS OF BULK AT MOST 1048576: true; the input reads as it did. -/
def wordAtomicsUptoRow : OpenClaim := { program := "ytmfbijfghonnjaa", sum := "bd37cef2bff81bf43e902ca9fb713755b9e75df372f1fc96c5e07e88f5fe2089", func := "citadel/citadellaw01.WordAtomics", spec := "wordAtomics", unfollowed := true, recurses := true, apart := false, narrowed := true }
def WordAtomicsUptoSaid : Prop := wordAtomicsUptoRow.holds Try.pinned (OpenSpec.upto wordAtomicsSpec)

end Rows
end Go.Proofs.Ytmfbijfghonnjaa
