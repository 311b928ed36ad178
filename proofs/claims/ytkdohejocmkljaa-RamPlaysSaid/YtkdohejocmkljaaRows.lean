/-
  No cell of these rows narrows 'for every input' (looked for: loops, veiled, ifaces, maps, wideKeys, modest, calm, conditions, laid).
  DERIVED. THE GIVEN ROWS OF THIS SEAT. 6 by the template 'for every input the law returns true; each argument reads behind the call as it read before'; 0 by the template 'total and deterministic' (their statements: YtkdohejocmkljaaTotals.lean).
  GIVEN WITH THE SEED: the statements are not yours to turn. If you find one false, say at which input.
  Laid BY PROGRAM, IN A SANDBOX (cutbox-rows.mjs): the forced cells as the released guide's own fill.sh prints them over the translation ad96c3aa03578f8f… (all of the seat's roots in one cut). By AI agents, Wed Nov 11 2026. No macro, syntax, notation, axiom, sorry.
-/
import Derived.Test.YtkdohejocmkljaaChecked
import GoSem.Claim
import GoSem.ClaimJoined
import GoSem.ClaimMapViews
import Derived.JoinedTies
import Derived.KernelRfl
namespace Go.Proofs.Ytkdohejocmkljaa
/- THE CELL 'sum', in the pinned program and in every row, IS THE sha256 OF THE DUMP (.gsa) THAT YtkdohejocmkljaaProg.lean LOADS. Nothing in Lean hashes anything: it is a label: what it is worth is what the hold of that sum in a sandbox is worth. -/
noncomputable def Try.pinned : Pinned := { name := "ytkdohejocmkljaa", sum := "ad96c3aa03578f8ffaaa3f89bd0887eceac03f4009b17b1225a0fcc8949010bb", checked := Try.checked }
namespace Rows
def none {H : Type} : Left H := { results := [], args := [] }

/-- 'citadellaw03.RamEnds': WHATEVER THE INPUT: true; the input reads as it did. -/
def ramEndsSpec : ChangeSpec := { name := "ramEnds", fn := fun _ => fun
  | [d1, d2, d3] => { results := [.lit (.bool true)], args := [d1, d2, d3] }
  | _ => none }
def ramEndsRow : OpenClaim := { program := "ytkdohejocmkljaa", sum := "ad96c3aa03578f8ffaaa3f89bd0887eceac03f4009b17b1225a0fcc8949010bb", func := "citadel/citadellaw03.RamEnds", spec := "ramEnds", apart := false }
def RamEndsSaid : Prop := ramEndsRow.holds Try.pinned (OpenSpec.ofChange ramEndsSpec)

/-- ITS FALSE NEIGHBOUR: 'it returns false'. Refute it at one input. -/
def ramEndsWrong : ChangeSpec := { name := "ramEnds", fn := fun _ => fun
  | [d1, d2, d3] => { results := [.lit (.bool false)], args := [d1, d2, d3] }
  | _ => none }
def RamEndsWrongFalsely : Prop := ramEndsRow.holds Try.pinned (OpenSpec.ofChange ramEndsWrong)

/-- 'citadellaw03.RamBytes': WHATEVER THE INPUT: true; the input reads as it did. -/
def ramBytesSpec : ChangeSpec := { name := "ramBytes", fn := fun _ => fun
  | [d1, d2, d3, d4] => { results := [.lit (.bool true)], args := [d1, d2, d3, d4] }
  | _ => none }
def ramBytesRow : OpenClaim := { program := "ytkdohejocmkljaa", sum := "ad96c3aa03578f8ffaaa3f89bd0887eceac03f4009b17b1225a0fcc8949010bb", func := "citadel/citadellaw03.RamBytes", spec := "ramBytes", apart := false }
def RamBytesSaid : Prop := ramBytesRow.holds Try.pinned (OpenSpec.ofChange ramBytesSpec)

/-- ITS FALSE NEIGHBOUR: 'it returns false'. Refute it at one input. -/
def ramBytesWrong : ChangeSpec := { name := "ramBytes", fn := fun _ => fun
  | [d1, d2, d3, d4] => { results := [.lit (.bool false)], args := [d1, d2, d3, d4] }
  | _ => none }
def RamBytesWrongFalsely : Prop := ramBytesRow.holds Try.pinned (OpenSpec.ofChange ramBytesWrong)

/-- 'citadellaw03.RamKept': WHATEVER THE INPUT: true; the input reads as it did. -/
def ramKeptSpec : ChangeSpec := { name := "ramKept", fn := fun _ => fun
  | [d1, d2] => { results := [.lit (.bool true)], args := [d1, d2] }
  | _ => none }
def ramKeptRow : OpenClaim := { program := "ytkdohejocmkljaa", sum := "ad96c3aa03578f8ffaaa3f89bd0887eceac03f4009b17b1225a0fcc8949010bb", func := "citadel/citadellaw03.RamKept", spec := "ramKept", apart := false }
def RamKeptSaid : Prop := ramKeptRow.holds Try.pinned (OpenSpec.ofChange ramKeptSpec)

/-- ITS FALSE NEIGHBOUR: 'it returns false'. Refute it at one input. -/
def ramKeptWrong : ChangeSpec := { name := "ramKept", fn := fun _ => fun
  | [d1, d2] => { results := [.lit (.bool false)], args := [d1, d2] }
  | _ => none }
def RamKeptWrongFalsely : Prop := ramKeptRow.holds Try.pinned (OpenSpec.ofChange ramKeptWrong)

/-- 'citadellaw03.RamCopies': WHATEVER THE INPUT: true; the input reads as it did. -/
def ramCopiesSpec : ChangeSpec := { name := "ramCopies", fn := fun _ => fun
  | [d1, d2, d3] => { results := [.lit (.bool true)], args := [d1, d2, d3] }
  | _ => none }
def ramCopiesRow : OpenClaim := { program := "ytkdohejocmkljaa", sum := "ad96c3aa03578f8ffaaa3f89bd0887eceac03f4009b17b1225a0fcc8949010bb", func := "citadel/citadellaw03.RamCopies", spec := "ramCopies", apart := false }
def RamCopiesSaid : Prop := ramCopiesRow.holds Try.pinned (OpenSpec.ofChange ramCopiesSpec)

/-- ITS FALSE NEIGHBOUR: 'it returns false'. Refute it at one input. -/
def ramCopiesWrong : ChangeSpec := { name := "ramCopies", fn := fun _ => fun
  | [d1, d2, d3] => { results := [.lit (.bool false)], args := [d1, d2, d3] }
  | _ => none }
def RamCopiesWrongFalsely : Prop := ramCopiesRow.holds Try.pinned (OpenSpec.ofChange ramCopiesWrong)

/-- 'citadellaw03.RamClears': WHATEVER THE INPUT: true; the input reads as it did. -/
def ramClearsSpec : ChangeSpec := { name := "ramClears", fn := fun _ => fun
  | [d1, d2, d3] => { results := [.lit (.bool true)], args := [d1, d2, d3] }
  | _ => none }
def ramClearsRow : OpenClaim := { program := "ytkdohejocmkljaa", sum := "ad96c3aa03578f8ffaaa3f89bd0887eceac03f4009b17b1225a0fcc8949010bb", func := "citadel/citadellaw03.RamClears", spec := "ramClears", apart := false }
def RamClearsSaid : Prop := ramClearsRow.holds Try.pinned (OpenSpec.ofChange ramClearsSpec)

/-- ITS FALSE NEIGHBOUR: 'it returns false'. Refute it at one input. -/
def ramClearsWrong : ChangeSpec := { name := "ramClears", fn := fun _ => fun
  | [d1, d2, d3] => { results := [.lit (.bool false)], args := [d1, d2, d3] }
  | _ => none }
def RamClearsWrongFalsely : Prop := ramClearsRow.holds Try.pinned (OpenSpec.ofChange ramClearsWrong)

/-- 'citadellaw03.RamPlays': WHATEVER THE INPUT: true; the input reads as it did. -/
def ramPlaysSpec : ChangeSpec := { name := "ramPlays", fn := fun _ => fun
  | [d1, d2, d3] => { results := [.lit (.bool true)], args := [d1, d2, d3] }
  | _ => none }
def ramPlaysRow : OpenClaim := { program := "ytkdohejocmkljaa", sum := "ad96c3aa03578f8ffaaa3f89bd0887eceac03f4009b17b1225a0fcc8949010bb", func := "citadel/citadellaw03.RamPlays", spec := "ramPlays", apart := false }
def RamPlaysSaid : Prop := ramPlaysRow.holds Try.pinned (OpenSpec.ofChange ramPlaysSpec)

/-- ITS FALSE NEIGHBOUR: 'it returns false'. Refute it at one input. -/
def ramPlaysWrong : ChangeSpec := { name := "ramPlays", fn := fun _ => fun
  | [d1, d2, d3] => { results := [.lit (.bool false)], args := [d1, d2, d3] }
  | _ => none }
def RamPlaysWrongFalsely : Prop := ramPlaysRow.holds Try.pinned (OpenSpec.ofChange ramPlaysWrong)

/- THE SECOND FORM. 'bulk': how many values and letters a reading holds, each counted each time it is reached (what is shared counts as often as it is met; a slice's spare places count too). A statement '..UptoSaid' is the law's where the arguments, and the package variables that the reading takes, are together of bulk at most 1048576: NARROWER than '..Said'. Prove '..Said' where nothing that the law and all that it calls make is longer than what came in: it says more and counts as full. Else prove '..UptoSaid'. A law counts once. -/
mutual
def uptoBulk {H : Type} : DataW H → Nat
  | .lit (.string bytes) => bytes.length + 1
  | .lit _ => 1
  | .nil => 1
  | .ptr d => uptoBulk d + 1
  | .slice elems spare => uptoBulkAll elems + uptoBulkAll spare + 1
  | .agg parts => uptoBulkAll parts + 1
  | .iface _ d => uptoBulk d + 1
  | .map entries => uptoBulkEntries entries + 1
  | .held _ => 1
def uptoBulkAll {H : Type} : List (DataW H) → Nat
  | [] => 0
  | d :: r => uptoBulk d + uptoBulkAll r
def uptoBulkEntries {H : Type} : List (Lit × DataW H) → Nat
  | [] => 0
  | x :: r => uptoBulkEntry x + uptoBulkEntries r
def uptoBulkEntry {H : Type} : Lit × DataW H → Nat
  | (.string bytes, d) => bytes.length + uptoBulk d + 1
  | (_, d) => uptoBulk d + 1
 end
def uptoSmall : (H : Type) → List (DataW H) → Bool := fun _ ds => decide (uptoBulkAll ds ≤ 1048576)
def OpenSpec.upto (s : _root_.Go.ChangeSpec) : _root_.Go.OpenSpec := { _root_.Go.OpenSpec.ofChange s with cond := some uptoSmall }

/-- 'citadellaw03.RamEnds', WHERE WHAT IT READS IS OF BULK AT MOST 1048576: true; the input reads as it did. -/
def ramEndsUptoRow : OpenClaim := { program := "ytkdohejocmkljaa", sum := "ad96c3aa03578f8ffaaa3f89bd0887eceac03f4009b17b1225a0fcc8949010bb", func := "citadel/citadellaw03.RamEnds", spec := "ramEnds", apart := false, narrowed := true }
def RamEndsUptoSaid : Prop := ramEndsUptoRow.holds Try.pinned (OpenSpec.upto ramEndsSpec)

/-- 'citadellaw03.RamBytes', WHERE WHAT IT READS IS OF BULK AT MOST 1048576: true; the input reads as it did. -/
def ramBytesUptoRow : OpenClaim := { program := "ytkdohejocmkljaa", sum := "ad96c3aa03578f8ffaaa3f89bd0887eceac03f4009b17b1225a0fcc8949010bb", func := "citadel/citadellaw03.RamBytes", spec := "ramBytes", apart := false, narrowed := true }
def RamBytesUptoSaid : Prop := ramBytesUptoRow.holds Try.pinned (OpenSpec.upto ramBytesSpec)

/-- 'citadellaw03.RamKept', WHERE WHAT IT READS IS OF BULK AT MOST 1048576: true; the input reads as it did. -/
def ramKeptUptoRow : OpenClaim := { program := "ytkdohejocmkljaa", sum := "ad96c3aa03578f8ffaaa3f89bd0887eceac03f4009b17b1225a0fcc8949010bb", func := "citadel/citadellaw03.RamKept", spec := "ramKept", apart := false, narrowed := true }
def RamKeptUptoSaid : Prop := ramKeptUptoRow.holds Try.pinned (OpenSpec.upto ramKeptSpec)

/-- 'citadellaw03.RamCopies', WHERE WHAT IT READS IS OF BULK AT MOST 1048576: true; the input reads as it did. -/
def ramCopiesUptoRow : OpenClaim := { program := "ytkdohejocmkljaa", sum := "ad96c3aa03578f8ffaaa3f89bd0887eceac03f4009b17b1225a0fcc8949010bb", func := "citadel/citadellaw03.RamCopies", spec := "ramCopies", apart := false, narrowed := true }
def RamCopiesUptoSaid : Prop := ramCopiesUptoRow.holds Try.pinned (OpenSpec.upto ramCopiesSpec)

/-- 'citadellaw03.RamClears', WHERE WHAT IT READS IS OF BULK AT MOST 1048576: true; the input reads as it did. -/
def ramClearsUptoRow : OpenClaim := { program := "ytkdohejocmkljaa", sum := "ad96c3aa03578f8ffaaa3f89bd0887eceac03f4009b17b1225a0fcc8949010bb", func := "citadel/citadellaw03.RamClears", spec := "ramClears", apart := false, narrowed := true }
def RamClearsUptoSaid : Prop := ramClearsUptoRow.holds Try.pinned (OpenSpec.upto ramClearsSpec)

/-- 'citadellaw03.RamPlays', WHERE WHAT IT READS IS OF BULK AT MOST 1048576: true; the input reads as it did. -/
def ramPlaysUptoRow : OpenClaim := { program := "ytkdohejocmkljaa", sum := "ad96c3aa03578f8ffaaa3f89bd0887eceac03f4009b17b1225a0fcc8949010bb", func := "citadel/citadellaw03.RamPlays", spec := "ramPlays", apart := false, narrowed := true }
def RamPlaysUptoSaid : Prop := ramPlaysUptoRow.holds Try.pinned (OpenSpec.upto ramPlaysSpec)

end Rows
end Go.Proofs.Ytkdohejocmkljaa
