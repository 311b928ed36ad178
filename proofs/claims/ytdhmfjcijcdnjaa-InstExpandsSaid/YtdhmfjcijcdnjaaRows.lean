/-
  No cell of these rows narrows 'for every input' (looked for: loops, veiled, ifaces, maps, wideKeys, modest, calm, conditions, laid).
  DERIVED. THE GIVEN ROWS OF THIS SEAT. 6 by the template 'for every input the law returns true; each argument reads behind the call as it read before'; 0 by the template 'total and deterministic' (their statements: YtdhmfjcijcdnjaaTotals.lean).
  GIVEN WITH THE SEED: the statements are not yours to turn. If you find one false, say at which input.
  Laid BY PROGRAM, IN A SANDBOX (cutbox-rows.mjs): the forced cells as the released guide's own fill.sh prints them over the translation 8795737dbf8205fe… (all of the seat's roots in one cut). By AI agents, Wed Nov 11 2026. No macro, syntax, notation, axiom, sorry.
-/
import Derived.Test.YtdhmfjcijcdnjaaChecked
import GoSem.Claim
import GoSem.ClaimJoined
import GoSem.ClaimMapViews
import Derived.JoinedTies
import Derived.KernelRfl
namespace Go.Proofs.Ytdhmfjcijcdnjaa
/- THE CELL 'sum', in the pinned program and in every row, IS THE sha256 OF THE DUMP (.gsa) THAT YtdhmfjcijcdnjaaProg.lean LOADS. Nothing in Lean hashes anything: it is a label: what it is worth is what the hold of that sum in a sandbox is worth. -/
noncomputable def Try.pinned : Pinned := { name := "ytdhmfjcijcdnjaa", sum := "8795737dbf8205fe8dd5f94bcf61cc6b9a9c4b84ee1df6742442ae9f9cb8c714", checked := Try.checked }
namespace Rows
def none {H : Type} : Left H := { results := [], args := [] }

/-- 'citadellaw02.InstDecodes': WHATEVER THE INPUT: true; the input reads as it did. -/
def instDecodesSpec : ChangeSpec := { name := "instDecodes", fn := fun _ => fun
  | [d] => { results := [.lit (.bool true)], args := [d] }
  | _ => none }
def instDecodesRow : OpenClaim := { program := "ytdhmfjcijcdnjaa", sum := "8795737dbf8205fe8dd5f94bcf61cc6b9a9c4b84ee1df6742442ae9f9cb8c714", func := "citadel/citadellaw02.InstDecodes", spec := "instDecodes", unfollowed := true, recurses := true, apart := false }
def InstDecodesSaid : Prop := instDecodesRow.holds Try.pinned (OpenSpec.ofChange instDecodesSpec)

/-- ITS FALSE NEIGHBOUR: 'it returns false'. Refute it at one input. -/
def instDecodesWrong : ChangeSpec := { name := "instDecodes", fn := fun _ => fun
  | [d] => { results := [.lit (.bool false)], args := [d] }
  | _ => none }
def InstDecodesWrongFalsely : Prop := instDecodesRow.holds Try.pinned (OpenSpec.ofChange instDecodesWrong)

/-- 'citadellaw02.InstEncodes': WHATEVER THE INPUT: true; the input reads as it did. -/
def instEncodesSpec : ChangeSpec := { name := "instEncodes", fn := fun _ => fun
  | [d] => { results := [.lit (.bool true)], args := [d] }
  | _ => none }
def instEncodesRow : OpenClaim := { program := "ytdhmfjcijcdnjaa", sum := "8795737dbf8205fe8dd5f94bcf61cc6b9a9c4b84ee1df6742442ae9f9cb8c714", func := "citadel/citadellaw02.InstEncodes", spec := "instEncodes", unfollowed := true, recurses := true, apart := false }
def InstEncodesSaid : Prop := instEncodesRow.holds Try.pinned (OpenSpec.ofChange instEncodesSpec)

/-- ITS FALSE NEIGHBOUR: 'it returns false'. Refute it at one input. -/
def instEncodesWrong : ChangeSpec := { name := "instEncodes", fn := fun _ => fun
  | [d] => { results := [.lit (.bool false)], args := [d] }
  | _ => none }
def InstEncodesWrongFalsely : Prop := instEncodesRow.holds Try.pinned (OpenSpec.ofChange instEncodesWrong)

/-- 'citadellaw02.InstExpands': WHATEVER THE INPUT: true; the input reads as it did. -/
def instExpandsSpec : ChangeSpec := { name := "instExpands", fn := fun _ => fun
  | [d] => { results := [.lit (.bool true)], args := [d] }
  | _ => none }
def instExpandsRow : OpenClaim := { program := "ytdhmfjcijcdnjaa", sum := "8795737dbf8205fe8dd5f94bcf61cc6b9a9c4b84ee1df6742442ae9f9cb8c714", func := "citadel/citadellaw02.InstExpands", spec := "instExpands", unfollowed := true, recurses := true, apart := false }
def InstExpandsSaid : Prop := instExpandsRow.holds Try.pinned (OpenSpec.ofChange instExpandsSpec)

/-- ITS FALSE NEIGHBOUR: 'it returns false'. Refute it at one input. -/
def instExpandsWrong : ChangeSpec := { name := "instExpands", fn := fun _ => fun
  | [d] => { results := [.lit (.bool false)], args := [d] }
  | _ => none }
def InstExpandsWrongFalsely : Prop := instExpandsRow.holds Try.pinned (OpenSpec.ofChange instExpandsWrong)

/-- 'citadellaw02.InstBack': WHATEVER THE INPUT: true; the input reads as it did. -/
def instBackSpec : ChangeSpec := { name := "instBack", fn := fun _ => fun
  | [d1, d2] => { results := [.lit (.bool true)], args := [d1, d2] }
  | _ => none }
def instBackRow : OpenClaim := { program := "ytdhmfjcijcdnjaa", sum := "8795737dbf8205fe8dd5f94bcf61cc6b9a9c4b84ee1df6742442ae9f9cb8c714", func := "citadel/citadellaw02.InstBack", spec := "instBack", unfollowed := true, recurses := true, apart := false }
def InstBackSaid : Prop := instBackRow.holds Try.pinned (OpenSpec.ofChange instBackSpec)

/-- ITS FALSE NEIGHBOUR: 'it returns false'. Refute it at one input. -/
def instBackWrong : ChangeSpec := { name := "instBack", fn := fun _ => fun
  | [d1, d2] => { results := [.lit (.bool false)], args := [d1, d2] }
  | _ => none }
def InstBackWrongFalsely : Prop := instBackRow.holds Try.pinned (OpenSpec.ofChange instBackWrong)

/-- 'citadellaw02.InstFull': WHATEVER THE INPUT: true; the input reads as it did. -/
def instFullSpec : ChangeSpec := { name := "instFull", fn := fun _ => fun
  | [d] => { results := [.lit (.bool true)], args := [d] }
  | _ => none }
def instFullRow : OpenClaim := { program := "ytdhmfjcijcdnjaa", sum := "8795737dbf8205fe8dd5f94bcf61cc6b9a9c4b84ee1df6742442ae9f9cb8c714", func := "citadel/citadellaw02.InstFull", spec := "instFull", unfollowed := true, recurses := true, apart := false }
def InstFullSaid : Prop := instFullRow.holds Try.pinned (OpenSpec.ofChange instFullSpec)

/-- ITS FALSE NEIGHBOUR: 'it returns false'. Refute it at one input. -/
def instFullWrong : ChangeSpec := { name := "instFull", fn := fun _ => fun
  | [d] => { results := [.lit (.bool false)], args := [d] }
  | _ => none }
def InstFullWrongFalsely : Prop := instFullRow.holds Try.pinned (OpenSpec.ofChange instFullWrong)

/-- 'citadellaw02.InstFields': WHATEVER THE INPUT: true; the input reads as it did. -/
def instFieldsSpec : ChangeSpec := { name := "instFields", fn := fun _ => fun
  | [d] => { results := [.lit (.bool true)], args := [d] }
  | _ => none }
def instFieldsRow : OpenClaim := { program := "ytdhmfjcijcdnjaa", sum := "8795737dbf8205fe8dd5f94bcf61cc6b9a9c4b84ee1df6742442ae9f9cb8c714", func := "citadel/citadellaw02.InstFields", spec := "instFields", unfollowed := true, recurses := true, apart := false }
def InstFieldsSaid : Prop := instFieldsRow.holds Try.pinned (OpenSpec.ofChange instFieldsSpec)

/-- ITS FALSE NEIGHBOUR: 'it returns false'. Refute it at one input. -/
def instFieldsWrong : ChangeSpec := { name := "instFields", fn := fun _ => fun
  | [d] => { results := [.lit (.bool false)], args := [d] }
  | _ => none }
def InstFieldsWrongFalsely : Prop := instFieldsRow.holds Try.pinned (OpenSpec.ofChange instFieldsWrong)

/- THE SECOND FORM. 'bulk': how many values and letters a reading holds, each counted each time it is reached (what is shared counts as often as it is met; a slice's spare places count too). A statement '..UptoSaid' is the law's where the arguments, and the package variables that the reading takes, are together of bulk at most 1048576: NARROWER than '..Said'. Prove '..Said' where nothing that the law and all that it calls make is longer than what came in: it says more and counts as full. Else prove '..UptoSaid'. A law counts once. -/
mutual
def uptoBulk {H : Type} : DataW H → Nat
  | .lit (.string bytes) => bytes.length + 1
  | .lit _ => 1
  | .nil => 1
  | .ptr d => uptoBulk d + 1
  | .slice elems spare => uptoBulkAll elems + uptoBulkAll spare + 1
  | .agg parts => uptoBulkAll parts + 1
  | .iface _ d => uptoBulk d + 1
  | .map entries => uptoBulkEntries entries + 1
  | .held _ => 1
def uptoBulkAll {H : Type} : List (DataW H) → Nat
  | [] => 0
  | d :: r => uptoBulk d + uptoBulkAll r
def uptoBulkEntries {H : Type} : List (Lit × DataW H) → Nat
  | [] => 0
  | x :: r => uptoBulkEntry x + uptoBulkEntries r
def uptoBulkEntry {H : Type} : Lit × DataW H → Nat
  | (.string bytes, d) => bytes.length + uptoBulk d + 1
  | (_, d) => uptoBulk d + 1
 end
def uptoSmall : (H : Type) → List (DataW H) → Bool := fun _ ds => decide (uptoBulkAll ds ≤ 1048576)
def OpenSpec.upto (s : _root_.Go.ChangeSpec) : _root_.Go.OpenSpec := { _root_.Go.OpenSpec.ofChange s with cond := some uptoSmall }

/-- 'citadellaw02.InstDecodes', WHERE WHAT IT READS IS OF BULK AT MOST 1048576: true; the input reads as it did. -/
def instDecodesUptoRow : OpenClaim := { program := "ytdhmfjcijcdnjaa", sum := "8795737dbf8205fe8dd5f94bcf61cc6b9a9c4b84ee1df6742442ae9f9cb8c714", func := "citadel/citadellaw02.InstDecodes", spec := "instDecodes", unfollowed := true, recurses := true, apart := false, narrowed := true }
def InstDecodesUptoSaid : Prop := instDecodesUptoRow.holds Try.pinned (OpenSpec.upto instDecodesSpec)

/-- 'citadellaw02.InstEncodes', WHERE WHAT IT READS IS OF BULK AT MOST 1048576: true; the input reads as it did. -/
def instEncodesUptoRow : OpenClaim := { program := "ytdhmfjcijcdnjaa", sum := "8795737dbf8205fe8dd5f94bcf61cc6b9a9c4b84ee1df6742442ae9f9cb8c714", func := "citadel/citadellaw02.InstEncodes", spec := "instEncodes", unfollowed := true, recurses := true, apart := false, narrowed := true }
def InstEncodesUptoSaid : Prop := instEncodesUptoRow.holds Try.pinned (OpenSpec.upto instEncodesSpec)

/-- 'citadellaw02.InstExpands', WHERE WHAT IT READS IS OF BULK AT MOST 1048576: true; the input reads as it did. -/
def instExpandsUptoRow : OpenClaim := { program := "ytdhmfjcijcdnjaa", sum := "8795737dbf8205fe8dd5f94bcf61cc6b9a9c4b84ee1df6742442ae9f9cb8c714", func := "citadel/citadellaw02.InstExpands", spec := "instExpands", unfollowed := true, recurses := true, apart := false, narrowed := true }
def InstExpandsUptoSaid : Prop := instExpandsUptoRow.holds Try.pinned (OpenSpec.upto instExpandsSpec)

/-- 'citadellaw02.InstBack', WHERE WHAT IT READS IS OF BULK AT MOST 1048576: true; the input reads as it did. -/
def instBackUptoRow : OpenClaim := { program := "ytdhmfjcijcdnjaa", sum := "8795737dbf8205fe8dd5f94bcf61cc6b9a9c4b84ee1df6742442ae9f9cb8c714", func := "citadel/citadellaw02.InstBack", spec := "instBack", unfollowed := true, recurses := true, apart := false, narrowed := true }
def InstBackUptoSaid : Prop := instBackUptoRow.holds Try.pinned (OpenSpec.upto instBackSpec)

/-- 'citadellaw02.InstFull', WHERE WHAT IT READS IS OF BULK AT MOST 1048576: true; the input reads as it did. -/
def instFullUptoRow : OpenClaim := { program := "ytdhmfjcijcdnjaa", sum := "8795737dbf8205fe8dd5f94bcf61cc6b9a9c4b84ee1df6742442ae9f9cb8c714", func := "citadel/citadellaw02.InstFull", spec := "instFull", unfollowed := true, recurses := true, apart := false, narrowed := true }
def InstFullUptoSaid : Prop := instFullUptoRow.holds Try.pinned (OpenSpec.upto instFullSpec)

/-- 'citadellaw02.InstFields', WHERE WHAT IT READS IS OF BULK AT MOST 1048576: true; the input reads as it did. -/
def instFieldsUptoRow : OpenClaim := { program := "ytdhmfjcijcdnjaa", sum := "8795737dbf8205fe8dd5f94bcf61cc6b9a9c4b84ee1df6742442ae9f9cb8c714", func := "citadel/citadellaw02.InstFields", spec := "instFields", unfollowed := true, recurses := true, apart := false, narrowed := true }
def InstFieldsUptoSaid : Prop := instFieldsUptoRow.holds Try.pinned (OpenSpec.upto instFieldsSpec)

end Rows
end Go.Proofs.Ytdhmfjcijcdnjaa
