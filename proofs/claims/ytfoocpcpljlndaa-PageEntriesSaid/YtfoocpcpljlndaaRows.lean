/-
  No cell of these rows narrows 'for every input' (looked for: loops, veiled, ifaces, maps, wideKeys, modest, calm, conditions, laid).
  DERIVED. THE GIVEN ROWS OF THIS SEAT. 8 by the template 'for every input the law returns true; each argument reads behind the call as it read before'; 0 by the template 'total and deterministic' (their statements: YtfoocpcpljlndaaTotals.lean).
  GIVEN WITH THE SEED: the statements are not yours to turn. If you find one false, say at which input.
  Laid BY PROGRAM, IN A SANDBOX (cutbox-rows.mjs): the forced cells as the released guide's own fill.sh prints them over the translation 44f259680d668c49… (all of the seat's roots in one cut). By AI agents, Wed Nov 11 2026. No macro, syntax, notation, axiom, sorry.
-/
import Derived.Test.YtfoocpcpljlndaaChecked
import GoSem.Claim
import GoSem.ClaimJoined
import GoSem.ClaimMapViews
import Derived.JoinedTies
import Derived.KernelRfl
namespace Go.Proofs.Ytfoocpcpljlndaa
/- THE CELL 'sum', in the pinned program and in every row, IS THE sha256 OF THE DUMP (.gsa) THAT YtfoocpcpljlndaaProg.lean LOADS. Nothing in Lean hashes anything: it is a label: what it is worth is what the hold of that sum in a sandbox is worth. -/
noncomputable def Try.pinned : Pinned := { name := "ytfoocpcpljlndaa", sum := "44f259680d668c49615f7be872eee6ebd4ba0b678e908effa413f6f4a06a26f8", checked := Try.checked }
namespace Rows
def none {H : Type} : Left H := { results := [], args := [] }

/-- 'citadellaw04.PageStores': WHATEVER THE INPUT: true; the input reads as it did. -/
def pageStoresSpec : ChangeSpec := { name := "pageStores", fn := fun _ => fun
  | [d1, d2] => { results := [.lit (.bool true)], args := [d1, d2] }
  | _ => none }
def pageStoresRow : OpenClaim := { program := "ytfoocpcpljlndaa", sum := "44f259680d668c49615f7be872eee6ebd4ba0b678e908effa413f6f4a06a26f8", func := "citadel/citadellaw04.PageStores", spec := "pageStores", unfollowed := true, recurses := true, apart := false }
def PageStoresSaid : Prop := pageStoresRow.holds Try.pinned (OpenSpec.ofChange pageStoresSpec)

/-- ITS FALSE NEIGHBOUR: 'it returns false'. Refute it at one input. -/
def pageStoresWrong : ChangeSpec := { name := "pageStores", fn := fun _ => fun
  | [d1, d2] => { results := [.lit (.bool false)], args := [d1, d2] }
  | _ => none }
def PageStoresWrongFalsely : Prop := pageStoresRow.holds Try.pinned (OpenSpec.ofChange pageStoresWrong)

/-- 'citadellaw04.PageBig': WHATEVER THE INPUT: true; the input reads as it did. -/
def pageBigSpec : ChangeSpec := { name := "pageBig", fn := fun _ => fun
  | [d1, d2, d3, d4] => { results := [.lit (.bool true)], args := [d1, d2, d3, d4] }
  | _ => none }
def pageBigRow : OpenClaim := { program := "ytfoocpcpljlndaa", sum := "44f259680d668c49615f7be872eee6ebd4ba0b678e908effa413f6f4a06a26f8", func := "citadel/citadellaw04.PageBig", spec := "pageBig", unfollowed := true, recurses := true, apart := false }
def PageBigSaid : Prop := pageBigRow.holds Try.pinned (OpenSpec.ofChange pageBigSpec)

/-- ITS FALSE NEIGHBOUR: 'it returns false'. Refute it at one input. -/
def pageBigWrong : ChangeSpec := { name := "pageBig", fn := fun _ => fun
  | [d1, d2, d3, d4] => { results := [.lit (.bool false)], args := [d1, d2, d3, d4] }
  | _ => none }
def PageBigWrongFalsely : Prop := pageBigRow.holds Try.pinned (OpenSpec.ofChange pageBigWrong)

/-- 'citadellaw04.PageGuests': WHATEVER THE INPUT: true; the input reads as it did. -/
def pageGuestsSpec : ChangeSpec := { name := "pageGuests", fn := fun _ => fun
  | [d1, d2, d3] => { results := [.lit (.bool true)], args := [d1, d2, d3] }
  | _ => none }
def pageGuestsRow : OpenClaim := { program := "ytfoocpcpljlndaa", sum := "44f259680d668c49615f7be872eee6ebd4ba0b678e908effa413f6f4a06a26f8", func := "citadel/citadellaw04.PageGuests", spec := "pageGuests", unfollowed := true, recurses := true, apart := false }
def PageGuestsSaid : Prop := pageGuestsRow.holds Try.pinned (OpenSpec.ofChange pageGuestsSpec)

/-- ITS FALSE NEIGHBOUR: 'it returns false'. Refute it at one input. -/
def pageGuestsWrong : ChangeSpec := { name := "pageGuests", fn := fun _ => fun
  | [d1, d2, d3] => { results := [.lit (.bool false)], args := [d1, d2, d3] }
  | _ => none }
def PageGuestsWrongFalsely : Prop := pageGuestsRow.holds Try.pinned (OpenSpec.ofChange pageGuestsWrong)

/-- 'citadellaw04.PageOffsets': WHATEVER THE INPUT: true; the input reads as it did. -/
def pageOffsetsSpec : ChangeSpec := { name := "pageOffsets", fn := fun _ => fun
  | [d1, d2, d3, d4] => { results := [.lit (.bool true)], args := [d1, d2, d3, d4] }
  | _ => none }
def pageOffsetsRow : OpenClaim := { program := "ytfoocpcpljlndaa", sum := "44f259680d668c49615f7be872eee6ebd4ba0b678e908effa413f6f4a06a26f8", func := "citadel/citadellaw04.PageOffsets", spec := "pageOffsets", unfollowed := true, recurses := true, apart := false }
def PageOffsetsSaid : Prop := pageOffsetsRow.holds Try.pinned (OpenSpec.ofChange pageOffsetsSpec)

/-- ITS FALSE NEIGHBOUR: 'it returns false'. Refute it at one input. -/
def pageOffsetsWrong : ChangeSpec := { name := "pageOffsets", fn := fun _ => fun
  | [d1, d2, d3, d4] => { results := [.lit (.bool false)], args := [d1, d2, d3, d4] }
  | _ => none }
def PageOffsetsWrongFalsely : Prop := pageOffsetsRow.holds Try.pinned (OpenSpec.ofChange pageOffsetsWrong)

/-- 'citadellaw04.PageOff': WHATEVER THE INPUT: true; the input reads as it did. -/
def pageOffSpec : ChangeSpec := { name := "pageOff", fn := fun _ => fun
  | [d1, d2, d3] => { results := [.lit (.bool true)], args := [d1, d2, d3] }
  | _ => none }
def pageOffRow : OpenClaim := { program := "ytfoocpcpljlndaa", sum := "44f259680d668c49615f7be872eee6ebd4ba0b678e908effa413f6f4a06a26f8", func := "citadel/citadellaw04.PageOff", spec := "pageOff", unfollowed := true, recurses := true, apart := false }
def PageOffSaid : Prop := pageOffRow.holds Try.pinned (OpenSpec.ofChange pageOffSpec)

/-- ITS FALSE NEIGHBOUR: 'it returns false'. Refute it at one input. -/
def pageOffWrong : ChangeSpec := { name := "pageOff", fn := fun _ => fun
  | [d1, d2, d3] => { results := [.lit (.bool false)], args := [d1, d2, d3] }
  | _ => none }
def PageOffWrongFalsely : Prop := pageOffRow.holds Try.pinned (OpenSpec.ofChange pageOffWrong)

/-- 'citadellaw04.PageEntries': WHATEVER THE INPUT: true; the input reads as it did. -/
def pageEntriesSpec : ChangeSpec := { name := "pageEntries", fn := fun _ => fun
  | [d1, d2, d3, d4] => { results := [.lit (.bool true)], args := [d1, d2, d3, d4] }
  | _ => none }
def pageEntriesRow : OpenClaim := { program := "ytfoocpcpljlndaa", sum := "44f259680d668c49615f7be872eee6ebd4ba0b678e908effa413f6f4a06a26f8", func := "citadel/citadellaw04.PageEntries", spec := "pageEntries", unfollowed := true, recurses := true, apart := false }
def PageEntriesSaid : Prop := pageEntriesRow.holds Try.pinned (OpenSpec.ofChange pageEntriesSpec)

/-- ITS FALSE NEIGHBOUR: 'it returns false'. Refute it at one input. -/
def pageEntriesWrong : ChangeSpec := { name := "pageEntries", fn := fun _ => fun
  | [d1, d2, d3, d4] => { results := [.lit (.bool false)], args := [d1, d2, d3, d4] }
  | _ => none }
def PageEntriesWrongFalsely : Prop := pageEntriesRow.holds Try.pinned (OpenSpec.ofChange pageEntriesWrong)

/-- 'citadellaw04.PageRights': WHATEVER THE INPUT: true; the input reads as it did. -/
def pageRightsSpec : ChangeSpec := { name := "pageRights", fn := fun _ => fun
  | [d1, d2, d3, d4, d5] => { results := [.lit (.bool true)], args := [d1, d2, d3, d4, d5] }
  | _ => none }
def pageRightsRow : OpenClaim := { program := "ytfoocpcpljlndaa", sum := "44f259680d668c49615f7be872eee6ebd4ba0b678e908effa413f6f4a06a26f8", func := "citadel/citadellaw04.PageRights", spec := "pageRights", unfollowed := true, recurses := true, apart := false }
def PageRightsSaid : Prop := pageRightsRow.holds Try.pinned (OpenSpec.ofChange pageRightsSpec)

/-- ITS FALSE NEIGHBOUR: 'it returns false'. Refute it at one input. -/
def pageRightsWrong : ChangeSpec := { name := "pageRights", fn := fun _ => fun
  | [d1, d2, d3, d4, d5] => { results := [.lit (.bool false)], args := [d1, d2, d3, d4, d5] }
  | _ => none }
def PageRightsWrongFalsely : Prop := pageRightsRow.holds Try.pinned (OpenSpec.ofChange pageRightsWrong)

/-- 'citadellaw04.PageTranslates': WHATEVER THE INPUT: true; the input reads as it did. -/
def pageTranslatesSpec : ChangeSpec := { name := "pageTranslates", fn := fun _ => fun
  | [d1, d2, d3] => { results := [.lit (.bool true)], args := [d1, d2, d3] }
  | _ => none }
def pageTranslatesRow : OpenClaim := { program := "ytfoocpcpljlndaa", sum := "44f259680d668c49615f7be872eee6ebd4ba0b678e908effa413f6f4a06a26f8", func := "citadel/citadellaw04.PageTranslates", spec := "pageTranslates", unfollowed := true, recurses := true, apart := false }
def PageTranslatesSaid : Prop := pageTranslatesRow.holds Try.pinned (OpenSpec.ofChange pageTranslatesSpec)

/-- ITS FALSE NEIGHBOUR: 'it returns false'. Refute it at one input. -/
def pageTranslatesWrong : ChangeSpec := { name := "pageTranslates", fn := fun _ => fun
  | [d1, d2, d3] => { results := [.lit (.bool false)], args := [d1, d2, d3] }
  | _ => none }
def PageTranslatesWrongFalsely : Prop := pageTranslatesRow.holds Try.pinned (OpenSpec.ofChange pageTranslatesWrong)

/- THE SECOND FORM. 'bulk': how many values and letters a reading holds, each counted each time it is reached (what is shared counts as often as it is met; a slice's spare places count too). A statement '..UptoSaid' is the law's where the arguments, and the package variables that the reading takes, are together of bulk at most 1048576: NARROWER than '..Said'. Prove '..Said' where nothing that the law and all that it calls make is longer than what came in: it says more and counts as full. Else prove '..UptoSaid'. A law counts once. -/
mutual
def uptoBulk {H : Type} : DataW H → Nat
  | .lit (.string bytes) => bytes.length + 1
  | .lit _ => 1
  | .nil => 1
  | .ptr d => uptoBulk d + 1
  | .slice elems spare => uptoBulkAll elems + uptoBulkAll spare + 1
  | .agg parts => uptoBulkAll parts + 1
  | .iface _ d => uptoBulk d + 1
  | .map entries => uptoBulkEntries entries + 1
  | .held _ => 1
def uptoBulkAll {H : Type} : List (DataW H) → Nat
  | [] => 0
  | d :: r => uptoBulk d + uptoBulkAll r
def uptoBulkEntries {H : Type} : List (Lit × DataW H) → Nat
  | [] => 0
  | x :: r => uptoBulkEntry x + uptoBulkEntries r
def uptoBulkEntry {H : Type} : Lit × DataW H → Nat
  | (.string bytes, d) => bytes.length + uptoBulk d + 1
  | (_, d) => uptoBulk d + 1
 end
def uptoSmall : (H : Type) → List (DataW H) → Bool := fun _ ds => decide (uptoBulkAll ds ≤ 1048576)
def OpenSpec.upto (s : _root_.Go.ChangeSpec) : _root_.Go.OpenSpec := { _root_.Go.OpenSpec.ofChange s with cond := some uptoSmall }

/-- 'citadellaw04.PageStores', WHERE WHAT IT READS IS OF BULK AT MOST 1048576: true; the input reads as it did. -/
def pageStoresUptoRow : OpenClaim := { program := "ytfoocpcpljlndaa", sum := "44f259680d668c49615f7be872eee6ebd4ba0b678e908effa413f6f4a06a26f8", func := "citadel/citadellaw04.PageStores", spec := "pageStores", unfollowed := true, recurses := true, apart := false, narrowed := true }
def PageStoresUptoSaid : Prop := pageStoresUptoRow.holds Try.pinned (OpenSpec.upto pageStoresSpec)

/-- 'citadellaw04.PageBig', WHERE WHAT IT READS IS OF BULK AT MOST 1048576: true; the input reads as it did. -/
def pageBigUptoRow : OpenClaim := { program := "ytfoocpcpljlndaa", sum := "44f259680d668c49615f7be872eee6ebd4ba0b678e908effa413f6f4a06a26f8", func := "citadel/citadellaw04.PageBig", spec := "pageBig", unfollowed := true, recurses := true, apart := false, narrowed := true }
def PageBigUptoSaid : Prop := pageBigUptoRow.holds Try.pinned (OpenSpec.upto pageBigSpec)

/-- 'citadellaw04.PageGuests', WHERE WHAT IT READS IS OF BULK AT MOST 1048576: true; the input reads as it did. -/
def pageGuestsUptoRow : OpenClaim := { program := "ytfoocpcpljlndaa", sum := "44f259680d668c49615f7be872eee6ebd4ba0b678e908effa413f6f4a06a26f8", func := "citadel/citadellaw04.PageGuests", spec := "pageGuests", unfollowed := true, recurses := true, apart := false, narrowed := true }
def PageGuestsUptoSaid : Prop := pageGuestsUptoRow.holds Try.pinned (OpenSpec.upto pageGuestsSpec)

/-- 'citadellaw04.PageOffsets', WHERE WHAT IT READS IS OF BULK AT MOST 1048576: true; the input reads as it did. -/
def pageOffsetsUptoRow : OpenClaim := { program := "ytfoocpcpljlndaa", sum := "44f259680d668c49615f7be872eee6ebd4ba0b678e908effa413f6f4a06a26f8", func := "citadel/citadellaw04.PageOffsets", spec := "pageOffsets", unfollowed := true, recurses := true, apart := false, narrowed := true }
def PageOffsetsUptoSaid : Prop := pageOffsetsUptoRow.holds Try.pinned (OpenSpec.upto pageOffsetsSpec)

/-- 'citadellaw04.PageOff', WHERE WHAT IT READS IS OF BULK AT MOST 1048576: true; the input reads as it did. -/
def pageOffUptoRow : OpenClaim := { program := "ytfoocpcpljlndaa", sum := "44f259680d668c49615f7be872eee6ebd4ba0b678e908effa413f6f4a06a26f8", func := "citadel/citadellaw04.PageOff", spec := "pageOff", unfollowed := true, recurses := true, apart := false, narrowed := true }
def PageOffUptoSaid : Prop := pageOffUptoRow.holds Try.pinned (OpenSpec.upto pageOffSpec)

/-- 'citadellaw04.PageEntries', WHERE WHAT IT READS IS OF BULK AT MOST 1048576: true; the input reads as it did. -/
def pageEntriesUptoRow : OpenClaim := { program := "ytfoocpcpljlndaa", sum := "44f259680d668c49615f7be872eee6ebd4ba0b678e908effa413f6f4a06a26f8", func := "citadel/citadellaw04.PageEntries", spec := "pageEntries", unfollowed := true, recurses := true, apart := false, narrowed := true }
def PageEntriesUptoSaid : Prop := pageEntriesUptoRow.holds Try.pinned (OpenSpec.upto pageEntriesSpec)

/-- 'citadellaw04.PageRights', WHERE WHAT IT READS IS OF BULK AT MOST 1048576: true; the input reads as it did. -/
def pageRightsUptoRow : OpenClaim := { program := "ytfoocpcpljlndaa", sum := "44f259680d668c49615f7be872eee6ebd4ba0b678e908effa413f6f4a06a26f8", func := "citadel/citadellaw04.PageRights", spec := "pageRights", unfollowed := true, recurses := true, apart := false, narrowed := true }
def PageRightsUptoSaid : Prop := pageRightsUptoRow.holds Try.pinned (OpenSpec.upto pageRightsSpec)

/-- 'citadellaw04.PageTranslates', WHERE WHAT IT READS IS OF BULK AT MOST 1048576: true; the input reads as it did. -/
def pageTranslatesUptoRow : OpenClaim := { program := "ytfoocpcpljlndaa", sum := "44f259680d668c49615f7be872eee6ebd4ba0b678e908effa413f6f4a06a26f8", func := "citadel/citadellaw04.PageTranslates", spec := "pageTranslates", unfollowed := true, recurses := true, apart := false, narrowed := true }
def PageTranslatesUptoSaid : Prop := pageTranslatesUptoRow.holds Try.pinned (OpenSpec.upto pageTranslatesSpec)

end Rows
end Go.Proofs.Ytfoocpcpljlndaa
