/-
  No cell of these rows narrows 'for every input' (looked for: loops, veiled, ifaces, maps, wideKeys, modest, calm, conditions, laid).
  DERIVED. THE GIVEN ROWS OF THIS SEAT. 10 by the template 'for every input the law returns true; each argument reads behind the call as it read before'; 0 by the template 'total and deterministic' (their statements: YthkodjkkcgdmfaaGreatTotals.lean).
  GIVEN WITH THE SEED: the statements are not yours to turn. If you find one false, say at which input.
  Laid BY PROGRAM, IN A SANDBOX (cutbox-rows.mjs): the forced cells as the released guide's own fill.sh prints them over the translation eed3e230b23312a0… (all of the seat's roots in one cut). By AI agents, Wed Nov 11 2026. No macro, syntax, notation, axiom, sorry.
-/
import Derived.Test.YthkodjkkcgdmfaaGreatChecked
import GoSem.Claim
import GoSem.ClaimJoined
import GoSem.ClaimMapViews
import Derived.JoinedTies
import Derived.KernelRfl
namespace Go.Proofs.YthkodjkkcgdmfaaGreat
/- THE CELL 'sum', in the pinned program and in every row, IS THE sha256 OF THE DUMP (.gsa) THAT YthkodjkkcgdmfaaGreatProg.lean LOADS. Nothing in Lean hashes anything: it is a label: what it is worth is what the hold of that sum in a sandbox is worth. -/
noncomputable def Tryz.pinned : Pinned := { name := "ythkodjkkcgdmfaagreat", sum := "eed3e230b23312a0f5f51a18737d80d4bfaecd944a94b1d3f0676862e585e331", checked := Tryz.checked }
namespace Rows
def none {H : Type} : Left H := { results := [], args := [] }

/-- 'citadellaw06.HartTraps': WHATEVER THE INPUT: true; the input reads as it did. -/
def hartTrapsSpec : ChangeSpec := { name := "hartTraps", fn := fun _ => fun
  | [d1, d2, d3] => { results := [.lit (.bool true)], args := [d1, d2, d3] }
  | _ => none }
def hartTrapsRow : OpenClaim := { program := "ythkodjkkcgdmfaagreat", sum := "eed3e230b23312a0f5f51a18737d80d4bfaecd944a94b1d3f0676862e585e331", func := "citadel/citadellaw06.HartTraps", spec := "hartTraps", inPlace := ["sync/atomic.LoadUint32", "(*internal/sync.Mutex).Lock", "internal/race.Disable", "sync/atomic.CompareAndSwapInt32", "internal/race.Enable", "internal/race.Acquire", "(*internal/sync.Mutex).lockSlow", "internal/sync.runtime_canSpin", "internal/sync.runtime_doSpin", "internal/sync.throw", "internal/sync.runtime_nanotime", "internal/sync.runtime_SemacquireMutex", "sync/atomic.AddInt32", "(*internal/sync.Mutex).Unlock", "internal/race.ReleaseMerge", "(*internal/sync.Mutex).unlockSlow", "internal/sync.fatal", "internal/sync.runtime_Semrelease", "sync/atomic.StoreUint32"], unfollowed := true, recurses := true, apart := false }
def HartTrapsSaid : Prop := hartTrapsRow.holds Tryz.pinned (OpenSpec.ofChange hartTrapsSpec)

/-- ITS FALSE NEIGHBOUR: 'it returns false'. Refute it at one input. -/
def hartTrapsWrong : ChangeSpec := { name := "hartTraps", fn := fun _ => fun
  | [d1, d2, d3] => { results := [.lit (.bool false)], args := [d1, d2, d3] }
  | _ => none }
def HartTrapsWrongFalsely : Prop := hartTrapsRow.holds Tryz.pinned (OpenSpec.ofChange hartTrapsWrong)

/-- 'citadellaw06.HartCsrs': WHATEVER THE INPUT: true; the input reads as it did. -/
def hartCsrsSpec : ChangeSpec := { name := "hartCsrs", fn := fun _ => fun
  | [d1, d2, d3, d4] => { results := [.lit (.bool true)], args := [d1, d2, d3, d4] }
  | _ => none }
def hartCsrsRow : OpenClaim := { program := "ythkodjkkcgdmfaagreat", sum := "eed3e230b23312a0f5f51a18737d80d4bfaecd944a94b1d3f0676862e585e331", func := "citadel/citadellaw06.HartCsrs", spec := "hartCsrs", inPlace := ["sync/atomic.LoadUint32", "(*internal/sync.Mutex).Lock", "internal/race.Disable", "sync/atomic.CompareAndSwapInt32", "internal/race.Enable", "internal/race.Acquire", "(*internal/sync.Mutex).lockSlow", "internal/sync.runtime_canSpin", "internal/sync.runtime_doSpin", "internal/sync.throw", "internal/sync.runtime_nanotime", "internal/sync.runtime_SemacquireMutex", "sync/atomic.AddInt32", "(*internal/sync.Mutex).Unlock", "internal/race.ReleaseMerge", "(*internal/sync.Mutex).unlockSlow", "internal/sync.fatal", "internal/sync.runtime_Semrelease", "sync/atomic.StoreUint32"], unfollowed := true, recurses := true, apart := false }
def HartCsrsSaid : Prop := hartCsrsRow.holds Tryz.pinned (OpenSpec.ofChange hartCsrsSpec)

/-- ITS FALSE NEIGHBOUR: 'it returns false'. Refute it at one input. -/
def hartCsrsWrong : ChangeSpec := { name := "hartCsrs", fn := fun _ => fun
  | [d1, d2, d3, d4] => { results := [.lit (.bool false)], args := [d1, d2, d3, d4] }
  | _ => none }
def HartCsrsWrongFalsely : Prop := hartCsrsRow.holds Tryz.pinned (OpenSpec.ofChange hartCsrsWrong)

/-- 'citadellaw06.HartResets': WHATEVER THE INPUT: true; the input reads as it did. -/
def hartResetsSpec : ChangeSpec := { name := "hartResets", fn := fun _ => fun
  | [d1, d2, d3] => { results := [.lit (.bool true)], args := [d1, d2, d3] }
  | _ => none }
def hartResetsRow : OpenClaim := { program := "ythkodjkkcgdmfaagreat", sum := "eed3e230b23312a0f5f51a18737d80d4bfaecd944a94b1d3f0676862e585e331", func := "citadel/citadellaw06.HartResets", spec := "hartResets", inPlace := ["sync/atomic.LoadUint32", "(*internal/sync.Mutex).Lock", "internal/race.Disable", "sync/atomic.CompareAndSwapInt32", "internal/race.Enable", "internal/race.Acquire", "(*internal/sync.Mutex).lockSlow", "internal/sync.runtime_canSpin", "internal/sync.runtime_doSpin", "internal/sync.throw", "internal/sync.runtime_nanotime", "internal/sync.runtime_SemacquireMutex", "sync/atomic.AddInt32", "(*internal/sync.Mutex).Unlock", "internal/race.ReleaseMerge", "(*internal/sync.Mutex).unlockSlow", "internal/sync.fatal", "internal/sync.runtime_Semrelease", "sync/atomic.StoreUint32"], unfollowed := true, recurses := true, apart := false }
def HartResetsSaid : Prop := hartResetsRow.holds Tryz.pinned (OpenSpec.ofChange hartResetsSpec)

/-- ITS FALSE NEIGHBOUR: 'it returns false'. Refute it at one input. -/
def hartResetsWrong : ChangeSpec := { name := "hartResets", fn := fun _ => fun
  | [d1, d2, d3] => { results := [.lit (.bool false)], args := [d1, d2, d3] }
  | _ => none }
def HartResetsWrongFalsely : Prop := hartResetsRow.holds Tryz.pinned (OpenSpec.ofChange hartResetsWrong)

/-- 'citadellaw06.HartReturns': WHATEVER THE INPUT: true; the input reads as it did. -/
def hartReturnsSpec : ChangeSpec := { name := "hartReturns", fn := fun _ => fun
  | [d1, d2, d3] => { results := [.lit (.bool true)], args := [d1, d2, d3] }
  | _ => none }
def hartReturnsRow : OpenClaim := { program := "ythkodjkkcgdmfaagreat", sum := "eed3e230b23312a0f5f51a18737d80d4bfaecd944a94b1d3f0676862e585e331", func := "citadel/citadellaw06.HartReturns", spec := "hartReturns", inPlace := ["sync/atomic.LoadUint32", "(*internal/sync.Mutex).Lock", "internal/race.Disable", "sync/atomic.CompareAndSwapInt32", "internal/race.Enable", "internal/race.Acquire", "(*internal/sync.Mutex).lockSlow", "internal/sync.runtime_canSpin", "internal/sync.runtime_doSpin", "internal/sync.throw", "internal/sync.runtime_nanotime", "internal/sync.runtime_SemacquireMutex", "sync/atomic.AddInt32", "(*internal/sync.Mutex).Unlock", "internal/race.ReleaseMerge", "(*internal/sync.Mutex).unlockSlow", "internal/sync.fatal", "internal/sync.runtime_Semrelease", "sync/atomic.StoreUint32"], unfollowed := true, recurses := true, apart := false }
def HartReturnsSaid : Prop := hartReturnsRow.holds Tryz.pinned (OpenSpec.ofChange hartReturnsSpec)

/-- ITS FALSE NEIGHBOUR: 'it returns false'. Refute it at one input. -/
def hartReturnsWrong : ChangeSpec := { name := "hartReturns", fn := fun _ => fun
  | [d1, d2, d3] => { results := [.lit (.bool false)], args := [d1, d2, d3] }
  | _ => none }
def HartReturnsWrongFalsely : Prop := hartReturnsRow.holds Tryz.pinned (OpenSpec.ofChange hartReturnsWrong)

/-- 'citadellaw06.HartLinks': WHATEVER THE INPUT: true; the input reads as it did. -/
def hartLinksSpec : ChangeSpec := { name := "hartLinks", fn := fun _ => fun
  | [d1, d2, d3, d4, d5, d6] => { results := [.lit (.bool true)], args := [d1, d2, d3, d4, d5, d6] }
  | _ => none }
def hartLinksRow : OpenClaim := { program := "ythkodjkkcgdmfaagreat", sum := "eed3e230b23312a0f5f51a18737d80d4bfaecd944a94b1d3f0676862e585e331", func := "citadel/citadellaw06.HartLinks", spec := "hartLinks", inPlace := ["sync/atomic.LoadUint32", "(*internal/sync.Mutex).Lock", "internal/race.Disable", "sync/atomic.CompareAndSwapInt32", "internal/race.Enable", "internal/race.Acquire", "(*internal/sync.Mutex).lockSlow", "internal/sync.runtime_canSpin", "internal/sync.runtime_doSpin", "internal/sync.throw", "internal/sync.runtime_nanotime", "internal/sync.runtime_SemacquireMutex", "sync/atomic.AddInt32", "(*internal/sync.Mutex).Unlock", "internal/race.ReleaseMerge", "(*internal/sync.Mutex).unlockSlow", "internal/sync.fatal", "internal/sync.runtime_Semrelease", "sync/atomic.StoreUint32"], unfollowed := true, recurses := true, apart := false }
def HartLinksSaid : Prop := hartLinksRow.holds Tryz.pinned (OpenSpec.ofChange hartLinksSpec)

/-- ITS FALSE NEIGHBOUR: 'it returns false'. Refute it at one input. -/
def hartLinksWrong : ChangeSpec := { name := "hartLinks", fn := fun _ => fun
  | [d1, d2, d3, d4, d5, d6] => { results := [.lit (.bool false)], args := [d1, d2, d3, d4, d5, d6] }
  | _ => none }
def HartLinksWrongFalsely : Prop := hartLinksRow.holds Tryz.pinned (OpenSpec.ofChange hartLinksWrong)

/-- 'citadellaw06.HartRegisters': WHATEVER THE INPUT: true; the input reads as it did. -/
def hartRegistersSpec : ChangeSpec := { name := "hartRegisters", fn := fun _ => fun
  | [d1, d2, d3, d4, d5] => { results := [.lit (.bool true)], args := [d1, d2, d3, d4, d5] }
  | _ => none }
def hartRegistersRow : OpenClaim := { program := "ythkodjkkcgdmfaagreat", sum := "eed3e230b23312a0f5f51a18737d80d4bfaecd944a94b1d3f0676862e585e331", func := "citadel/citadellaw06.HartRegisters", spec := "hartRegisters", inPlace := ["sync/atomic.LoadUint32", "(*internal/sync.Mutex).Lock", "internal/race.Disable", "sync/atomic.CompareAndSwapInt32", "internal/race.Enable", "internal/race.Acquire", "(*internal/sync.Mutex).lockSlow", "internal/sync.runtime_canSpin", "internal/sync.runtime_doSpin", "internal/sync.throw", "internal/sync.runtime_nanotime", "internal/sync.runtime_SemacquireMutex", "sync/atomic.AddInt32", "(*internal/sync.Mutex).Unlock", "internal/race.ReleaseMerge", "(*internal/sync.Mutex).unlockSlow", "internal/sync.fatal", "internal/sync.runtime_Semrelease", "sync/atomic.StoreUint32"], unfollowed := true, recurses := true, apart := false }
def HartRegistersSaid : Prop := hartRegistersRow.holds Tryz.pinned (OpenSpec.ofChange hartRegistersSpec)

/-- ITS FALSE NEIGHBOUR: 'it returns false'. Refute it at one input. -/
def hartRegistersWrong : ChangeSpec := { name := "hartRegisters", fn := fun _ => fun
  | [d1, d2, d3, d4, d5] => { results := [.lit (.bool false)], args := [d1, d2, d3, d4, d5] }
  | _ => none }
def HartRegistersWrongFalsely : Prop := hartRegistersRow.holds Tryz.pinned (OpenSpec.ofChange hartRegistersWrong)

/-- 'citadellaw06.HartMemory': WHATEVER THE INPUT: true; the input reads as it did. -/
def hartMemorySpec : ChangeSpec := { name := "hartMemory", fn := fun _ => fun
  | [d1, d2, d3, d4, d5] => { results := [.lit (.bool true)], args := [d1, d2, d3, d4, d5] }
  | _ => none }
def hartMemoryRow : OpenClaim := { program := "ythkodjkkcgdmfaagreat", sum := "eed3e230b23312a0f5f51a18737d80d4bfaecd944a94b1d3f0676862e585e331", func := "citadel/citadellaw06.HartMemory", spec := "hartMemory", inPlace := ["sync/atomic.LoadUint32", "(*internal/sync.Mutex).Lock", "internal/race.Disable", "sync/atomic.CompareAndSwapInt32", "internal/race.Enable", "internal/race.Acquire", "(*internal/sync.Mutex).lockSlow", "internal/sync.runtime_canSpin", "internal/sync.runtime_doSpin", "internal/sync.throw", "internal/sync.runtime_nanotime", "internal/sync.runtime_SemacquireMutex", "sync/atomic.AddInt32", "(*internal/sync.Mutex).Unlock", "internal/race.ReleaseMerge", "(*internal/sync.Mutex).unlockSlow", "internal/sync.fatal", "internal/sync.runtime_Semrelease", "sync/atomic.StoreUint32"], unfollowed := true, recurses := true, apart := false }
def HartMemorySaid : Prop := hartMemoryRow.holds Tryz.pinned (OpenSpec.ofChange hartMemorySpec)

/-- ITS FALSE NEIGHBOUR: 'it returns false'. Refute it at one input. -/
def hartMemoryWrong : ChangeSpec := { name := "hartMemory", fn := fun _ => fun
  | [d1, d2, d3, d4, d5] => { results := [.lit (.bool false)], args := [d1, d2, d3, d4, d5] }
  | _ => none }
def HartMemoryWrongFalsely : Prop := hartMemoryRow.holds Tryz.pinned (OpenSpec.ofChange hartMemoryWrong)

/-- 'citadellaw06.HartMisaligned': WHATEVER THE INPUT: true; the input reads as it did. -/
def hartMisalignedSpec : ChangeSpec := { name := "hartMisaligned", fn := fun _ => fun
  | [d1, d2, d3, d4] => { results := [.lit (.bool true)], args := [d1, d2, d3, d4] }
  | _ => none }
def hartMisalignedRow : OpenClaim := { program := "ythkodjkkcgdmfaagreat", sum := "eed3e230b23312a0f5f51a18737d80d4bfaecd944a94b1d3f0676862e585e331", func := "citadel/citadellaw06.HartMisaligned", spec := "hartMisaligned", inPlace := ["sync/atomic.LoadUint32", "(*internal/sync.Mutex).Lock", "internal/race.Disable", "sync/atomic.CompareAndSwapInt32", "internal/race.Enable", "internal/race.Acquire", "(*internal/sync.Mutex).lockSlow", "internal/sync.runtime_canSpin", "internal/sync.runtime_doSpin", "internal/sync.throw", "internal/sync.runtime_nanotime", "internal/sync.runtime_SemacquireMutex", "sync/atomic.AddInt32", "(*internal/sync.Mutex).Unlock", "internal/race.ReleaseMerge", "(*internal/sync.Mutex).unlockSlow", "internal/sync.fatal", "internal/sync.runtime_Semrelease", "sync/atomic.StoreUint32"], unfollowed := true, recurses := true, apart := false }
def HartMisalignedSaid : Prop := hartMisalignedRow.holds Tryz.pinned (OpenSpec.ofChange hartMisalignedSpec)

/-- ITS FALSE NEIGHBOUR: 'it returns false'. Refute it at one input. -/
def hartMisalignedWrong : ChangeSpec := { name := "hartMisaligned", fn := fun _ => fun
  | [d1, d2, d3, d4] => { results := [.lit (.bool false)], args := [d1, d2, d3, d4] }
  | _ => none }
def HartMisalignedWrongFalsely : Prop := hartMisalignedRow.holds Tryz.pinned (OpenSpec.ofChange hartMisalignedWrong)

/-- 'citadellaw06.HartReserves': WHATEVER THE INPUT: true; the input reads as it did. -/
def hartReservesSpec : ChangeSpec := { name := "hartReserves", fn := fun _ => fun
  | [d1, d2, d3, d4, d5] => { results := [.lit (.bool true)], args := [d1, d2, d3, d4, d5] }
  | _ => none }
def hartReservesRow : OpenClaim := { program := "ythkodjkkcgdmfaagreat", sum := "eed3e230b23312a0f5f51a18737d80d4bfaecd944a94b1d3f0676862e585e331", func := "citadel/citadellaw06.HartReserves", spec := "hartReserves", inPlace := ["sync/atomic.LoadUint32", "(*internal/sync.Mutex).Lock", "internal/race.Disable", "sync/atomic.CompareAndSwapInt32", "internal/race.Enable", "internal/race.Acquire", "(*internal/sync.Mutex).lockSlow", "internal/sync.runtime_canSpin", "internal/sync.runtime_doSpin", "internal/sync.throw", "internal/sync.runtime_nanotime", "internal/sync.runtime_SemacquireMutex", "sync/atomic.AddInt32", "(*internal/sync.Mutex).Unlock", "internal/race.ReleaseMerge", "(*internal/sync.Mutex).unlockSlow", "internal/sync.fatal", "internal/sync.runtime_Semrelease", "sync/atomic.StoreUint32"], unfollowed := true, recurses := true, apart := false }
def HartReservesSaid : Prop := hartReservesRow.holds Tryz.pinned (OpenSpec.ofChange hartReservesSpec)

/-- ITS FALSE NEIGHBOUR: 'it returns false'. Refute it at one input. -/
def hartReservesWrong : ChangeSpec := { name := "hartReserves", fn := fun _ => fun
  | [d1, d2, d3, d4, d5] => { results := [.lit (.bool false)], args := [d1, d2, d3, d4, d5] }
  | _ => none }
def HartReservesWrongFalsely : Prop := hartReservesRow.holds Tryz.pinned (OpenSpec.ofChange hartReservesWrong)

/-- 'citadellaw06.HartUsers': WHATEVER THE INPUT: true; the input reads as it did. -/
def hartUsersSpec : ChangeSpec := { name := "hartUsers", fn := fun _ => fun
  | [d1, d2, d3, d4, d5] => { results := [.lit (.bool true)], args := [d1, d2, d3, d4, d5] }
  | _ => none }
def hartUsersRow : OpenClaim := { program := "ythkodjkkcgdmfaagreat", sum := "eed3e230b23312a0f5f51a18737d80d4bfaecd944a94b1d3f0676862e585e331", func := "citadel/citadellaw06.HartUsers", spec := "hartUsers", inPlace := ["sync/atomic.LoadUint32", "(*internal/sync.Mutex).Lock", "internal/race.Disable", "sync/atomic.CompareAndSwapInt32", "internal/race.Enable", "internal/race.Acquire", "(*internal/sync.Mutex).lockSlow", "internal/sync.runtime_canSpin", "internal/sync.runtime_doSpin", "internal/sync.throw", "internal/sync.runtime_nanotime", "internal/sync.runtime_SemacquireMutex", "sync/atomic.AddInt32", "(*internal/sync.Mutex).Unlock", "internal/race.ReleaseMerge", "(*internal/sync.Mutex).unlockSlow", "internal/sync.fatal", "internal/sync.runtime_Semrelease", "sync/atomic.StoreUint32"], unfollowed := true, recurses := true, apart := false }
def HartUsersSaid : Prop := hartUsersRow.holds Tryz.pinned (OpenSpec.ofChange hartUsersSpec)

/-- ITS FALSE NEIGHBOUR: 'it returns false'. Refute it at one input. -/
def hartUsersWrong : ChangeSpec := { name := "hartUsers", fn := fun _ => fun
  | [d1, d2, d3, d4, d5] => { results := [.lit (.bool false)], args := [d1, d2, d3, d4, d5] }
  | _ => none }
def HartUsersWrongFalsely : Prop := hartUsersRow.holds Tryz.pinned (OpenSpec.ofChange hartUsersWrong)

/- THE SECOND FORM. 'bulk': how many values and letters a reading holds, each counted each time it is reached (what is shared counts as often as it is met; a slice's spare places count too). A statement '..UptoSaid' is the law's where the arguments, and the package variables that the reading takes, are together of bulk at most 1048576: NARROWER than '..Said'. Prove '..Said' where nothing that the law and all that it calls make is longer than what came in: it says more and counts as full. Else prove '..UptoSaid'. A law counts once. -/
mutual
def uptoBulk {H : Type} : DataW H → Nat
  | .lit (.string bytes) => bytes.length + 1
  | .lit _ => 1
  | .nil => 1
  | .ptr d => uptoBulk d + 1
  | .slice elems spare => uptoBulkAll elems + uptoBulkAll spare + 1
  | .agg parts => uptoBulkAll parts + 1
  | .iface _ d => uptoBulk d + 1
  | .map entries => uptoBulkEntries entries + 1
  | .held _ => 1
def uptoBulkAll {H : Type} : List (DataW H) → Nat
  | [] => 0
  | d :: r => uptoBulk d + uptoBulkAll r
def uptoBulkEntries {H : Type} : List (Lit × DataW H) → Nat
  | [] => 0
  | x :: r => uptoBulkEntry x + uptoBulkEntries r
def uptoBulkEntry {H : Type} : Lit × DataW H → Nat
  | (.string bytes, d) => bytes.length + uptoBulk d + 1
  | (_, d) => uptoBulk d + 1
 end
def uptoSmall : (H : Type) → List (DataW H) → Bool := fun _ ds => decide (uptoBulkAll ds ≤ 1048576)
def OpenSpec.upto (s : _root_.Go.ChangeSpec) : _root_.Go.OpenSpec := { _root_.Go.OpenSpec.ofChange s with cond := some uptoSmall }

/-- 'citadellaw06.HartTraps', WHERE WHAT IT READS IS OF BULK AT MOST 1048576: true; the input reads as it did. -/
def hartTrapsUptoRow : OpenClaim := { program := "ythkodjkkcgdmfaagreat", sum := "eed3e230b23312a0f5f51a18737d80d4bfaecd944a94b1d3f0676862e585e331", func := "citadel/citadellaw06.HartTraps", spec := "hartTraps", inPlace := ["sync/atomic.LoadUint32", "(*internal/sync.Mutex).Lock", "internal/race.Disable", "sync/atomic.CompareAndSwapInt32", "internal/race.Enable", "internal/race.Acquire", "(*internal/sync.Mutex).lockSlow", "internal/sync.runtime_canSpin", "internal/sync.runtime_doSpin", "internal/sync.throw", "internal/sync.runtime_nanotime", "internal/sync.runtime_SemacquireMutex", "sync/atomic.AddInt32", "(*internal/sync.Mutex).Unlock", "internal/race.ReleaseMerge", "(*internal/sync.Mutex).unlockSlow", "internal/sync.fatal", "internal/sync.runtime_Semrelease", "sync/atomic.StoreUint32"], unfollowed := true, recurses := true, apart := false, narrowed := true }
def HartTrapsUptoSaid : Prop := hartTrapsUptoRow.holds Tryz.pinned (OpenSpec.upto hartTrapsSpec)

/-- 'citadellaw06.HartCsrs', WHERE WHAT IT READS IS OF BULK AT MOST 1048576: true; the input reads as it did. -/
def hartCsrsUptoRow : OpenClaim := { program := "ythkodjkkcgdmfaagreat", sum := "eed3e230b23312a0f5f51a18737d80d4bfaecd944a94b1d3f0676862e585e331", func := "citadel/citadellaw06.HartCsrs", spec := "hartCsrs", inPlace := ["sync/atomic.LoadUint32", "(*internal/sync.Mutex).Lock", "internal/race.Disable", "sync/atomic.CompareAndSwapInt32", "internal/race.Enable", "internal/race.Acquire", "(*internal/sync.Mutex).lockSlow", "internal/sync.runtime_canSpin", "internal/sync.runtime_doSpin", "internal/sync.throw", "internal/sync.runtime_nanotime", "internal/sync.runtime_SemacquireMutex", "sync/atomic.AddInt32", "(*internal/sync.Mutex).Unlock", "internal/race.ReleaseMerge", "(*internal/sync.Mutex).unlockSlow", "internal/sync.fatal", "internal/sync.runtime_Semrelease", "sync/atomic.StoreUint32"], unfollowed := true, recurses := true, apart := false, narrowed := true }
def HartCsrsUptoSaid : Prop := hartCsrsUptoRow.holds Tryz.pinned (OpenSpec.upto hartCsrsSpec)

/-- 'citadellaw06.HartResets', WHERE WHAT IT READS IS OF BULK AT MOST 1048576: true; the input reads as it did. -/
def hartResetsUptoRow : OpenClaim := { program := "ythkodjkkcgdmfaagreat", sum := "eed3e230b23312a0f5f51a18737d80d4bfaecd944a94b1d3f0676862e585e331", func := "citadel/citadellaw06.HartResets", spec := "hartResets", inPlace := ["sync/atomic.LoadUint32", "(*internal/sync.Mutex).Lock", "internal/race.Disable", "sync/atomic.CompareAndSwapInt32", "internal/race.Enable", "internal/race.Acquire", "(*internal/sync.Mutex).lockSlow", "internal/sync.runtime_canSpin", "internal/sync.runtime_doSpin", "internal/sync.throw", "internal/sync.runtime_nanotime", "internal/sync.runtime_SemacquireMutex", "sync/atomic.AddInt32", "(*internal/sync.Mutex).Unlock", "internal/race.ReleaseMerge", "(*internal/sync.Mutex).unlockSlow", "internal/sync.fatal", "internal/sync.runtime_Semrelease", "sync/atomic.StoreUint32"], unfollowed := true, recurses := true, apart := false, narrowed := true }
def HartResetsUptoSaid : Prop := hartResetsUptoRow.holds Tryz.pinned (OpenSpec.upto hartResetsSpec)

/-- 'citadellaw06.HartReturns', WHERE WHAT IT READS IS OF BULK AT MOST 1048576: true; the input reads as it did. -/
def hartReturnsUptoRow : OpenClaim := { program := "ythkodjkkcgdmfaagreat", sum := "eed3e230b23312a0f5f51a18737d80d4bfaecd944a94b1d3f0676862e585e331", func := "citadel/citadellaw06.HartReturns", spec := "hartReturns", inPlace := ["sync/atomic.LoadUint32", "(*internal/sync.Mutex).Lock", "internal/race.Disable", "sync/atomic.CompareAndSwapInt32", "internal/race.Enable", "internal/race.Acquire", "(*internal/sync.Mutex).lockSlow", "internal/sync.runtime_canSpin", "internal/sync.runtime_doSpin", "internal/sync.throw", "internal/sync.runtime_nanotime", "internal/sync.runtime_SemacquireMutex", "sync/atomic.AddInt32", "(*internal/sync.Mutex).Unlock", "internal/race.ReleaseMerge", "(*internal/sync.Mutex).unlockSlow", "internal/sync.fatal", "internal/sync.runtime_Semrelease", "sync/atomic.StoreUint32"], unfollowed := true, recurses := true, apart := false, narrowed := true }
def HartReturnsUptoSaid : Prop := hartReturnsUptoRow.holds Tryz.pinned (OpenSpec.upto hartReturnsSpec)

/-- 'citadellaw06.HartLinks', WHERE WHAT IT READS IS OF BULK AT MOST 1048576: true; the input reads as it did. -/
def hartLinksUptoRow : OpenClaim := { program := "ythkodjkkcgdmfaagreat", sum := "eed3e230b23312a0f5f51a18737d80d4bfaecd944a94b1d3f0676862e585e331", func := "citadel/citadellaw06.HartLinks", spec := "hartLinks", inPlace := ["sync/atomic.LoadUint32", "(*internal/sync.Mutex).Lock", "internal/race.Disable", "sync/atomic.CompareAndSwapInt32", "internal/race.Enable", "internal/race.Acquire", "(*internal/sync.Mutex).lockSlow", "internal/sync.runtime_canSpin", "internal/sync.runtime_doSpin", "internal/sync.throw", "internal/sync.runtime_nanotime", "internal/sync.runtime_SemacquireMutex", "sync/atomic.AddInt32", "(*internal/sync.Mutex).Unlock", "internal/race.ReleaseMerge", "(*internal/sync.Mutex).unlockSlow", "internal/sync.fatal", "internal/sync.runtime_Semrelease", "sync/atomic.StoreUint32"], unfollowed := true, recurses := true, apart := false, narrowed := true }
def HartLinksUptoSaid : Prop := hartLinksUptoRow.holds Tryz.pinned (OpenSpec.upto hartLinksSpec)

/-- 'citadellaw06.HartRegisters', WHERE WHAT IT READS IS OF BULK AT MOST 1048576: true; the input reads as it did. -/
def hartRegistersUptoRow : OpenClaim := { program := "ythkodjkkcgdmfaagreat", sum := "eed3e230b23312a0f5f51a18737d80d4bfaecd944a94b1d3f0676862e585e331", func := "citadel/citadellaw06.HartRegisters", spec := "hartRegisters", inPlace := ["sync/atomic.LoadUint32", "(*internal/sync.Mutex).Lock", "internal/race.Disable", "sync/atomic.CompareAndSwapInt32", "internal/race.Enable", "internal/race.Acquire", "(*internal/sync.Mutex).lockSlow", "internal/sync.runtime_canSpin", "internal/sync.runtime_doSpin", "internal/sync.throw", "internal/sync.runtime_nanotime", "internal/sync.runtime_SemacquireMutex", "sync/atomic.AddInt32", "(*internal/sync.Mutex).Unlock", "internal/race.ReleaseMerge", "(*internal/sync.Mutex).unlockSlow", "internal/sync.fatal", "internal/sync.runtime_Semrelease", "sync/atomic.StoreUint32"], unfollowed := true, recurses := true, apart := false, narrowed := true }
def HartRegistersUptoSaid : Prop := hartRegistersUptoRow.holds Tryz.pinned (OpenSpec.upto hartRegistersSpec)

/-- 'citadellaw06.HartMemory', WHERE WHAT IT READS IS OF BULK AT MOST 1048576: true; the input reads as it did. -/
def hartMemoryUptoRow : OpenClaim := { program := "ythkodjkkcgdmfaagreat", sum := "eed3e230b23312a0f5f51a18737d80d4bfaecd944a94b1d3f0676862e585e331", func := "citadel/citadellaw06.HartMemory", spec := "hartMemory", inPlace := ["sync/atomic.LoadUint32", "(*internal/sync.Mutex).Lock", "internal/race.Disable", "sync/atomic.CompareAndSwapInt32", "internal/race.Enable", "internal/race.Acquire", "(*internal/sync.Mutex).lockSlow", "internal/sync.runtime_canSpin", "internal/sync.runtime_doSpin", "internal/sync.throw", "internal/sync.runtime_nanotime", "internal/sync.runtime_SemacquireMutex", "sync/atomic.AddInt32", "(*internal/sync.Mutex).Unlock", "internal/race.ReleaseMerge", "(*internal/sync.Mutex).unlockSlow", "internal/sync.fatal", "internal/sync.runtime_Semrelease", "sync/atomic.StoreUint32"], unfollowed := true, recurses := true, apart := false, narrowed := true }
def HartMemoryUptoSaid : Prop := hartMemoryUptoRow.holds Tryz.pinned (OpenSpec.upto hartMemorySpec)

/-- 'citadellaw06.HartMisaligned', WHERE WHAT IT READS IS OF BULK AT MOST 1048576: true; the input reads as it did. -/
def hartMisalignedUptoRow : OpenClaim := { program := "ythkodjkkcgdmfaagreat", sum := "eed3e230b23312a0f5f51a18737d80d4bfaecd944a94b1d3f0676862e585e331", func := "citadel/citadellaw06.HartMisaligned", spec := "hartMisaligned", inPlace := ["sync/atomic.LoadUint32", "(*internal/sync.Mutex).Lock", "internal/race.Disable", "sync/atomic.CompareAndSwapInt32", "internal/race.Enable", "internal/race.Acquire", "(*internal/sync.Mutex).lockSlow", "internal/sync.runtime_canSpin", "internal/sync.runtime_doSpin", "internal/sync.throw", "internal/sync.runtime_nanotime", "internal/sync.runtime_SemacquireMutex", "sync/atomic.AddInt32", "(*internal/sync.Mutex).Unlock", "internal/race.ReleaseMerge", "(*internal/sync.Mutex).unlockSlow", "internal/sync.fatal", "internal/sync.runtime_Semrelease", "sync/atomic.StoreUint32"], unfollowed := true, recurses := true, apart := false, narrowed := true }
def HartMisalignedUptoSaid : Prop := hartMisalignedUptoRow.holds Tryz.pinned (OpenSpec.upto hartMisalignedSpec)

/-- 'citadellaw06.HartReserves', WHERE WHAT IT READS IS OF BULK AT MOST 1048576: true; the input reads as it did. -/
def hartReservesUptoRow : OpenClaim := { program := "ythkodjkkcgdmfaagreat", sum := "eed3e230b23312a0f5f51a18737d80d4bfaecd944a94b1d3f0676862e585e331", func := "citadel/citadellaw06.HartReserves", spec := "hartReserves", inPlace := ["sync/atomic.LoadUint32", "(*internal/sync.Mutex).Lock", "internal/race.Disable", "sync/atomic.CompareAndSwapInt32", "internal/race.Enable", "internal/race.Acquire", "(*internal/sync.Mutex).lockSlow", "internal/sync.runtime_canSpin", "internal/sync.runtime_doSpin", "internal/sync.throw", "internal/sync.runtime_nanotime", "internal/sync.runtime_SemacquireMutex", "sync/atomic.AddInt32", "(*internal/sync.Mutex).Unlock", "internal/race.ReleaseMerge", "(*internal/sync.Mutex).unlockSlow", "internal/sync.fatal", "internal/sync.runtime_Semrelease", "sync/atomic.StoreUint32"], unfollowed := true, recurses := true, apart := false, narrowed := true }
def HartReservesUptoSaid : Prop := hartReservesUptoRow.holds Tryz.pinned (OpenSpec.upto hartReservesSpec)

/-- 'citadellaw06.HartUsers', WHERE WHAT IT READS IS OF BULK AT MOST 1048576: true; the input reads as it did. -/
def hartUsersUptoRow : OpenClaim := { program := "ythkodjkkcgdmfaagreat", sum := "eed3e230b23312a0f5f51a18737d80d4bfaecd944a94b1d3f0676862e585e331", func := "citadel/citadellaw06.HartUsers", spec := "hartUsers", inPlace := ["sync/atomic.LoadUint32", "(*internal/sync.Mutex).Lock", "internal/race.Disable", "sync/atomic.CompareAndSwapInt32", "internal/race.Enable", "internal/race.Acquire", "(*internal/sync.Mutex).lockSlow", "internal/sync.runtime_canSpin", "internal/sync.runtime_doSpin", "internal/sync.throw", "internal/sync.runtime_nanotime", "internal/sync.runtime_SemacquireMutex", "sync/atomic.AddInt32", "(*internal/sync.Mutex).Unlock", "internal/race.ReleaseMerge", "(*internal/sync.Mutex).unlockSlow", "internal/sync.fatal", "internal/sync.runtime_Semrelease", "sync/atomic.StoreUint32"], unfollowed := true, recurses := true, apart := false, narrowed := true }
def HartUsersUptoSaid : Prop := hartUsersUptoRow.holds Tryz.pinned (OpenSpec.upto hartUsersSpec)

end Rows
end Go.Proofs.YthkodjkkcgdmfaaGreat
