/- What lets an access at the first stage, of the document. -/
import Derived.Test.YtfoocpcpljlndaaPageB
namespace Go.Proofs.Ytfoocpcpljlndaa.Tab
open Go Go.RowKit Go.Proofs.Ytfoocpcpljlndaa.Step Go.Proofs.Ytfoocpcpljlndaa.Mem
set_option linter.unusedVariables false
set_option linter.unusedSimpArgs false
set_option maxRecDepth 100000

set_option maxHeartbeats 4000000 in
theorem rfirst_any {leaf : Int} (h : U64 leaf) (satp root : Value) (user sum mxr : Bool) (a : Int) (W : World) :
    Calls Try.prog 54 #[.int .u64 leaf, .agg #[satp, root, .bool user, .bool sum, .bool mxr], .int .i64 a] W fun x w' => x = .returned (.bool (lets1 user sum mxr leaf a)) ∧ Below W.heap.size W w' := by
  have T1 := cn16 h
  have T2 := cn64 h
  have T3 := cn8 h
  have T4 := cn2 h
  have T5 := cn4 h
  have T6 := cn128 h
  have hu := Try.underlying25
  have E : lets1 user sum mxr leaf a = (!((user && !bt leaf 4) || (!user && bt leaf 4 && (decide (a = 1) || !sum))) && bt leaf 6 && (if a = 1 then bt leaf 3 else if a = 2 then bt leaf 1 || (mxr && bt leaf 3) else if a = 3 then bt leaf 2 && bt leaf 7 else false)) := rfl
  generalize lets1 user sum mxr leaf a = res at E
  generalize bt leaf 4 = b4 at T1 E
  generalize bt leaf 6 = b6 at T2 E
  generalize bt leaf 3 = b3 at T3 E
  generalize bt leaf 1 = b1 at T4 E
  generalize bt leaf 2 = b2 at T5 E
  generalize bt leaf 7 = b7 at T6 E
  clear h
  by_cases a1 : a = 1
  · subst a1
    have EE := Lib.hid E
    clear E T4 T5 T6
    cases user <;> cases b4 <;> cases sum <;> cases b3 <;> (go_enter Try.func54, Try.ntmps54; go_wp2; go_ret; exact ⟨by rw [EE.out]; first | rfl | (cases b6 <;> rfl), alloc_below _ _⟩)
  by_cases a2 : a = 2
  · subst a2
    have EE := Lib.hid E
    clear E a1 T5 T6
    cases user <;> cases b4 <;> cases sum <;> cases b1 <;> cases mxr <;> cases b3 <;> (go_enter Try.func54, Try.ntmps54; go_wp2; go_ret; exact ⟨by rw [EE.out]; first | rfl | (cases b6 <;> rfl), alloc_below _ _⟩)
  by_cases a3 : a = 3
  · subst a3
    have EE := Lib.hid E
    clear E a1 a2 T3 T4
    cases user <;> cases b4 <;> cases sum <;> cases b2 <;> cases b7 <;> (go_enter Try.func54, Try.ntmps54; go_wp2; go_ret; exact ⟨by rw [EE.out]; first | rfl | (cases b6 <;> rfl), alloc_below _ _⟩)
  have d1 : (a == 1) = false := by simpa using a1
  have d2 : (a == 2) = false := by simpa using a2
  have d3 : (a == 3) = false := by simpa using a3
  rw [if_neg a1, if_neg a2, if_neg a3, Bool.and_false] at E
  have EE := Lib.hid E
  clear E a1 a2 a3 T3 T4 T5 T6
  cases user <;> cases b4 <;> cases sum <;> (go_enter Try.func54, Try.ntmps54; go_wp2; go_ret; exact ⟨by rw [EE.out]; first | rfl | (cases b6 <;> rfl), alloc_below _ _⟩)
end Go.Proofs.Ytfoocpcpljlndaa.Tab
