/- What lets an access at the first stage, of the program and of the document; at the second, of the document. -/
import Derived.Test.YtfoocpcpljlndaaPageB
namespace Go.Proofs.Ytfoocpcpljlndaa.Tab
open Go Go.RowKit Go.Proofs.Ytfoocpcpljlndaa.Step Go.Proofs.Ytfoocpcpljlndaa.Mem
set_option linter.unusedVariables false
set_option linter.unusedSimpArgs false
set_option maxRecDepth 100000

theorem has_b {W : World} {g : Nat} {leaf : Int} (c1 : W.cell? ⟨g, 1, none⟩ = some (.int .u64 leaf)) (h : U64 leaf) (z : Int) (c : Nat) (hz : z = c) (hc : c < 256) {b : Bool} (hb : hasN leaf c = b) :
    Calls Try.prog 43 #[.pointer (some ⟨g, 0, none⟩), .int .u64 z] W fun x w' => x = .returned (.bool b) ∧ W = w' := hb ▸ has_z c1 h z c hz hc

set_option maxHeartbeats 4000000 in
theorem lets1_any {W : World} {g : Nat} {leaf : Int} {user sum mxr : Bool} (c1 : W.cell? ⟨g, 1, none⟩ = some (.int .u64 leaf)) (c5 : W.cell? ⟨g, 5, none⟩ = some (.bool user)) (c6 : W.cell? ⟨g, 6, none⟩ = some (.bool sum)) (c7 : W.cell? ⟨g, 7, none⟩ = some (.bool mxr)) (h : U64 leaf) (a : Int) :
    Calls Try.prog 51 #[.pointer (some ⟨g, 0, none⟩), .int .i64 a] W fun x w' => x = .returned (.bool (lets1 user sum mxr leaf a)) ∧ W = w' := by
  have T1 := Lib.hid (has_b c1 h 16 16 rfl (by decide) (has16 leaf))
  have T2 := Lib.hid (has_b c1 h 64 64 rfl (by decide) (has64 leaf))
  have T3 := Lib.hid (has_b c1 h 8 8 rfl (by decide) (has8 leaf))
  have T4 := Lib.hid (has_b c1 h 2 2 rfl (by decide) (has2 leaf))
  have T5 := Lib.hid (has_b c1 h 132 132 rfl (by decide) (has132 leaf))
  have E : lets1 user sum mxr leaf a = (!((user && !bt leaf 4) || (!user && bt leaf 4 && (decide (a = 1) || !sum))) && bt leaf 6 && (if a = 1 then bt leaf 3 else if a = 2 then bt leaf 1 || (mxr && bt leaf 3) else if a = 3 then bt leaf 2 && bt leaf 7 else false)) := rfl
  generalize lets1 user sum mxr leaf a = res at E
  generalize bt leaf 4 = b4 at T1 E
  generalize bt leaf 6 = b6 at T2 E
  generalize bt leaf 3 = b3 at T3 E
  generalize bt leaf 1 = b1 at T4 E
  generalize (bt leaf 2 && bt leaf 7) = b27 at T5 E
  clear c1 h
  by_cases a1 : a = 1
  · subst a1
    have EE := Lib.hid E
    clear E T4 T5
    cases user <;> cases b4 <;> cases sum <;> cases b6 <;> (
      go_enter Try.func51, Try.ntmps51
      go_wp2_with (go_at_call 43; (first
        | ((with_reducible refine (T1.out).mono ?_); rintro e w1 ⟨rfl, rfl⟩)
        | ((with_reducible refine (T2.out).mono ?_); rintro e w1 ⟨rfl, rfl⟩)
        | ((with_reducible refine (T3.out).mono ?_); rintro e w1 ⟨rfl, rfl⟩)))
      go_ret
      exact ⟨by rw [EE.out]; rfl, rfl⟩)
  by_cases a2 : a = 2
  · subst a2
    have EE := Lib.hid E
    clear E T5 a1
    cases user <;> cases b4 <;> cases sum <;> cases b6 <;> cases b1 <;> cases mxr <;> (
      go_enter Try.func51, Try.ntmps51
      go_wp2_with (go_at_call 43; (first
        | ((with_reducible refine (T1.out).mono ?_); rintro e w1 ⟨rfl, rfl⟩)
        | ((with_reducible refine (T2.out).mono ?_); rintro e w1 ⟨rfl, rfl⟩)
        | ((with_reducible refine (T3.out).mono ?_); rintro e w1 ⟨rfl, rfl⟩)
        | ((with_reducible refine (T4.out).mono ?_); rintro e w1 ⟨rfl, rfl⟩)))
      go_ret
      exact ⟨by rw [EE.out]; rfl, rfl⟩)
  by_cases a3 : a = 3
  · subst a3
    have EE := Lib.hid E
    clear E T3 T4 a1 a2
    cases user <;> cases b4 <;> cases sum <;> cases b6 <;> (
      go_enter Try.func51, Try.ntmps51
      go_wp2_with (go_at_call 43; (first
        | ((with_reducible refine (T1.out).mono ?_); rintro e w1 ⟨rfl, rfl⟩)
        | ((with_reducible refine (T2.out).mono ?_); rintro e w1 ⟨rfl, rfl⟩)
        | ((with_reducible refine (T5.out).mono ?_); rintro e w1 ⟨rfl, rfl⟩)))
      go_ret
      exact ⟨by rw [EE.out]; rfl, rfl⟩)
  have d1 : (a == 1) = false := by simpa using a1
  have d2 : (a == 2) = false := by simpa using a2
  have d3 : (a == 3) = false := by simpa using a3
  rw [if_neg a1, if_neg a2, if_neg a3, Bool.and_false] at E
  have EE := Lib.hid E
  clear E a1 a2 a3 T3 T4 T5
  cases user <;> cases b4 <;> cases sum <;> cases b6 <;> (
    go_enter Try.func51, Try.ntmps51
    go_wp2_with (go_at_call 43; (first
      | ((with_reducible refine (T1.out).mono ?_); rintro e w1 ⟨rfl, rfl⟩)
      | ((with_reducible refine (T2.out).mono ?_); rintro e w1 ⟨rfl, rfl⟩)))
    go_ret
    exact ⟨by rw [EE.out]; rfl, rfl⟩)

set_option maxHeartbeats 1000000 in
theorem rlets_any {leaf : Int} (h : U64 leaf) (a : Int) (W : World) :
    Calls Try.prog 29 #[.int .u64 leaf, .int .i64 a] W fun x w' => x = .returned (.bool (lets2 leaf a)) ∧ W = w' := by
  have T1 := ce16 h
  have T2 := ce64 h
  have T3 := cn8 h
  have T4 := cn2 h
  have T5 := cn4 h
  have T6 := cn128 h
  have E : lets2 leaf a = (bt leaf 4 && bt leaf 6 && (if a = 1 then bt leaf 3 else if a = 2 then bt leaf 1 else if a = 3 then bt leaf 2 && bt leaf 7 else false)) := rfl
  generalize lets2 leaf a = res at E
  generalize bt leaf 4 = b4 at T1 E
  generalize bt leaf 6 = b6 at T2 E
  generalize bt leaf 3 = b3 at T3 E
  generalize bt leaf 1 = b1 at T4 E
  generalize bt leaf 2 = b2 at T5 E
  generalize bt leaf 7 = b7 at T6 E
  clear h
  by_cases a1 : a = 1
  · subst a1
    have EE := Lib.hid E
    clear E
    cases b4 <;> cases b6 <;> (simp only [Bool.not_true, Bool.not_false] at T1 T2; go_enter Try.func29, Try.ntmps29; go_wp2; go_ret; exact ⟨by rw [EE.out]; rfl, rfl⟩)
  by_cases a2 : a = 2
  · subst a2
    have EE := Lib.hid E
    clear E a1
    cases b4 <;> cases b6 <;> (simp only [Bool.not_true, Bool.not_false] at T1 T2; go_enter Try.func29, Try.ntmps29; go_wp2; go_ret; exact ⟨by rw [EE.out]; rfl, rfl⟩)
  by_cases a3 : a = 3
  · subst a3
    have EE := Lib.hid E
    clear E a1 a2
    cases b4 <;> cases b6 <;> cases b2 <;> (simp only [Bool.not_true, Bool.not_false] at T1 T2; go_enter Try.func29, Try.ntmps29; go_wp2; go_ret; exact ⟨by rw [EE.out]; rfl, rfl⟩)
  have d1 : (a == 1) = false := by simpa using a1
  have d2 : (a == 2) = false := by simpa using a2
  have d3 : (a == 3) = false := by simpa using a3
  rw [if_neg a1, if_neg a2, if_neg a3, Bool.and_false] at E
  have EE := Lib.hid E
  clear E a1 a2 a3
  cases b4 <;> cases b6 <;> (simp only [Bool.not_true, Bool.not_false] at T1 T2; go_enter Try.func29, Try.ntmps29; go_wp2; go_ret; exact ⟨by rw [EE.out]; rfl, rfl⟩)
end Go.Proofs.Ytfoocpcpljlndaa.Tab
