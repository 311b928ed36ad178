/- What lets an access: both stages', of the program and of the document; the document's little functions. -/
import Derived.Test.YtfoocpcpljlndaaPageA
namespace Go.Proofs.Ytfoocpcpljlndaa.Tab
open Go Go.RowKit Go.Proofs.Ytfoocpcpljlndaa.Step Go.Proofs.Ytfoocpcpljlndaa.Mem
set_option linter.unusedVariables false
set_option linter.unusedSimpArgs false
set_option maxRecDepth 100000

theorem lets2_any {W : World} {g : Nat} {leaf : Int} (c1 : W.cell? ⟨g, 1, none⟩ = some (.int .u64 leaf)) (h : U64 leaf) (a : Int) :
    Calls Try.prog 42 #[.pointer (some ⟨g, 0, none⟩), .int .i64 a] W fun x w' => x = .returned (.bool (lets2 leaf a)) ∧ W = w' := by
  have T1 := Lib.hid (has_z c1 h 88 88 rfl (by decide))
  have T2 := Lib.hid (has_z c1 h 82 82 rfl (by decide))
  have T3 := Lib.hid (has_z c1 h 212 212 rfl (by decide))
  have E := Lib.hid (show lets2 leaf a = (bt leaf 4 && bt leaf 6 && (if a = 1 then bt leaf 3 else if a = 2 then bt leaf 1 else if a = 3 then bt leaf 2 && bt leaf 7 else false)) from rfl)
  clear c1 h
  by_cases a1 : a = 1
  · subst a1
    go_enter Try.func42, Try.ntmps42
    go_wp2_with (go_at_call 43; refine (T1.out).mono ?_; rintro e w1 ⟨rfl, rfl⟩)
    go_ret
    exact ⟨by rw [E.out, has88]; rfl, rfl⟩
  by_cases a2 : a = 2
  · subst a2
    go_enter Try.func42, Try.ntmps42
    go_wp2_with (go_at_call 43; refine (T2.out).mono ?_; rintro e w1 ⟨rfl, rfl⟩)
    go_ret
    exact ⟨by rw [E.out, has82]; rfl, rfl⟩
  by_cases a3 : a = 3
  · subst a3
    go_enter Try.func42, Try.ntmps42
    go_wp2_with (go_at_call 43; refine (T3.out).mono ?_; rintro e w1 ⟨rfl, rfl⟩)
    go_ret
    exact ⟨by rw [E.out, has212]; rfl, rfl⟩
  have d1 : (a == 1) = false := by simpa using a1
  have d2 : (a == 2) = false := by simpa using a2
  have d3 : (a == 3) = false := by simpa using a3
  have E2 := Lib.hid (show lets2 leaf a = false by rw [E.out, if_neg a1, if_neg a2, if_neg a3, Bool.and_false])
  clear a1 a2 a3 E
  go_enter Try.func42, Try.ntmps42
  go_wp2
  go_ret
  exact ⟨by rw [E2.out]; rfl, rfl⟩

/-! The document's. -/
theorem rwrong_any {e : Int} (h : U64 e) (w : World) : Calls Try.prog 26 #[.int .u64 e] w fun x w' => x = .returned (.bool (wrongB e)) ∧ w = w' := by
  have c1 := c_m2 h
  have c2 := cn4 h
  have c4 := ce2 h
  have c3 := c_h h
  have E : wrongB e = (!bt e 0 || (bt e 2 && !bt e 1) || decide (18014398509481984 ≤ e)) := rfl
  generalize bt e 0 = b0 at c1 E
  generalize bt e 2 = b1 at c2 E
  generalize bt e 1 = b3 at c4 E
  generalize decide (18014398509481984 ≤ e) = b2 at c3 E
  have EE := Lib.hid E
  clear E h
  cases b0 <;> cases b1 <;> cases b2 <;> cases b3 <;> (simp only [Bool.not_true, Bool.not_false] at c1 c2 c3 c4; go_enter Try.func26, Try.ntmps26; go_wp2; go_ret; exact ⟨by rw [EE.out]; rfl, rfl⟩)
theorem number_any {e : Int} (h : U64 e) (w : World) : Calls Try.prog 27 #[.int .u64 e] w fun x w' => x = .returned (.int .u64 (pn e)) ∧ w = w' := by
  have h1 : bits .and .u64 (e / 1024) 17592186044415 = pn e := and_mask 44 ⟨by have := h.1; omega, by have := h.2; omega⟩ (by decide)
  clear h
  go_enter Try.func27, Try.ntmps27
  go_wp2
  go_ret
  exact ⟨rfl, rfl⟩
set_option maxHeartbeats 1000000 in
theorem misplaced_any {e : Int} {l : Nat} (hl : l ≤ 2) (h : U64 e) (w : World) : Calls Try.prog 28 #[.int .u64 e, .int .i64 l] w fun x w' => x = .returned (.bool (odd e l)) ∧ w = w' := by
  have T := Lib.hid (number_any h)
  have p1 := pn_u e
  have E := Lib.hid (show odd e l = decide (pn e % (2 ^ (9 * l) : Nat) ≠ 0) from rfl)
  have N : ∀ v : Int, (v != 0) = decide (v ≠ 0) := fun v => by by_cases hv : v = 0 <;> simp [hv]
  have NN := Lib.hid N
  clear h N
  obtain e | e | e : l = 0 ∨ l = 1 ∨ l = 2 := by omega
  all_goals
    subst e
    go_enter Try.func28, Try.ntmps28
    go_wp2_with (go_at_call 27; refine (T.out _).mono ?_; rintro e w1 ⟨rfl, rfl⟩)
    go_ret
    first
      | exact ⟨by rw [E.out, ← NN.out]; rfl, rfl⟩
      | exact ⟨by rw [show odd e 0 = false from decide_eq_false (by omega)]; rfl, rfl⟩
set_option maxHeartbeats 1000000 in
theorem put_0 {W : World} {e addr : Int} (h : U64 e) (ha : U64 addr) :
    Calls Try.prog 30 #[.agg #[.int .u64 e, .int .i64 0], .int .u64 addr] W fun x w' => x = .returned (.int .u64 (at_ e 0 addr)) ∧ Below W.heap.size W w' := by
  have T := Lib.hid (fun w => (number_any h w).mono fun x w' h => (⟨h.1, h.2.symm⟩ : x = .returned (.int .u64 (pn e)) ∧ w' = w))
  have p1 := pn_u e
  have h2 : IntKind.u64.wrap (pn e * 4096) = pn e * 4096 := IntWalk.u64_in _ (by omega)
  have h3 : IntKind.u64.wrap (pn e * 4096 + addr.tmod 4096) = at_ e 0 addr := by rw [Int.tmod_eq_emod_of_nonneg ha.1]; exact IntWalk.u64_in _ (by omega)
  have hu := Try.underlying74
  clear h ha p1
  go_enter Try.func30, Try.ntmps30
  go_wp2
  go_quiet ((go_at_call 27; exact Calls.quiet_of_same (T.out _)))
  go_wp2
  go_ret
  exact ⟨rfl, (alloc_below _ _).trans ((below_drawn ⟨_, rfl⟩).mono (alloc_below _ _).size)⟩
set_option maxHeartbeats 1000000 in
theorem put_1 {W : World} {e addr : Int} (h : U64 e) (ha : U64 addr) :
    Calls Try.prog 30 #[.agg #[.int .u64 e, .int .i64 1], .int .u64 addr] W fun x w' => x = .returned (.int .u64 (at_ e 1 addr)) ∧ Below W.heap.size W w' := by
  have T := Lib.hid (fun w => (number_any h w).mono fun x w' h => (⟨h.1, h.2.symm⟩ : x = .returned (.int .u64 (pn e)) ∧ w' = w))
  have p1 := pn_u e
  have h2 : IntKind.u64.wrap (pn e * 4096) = pn e * 4096 := IntWalk.u64_in _ (by omega)
  have h3 : IntKind.u64.wrap (pn e * 4096 + addr.tmod 2097152) = at_ e 1 addr := by rw [Int.tmod_eq_emod_of_nonneg ha.1]; exact IntWalk.u64_in _ (by omega)
  have hu := Try.underlying74
  clear h ha p1
  go_enter Try.func30, Try.ntmps30
  go_wp2
  go_quiet ((go_at_call 27; exact Calls.quiet_of_same (T.out _)))
  go_wp2
  go_ret
  exact ⟨rfl, (alloc_below _ _).trans ((below_drawn ⟨_, rfl⟩).mono (alloc_below _ _).size)⟩
set_option maxHeartbeats 1000000 in
theorem put_2 {W : World} {e addr : Int} (h : U64 e) (ha : U64 addr) :
    Calls Try.prog 30 #[.agg #[.int .u64 e, .int .i64 2], .int .u64 addr] W fun x w' => x = .returned (.int .u64 (at_ e 2 addr)) ∧ Below W.heap.size W w' := by
  have T := Lib.hid (fun w => (number_any h w).mono fun x w' h => (⟨h.1, h.2.symm⟩ : x = .returned (.int .u64 (pn e)) ∧ w' = w))
  have p1 := pn_u e
  have h2 : IntKind.u64.wrap (pn e * 4096) = pn e * 4096 := IntWalk.u64_in _ (by omega)
  have h3 : IntKind.u64.wrap (pn e * 4096 + addr.tmod 1073741824) = at_ e 2 addr := by rw [Int.tmod_eq_emod_of_nonneg ha.1]; exact IntWalk.u64_in _ (by omega)
  have hu := Try.underlying74
  clear h ha p1
  go_enter Try.func30, Try.ntmps30
  go_wp2
  go_quiet ((go_at_call 27; exact Calls.quiet_of_same (T.out _)))
  go_wp2
  go_ret
  exact ⟨rfl, (alloc_below _ _).trans ((below_drawn ⟨_, rfl⟩).mono (alloc_below _ _).size)⟩
theorem put_any {W : World} {e addr : Int} {l : Nat} (hl : l ≤ 2) (h : U64 e) (ha : U64 addr) :
    Calls Try.prog 30 #[.agg #[.int .u64 e, .int .i64 l], .int .u64 addr] W fun x w' => x = .returned (.int .u64 (at_ e l addr)) ∧ Below W.heap.size W w' := by
  obtain e | e | e : l = 0 ∨ l = 1 ∨ l = 2 := by omega
  · subst e; exact put_0 h ha
  · subst e; exact put_1 h ha
  · subst e; exact put_2 h ha
end Go.Proofs.Ytfoocpcpljlndaa.Tab
