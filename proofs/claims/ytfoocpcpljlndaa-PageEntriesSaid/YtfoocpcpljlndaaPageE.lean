/- An entry of a table, read in a memory. -/
import Derived.Test.YtfoocpcpljlndaaPageA
namespace Go.Proofs.Ytfoocpcpljlndaa.Tab
open Go Go.RowKit Go.Proofs.Ytfoocpcpljlndaa.Step Go.Proofs.Ytfoocpcpljlndaa.Mem
set_option linter.unusedVariables false
set_option linter.unusedSimpArgs false
set_option maxRecDepth 100000

theorem pl_int : Step.plainT Try.prog 3 = true := by kernel_rfl
theorem read_z {W : World} {h n : Nat} {base : Int} {mem : Nat → Int} {F : Nat → Prop} (r : Ram W h base n mem F) (addr z : Int) (s : Nat) (hz : z = s) (ha : 0 ≤ addr ∧ addr < 18446744073709551616) (h1 : wholeB s = true) (h2 : hasB base n addr s = true) :
    Calls Try.prog 35 #[.pointer (some ⟨h, 0, none⟩), .int .u64 addr, .int .i64 z] W fun e W' => e = .returned (.tuple #[.int .u64 (num mem (addr - base).toNat s), .bool true]) ∧ ∃ k, W' = W.drewN k := by subst hz; exact read_yes r addr s ha h1 h2
theorem phys_any {W : World} {h n c : Nat} {base : Int} {mem : Nat → Int} {F : Nat → Prop} (r : Ram W h base n mem F) (cb : W.cell? ⟨c, 0, none⟩ = some (.pointer (some ⟨h, 0, none⟩))) (t i : Int) (ht : U64 t) (hi : 0 ≤ i ∧ i < 512) :
    Calls Try.prog 40 #[.int .u64 t, .int .u64 i, .pointer (some ⟨c, 0, none⟩)] W fun e W' => e = .returned (.tuple #[.int .u64 (phys base n mem t i).1, .int .i64 (phys base n mem t i).2]) ∧ ∃ k, W' = W.drewN k := by
  obtain ⟨t0, t1⟩ := ht
  obtain ⟨i0, i1⟩ := hi
  by_cases hp : 4503599627370496 ≤ t
  · have d : decide (4503599627370496 ≤ t) = true := decide_eq_true hp
    have E := Lib.hid (show phys base n mem t i = (0, 3) from if_pos hp)
    clear hp r
    go_enter Try.func40, Try.ntmps40
    go_wp2
    refine bodyPost_ret (results_tmp2 rfl _ _ _) rfl ⟨by rw [E.out]; rfl, 0, rfl⟩
  · have d : decide (4503599627370496 ≤ t) = false := decide_eq_false hp
    have w1 : IntKind.u64.wrap (t * 4096) = t * 4096 := IntWalk.u64_in _ (by omega)
    have w2 : IntKind.u64.wrap (8 * i) = 8 * i := IntWalk.u64_in _ (by omega)
    have w3 : IntKind.u64.wrap (t * 4096 + 8 * i) = t * 4096 + 8 * i := IntWalk.u64_in _ (by omega)
    cases hh : hasB base n (t * 4096 + 8 * i) 8 with
    | true =>
      have E := Lib.hid (show phys base n mem t i = (num mem (t * 4096 + 8 * i - base).toNat 8, 0) by unfold phys; rw [if_neg hp, if_pos hh])
      have T := Lib.hid (read_z r (t * 4096 + 8 * i) 8 8 rfl (by omega) (by decide) hh)
      clear hp hh r
      go_enter Try.func40, Try.ntmps40
      go_wp2_with (go_at_call 35; refine (T.out).mono ?_; rintro e w1 ⟨rfl, hw⟩; have HW := Lib.hid hw; clear hw)
      refine bodyPost_ret (results_tmp2 rfl _ _ _) rfl ⟨by rw [E.out]; rfl, HW.out⟩
    | false =>
      have E := Lib.hid (show phys base n mem t i = (0, 3) by unfold phys; rw [if_neg hp, if_neg (by rw [hh]; decide)])
      have T := Lib.hid (read_no r (t * 4096 + 8 * i) 8 (by omega) (by omega) (by rw [hh]; rfl))
      clear hp hh r
      go_enter Try.func40, Try.ntmps40
      go_wp2_with (go_at_call 35; refine (T.out).mono ?_; rintro e w1 ⟨rfl, hw⟩; have HW := Lib.hid hw; clear hw)
      refine bodyPost_ret (results_tmp2 rfl _ _ _) rfl ⟨by rw [E.out]; rfl, HW.out⟩
end Go.Proofs.Ytfoocpcpljlndaa.Tab
