/- The walk of RamEnds: at its ends a memory has just its bytes. -/
import Derived.Test.YtkdohejocmkljaaOwn
import Derived.Below
import Derived.OpenShut
namespace Go.Proofs.Ytkdohejocmkljaa.Mem
open Go Go.RowKit Go.Proofs.Ytkdohejocmkljaa.Step
set_option linter.unusedVariables false
set_option linter.unusedSimpArgs false
set_option maxRecDepth 100000

theorem pl_int : Step.plainT Try.prog 3 = true := by kernel_rfl
set_option maxHeartbeats 4000000 in
theorem ends_q (b0 f0 s0 : Int) (W : World) (hb0 : 0 ≤ b0 ∧ b0 < 18446744073709551616) (hf0 : -9223372036854775808 ≤ f0 ∧ f0 < 9223372036854775808) (hs0 : -9223372036854775808 ≤ s0 ∧ s0 < 9223372036854775808)
    (b : Int) (hb : b0 % 1099511627776 / 4096 * 4096 = b) (f : Nat) (hf : 1 + f0 % 20 = f) (q n : Nat) (hq : s0 % 4 = q) (hn : (#[.int .i64 1, .int .i64 2, .int .i64 4, .int .i64 8] : Array Value)[q]? = some (.int .i64 n)) (hn8 : wholeB n = true) :
    Calls Try.prog 3 #[.int .u64 b0, .int .i64 f0, .int .i64 s0] W fun e W' => e = .returned (.bool true) ∧ Below W.heap.size W W' := by
  have hn' : n = 1 ∨ n = 2 ∨ n = 4 ∨ n = 8 := by have := of_decide_eq_true hn8; omega
  have fb : 1 ≤ f ∧ f ≤ 20 := by omega
  have bb : 0 ≤ b ∧ b < 1099511627776 ∧ b % 4096 = 0 := by omega
  have P1 := Lib.hid (fun w => place_any f0 20 (by omega) hf0 (by omega) w)
  have P2 := Lib.hid (fun w => (place_any s0 4 (by omega) hs0 (by omega) w).mono fun e w' h => (by rw [hq] at h; exact h : e = .returned (.int .i64 q) ∧ w = w'))
  have hnl : ([.int .i64 1, .int .i64 2, .int .i64 4, .int .i64 8] : List Value)[q]? = some (.int .i64 n) := by simpa using hn
  have T1 := Lib.hid (fun w => new_yes w b f (by omega) (decide_eq_true (by omega)))
  have F1 : newB b f = true := decide_eq_true (by omega)
  have wl : ∀ a : Int, 0 ≤ IntKind.u64.wrap a ∧ IntKind.u64.wrap a < 18446744073709551616 := fun a => by rw [IntKind.wrap_u64]; omega
  have X1 := Lib.hid (fun h w F (r : Ram w h b f (fun _ => 0) F) => read_yes r (b + f * 4096 - n) n (by omega) hn8 (decide_eq_true (by omega)))
  have X2 := Lib.hid (fun h w F (r : Ram w h b f (fun _ => 0) F) => read_no r (b + f * 4096 - n + 1) n (by omega) (by omega) (by rw [hn8]; exact decide_eq_false (by omega)))
  have X3 := Lib.hid (fun h w F (r : Ram w h b f (fun _ => 0) F) => read_no r (IntKind.u64.wrap (b - 1)) n (wl _) (by omega) (by rw [hn8, IntKind.wrap_u64]; exact decide_eq_false (by omega)))
  have X4 := Lib.hid (fun h w F (r : Ram w h b f (fun _ => 0) F) => read_no r 18446744073709551615 n (by omega) (by omega) (by rw [hn8]; exact decide_eq_false (by omega)))
  have Y1 := Lib.hid (fun h w F mem (r : Ram w h b f mem F) => write_yes r b 1 n (by omega) (by omega) hn8 (decide_eq_true (by omega)))
  have Y2 := Lib.hid (fun h w F mem (r : Ram w h b f mem F) => write_no r (b + f * 4096) n 1 (by omega) (by omega) (by rw [hn8]; exact decide_eq_false (by omega)))
  have Y3 := Lib.hid (fun h w F mem (r : Ram w h b f mem F) => write_no r (IntKind.u64.wrap (b - n)) n 1 (wl _) (by omega) (by rw [hn8, IntKind.wrap_u64]; exact decide_eq_false (by omega)))
  have Z1 := Lib.hid (fun h w F mem (r : Ram w h b f mem F) => (has_any r (b + f * 4096) 0 (by omega) (by omega)).mono fun e w' h => (by rw [show hasB b f (b + f * 4096) 0 = true from decide_eq_true (by omega)] at h; exact h : e = .returned (.bool true) ∧ ∃ k, w' = w.drewN k))
  have Z2 := Lib.hid (fun h w F mem (r : Ram w h b f mem F) => (has_any r (b + f * 4096 + 1) 0 (by omega) (by omega)).mono fun e w' h => (by rw [show hasB b f (b + f * 4096 + 1) 0 = false from decide_eq_false (by omega)] at h; exact h : e = .returned (.bool false) ∧ ∃ k, w' = w.drewN k))
  have Z3 := Lib.hid (fun h w F mem (r : Ram w h b f mem F) => (has_any r b (-1) (by omega) (by omega)).mono fun e w' h => (by rw [show hasB b f b (-1) = false from decide_eq_false (by omega)] at h; exact h : e = .returned (.bool false) ∧ ∃ k, w' = w.drewN k))
  have AW := Lib.hid awake
  have hbw : IntKind.u64.wrap (b0 % 1099511627776 / 4096 * 4096) = b := by rw [IntWalk.u64_in _ (by omega)]; exact hb
  have hfw : IntKind.i64.wrap (1 + f0 % 20) = f := by rw [IntWalk.i64_in _ (by omega)]; exact hf
  have n8 : n ≤ 8 := by omega
  have q4 : q < 4 := by omega
  have hne : ([.int .i64 1, .int .i64 2, .int .i64 4, .int .i64 8] : List Value)[q]'q4 = .int .i64 n := by rw [List.getElem?_eq_getElem q4] at hnl; exact Option.some.inj hnl
  clear hnl
  have hnw : IntKind.u64.wrap (n : Int) = n := IntWalk.u64_in _ (by omega)
  have hs1 : IntKind.u64.wrap (b + f * 4096 - n) = b + f * 4096 - n := IntWalk.u64_in _ (by omega)
  obtain ⟨hb01, hb02⟩ := hb0
  clear hf0 hs0 hq hn hn8 hn' F1 wl hb02
  go_enter Try.func3, Try.ntmps3
  go_wp2_with (first
    | (go_at_call 9; (first | (with_reducible refine (P1.out _).mono ?_) | (with_reducible refine (P2.out _).mono ?_)); rintro e w1 ⟨rfl, rfl⟩)
    | (go_at_call 10; refine (T1.out _).mono ?_; rintro e w1 ⟨h, rfl, r, m⟩; have R := Lib.hid (Own.made (Mod.of_below ((Below.refl _ _).alloc (Nat.le_refl _) _) Nil) r m); clear r m)
    | (go_at_call 11; (first | (with_reducible refine (X1.out _ _ _ R.out.ram).mono ?_) | (with_reducible refine (X2.out _ _ _ R.out.ram).mono ?_) | (with_reducible refine (X3.out _ _ _ R.out.ram).mono ?_) | (with_reducible refine (X4.out _ _ _ R.out.ram).mono ?_)); rintro e w1 ⟨rfl, hw⟩; have R1 := Lib.hid (R.out.drawn hw); clear hw R; have R := R1; clear R1)
    | (go_at_call 12; (first
        | ((with_reducible refine (Y1.out _ _ _ _ R.out.ram).mono ?_); rintro e w1 ⟨rfl, r, m⟩; have R1 := Lib.hid (R.out.step r m); clear r m R; have R := R1; clear R1)
        | ((first | (with_reducible refine (Y2.out _ _ _ _ R.out.ram).mono ?_) | (with_reducible refine (Y3.out _ _ _ _ R.out.ram).mono ?_)); rintro e w1 ⟨rfl, hw⟩; have R1 := Lib.hid (R.out.drawn hw); clear hw R; have R := R1; clear R1)))
    | (go_at_call 13; (first | (with_reducible refine (Z1.out _ _ _ _ R.out.ram).mono ?_) | (with_reducible refine (Z2.out _ _ _ _ R.out.ram).mono ?_) | (with_reducible refine (Z3.out _ _ _ _ R.out.ram).mono ?_)); rintro e w1 ⟨rfl, hw⟩; have R1 := Lib.hid (R.out.drawn hw); clear hw R; have R := R1; clear R1)
    | (go_at_call 14; refine (AW.out _).mono ?_; rintro e w1 ⟨rfl, hb⟩; have R1 := Lib.hid (R.out.below hb); clear hb R; have R := R1; clear R1))
  go_ret
  exact ⟨rfl, R.out.out⟩

theorem ends_any (b0 f0 s0 : Int) (W : World) (w0 : (Lit.int .u64 b0).wf = true) (w1 : (Lit.int .i64 f0).wf = true) (w2 : (Lit.int .i64 s0).wf = true) :
    Calls Try.prog 3 #[.int .u64 b0, .int .i64 f0, .int .i64 s0] W fun e W' => e = .returned (.bool true) ∧ Below W.heap.size W W' := by
  have h0 := bounds_u64 w0
  have h1 := bounds_i64 w1
  have h2 := bounds_i64 w2
  have hq : s0 % 4 = 0 ∨ s0 % 4 = 1 ∨ s0 % 4 = 2 ∨ s0 % 4 = 3 := by omega
  obtain ⟨f, hf⟩ := Int.eq_ofNat_of_zero_le (show 0 ≤ 1 + f0 % 20 by omega)
  rcases hq with hq | hq | hq | hq
  · exact ends_q b0 f0 s0 W (by omega) (by omega) (by omega) _ rfl f hf 0 1 hq rfl (by decide)
  · exact ends_q b0 f0 s0 W (by omega) (by omega) (by omega) _ rfl f hf 1 2 hq rfl (by decide)
  · exact ends_q b0 f0 s0 W (by omega) (by omega) (by omega) _ rfl f hf 2 4 hq rfl (by decide)
  · exact ends_q b0 f0 s0 W (by omega) (by omega) (by omega) _ rfl f hf 3 8 hq rfl (by decide)
end Go.Proofs.Ytkdohejocmkljaa.Mem
