/- A memory that a call has made for itself; a number brought into a range; the memory that shows that somebody is awake. -/
import Derived.Test.YtkdohejocmkljaaRamD
namespace Go.Proofs.Ytkdohejocmkljaa.Mem
open Go Go.RowKit Go.Proofs.Ytkdohejocmkljaa.Step
set_option linter.unusedVariables false
set_option linter.unusedSimpArgs false
set_option maxRecDepth 100000

/-- A memory that stands in blocks newer than the call's beginning. -/
structure Own (W w : World) (h : Nat) (base : Int) (n : Nat) (mem : Nat → Int) : Prop where
  ram : Ram w h base n mem (Grow Nil W w)
  mod : Mod Nil W w
theorem Own.below {W w w' : World} {h n : Nat} {base : Int} {mem : Nat → Int} (o : Own W w h base n mem) (b : Below w.heap.size w w') : Own W w' h base n mem :=
  ⟨(o.ram.below b).more (fun k hk => hk.elim .inl fun a => .inr ⟨a.1, Nat.lt_of_lt_of_le a.2 b.size⟩) (Grow.bound (fun k hk => hk.elim) (Nat.le_trans o.mod.size b.size)), o.mod.trans (Mod.of_below b Nil)⟩
theorem Own.drawn {W w w' : World} {h n : Nat} {base : Int} {mem : Nat → Int} (o : Own W w h base n mem) (b : ∃ k, w' = w.drewN k) : Own W w' h base n mem := o.below (below_drawn b)
theorem Own.step {W w w' : World} {h n : Nat} {base : Int} {mem mem' : Nat → Int} (o : Own W w h base n mem) (r : Ram w' h base n mem' (Grow (Grow Nil W w) w w')) (m : Mod (Grow Nil W w) w w') : Own W w' h base n mem' :=
  ⟨r.grow (fun k hk => hk.elim) o.mod.size m.size, mod_grow o.mod m⟩
theorem Own.made {W w w' : World} {h n : Nat} {base : Int} {mem : Nat → Int} (b : Mod Nil W w) (r : Ram w' h base n mem (Grow Nil w w')) (m : Mod Nil w w') : Own W w' h base n mem :=
  ⟨r.more (fun k hk => hk.elim .inl fun a => .inr ⟨Nat.le_trans b.size a.1, a.2⟩) (Grow.bound (fun k hk => hk.elim) (Nat.le_trans b.size m.size)), b.trans m⟩
theorem Own.out {W w : World} {h n : Nat} {base : Int} {mem : Nat → Int} (o : Own W w h base n mem) : Below W.heap.size W w := o.mod.below

theorem tmod_bd (v n : Int) (hn : 0 < n) : -n < v.tmod n ∧ v.tmod n < n := by
  have h1 := Int.tmod_lt_of_pos v hn
  have h2 := Int.tmod_lt_of_pos (-v) hn
  rw [Int.neg_tmod] at h2
  omega
theorem emod_tmod (v n : Int) (hn : 0 < n) : v % n = if v.tmod n < 0 then v.tmod n + n else v.tmod n := by
  have hb := tmod_bd v n hn
  have e := Int.mul_tdiv_add_tmod v n
  have e2 : v % n = v.tmod n % n := by
    conv => lhs; rw [← e]
    rw [Int.mul_add_emod_self_left]
  rw [e2]
  split
  · rw [← Int.add_emod_right, Int.emod_eq_of_lt (by omega) (by omega)]
  · rw [Int.emod_eq_of_lt (by omega) (by omega)]
set_option maxHeartbeats 400000 in
theorem place_any (v n : Int) (hn : 0 < n) (hv : -9223372036854775808 ≤ v ∧ v < 9223372036854775808) (hn2 : n < 9223372036854775808) (w : World) : Calls Try.prog 9 #[.int .i64 v, .int .i64 n] w fun e w' => e = .returned (.int .i64 (v % n)) ∧ w = w' := by
  have h0 : n ≠ 0 := by omega
  have hr := tmod_bd v n hn
  have hw : IntKind.i64.wrap (v.tmod n) = v.tmod n := IntWalk.i64_in _ (by omega)
  have he := emod_tmod v n hn
  by_cases hneg : v.tmod n < 0
  · rw [if_pos hneg] at he
    have E := Lib.hid he
    have hw2 : IntKind.i64.wrap (v.tmod n + n) = v.tmod n + n := IntWalk.i64_in _ (by omega)
    clear hr hv hn2 hn he
    go_enter Try.func9, Try.ntmps9
    go_wp2
    go_ret
    exact ⟨by rw [E.out]; rfl, rfl⟩
  · rw [if_neg hneg] at he
    have E := Lib.hid he
    have d : decide (v.tmod n < 0) = false := by simpa using hneg
    clear hr hv hn2 hn he hneg
    go_enter Try.func9, Try.ntmps9
    go_wp2
    go_ret
    exact ⟨by rw [E.out]; rfl, rfl⟩

set_option maxHeartbeats 1000000 in
theorem awake (w : World) : Calls Try.prog 14 #[] w fun e w' => e = .returned (.bool true) ∧ Below w.heap.size w w' := by
  have T1 := Lib.hid (new_yes w 4096 1 (by omega) (by decide))
  have T2 := Lib.hid (fun h w1 F (r : Ram w1 h 4096 1 (fun _ => 0) F) => write_yes r 4096 72623859790382856 8 (by omega) (by omega) (by decide) (by decide))
  have T3 := Lib.hid (fun h w1 F (r : Ram w1 h 4096 1 (wr (fun _ => 0) 0 8 72623859790382856) F) => read_yes r 4097 2 (by omega) (by decide) (by decide))
  go_enter Try.func14, Try.ntmps14
  go_wp2_with (first
    | (go_at_call 10; refine (T1.out).mono ?_; rintro e w1 ⟨h, rfl, r, m⟩; have R := Lib.hid (Own.made (Mod.refl Nil w) r m); clear r m)
    | (go_at_call 12; refine (T2.out _ _ _ R.out.ram).mono ?_; rintro e w2 ⟨rfl, r, m⟩; have R2 := Lib.hid (R.out.step r m); clear r m)
    | (go_at_call 11; refine (T3.out _ _ _ R2.out.ram).mono ?_; rintro e w3 ⟨rfl, hw⟩; have R3 := Lib.hid (R2.out.drawn hw); clear hw))
  go_ret
  exact ⟨rfl, R3.out.out⟩
end Go.Proofs.Ytkdohejocmkljaa.Mem
