/- The document's memory: New, Clear, Fill, Bytes. -/
import Derived.Test.YtkdohejocmkljaaRefC
namespace Go.Proofs.Ytkdohejocmkljaa.Ref
open Go Go.RowKit Go.Proofs.Ytkdohejocmkljaa.Step Go.Proofs.Ytkdohejocmkljaa.Mem
set_option linter.unusedVariables false
set_option linter.unusedSimpArgs false
set_option maxRecDepth 100000

theorem mk_rows : (Try.prog.info? 35).map (fun i => (i.size, i.bytes, i.zero)) = some (1, 24, some (.slice none 0 0)) := by kernel_rfl
set_option maxHeartbeats 1000000 in
theorem new_no (W : World) (base n : Int) (hb : 0 ≤ base ∧ base < 18446744073709551616) (h : newB base n = false) :
    Calls Try.prog 22 #[.int .u64 base, .int .i64 n] W fun e W' => e = .returned (.tuple #[.pointer none, .int .i64 1]) ∧ W = W' := by
  have h := of_decide_eq_false h
  obtain ⟨b1, b2⟩ := hb
  by_cases h1 : n < 1
  · clear h; go_enter Try.func22, Try.ntmps22; go_wp2; exact bodyPost_ret (results_tmp2 rfl _ _ _) rfl ⟨rfl, rfl⟩
  have h1' : 1 ≤ n := by omega
  by_cases h2 : 1024 < n
  · clear h h1; go_enter Try.func22, Try.ntmps22; go_wp2; exact bodyPost_ret (results_tmp2 rfl _ _ _) rfl ⟨rfl, rfl⟩
  have h2' : n ≤ 1024 := by omega
  by_cases h3 : base % 4096 = 0
  · have h4 : 4503599627370496 < base := by omega
    clear h h1 h2
    go_enter Try.func22, Try.ntmps22; go_wp2; exact bodyPost_ret (results_tmp2 rfl _ _ _) rfl ⟨rfl, rfl⟩
  · have d3 : (base % 4096 != 0) = true := by simpa using h3
    clear h h1 h2
    go_enter Try.func22, Try.ntmps22; go_wp2; exact bodyPost_ret (results_tmp2 rfl _ _ _) rfl ⟨rfl, rfl⟩

set_option maxHeartbeats 1000000 in
theorem new_yes (W : World) (base : Int) (n : Nat) (hb : 0 ≤ base ∧ base < 18446744073709551616) (h : newB base n = true) :
    Calls Try.prog 22 #[.int .u64 base, .int .i64 n] W fun e W' => ∃ h, e = .returned (.tuple #[.pointer (some ⟨h, 0, none⟩), .int .i64 0]) ∧ Mem W' h base n (fun _ => 0) (Grow Nil W W') ∧ Mod Nil W W' := by
  obtain ⟨h1, h2, h3, h4⟩ := of_decide_eq_true h
  obtain ⟨b1, b2⟩ := hb
  clear h
  have d1 : decide ((n : Int) < 1) = false := by simpa using h1
  have d2 : decide (1024 < (n : Int)) = false := by simpa using h2
  have d4 : decide (4503599627370496 < base) = false := by simpa using h4
  have HN := Lib.hid (show 24 * n ≤ 281474976710656 by omega)
  have HN2 := Lib.hid (show n ≤ 9223372036854775807 by omega)
  have HB := Lib.hid (⟨h1, h2, h4, b1⟩ : (1 ≤ (n : Int)) ∧ (n : Int) ≤ 1024 ∧ base ≤ 4503599627370496 ∧ 0 ≤ base)
  have hu66 := Try.underlying74
  clear h1 h2 h4 b2
  go_enter Try.func22, Try.ntmps22
  go_wp2_with (first
    | (refine Step.make (t := 72) rfl rfl rfl rfl Try.underlying72 mk_rows rfl HN.out HN2.out ?_; intro g w1 b hg hb; have B1 := Lib.hid b; have HG := Lib.hid hg; have HM := Lib.hid hb; clear b hg hb)
    | ((with_reducible refine Step.gate_box (t := 74) rfl ?_); refine Step.fresh (cs := #[.int .u64 base, .int .i64 n, .slice (some ⟨g, 0, none⟩) n n]) (T := 74) rfl ?hr ?_; (case hr => first | (go_simp; done) | (go_simp; rfl)); intro g2 w2 b hg hb; have B2 := Lib.hid b; have B3 := Lib.hid (B1.out.below hb); have HG2 := Lib.hid hg; have HM2 := Lib.hid hb; clear b hg hb))
  refine bodyPost_ret (results_tmp2 rfl _ _ _) rfl ⟨g2, rfl, ?_, Mod.of_below (below_below HM.out (HM2.out)) Nil⟩
  obtain ⟨hn1, hn2, hb1, hb2⟩ := HB.out
  have s1 := HG.out
  have s2 := HG2.out
  have l1 := B1.out.lt
  have l2 := B2.out.lt
  have l3 := B3.out.lt
  refine ⟨g, Array.replicate n (.slice none 0 0), fun _ => none, ?_⟩
  exact { hdr := B2.out, row := B3.out, csz := by simp, n_lo := by omega, n_hi := by omega, b_lo := hb2, b_hi := hb1, at_ := fun k hk => by simp [hk, sl], frame := fun k g c hk hf => (by cases hf), none_ := fun k hk hf j hj => rfl, inj := fun k k' g c c' hk hk' h1 h2 => (by cases h1), foot_h := .inr ⟨by omega, l2⟩, foot_fb := .inr ⟨s1, l3⟩, bound := fun k hk => hk.elim (fun h => h.elim) (fun h => h.2), byte := fun i hi => by decide }

set_option maxHeartbeats 1000000 in
theorem clear_no {W : World} {h n : Nat} {base : Int} {mem : Nat → Int} {F : Nat → Prop} (r : Mem W h base n mem F) (k : Int) (hk : ¬ (0 ≤ k ∧ k < n)) :
    Calls Try.prog 31 #[.pointer (some ⟨h, 0, none⟩), .int .i64 k] W fun e W' => e = .returned (.bool false) ∧ W = W' := by
  obtain ⟨fb, c0, c1, c2⟩ := r.cells
  obtain ⟨n1, n2, b1, b2⟩ := r.size
  clear r
  by_cases h1 : k < 0
  · clear hk; go_enter Try.func31, Try.ntmps31; go_wp2; go_ret; exact ⟨rfl, rfl⟩
  · have d1 : decide (k < 0) = false := by simpa using h1
    have d2 : decide (k ≥ (n : Int)) = true := by simp; omega
    have d3 : decide ((n : Int) ≤ k) = true := by simp; omega
    clear hk h1
    go_enter Try.func31, Try.ntmps31; go_wp2; go_ret; exact ⟨rfl, rfl⟩

set_option maxHeartbeats 1000000 in
theorem clear_yes {W : World} {h n : Nat} {base : Int} {mem : Nat → Int} {F : Nat → Prop} (r : Mem W h base n mem F) (k : Nat) (hk : k < n) :
    Calls Try.prog 31 #[.pointer (some ⟨h, 0, none⟩), .int .i64 k] W fun e W' => e = .returned (.bool true) ∧ Mem W' h base n (clr mem k) (Grow F W W') ∧ Mod F W W' := by
  obtain ⟨fb, cs, fs, r⟩ := r
  have c0 := r.hdr.cell 0
  have c1 := r.hdr.cell 1
  have c2 := r.hdr.cell 2
  simp only [List.getElem?_toArray, List.getElem?_cons_zero, List.getElem?_cons_succ] at c0 c1 c2
  have B := Lib.hid r.row
  have HK := Lib.hid (show Nat.blt k cs.size = true by rw [r.csz]; exact Nat.ble_eq_true_of_le hk)
  have R := Lib.hid r
  have n2 := r.n_hi
  clear r
  go_enter Try.func31, Try.ntmps31
  go_wp2_with (first
    | ((with_reducible refine Step.gate_store (t := 35) rfl ?_); refine Step.store B.out rfl rfl rfl rfl rfl pl_sl rfl HK.out ?_; intro w2 n2 m; have N1 := Lib.hid n2; have M1 := Lib.hid m; clear n2 m))
  go_ret
  have r := R.out
  refine ⟨rfl, ⟨fb, cs.setIfInBounds k (.slice none 0 0), fun i => if i = k then none else fs i, ?_⟩, M1.out.mono fun i _ e => by obtain rfl : i = fb := e; exact r.foot_fb⟩
  have hne : h ≠ fb := fun e => by subst e; have := (r.hdr.inj r.row).2; revert this; decide
  refine { hdr := r.hdr.one M1.out hne, row := N1.out, csz := by simpa using r.csz, n_lo := r.n_lo, n_hi := r.n_hi, b_lo := r.b_lo, b_hi := r.b_hi, at_ := fun k' hk' => ?_, frame := fun k' g' c' hk' hf' => ?_, none_ := fun k' hk' hf' j' hj' => ?_, inj := fun a b g' c c' ha hb h1 h2 => ?_, foot_h := .inl r.foot_h, foot_fb := .inl r.foot_fb, bound := Grow.bound r.bound M1.out.size, byte := fun i hi => ?_ }
  · by_cases e : k = k'
    · subst e; simp [r.csz, hk, sl]
    · rw [Array.getElem?_setIfInBounds_ne e]; simp only [if_neg (Ne.symm e)]; exact r.at_ k' hk'
  · by_cases e : k' = k
    · simp only [if_pos e] at hf'; cases hf'
    · simp only [if_neg e] at hf'
      obtain ⟨hF', bs', hb2, hsz', hbs'⟩ := r.frame k' g' c' hk' hf'
      have : g' ≠ fb := fun eg => by subst eg; have := (hb2.inj r.row).2; revert this; decide
      refine ⟨.inl hF', bs', hb2.one M1.out this, hsz', fun j' hj' => ?_⟩
      unfold clr
      rw [if_neg (by omega)]; exact hbs' j' hj'
  · unfold clr
    by_cases e : k' = k
    · rw [if_pos (by omega)]
    · simp only [if_neg e] at hf'
      rw [if_neg (by omega)]; exact r.none_ k' hk' hf' j' hj'
  · by_cases ea : a = k
    · simp only [if_pos ea] at h1; cases h1
    · by_cases eb : b = k
      · simp only [if_pos eb] at h2; cases h2
      · simp only [if_neg ea, if_neg eb] at h1 h2; exact r.inj a b g' c c' ha hb h1 h2
  · unfold clr; split
    · decide
    · exact r.byte i hi

set_option maxHeartbeats 1000000 in
theorem fill_yes {W : World} {h n : Nat} {base : Int} {mem : Nat → Int} {F G : Nat → Prop} (r : Mem W h base n mem F) (addr : Int) {A : Option Addr} {s c : Nat} {f : Nat → Int} (rb : Rd W A s f G) (hG : ∀ k, G k → ¬ F k ∧ k < W.heap.size) (ha : 0 ≤ addr ∧ addr < 18446744073709551616) (h2 : hasB base n addr s = true) :
    Calls Try.prog 29 #[.pointer (some ⟨h, 0, none⟩), .int .u64 addr, .slice A s c] W fun e W' => e = .returned (.bool true) ∧ Mem W' h base n (fl mem (addr - base).toNat s f) (Grow F W W') ∧ Mod F W W' := by
  obtain ⟨hh1, hh2, hh3⟩ := of_decide_eq_true h2
  obtain ⟨n1, n2, b1, b2⟩ := r.size
  have hs9 : (s : Int) < 9223372036854775808 := by omega
  have T2 := Lib.hid ((has_any r addr s ha hs9).mono fun e w' h => (by rw [h2] at h; exact h : e = .returned (.bool true) ∧ W = w'))
  have R := Lib.hid r
  have RB := Lib.hid rb
  have HG := Lib.hid hG
  obtain ⟨ha1, ha2⟩ := ha
  have s1 : s ≤ 4194304 := by omega
  clear h2 r hs9 rb hG
  go_enter Try.func29, Try.ntmps29
  go_wp2_with (first
    | (go_at_call 25; refine (T2.out).mono ?_; rintro e w1 ⟨rfl, rfl⟩))
  go_loopw [7] (fun i W1 => ∃ k : Nat, k ≤ s ∧ i = .int .i64 k ∧ Mem W1 h base n (fl mem (addr - base).toNat k f) (Grow F W W1) ∧ Mod F W W1) (fun i _ => (s - intOf i).toNat)
  case atStart =>
    refine ⟨0, Nat.zero_le _, rfl, ?_, Mod.refl _ _⟩
    rw [fl_zero]; exact R.out.more (fun k hk => .inl hk) (Grow.bound R.out.bound (Nat.le_refl _))
  case round =>
    obtain ⟨k, hk, rfl, hR, hM⟩ := hrel
    by_cases hlt : k < s
    · obtain ⟨ad, rfl, _, hc, hf⟩ := (RB.out.mod hM (fun i hi => (HG.out i hi).1) (fun i hi => (HG.out i hi).2)) k hlt
      have T3 := Lib.hid (put hR (addr + k) (f k) (by omega) (by omega) hf)
      have hsz := Lib.hid hM.size
      have HM := Lib.hid hM
      clear hR hM hf
      go_wp2_with (go_at_call 39; refine (T3.out).mono ?_; rintro e w2 ⟨rfl, hR, hM⟩; have HR2 := Lib.hid hR; have HM2 := Lib.hid hM; clear hR hM)
      refine ⟨⟨k + 1, by omega, by go_num, ?_, mod_grow' HM.out HM2.out⟩, by simp [intOf]; omega⟩
      have := (HR2.out.grow R.out.bound hsz.out HM2.out.size)
      rw [show (addr + (k : Int) - base).toNat = (addr - base).toNat + k by omega, fl_succ] at this
      exact this
    · obtain rfl : k = s := by omega
      have HR := Lib.hid hR
      have HM := Lib.hid hM
      clear hR hM
      go_wp2
      go_ret
      exact ⟨rfl, HR.out, HM.out⟩
set_option maxHeartbeats 1000000 in
theorem fill_no {W : World} {h n : Nat} {base : Int} {mem : Nat → Int} {F : Nat → Prop} (r : Mem W h base n mem F) (addr : Int) (A : Option Addr) (s c : Nat) (ha : 0 ≤ addr ∧ addr < 18446744073709551616) (hs9 : (s : Int) < 9223372036854775808) (h2 : hasB base n addr s = false) :
    Calls Try.prog 29 #[.pointer (some ⟨h, 0, none⟩), .int .u64 addr, .slice A s c] W fun e W' => e = .returned (.bool false) ∧ W = W' := by
  have T2 := Lib.hid ((has_any r addr s ha hs9).mono fun e w' h => (by rw [h2] at h; exact h : e = .returned (.bool false) ∧ W = w'))
  clear h2 r hs9
  go_enter Try.func29, Try.ntmps29
  go_wp2_with (first
    | (go_at_call 25; refine (T2.out).mono ?_; rintro e w1 ⟨rfl, rfl⟩))
  go_ret
  exact ⟨rfl, rfl⟩
end Go.Proofs.Ytkdohejocmkljaa.Ref
