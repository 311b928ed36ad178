/- The walk of RamCopies: a copy has the same bytes, and what is written into one of the two is not seen in the other. -/
import Derived.Test.YtkdohejocmkljaaPair
import Derived.Test.YtkdohejocmkljaaOpen
namespace Go.Proofs.Ytkdohejocmkljaa.Mem
open Go Go.RowKit Go.Proofs.Ytkdohejocmkljaa.Step
set_option linter.unusedVariables false
set_option linter.unusedSimpArgs false
set_option maxRecDepth 100000

theorem write_z {W : World} {h n : Nat} {base : Int} {mem : Nat → Int} {F : Nat → Prop} (r : Ram W h base n mem F) (addr v z : Int) (s : Nat) (hz : z = s) (ha : 0 ≤ addr ∧ addr < 18446744073709551616) (hv : 0 ≤ v ∧ v < 18446744073709551616) (h1 : wholeB s = true) (h2 : hasB base n addr s = true) :
    Calls Try.prog 12 #[.pointer (some ⟨h, 0, none⟩), .int .u64 addr, .int .i64 z, .int .u64 v] W fun e W' => e = .returned (.bool true) ∧ Ram W' h base n (wr mem (addr - base).toNat s v) (Grow F W W') ∧ Mod F W W' := by
  subst hz; exact write_yes r addr v s ha hv h1 h2
theorem clear_z {W : World} {h n : Nat} {base : Int} {mem : Nat → Int} {F : Nat → Prop} (r : Ram W h base n mem F) (z : Int) (k : Nat) (hz : z = k) (hk : k < n) :
    Calls Try.prog 21 #[.pointer (some ⟨h, 0, none⟩), .int .i64 z] W fun e W' => e = .returned (.bool true) ∧ Ram W' h base n (clr mem k) (Grow F W W') ∧ Mod F W W' := by
  subst hz; exact clear_yes r k hk
theorem new_z (w : World) (base z : Int) (n : Nat) (hz : z = n) (hb : 0 ≤ base ∧ base < 18446744073709551616) (h : newB base n = true) :
    Calls Try.prog 10 #[.int .u64 base, .int .i64 z] w fun e W' => ∃ h, e = .returned (.tuple #[.pointer (some ⟨h, 0, none⟩), .int .i64 0]) ∧ Ram W' h base n (fun _ => 0) (Grow Nil w W') ∧ Mod Nil w W' := by
  subst hz; exact new_yes w base n hb h
theorem u8_bd {v : Int} (h : (Lit.int .u8 v).wf = true) : 0 ≤ v ∧ v < 256 := by have := bounds_u8 h; omega
theorem u64_bd {v : Int} (h : (Lit.int .u64 v).wf = true) : 0 ≤ v ∧ v < 18446744073709551616 := by have := bounds_u64 h; omega
theorem i64_bd {v : Int} (h : (Lit.int .i64 v).wf = true) : -9223372036854775808 ≤ v ∧ v < 9223372036854775808 := by have := bounds_i64 h; omega
theorem rdI_at {k : IntKind} {W w : World} {A : Option Addr} {n : Nat} {f : Nat → Int} (r : RdI k W A n f (· < W.heap.size)) (m : Mod Nil W w) {i : Nat} (hi : i < n) : ∃ ad, A = some ad ∧ w.cell? (ad.add i) = some (.int k (f i)) ∧ (Lit.int k (f i)).wf = true := by
  obtain ⟨ad, rfl, hb, hc, hw⟩ := r i hi
  exact ⟨ad, rfl, (World.cell?_of_block (w := W) (m.block _ (by rw [block_add]; exact hb) (fun h => h))).trans hc, hw⟩

set_option maxHeartbeats 4000000 in
theorem copies_any (A : Option Addr) (len cap : Nat) (f : Nat → Int) (B : Option Addr) (lenB capB : Nat) (fB : Nat → Int) (C : Option Addr) (lenC capC : Nat) (fC : Nat → Int) (W : World)
    (w1 : RdI .i64 W A len f (· < W.heap.size)) (y1 : len ≤ 9223372036854775807) (w2 : RdI .u64 W B lenB fB (· < W.heap.size)) (y2 : lenB ≤ 9223372036854775807) (w3 : RdI .i64 W C lenC fC (· < W.heap.size)) (y3 : lenC ≤ 9223372036854775807) :
    Calls Try.prog 6 #[.slice A len cap, .slice B lenB capB, .slice C lenC capC] W fun e W' => e = .returned (.bool true) ∧ Below W.heap.size W W' := by
  have T1 := Lib.hid (fun w => new_z w 0 2 2 rfl (by omega) (by decide))
  have RA := Lib.hid w1
  have RB := Lib.hid w2
  have RC := Lib.hid w3
  clear w1 w2 w3
  go_enter Try.func6, Try.ntmps6
  go_wp2_with (first
    | (go_at_call 10; refine (T1.out _).mono ?_; rintro e w1 ⟨h, rfl, r, m⟩; have R := Lib.hid (Solo.made (Mod.refl Nil W) r m); clear r m))
  go_loopw [9, 10] (fun i x w => ∃ k : Nat, k ≤ len ∧ i = .int .i64 k ∧ ∃ mem F, Solo W w h 0 2 mem F) (fun i _ _ => (len - intOf i).toNat)
  case atStart => exact ⟨0, Nat.zero_le _, rfl, _, _, R.out⟩
  case round =>
    obtain ⟨k, hk, rfl, mem, F, hS⟩ := hrel
    have S := Lib.hid hS
    clear hS R
    by_cases hlt : k < len
    · obtain ⟨ad, rfl, hc, hwf⟩ := rdI_at RA.out S.out.mod hlt
      have b1 := i64_bd hwf
      have b2 : 0 ≤ f k % 1024 ∧ f k % 1024 < 1024 := by omega
      have P := Lib.hid (fun w => place_any (f k) 1024 (by omega) b1 (by omega) w)
      have hw1 : IntKind.i64.wrap (8 * (f k % 1024)) = 8 * (f k % 1024) := IntWalk.i64_in _ (by omega)
      have hw2 : IntKind.u64.wrap (8 * (f k % 1024)) = 8 * (f k % 1024) := IntWalk.u64_in _ (by omega)
      have hw3 : IntKind.u64.wrap (k : Int) = k := IntWalk.u64_in _ (by omega)
      have WR := Lib.hid (fun v (hv : 0 ≤ v ∧ v < 18446744073709551616) => write_z S.out.ram (8 * (f k % 1024)) v 8 8 rfl (by omega) hv (by decide) (decide_eq_true (by omega)))
      clear hwf b1 b2
      by_cases hlb : k < lenB
      · obtain ⟨bd, rfl, hd, hwf2⟩ := rdI_at RB.out S.out.mod hlb
        have V := Lib.hid (u64_bd hwf2)
        clear hwf2
        go_wp2_with (first
          | (go_at_call 9; refine (P.out _).mono ?_; rintro e w2 ⟨rfl, rfl⟩)
          | (go_at_call 12; refine (WR.out _ V.out).mono ?_; rintro e w3 ⟨rfl, r, m⟩; have S3 := Lib.hid (S.out.step r m); clear r m))
        exact ⟨⟨k + 1, by omega, by go_num, _, _, S3.out⟩, by simp [intOf]; omega⟩
      · have V := Lib.hid (show (0 : Int) ≤ k ∧ (k : Int) < 18446744073709551616 by omega)
        go_wp2_with (first
          | (go_at_call 9; refine (P.out _).mono ?_; rintro e w2 ⟨rfl, rfl⟩)
          | (go_at_call 12; refine (WR.out _ V.out).mono ?_; rintro e w3 ⟨rfl, r, m⟩; have S3 := Lib.hid (S.out.step r m); clear r m))
        exact ⟨⟨k + 1, by omega, by go_num, _, _, S3.out⟩, by simp [intOf]; omega⟩
    · have X1 := Lib.hid (bytes_z S.out.ram 0 8192 8192 rfl (by omega) (by omega) (by decide))
      go_wp2_with (first
        | (go_at_call 16; refine (X1.out).mono ?_; rintro e w4 ⟨g1, rfl, bx, hg1, hb⟩; have BX := Lib.hid bx; have S4 := Lib.hid (S.out.below hb); have HF := Lib.hid (show ¬ F g1 from fun hf => by have := S.out.ram.bound g1 hf; omega); clear bx hg1 hb; have C1 := Lib.hid (copy_any S4.out.ram))
        | (go_at_call 20; refine (C1.out).mono ?_; rintro e w5 ⟨h2, rfl, r, b⟩; have PP := Lib.hid (Pair.made S4.out r b); have BX2 := Lib.hid (BX.out.below b); have HF2 := Lib.hid (show ¬ Grow Nil w4 w5 g1 from fun hf => hf.elim id fun e => by have := BX.out.lt; omega); clear r b))
      go_loopw [14] (fun i w => ∃ k : Nat, k ≤ lenC ∧ i = .int .i64 k ∧ ∃ mem1 F1, Pair W w h 0 2 mem1 h2 0 2 mem F1 (Grow Nil w4 w5) ∧ ¬ F1 g1 ∧ Blk w g1 (row 8192 fun k => mem ((0 - 0 : Int).toNat + k)) 5) (fun i _ => (lenC - intOf i).toNat)
      case atStart => exact ⟨0, Nat.zero_le _, rfl, _, _, PP.out, HF.out, BX2.out⟩
      case round =>
        obtain ⟨j, hj, rfl, mem1, F1, hP, hF1, hB⟩ := hrel
        have PJ := Lib.hid hP
        have HF1 := Lib.hid hF1
        have BJ := Lib.hid hB
        clear hP hF1 hB
        by_cases hjl : j < lenC
        · obtain ⟨cd, rfl, hc, hwf⟩ := rdI_at RC.out PJ.out.mod hjl
          have b1 := i64_bd hwf
          by_cases hev : j % 2 = 0
          · have b2 : 0 ≤ fC j % 1024 ∧ fC j % 1024 < 1024 := by omega
            have P := Lib.hid (fun w => place_any (fC j) 1024 (by omega) b1 (by omega) w)
            have hw1 : IntKind.i64.wrap (8 * (fC j % 1024)) = 8 * (fC j % 1024) := IntWalk.i64_in _ (by omega)
            have hw2 : IntKind.u64.wrap (8 * (fC j % 1024)) = 8 * (fC j % 1024) := IntWalk.u64_in _ (by omega)
            have hev2 : (j : Int) % 2 = 0 := by omega
            have WR := Lib.hid (write_z PJ.out.one (8 * (fC j % 1024)) 18446744073709551615 8 8 rfl (by omega) (by omega) (by decide) (decide_eq_true (by omega)))
            clear hwf b1 b2 hev
            go_wp2_with (first
              | (go_at_call 9; refine (P.out _).mono ?_; rintro e w2 ⟨rfl, rfl⟩)
              | (go_at_call 12; refine (WR.out).mono ?_; rintro e w6 ⟨rfl, r, m⟩; have P6 := Lib.hid (PJ.out.step1 r m); have B6 := Lib.hid (BJ.out.mod m HF1.out); clear r m))
            exact ⟨⟨j + 1, by omega, by go_num, _, _, P6.out, fun hf => hf.elim HF1.out fun e => (by have := BJ.out.lt; omega), B6.out⟩, by simp [intOf]; omega⟩
          · obtain ⟨q, hq⟩ := Int.eq_ofNat_of_zero_le (show 0 ≤ fC j % 2 by omega)
            have P := Lib.hid (fun w => (place_any (fC j) 2 (by omega) b1 (by omega) w).mono fun e w' h => (by rw [hq] at h; exact h : e = .returned (.int .i64 q) ∧ w = w'))
            have K := Lib.hid (clear_yes PJ.out.one q (by omega))
            have hev2 : ((j : Int) % 2 == 0) = false := beq_eq_false_iff_ne.2 (by omega)
            clear hwf b1 hev hq
            go_wp2_with (first
              | (go_at_call 9; refine (P.out _).mono ?_; rintro e w2 ⟨rfl, rfl⟩)
              | (go_at_call 21; refine (K.out).mono ?_; rintro e w6 ⟨rfl, r, m⟩; have P6 := Lib.hid (PJ.out.step1 r m); have B6 := Lib.hid (BJ.out.mod m HF1.out); clear r m))
            exact ⟨⟨j + 1, by omega, by go_num, _, _, P6.out, fun hf => hf.elim HF1.out fun e => (by have := BJ.out.lt; omega), B6.out⟩, by simp [intOf]; omega⟩
        · have X3 := Lib.hid (bytes_z PJ.out.two 0 8192 8192 rfl (by omega) (by omega) (by decide))
          have AW := Lib.hid awake
          go_wp2_with (first
            | (go_at_call 16; (first
                | ((with_reducible refine (X3.out).mono ?_); rintro e w7 ⟨g2, rfl, bx, hg2, hb⟩; have B7 := Lib.hid bx; have P7 := Lib.hid (PJ.out.below hb); have BJ7 := Lib.hid (BJ.out.below hb); clear bx hg2 hb; have SM := Lib.hid (same_rows (ca := 8192) (cb := 8192) B7.out BJ7.out (fun i hi => rfl) (fun i hi => P7.out.two.byte (by omega)) (by omega)))
                | ((with_reducible refine (X4.out).mono ?_); rintro e w9 ⟨g3, rfl, bx, hg3, hb⟩; have B9 := Lib.hid bx; have P9 := Lib.hid (P8.out.below hb); have HG3 := Lib.hid (show ¬ Grow Nil w4 w5 g3 from fun hf => by have := P8.out.two.bound g3 hf; omega); clear bx hg3 hb; have K0 := Lib.hid (clear_z P9.out.two 0 0 rfl (by omega)))
                | ((with_reducible refine (X5.out).mono ?_); rintro e w12 ⟨g4, rfl, bx, hg4, hb⟩; have B12 := Lib.hid bx; have P12 := Lib.hid (P11.out.below hb); have B13 := Lib.hid (B11.out.below hb); clear bx hg4 hb; have SM2 := Lib.hid (same_rows (ca := 8192) (cb := 8192) B13.out B12.out (fun i hi => rfl) (fun i hi => P12.out.one.byte (by omega)) (by omega)))))
            | (go_at_call 17; (first
                | ((with_reducible refine (SM.out).mono ?_); rintro e w8 ⟨rfl, hw⟩; have P8 := Lib.hid (P7.out.drawn hw); clear hw SM; have X4 := Lib.hid (bytes_z P8.out.one 0 8192 8192 rfl (by omega) (by omega) (by decide)))
                | ((with_reducible refine (SM2.out).mono ?_); rintro e w8 ⟨rfl, hw⟩; have P14 := Lib.hid (P12.out.drawn hw); clear hw SM2)))
            | (go_at_call 21; (first
                | ((with_reducible refine (K0.out).mono ?_); rintro e w10 ⟨rfl, r, m⟩; have P10 := Lib.hid (P9.out.step2 r m); have B10 := Lib.hid (B9.out.mod m HG3.out); have HG4 := Lib.hid (show ¬ Grow (Grow Nil w4 w5) w9 w10 g3 from fun hf => hf.elim HG3.out fun e => by have := B9.out.lt; omega); clear r m; have K1 := Lib.hid (clear_z P10.out.two 1 1 rfl (by omega)))
                | ((with_reducible refine (K1.out).mono ?_); rintro e w11 ⟨rfl, r, m⟩; have P11 := Lib.hid (P10.out.step2 r m); have B11 := Lib.hid (B10.out.mod m HG4.out); clear r m; have X5 := Lib.hid (bytes_z P11.out.one 0 8192 8192 rfl (by omega) (by omega) (by decide)))))
            | (go_at_call 14; refine (AW.out _).mono ?_; rintro e w15 ⟨rfl, hb⟩; have P15 := Lib.hid (P14.out.below hb); clear hb))

          go_ret
          exact ⟨rfl, P15.out.out⟩
end Go.Proofs.Ytkdohejocmkljaa.Mem
