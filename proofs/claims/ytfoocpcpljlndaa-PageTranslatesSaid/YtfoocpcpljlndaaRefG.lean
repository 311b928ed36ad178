/- The document's second stage (written by genref.py). -/
import Derived.Test.YtfoocpcpljlndaaPageC
import Derived.Test.YtfoocpcpljlndaaPageE
import Derived.Test.YtfoocpcpljlndaaRefC
namespace Go.Proofs.Ytfoocpcpljlndaa.Tab
open Go Go.RowKit Go.Proofs.Ytfoocpcpljlndaa.Step Go.Proofs.Ytfoocpcpljlndaa.Mem
set_option linter.unusedVariables false
set_option linter.unusedSimpArgs false
set_option maxRecDepth 100000

theorem and_i64 {e : Int} (c : Nat) (h : U64 e) (hc : c < 256) : bits .and .i64 (IntKind.i64.wrap e) c = ((lo e &&& c : Nat) : Int) := by
  have h1 := and_lo c h hc
  have h2 : BitVec.ofInt 64 (IntKind.i64.wrap e) = BitVec.ofInt 64 e := by
    apply BitVec.eq_of_toNat_eq
    simp only [BitVec.toNat_ofInt, IntKind.wrap_i64]
    omega
  have h3 : IntKind.u64.wrap ((BitVec.ofInt 64 e &&& BitVec.ofInt 64 (c : Int)).toNat : Int) = ((lo e &&& c : Nat) : Int) := h1
  have h4 : (BitVec.ofInt 64 e &&& BitVec.ofInt 64 (c : Int)).toNat < 2 ^ 64 := BitVec.isLt _
  have h5 : lo e &&& c ≤ c := Nat.and_le_right
  show IntKind.i64.wrap ((BitVec.ofInt 64 (IntKind.i64.wrap e) &&& BitVec.ofInt 64 (c : Int)).toNat : Int) = _
  rw [h2]
  generalize (BitVec.ofInt 64 e &&& BitVec.ofInt 64 (c : Int)).toNat = X at h3 h4
  rw [IntWalk.u64_in _ (by omega)] at h3
  rw [h3]
  exact IntWalk.i64_in _ (by omega)
theorem and_w {e : Int} (h : U64 e) : bits .and .i64 (wrap64 e) 10 = ((lo e &&& 10 : Nat) : Int) := by
  rw [← IntWalk.i64_left, show (10 : Int) = ((10 : Nat) : Int) from rfl]
  exact and_i64 10 h (by decide)
theorem perm_r : ∀ k, k < 256 → (k.testBit 2 && k.testBit 7) = true → bits .or .i64 ((k &&& 10 : Nat) : Int) 4 = (if k.testBit 1 = true then 2 else 0) + (if k.testBit 2 = true ∧ k.testBit 7 = true then 4 else 0) + (if k.testBit 3 = true then 8 else 0) := by decide +kernel
theorem perm_s : ∀ k, k < 256 → (k.testBit 2 && k.testBit 7) = false → ((k &&& 10 : Nat) : Int) = (if k.testBit 1 = true then 2 else 0) + (if k.testBit 2 = true ∧ k.testBit 7 = true then 4 else 0) + (if k.testBit 3 = true then 8 else 0) := by decide +kernel
theorem rread_z {W : World} {h n : Nat} {base : Int} {mem : Nat → Int} {F : Nat → Prop} (r : Ref.Mem W h base n mem F) (addr z : Int) (s : Nat) (hz : z = s) (ha : 0 ≤ addr ∧ addr < 18446744073709551616) (h1 : wholeB s = true) (h2 : hasB base n addr s = true) :
    Calls Try.prog 25 #[.pointer (some ⟨h, 0, none⟩), .int .u64 addr, .int .i64 z] W fun e W' => e = .returned (.tuple #[.int .u64 (num mem (addr - base).toNat s), .bool true]) ∧ W = W' := by subst hz; exact Ref.read_yes r addr s ha h1 h2

set_option maxHeartbeats 4000000 in
theorem rguest_any {W : World} {h n : Nat} {base : Int} {mem : Nat → Int} {F : Nat → Prop} (r : Ref.Mem W h base n mem F) (root gpa a : Int) (hroot : U64 root) (hg : U64 gpa) :
    Calls Try.prog 16 #[.pointer (some ⟨h, 0, none⟩), .int .u64 root, .int .u64 gpa, .int .i64 a] W fun e W' => e = .returned (.tuple #[.int .u64 (guest base n mem root gpa a).1, .int .i64 (guest base n mem root gpa a).2.1, .int .i64 (guest base n mem root gpa a).2.2]) ∧ Below W.heap.size W W' := by
  by_cases h0 : root = 0
  · subst h0
    have E := Lib.hid (show guest base n mem 0 gpa a = (gpa, 14, 0) from if_pos rfl)
    clear r hroot hg
    go_enter Try.func16, Try.ntmps16
    go_wp2
    refine bodyPost_ret (results_tmp3 rfl _ _ _) rfl ⟨by rw [E.out]; rfl, Below.refl _ _⟩
  have d0 : (root == 0) = false := by simpa using h0
  by_cases h1 : 549755813888 ≤ gpa
  · have d1 : decide (549755813888 ≤ gpa) = true := decide_eq_true h1
    have E := Lib.hid (show guest base n mem root gpa a = (0, 0, 2) by unfold guest; rw [if_neg h0, if_pos h1])
    clear r hroot hg h0 h1
    go_enter Try.func16, Try.ntmps16
    go_wp2
    refine bodyPost_ret (results_tmp3 rfl _ _ _) rfl ⟨by rw [E.out]; rfl, Below.refl _ _⟩
  have d1 : decide (549755813888 ≤ gpa) = false := decide_eq_false h1
  have hb0 := r.size
  have hby := fun i (hi : i < n * 4096) => r.byte hi
  have HU := Lib.hid (fun t (l : Nat) => (phys_u (t := t) (i := ix gpa l) hb0.2.2.1 hby).1)
  have G := Lib.hid (show guest base n mem root gpa a = guestOf gpa a (down (phys base n mem) gpa 3 root) by unfold guest; rw [if_neg h0, if_neg h1])
  have HG := Lib.hid hg
  have R := Lib.hid r
  have HT := Lib.hid hroot
  clear r hroot hb0 hby h0 h1 hg
  go_enter Try.func16, Try.ntmps16
  go_wp2
  go_loop [11, 12, 13, 14, 15] (fun t l _ _ _ => ∃ (tv : Int) (k : Nat), k ≤ 3 ∧ t = .int .u64 tv ∧ l = .int .i64 ((k : Int) - 1) ∧ U64 tv ∧ down (phys base n mem) gpa k tv = down (phys base n mem) gpa 3 root) (fun _ l _ _ _ => (intOf l + 1).toNat)
  case atStart => exact ⟨root, 3, by decide, rfl, rfl, HT.out, rfl⟩
  case round =>
    obtain ⟨tv, k, hk, rfl, rfl, htv, hdn⟩ := hrel
    obtain hk | hk | hk | hk : k = 0 ∨ k = 1 ∨ k = 2 ∨ k = 3 := by omega
    · subst hk
      have E := Lib.hid (show guest base n mem root gpa a = (0, 0, 2) by rw [G.out, ← hdn]; rfl)
      clear hdn htv d0 d1
      go_wp2
      refine bodyPost_ret (results_tmp3 rfl _ _ _) rfl ⟨by rw [E.out]; rfl, Below.refl _ _⟩
    · subst hk
      have z0 : (((1 : Nat) : Int) - 1) = 0 := by decide
      have z1 : IntKind.i64.wrap 0 = 0 := by decide
      have z2 : IntKind.i64.wrap 12 = 12 := by decide
      have ixu := ix_u gpa 0
      obtain ⟨g0, g1⟩ := HG.out
      obtain ⟨t0, t1⟩ := htv
      have D := Lib.hid (show down (phys base n mem) gpa 3 root = (if (phys base n mem tv (ix gpa 0)).2 ≠ 0 then Res.bus (phys base n mem tv (ix gpa 0)).2 tv (ix gpa 0) else if wrongB (phys base n mem tv (ix gpa 0)).1 = true then .page else if ptr (phys base n mem tv (ix gpa 0)).1 = true then down (phys base n mem) gpa 0 (pn (phys base n mem tv (ix gpa 0)).1) else if odd (phys base n mem tv (ix gpa 0)).1 0 = true then .page else .leaf (phys base n mem tv (ix gpa 0)).1 0) from hdn.symm)
      have HUV := Lib.hid (HU.out tv 0)
      clear hdn
      rw [z0]
      clear z0
      by_cases hp : 4503599627370496 ≤ tv
      · have dp : decide (4503599627370495 < tv) = true := decide_eq_true (by omega)
        have E := Lib.hid (show guest base n mem root gpa a = (0, 0, 3) by rw [G.out, D.out, show phys base n mem tv (ix gpa 0) = (0, 3) from if_pos hp]; rfl)
        clear D HUV hp
        go_wp2
        refine bodyPost_ret (results_tmp3 rfl _ _ _) rfl ⟨by rw [E.out]; rfl, Below.refl _ _⟩
      have dp : decide (4503599627370495 < tv) = false := decide_eq_false (by omega)
      have w1 : IntKind.u64.wrap (tv * 4096) = tv * 4096 := IntWalk.u64_in _ (by omega)
      have w0 : (gpa / 4096).tmod 512 = ix gpa 0 := by rw [Int.tmod_eq_emod_of_nonneg (by omega)]; rfl
      have w0' : gpa / 4096 % 512 = ix gpa 0 := rfl
      have w2 : IntKind.u64.wrap (ix gpa 0 * 8) = 8 * ix gpa 0 := by rw [Int.mul_comm]; exact IntWalk.u64_in _ (by omega)
      have w3 : IntKind.u64.wrap (tv * 4096 + 8 * ix gpa 0) = tv * 4096 + 8 * ix gpa 0 := IntWalk.u64_in _ (by omega)
      have arange : 0 ≤ tv * 4096 + 8 * ix gpa 0 ∧ tv * 4096 + 8 * ix gpa 0 < 18446744073709551616 := by omega
      have AR := Lib.hid arange
      clear arange ixu
      cases hh : hasB base n (tv * 4096 + 8 * ix gpa 0) 8 with
      | false =>
        have E := Lib.hid (show guest base n mem root gpa a = (0, 0, 3) by rw [G.out, D.out, show phys base n mem tv (ix gpa 0) = (0, 3) by unfold phys; rw [if_neg hp, if_neg (by rw [hh]; decide)]]; rfl)
        have T := Lib.hid (Ref.read_no R.out (tv * 4096 + 8 * ix gpa 0) 8 AR.out (by omega) (by rw [hh]; rfl))
        clear D HUV hp hh
        go_wp2_with (go_at_call 25; refine (T.out).mono ?_; rintro e w1 ⟨rfl, rfl⟩)
        refine bodyPost_ret (results_tmp3 rfl _ _ _) rfl ⟨by rw [E.out]; rfl, Below.refl _ _⟩
      | true =>
        have hph : phys base n mem tv (ix gpa 0) = (num mem (tv * 4096 + 8 * ix gpa 0 - base).toNat 8, 0) := by unfold phys; rw [if_neg hp, if_pos hh]
        have T := Lib.hid (rread_z R.out (tv * 4096 + 8 * ix gpa 0) 8 8 rfl AR.out (by decide) hh)
        rw [hph] at D HUV
        clear hp hh hph
        generalize num mem (tv * 4096 + 8 * ix gpa 0 - base).toNat 8 = v at D HUV T
        have cp : (bits .and .u64 v 10 == 0) = ptr v := c_p HUV.out
        have HX := Lib.hid (show ∀ (b : Bool) (w : World), wrongB v = b → Calls Try.prog 26 #[.int .u64 v] w fun x w' => x = .returned (.bool b) ∧ w = w' from fun b w hb => hb ▸ rwrong_any HUV.out w)
        cases hwr : wrongB v with
        | true =>
          have E := Lib.hid (show guest base n mem root gpa a = (0, 0, 2) by rw [G.out, D.out, if_neg (fun h => h rfl), if_pos hwr]; rfl)
          have XW := Lib.hid (HX.out true · hwr)
          clear D hwr
          go_wp2_with (first
            | (go_at_call 25; refine (T.out).mono ?_; rintro e w1 ⟨rfl, rfl⟩)
            | (go_at_call 26; refine (XW.out _).mono ?_; rintro e w1 ⟨rfl, rfl⟩))
          refine bodyPost_ret (results_tmp3 rfl _ _ _) rfl ⟨by rw [E.out]; rfl, Below.refl _ _⟩
        | false =>
          have XW := Lib.hid (HX.out false · hwr)
          cases hpt : ptr v with
          | true =>
            rw [hpt] at cp
            have E := Lib.hid (show down (phys base n mem) gpa 0 (pn v) = down (phys base n mem) gpa 3 root by rw [D.out, if_neg (fun h => h rfl), if_neg (by rw [hwr]; decide), if_pos hpt])
            have TN := Lib.hid (number_any HUV.out)
            clear D hwr hpt
            go_wp2_with (first
              | (go_at_call 25; refine (T.out).mono ?_; rintro e w1 ⟨rfl, rfl⟩)
              | (go_at_call 26; refine (XW.out _).mono ?_; rintro e w1 ⟨rfl, rfl⟩)
              | (go_at_call 27; refine (TN.out _).mono ?_; rintro e w1 ⟨rfl, rfl⟩))
            exact ⟨⟨pn v, 0, by decide, rfl, rfl, ⟨(pn_u v).1, by have := (pn_u v).2; omega⟩, E.out⟩, by decide⟩
          | false =>
            rw [hpt] at cp
            have TM := Lib.hid (show ∀ (b : Bool) (w : World), odd v 0 = b → Calls Try.prog 28 #[.int .u64 v, .int .i64 0] w fun x w' => x = .returned (.bool b) ∧ w = w' from fun b w hb => hb ▸ misplaced_any (l := 0) (by decide) HUV.out w)
            cases hod : odd v 0 with
            | true =>
              have E := Lib.hid (show guest base n mem root gpa a = (0, 0, 2) by rw [G.out, D.out, if_neg (fun h => h rfl), if_neg (by rw [hwr]; decide), if_neg (by rw [hpt]; decide), if_pos hod]; rfl)
              have TO := Lib.hid (TM.out true · hod)
              clear D hwr hpt hod
              go_wp2_with (first
                | (go_at_call 25; refine (T.out).mono ?_; rintro e w1 ⟨rfl, rfl⟩)
                | (go_at_call 26; refine (XW.out _).mono ?_; rintro e w1 ⟨rfl, rfl⟩)
                | (go_at_call 28; refine (TO.out _).mono ?_; rintro e w1 ⟨rfl, rfl⟩))
              refine bodyPost_ret (results_tmp3 rfl _ _ _) rfl ⟨by rw [E.out]; rfl, Below.refl _ _⟩
            | false =>
              have TO := Lib.hid (TM.out false · hod)
              have TL := Lib.hid (show ∀ (b : Bool) (w : World), lets2 v a = b → Calls Try.prog 29 #[.int .u64 v, .int .i64 a] w fun x w' => x = .returned (.bool b) ∧ w = w' from fun b w hb => hb ▸ rlets_any HUV.out a w)
              cases hl : lets2 v a with
              | false =>
                have E := Lib.hid (show guest base n mem root gpa a = (0, 0, 2) by rw [G.out, D.out, if_neg (fun h => h rfl), if_neg (by rw [hwr]; decide), if_neg (by rw [hpt]; decide), if_neg (by rw [hod]; decide)]; exact if_neg (by rw [hl]; decide))
                have TLL := Lib.hid (TL.out false · hl)
                clear D hwr hpt hod hl
                go_wp2_with (first
                  | (go_at_call 25; refine (T.out).mono ?_; rintro e w1 ⟨rfl, rfl⟩)
                  | (go_at_call 26; refine (XW.out _).mono ?_; rintro e w1 ⟨rfl, rfl⟩)
                  | (go_at_call 28; refine (TO.out _).mono ?_; rintro e w1 ⟨rfl, rfl⟩)
                  | (go_at_call 29; refine (TLL.out _).mono ?_; rintro e w1 ⟨rfl, rfl⟩))
                refine bodyPost_ret (results_tmp3 rfl _ _ _) rfl ⟨by rw [E.out]; rfl, Below.refl _ _⟩
              | true =>
                have E := Lib.hid (show guest base n mem root gpa a = (at_ v 0 gpa, perm v, 0) by rw [G.out, D.out, if_neg (fun h => h rfl), if_neg (by rw [hwr]; decide), if_neg (by rw [hpt]; decide), if_neg (by rw [hod]; decide)]; exact if_pos hl)
                have TLL := Lib.hid (TL.out true · hl)
                have TP := Lib.hid (fun w => put_any (W := w) (l := 0) (by decide) HUV.out (show U64 gpa from HG.out))
                have a10 := and_w HUV.out
                have b4 := cn4 HUV.out
                have b7 := cn128 HUV.out
                clear D hwr hpt hod hl
                cases hb4 : bt v 2 with
                | true =>
                  cases hb7 : bt v 7 with
                  | true =>
                    rw [hb4] at b4
                    rw [hb7] at b7
                    have P := Lib.hid (show bits .or .i64 ((lo v &&& 10 : Nat) : Int) 4 = perm v from perm_r _ (lo_lt v) (show (bt v 2 && bt v 7) = true by rw [hb4, hb7]; rfl))
                    clear hb4 hb7
                    go_wp2_with (first
                      | (go_at_call 25; refine (T.out).mono ?_; rintro e w1 ⟨rfl, rfl⟩)
                      | (go_at_call 26; refine (XW.out _).mono ?_; rintro e w1 ⟨rfl, rfl⟩)
                      | (go_at_call 28; refine (TO.out _).mono ?_; rintro e w1 ⟨rfl, rfl⟩)
                      | (go_at_call 29; refine (TLL.out _).mono ?_; rintro e w1 ⟨rfl, rfl⟩)
                      | (go_at_call 30; refine (TP.out _).mono ?_; rintro e w1 ⟨rfl, hb⟩; have HB := Lib.hid hb; clear hb))
                    refine bodyPost_ret (results_tmp3 rfl _ _ _) rfl ⟨by rw [E.out, ← P.out]; rfl, HB.out⟩
                  | false =>
                    rw [hb4] at b4
                    rw [hb7] at b7
                    have P := Lib.hid (show ((lo v &&& 10 : Nat) : Int) = perm v from perm_s _ (lo_lt v) (show (bt v 2 && bt v 7) = false by rw [hb4, hb7]; rfl))
                    clear hb4 hb7
                    go_wp2_with (first
                      | (go_at_call 25; refine (T.out).mono ?_; rintro e w1 ⟨rfl, rfl⟩)
                      | (go_at_call 26; refine (XW.out _).mono ?_; rintro e w1 ⟨rfl, rfl⟩)
                      | (go_at_call 28; refine (TO.out _).mono ?_; rintro e w1 ⟨rfl, rfl⟩)
                      | (go_at_call 29; refine (TLL.out _).mono ?_; rintro e w1 ⟨rfl, rfl⟩)
                      | (go_at_call 30; refine (TP.out _).mono ?_; rintro e w1 ⟨rfl, hb⟩; have HB := Lib.hid hb; clear hb))
                    refine bodyPost_ret (results_tmp3 rfl _ _ _) rfl ⟨by rw [E.out, ← P.out]; rfl, HB.out⟩
                | false =>
                  cases hb7 : bt v 7 with
                  | true =>
                    rw [hb4] at b4
                    rw [hb7] at b7
                    have P := Lib.hid (show ((lo v &&& 10 : Nat) : Int) = perm v from perm_s _ (lo_lt v) (show (bt v 2 && bt v 7) = false by rw [hb4, hb7]; rfl))
                    clear hb4 hb7
                    go_wp2_with (first
                      | (go_at_call 25; refine (T.out).mono ?_; rintro e w1 ⟨rfl, rfl⟩)
                      | (go_at_call 26; refine (XW.out _).mono ?_; rintro e w1 ⟨rfl, rfl⟩)
                      | (go_at_call 28; refine (TO.out _).mono ?_; rintro e w1 ⟨rfl, rfl⟩)
                      | (go_at_call 29; refine (TLL.out _).mono ?_; rintro e w1 ⟨rfl, rfl⟩)
                      | (go_at_call 30; refine (TP.out _).mono ?_; rintro e w1 ⟨rfl, hb⟩; have HB := Lib.hid hb; clear hb))
                    refine bodyPost_ret (results_tmp3 rfl _ _ _) rfl ⟨by rw [E.out, ← P.out]; rfl, HB.out⟩
                  | false =>
                    rw [hb4] at b4
                    rw [hb7] at b7
                    have P := Lib.hid (show ((lo v &&& 10 : Nat) : Int) = perm v from perm_s _ (lo_lt v) (show (bt v 2 && bt v 7) = false by rw [hb4, hb7]; rfl))
                    clear hb4 hb7
                    go_wp2_with (first
                      | (go_at_call 25; refine (T.out).mono ?_; rintro e w1 ⟨rfl, rfl⟩)
                      | (go_at_call 26; refine (XW.out _).mono ?_; rintro e w1 ⟨rfl, rfl⟩)
                      | (go_at_call 28; refine (TO.out _).mono ?_; rintro e w1 ⟨rfl, rfl⟩)
                      | (go_at_call 29; refine (TLL.out _).mono ?_; rintro e w1 ⟨rfl, rfl⟩)
                      | (go_at_call 30; refine (TP.out _).mono ?_; rintro e w1 ⟨rfl, hb⟩; have HB := Lib.hid hb; clear hb))
                    refine bodyPost_ret (results_tmp3 rfl _ _ _) rfl ⟨by rw [E.out, ← P.out]; rfl, HB.out⟩
    · subst hk
      have z0 : (((2 : Nat) : Int) - 1) = 1 := by decide
      have z1 : IntKind.i64.wrap 9 = 9 := by decide
      have z2 : IntKind.i64.wrap 21 = 21 := by decide
      have ixu := ix_u gpa 1
      obtain ⟨g0, g1⟩ := HG.out
      obtain ⟨t0, t1⟩ := htv
      have D := Lib.hid (show down (phys base n mem) gpa 3 root = (if (phys base n mem tv (ix gpa 1)).2 ≠ 0 then Res.bus (phys base n mem tv (ix gpa 1)).2 tv (ix gpa 1) else if wrongB (phys base n mem tv (ix gpa 1)).1 = true then .page else if ptr (phys base n mem tv (ix gpa 1)).1 = true then down (phys base n mem) gpa 1 (pn (phys base n mem tv (ix gpa 1)).1) else if odd (phys base n mem tv (ix gpa 1)).1 1 = true then .page else .leaf (phys base n mem tv (ix gpa 1)).1 1) from hdn.symm)
      have HUV := Lib.hid (HU.out tv 1)
      clear hdn
      rw [z0]
      clear z0
      by_cases hp : 4503599627370496 ≤ tv
      · have dp : decide (4503599627370495 < tv) = true := decide_eq_true (by omega)
        have E := Lib.hid (show guest base n mem root gpa a = (0, 0, 3) by rw [G.out, D.out, show phys base n mem tv (ix gpa 1) = (0, 3) from if_pos hp]; rfl)
        clear D HUV hp
        go_wp2
        refine bodyPost_ret (results_tmp3 rfl _ _ _) rfl ⟨by rw [E.out]; rfl, Below.refl _ _⟩
      have dp : decide (4503599627370495 < tv) = false := decide_eq_false (by omega)
      have w1 : IntKind.u64.wrap (tv * 4096) = tv * 4096 := IntWalk.u64_in _ (by omega)
      have w0 : (gpa / 2097152).tmod 512 = ix gpa 1 := by rw [Int.tmod_eq_emod_of_nonneg (by omega)]; rfl
      have w0' : gpa / 2097152 % 512 = ix gpa 1 := rfl
      have w2 : IntKind.u64.wrap (ix gpa 1 * 8) = 8 * ix gpa 1 := by rw [Int.mul_comm]; exact IntWalk.u64_in _ (by omega)
      have w3 : IntKind.u64.wrap (tv * 4096 + 8 * ix gpa 1) = tv * 4096 + 8 * ix gpa 1 := IntWalk.u64_in _ (by omega)
      have arange : 0 ≤ tv * 4096 + 8 * ix gpa 1 ∧ tv * 4096 + 8 * ix gpa 1 < 18446744073709551616 := by omega
      have AR := Lib.hid arange
      clear arange ixu
      cases hh : hasB base n (tv * 4096 + 8 * ix gpa 1) 8 with
      | false =>
        have E := Lib.hid (show guest base n mem root gpa a = (0, 0, 3) by rw [G.out, D.out, show phys base n mem tv (ix gpa 1) = (0, 3) by unfold phys; rw [if_neg hp, if_neg (by rw [hh]; decide)]]; rfl)
        have T := Lib.hid (Ref.read_no R.out (tv * 4096 + 8 * ix gpa 1) 8 AR.out (by omega) (by rw [hh]; rfl))
        clear D HUV hp hh
        go_wp2_with (go_at_call 25; refine (T.out).mono ?_; rintro e w1 ⟨rfl, rfl⟩)
        refine bodyPost_ret (results_tmp3 rfl _ _ _) rfl ⟨by rw [E.out]; rfl, Below.refl _ _⟩
      | true =>
        have hph : phys base n mem tv (ix gpa 1) = (num mem (tv * 4096 + 8 * ix gpa 1 - base).toNat 8, 0) := by unfold phys; rw [if_neg hp, if_pos hh]
        have T := Lib.hid (rread_z R.out (tv * 4096 + 8 * ix gpa 1) 8 8 rfl AR.out (by decide) hh)
        rw [hph] at D HUV
        clear hp hh hph
        generalize num mem (tv * 4096 + 8 * ix gpa 1 - base).toNat 8 = v at D HUV T
        have cp : (bits .and .u64 v 10 == 0) = ptr v := c_p HUV.out
        have HX := Lib.hid (show ∀ (b : Bool) (w : World), wrongB v = b → Calls Try.prog 26 #[.int .u64 v] w fun x w' => x = .returned (.bool b) ∧ w = w' from fun b w hb => hb ▸ rwrong_any HUV.out w)
        cases hwr : wrongB v with
        | true =>
          have E := Lib.hid (show guest base n mem root gpa a = (0, 0, 2) by rw [G.out, D.out, if_neg (fun h => h rfl), if_pos hwr]; rfl)
          have XW := Lib.hid (HX.out true · hwr)
          clear D hwr
          go_wp2_with (first
            | (go_at_call 25; refine (T.out).mono ?_; rintro e w1 ⟨rfl, rfl⟩)
            | (go_at_call 26; refine (XW.out _).mono ?_; rintro e w1 ⟨rfl, rfl⟩))
          refine bodyPost_ret (results_tmp3 rfl _ _ _) rfl ⟨by rw [E.out]; rfl, Below.refl _ _⟩
        | false =>
          have XW := Lib.hid (HX.out false · hwr)
          cases hpt : ptr v with
          | true =>
            rw [hpt] at cp
            have E := Lib.hid (show down (phys base n mem) gpa 1 (pn v) = down (phys base n mem) gpa 3 root by rw [D.out, if_neg (fun h => h rfl), if_neg (by rw [hwr]; decide), if_pos hpt])
            have TN := Lib.hid (number_any HUV.out)
            clear D hwr hpt
            go_wp2_with (first
              | (go_at_call 25; refine (T.out).mono ?_; rintro e w1 ⟨rfl, rfl⟩)
              | (go_at_call 26; refine (XW.out _).mono ?_; rintro e w1 ⟨rfl, rfl⟩)
              | (go_at_call 27; refine (TN.out _).mono ?_; rintro e w1 ⟨rfl, rfl⟩))
            exact ⟨⟨pn v, 1, by decide, rfl, rfl, ⟨(pn_u v).1, by have := (pn_u v).2; omega⟩, E.out⟩, by decide⟩
          | false =>
            rw [hpt] at cp
            have TM := Lib.hid (show ∀ (b : Bool) (w : World), odd v 1 = b → Calls Try.prog 28 #[.int .u64 v, .int .i64 1] w fun x w' => x = .returned (.bool b) ∧ w = w' from fun b w hb => hb ▸ misplaced_any (l := 1) (by decide) HUV.out w)
            cases hod : odd v 1 with
            | true =>
              have E := Lib.hid (show guest base n mem root gpa a = (0, 0, 2) by rw [G.out, D.out, if_neg (fun h => h rfl), if_neg (by rw [hwr]; decide), if_neg (by rw [hpt]; decide), if_pos hod]; rfl)
              have TO := Lib.hid (TM.out true · hod)
              clear D hwr hpt hod
              go_wp2_with (first
                | (go_at_call 25; refine (T.out).mono ?_; rintro e w1 ⟨rfl, rfl⟩)
                | (go_at_call 26; refine (XW.out _).mono ?_; rintro e w1 ⟨rfl, rfl⟩)
                | (go_at_call 28; refine (TO.out _).mono ?_; rintro e w1 ⟨rfl, rfl⟩))
              refine bodyPost_ret (results_tmp3 rfl _ _ _) rfl ⟨by rw [E.out]; rfl, Below.refl _ _⟩
            | false =>
              have TO := Lib.hid (TM.out false · hod)
              have TL := Lib.hid (show ∀ (b : Bool) (w : World), lets2 v a = b → Calls Try.prog 29 #[.int .u64 v, .int .i64 a] w fun x w' => x = .returned (.bool b) ∧ w = w' from fun b w hb => hb ▸ rlets_any HUV.out a w)
              cases hl : lets2 v a with
              | false =>
                have E := Lib.hid (show guest base n mem root gpa a = (0, 0, 2) by rw [G.out, D.out, if_neg (fun h => h rfl), if_neg (by rw [hwr]; decide), if_neg (by rw [hpt]; decide), if_neg (by rw [hod]; decide)]; exact if_neg (by rw [hl]; decide))
                have TLL := Lib.hid (TL.out false · hl)
                clear D hwr hpt hod hl
                go_wp2_with (first
                  | (go_at_call 25; refine (T.out).mono ?_; rintro e w1 ⟨rfl, rfl⟩)
                  | (go_at_call 26; refine (XW.out _).mono ?_; rintro e w1 ⟨rfl, rfl⟩)
                  | (go_at_call 28; refine (TO.out _).mono ?_; rintro e w1 ⟨rfl, rfl⟩)
                  | (go_at_call 29; refine (TLL.out _).mono ?_; rintro e w1 ⟨rfl, rfl⟩))
                refine bodyPost_ret (results_tmp3 rfl _ _ _) rfl ⟨by rw [E.out]; rfl, Below.refl _ _⟩
              | true =>
                have E := Lib.hid (show guest base n mem root gpa a = (at_ v 1 gpa, perm v, 0) by rw [G.out, D.out, if_neg (fun h => h rfl), if_neg (by rw [hwr]; decide), if_neg (by rw [hpt]; decide), if_neg (by rw [hod]; decide)]; exact if_pos hl)
                have TLL := Lib.hid (TL.out true · hl)
                have TP := Lib.hid (fun w => put_any (W := w) (l := 1) (by decide) HUV.out (show U64 gpa from HG.out))
                have a10 := and_w HUV.out
                have b4 := cn4 HUV.out
                have b7 := cn128 HUV.out
                clear D hwr hpt hod hl
                cases hb4 : bt v 2 with
                | true =>
                  cases hb7 : bt v 7 with
                  | true =>
                    rw [hb4] at b4
                    rw [hb7] at b7
                    have P := Lib.hid (show bits .or .i64 ((lo v &&& 10 : Nat) : Int) 4 = perm v from perm_r _ (lo_lt v) (show (bt v 2 && bt v 7) = true by rw [hb4, hb7]; rfl))
                    clear hb4 hb7
                    go_wp2_with (first
                      | (go_at_call 25; refine (T.out).mono ?_; rintro e w1 ⟨rfl, rfl⟩)
                      | (go_at_call 26; refine (XW.out _).mono ?_; rintro e w1 ⟨rfl, rfl⟩)
                      | (go_at_call 28; refine (TO.out _).mono ?_; rintro e w1 ⟨rfl, rfl⟩)
                      | (go_at_call 29; refine (TLL.out _).mono ?_; rintro e w1 ⟨rfl, rfl⟩)
                      | (go_at_call 30; refine (TP.out _).mono ?_; rintro e w1 ⟨rfl, hb⟩; have HB := Lib.hid hb; clear hb))
                    refine bodyPost_ret (results_tmp3 rfl _ _ _) rfl ⟨by rw [E.out, ← P.out]; rfl, HB.out⟩
                  | false =>
                    rw [hb4] at b4
                    rw [hb7] at b7
                    have P := Lib.hid (show ((lo v &&& 10 : Nat) : Int) = perm v from perm_s _ (lo_lt v) (show (bt v 2 && bt v 7) = false by rw [hb4, hb7]; rfl))
                    clear hb4 hb7
                    go_wp2_with (first
                      | (go_at_call 25; refine (T.out).mono ?_; rintro e w1 ⟨rfl, rfl⟩)
                      | (go_at_call 26; refine (XW.out _).mono ?_; rintro e w1 ⟨rfl, rfl⟩)
                      | (go_at_call 28; refine (TO.out _).mono ?_; rintro e w1 ⟨rfl, rfl⟩)
                      | (go_at_call 29; refine (TLL.out _).mono ?_; rintro e w1 ⟨rfl, rfl⟩)
                      | (go_at_call 30; refine (TP.out _).mono ?_; rintro e w1 ⟨rfl, hb⟩; have HB := Lib.hid hb; clear hb))
                    refine bodyPost_ret (results_tmp3 rfl _ _ _) rfl ⟨by rw [E.out, ← P.out]; rfl, HB.out⟩
                | false =>
                  cases hb7 : bt v 7 with
                  | true =>
                    rw [hb4] at b4
                    rw [hb7] at b7
                    have P := Lib.hid (show ((lo v &&& 10 : Nat) : Int) = perm v from perm_s _ (lo_lt v) (show (bt v 2 && bt v 7) = false by rw [hb4, hb7]; rfl))
                    clear hb4 hb7
                    go_wp2_with (first
                      | (go_at_call 25; refine (T.out).mono ?_; rintro e w1 ⟨rfl, rfl⟩)
                      | (go_at_call 26; refine (XW.out _).mono ?_; rintro e w1 ⟨rfl, rfl⟩)
                      | (go_at_call 28; refine (TO.out _).mono ?_; rintro e w1 ⟨rfl, rfl⟩)
                      | (go_at_call 29; refine (TLL.out _).mono ?_; rintro e w1 ⟨rfl, rfl⟩)
                      | (go_at_call 30; refine (TP.out _).mono ?_; rintro e w1 ⟨rfl, hb⟩; have HB := Lib.hid hb; clear hb))
                    refine bodyPost_ret (results_tmp3 rfl _ _ _) rfl ⟨by rw [E.out, ← P.out]; rfl, HB.out⟩
                  | false =>
                    rw [hb4] at b4
                    rw [hb7] at b7
                    have P := Lib.hid (show ((lo v &&& 10 : Nat) : Int) = perm v from perm_s _ (lo_lt v) (show (bt v 2 && bt v 7) = false by rw [hb4, hb7]; rfl))
                    clear hb4 hb7
                    go_wp2_with (first
                      | (go_at_call 25; refine (T.out).mono ?_; rintro e w1 ⟨rfl, rfl⟩)
                      | (go_at_call 26; refine (XW.out _).mono ?_; rintro e w1 ⟨rfl, rfl⟩)
                      | (go_at_call 28; refine (TO.out _).mono ?_; rintro e w1 ⟨rfl, rfl⟩)
                      | (go_at_call 29; refine (TLL.out _).mono ?_; rintro e w1 ⟨rfl, rfl⟩)
                      | (go_at_call 30; refine (TP.out _).mono ?_; rintro e w1 ⟨rfl, hb⟩; have HB := Lib.hid hb; clear hb))
                    refine bodyPost_ret (results_tmp3 rfl _ _ _) rfl ⟨by rw [E.out, ← P.out]; rfl, HB.out⟩
    · subst hk
      have z0 : (((3 : Nat) : Int) - 1) = 2 := by decide
      have z1 : IntKind.i64.wrap 18 = 18 := by decide
      have z2 : IntKind.i64.wrap 30 = 30 := by decide
      have ixu := ix_u gpa 2
      obtain ⟨g0, g1⟩ := HG.out
      obtain ⟨t0, t1⟩ := htv
      have D := Lib.hid (show down (phys base n mem) gpa 3 root = (if (phys base n mem tv (ix gpa 2)).2 ≠ 0 then Res.bus (phys base n mem tv (ix gpa 2)).2 tv (ix gpa 2) else if wrongB (phys base n mem tv (ix gpa 2)).1 = true then .page else if ptr (phys base n mem tv (ix gpa 2)).1 = true then down (phys base n mem) gpa 2 (pn (phys base n mem tv (ix gpa 2)).1) else if odd (phys base n mem tv (ix gpa 2)).1 2 = true then .page else .leaf (phys base n mem tv (ix gpa 2)).1 2) from hdn.symm)
      have HUV := Lib.hid (HU.out tv 2)
      clear hdn
      rw [z0]
      clear z0
      by_cases hp : 4503599627370496 ≤ tv
      · have dp : decide (4503599627370495 < tv) = true := decide_eq_true (by omega)
        have E := Lib.hid (show guest base n mem root gpa a = (0, 0, 3) by rw [G.out, D.out, show phys base n mem tv (ix gpa 2) = (0, 3) from if_pos hp]; rfl)
        clear D HUV hp
        go_wp2
        refine bodyPost_ret (results_tmp3 rfl _ _ _) rfl ⟨by rw [E.out]; rfl, Below.refl _ _⟩
      have dp : decide (4503599627370495 < tv) = false := decide_eq_false (by omega)
      have w1 : IntKind.u64.wrap (tv * 4096) = tv * 4096 := IntWalk.u64_in _ (by omega)
      have w0 : (gpa / 1073741824).tmod 512 = ix gpa 2 := by rw [Int.tmod_eq_emod_of_nonneg (by omega)]; rfl
      have w0' : gpa / 1073741824 % 512 = ix gpa 2 := rfl
      have w2 : IntKind.u64.wrap (ix gpa 2 * 8) = 8 * ix gpa 2 := by rw [Int.mul_comm]; exact IntWalk.u64_in _ (by omega)
      have w3 : IntKind.u64.wrap (tv * 4096 + 8 * ix gpa 2) = tv * 4096 + 8 * ix gpa 2 := IntWalk.u64_in _ (by omega)
      have arange : 0 ≤ tv * 4096 + 8 * ix gpa 2 ∧ tv * 4096 + 8 * ix gpa 2 < 18446744073709551616 := by omega
      have AR := Lib.hid arange
      clear arange ixu
      cases hh : hasB base n (tv * 4096 + 8 * ix gpa 2) 8 with
      | false =>
        have E := Lib.hid (show guest base n mem root gpa a = (0, 0, 3) by rw [G.out, D.out, show phys base n mem tv (ix gpa 2) = (0, 3) by unfold phys; rw [if_neg hp, if_neg (by rw [hh]; decide)]]; rfl)
        have T := Lib.hid (Ref.read_no R.out (tv * 4096 + 8 * ix gpa 2) 8 AR.out (by omega) (by rw [hh]; rfl))
        clear D HUV hp hh
        go_wp2_with (go_at_call 25; refine (T.out).mono ?_; rintro e w1 ⟨rfl, rfl⟩)
        refine bodyPost_ret (results_tmp3 rfl _ _ _) rfl ⟨by rw [E.out]; rfl, Below.refl _ _⟩
      | true =>
        have hph : phys base n mem tv (ix gpa 2) = (num mem (tv * 4096 + 8 * ix gpa 2 - base).toNat 8, 0) := by unfold phys; rw [if_neg hp, if_pos hh]
        have T := Lib.hid (rread_z R.out (tv * 4096 + 8 * ix gpa 2) 8 8 rfl AR.out (by decide) hh)
        rw [hph] at D HUV
        clear hp hh hph
        generalize num mem (tv * 4096 + 8 * ix gpa 2 - base).toNat 8 = v at D HUV T
        have cp : (bits .and .u64 v 10 == 0) = ptr v := c_p HUV.out
        have HX := Lib.hid (show ∀ (b : Bool) (w : World), wrongB v = b → Calls Try.prog 26 #[.int .u64 v] w fun x w' => x = .returned (.bool b) ∧ w = w' from fun b w hb => hb ▸ rwrong_any HUV.out w)
        cases hwr : wrongB v with
        | true =>
          have E := Lib.hid (show guest base n mem root gpa a = (0, 0, 2) by rw [G.out, D.out, if_neg (fun h => h rfl), if_pos hwr]; rfl)
          have XW := Lib.hid (HX.out true · hwr)
          clear D hwr
          go_wp2_with (first
            | (go_at_call 25; refine (T.out).mono ?_; rintro e w1 ⟨rfl, rfl⟩)
            | (go_at_call 26; refine (XW.out _).mono ?_; rintro e w1 ⟨rfl, rfl⟩))
          refine bodyPost_ret (results_tmp3 rfl _ _ _) rfl ⟨by rw [E.out]; rfl, Below.refl _ _⟩
        | false =>
          have XW := Lib.hid (HX.out false · hwr)
          cases hpt : ptr v with
          | true =>
            rw [hpt] at cp
            have E := Lib.hid (show down (phys base n mem) gpa 2 (pn v) = down (phys base n mem) gpa 3 root by rw [D.out, if_neg (fun h => h rfl), if_neg (by rw [hwr]; decide), if_pos hpt])
            have TN := Lib.hid (number_any HUV.out)
            clear D hwr hpt
            go_wp2_with (first
              | (go_at_call 25; refine (T.out).mono ?_; rintro e w1 ⟨rfl, rfl⟩)
              | (go_at_call 26; refine (XW.out _).mono ?_; rintro e w1 ⟨rfl, rfl⟩)
              | (go_at_call 27; refine (TN.out _).mono ?_; rintro e w1 ⟨rfl, rfl⟩))
            exact ⟨⟨pn v, 2, by decide, rfl, rfl, ⟨(pn_u v).1, by have := (pn_u v).2; omega⟩, E.out⟩, by decide⟩
          | false =>
            rw [hpt] at cp
            have TM := Lib.hid (show ∀ (b : Bool) (w : World), odd v 2 = b → Calls Try.prog 28 #[.int .u64 v, .int .i64 2] w fun x w' => x = .returned (.bool b) ∧ w = w' from fun b w hb => hb ▸ misplaced_any (l := 2) (by decide) HUV.out w)
            cases hod : odd v 2 with
            | true =>
              have E := Lib.hid (show guest base n mem root gpa a = (0, 0, 2) by rw [G.out, D.out, if_neg (fun h => h rfl), if_neg (by rw [hwr]; decide), if_neg (by rw [hpt]; decide), if_pos hod]; rfl)
              have TO := Lib.hid (TM.out true · hod)
              clear D hwr hpt hod
              go_wp2_with (first
                | (go_at_call 25; refine (T.out).mono ?_; rintro e w1 ⟨rfl, rfl⟩)
                | (go_at_call 26; refine (XW.out _).mono ?_; rintro e w1 ⟨rfl, rfl⟩)
                | (go_at_call 28; refine (TO.out _).mono ?_; rintro e w1 ⟨rfl, rfl⟩))
              refine bodyPost_ret (results_tmp3 rfl _ _ _) rfl ⟨by rw [E.out]; rfl, Below.refl _ _⟩
            | false =>
              have TO := Lib.hid (TM.out false · hod)
              have TL := Lib.hid (show ∀ (b : Bool) (w : World), lets2 v a = b → Calls Try.prog 29 #[.int .u64 v, .int .i64 a] w fun x w' => x = .returned (.bool b) ∧ w = w' from fun b w hb => hb ▸ rlets_any HUV.out a w)
              cases hl : lets2 v a with
              | false =>
                have E := Lib.hid (show guest base n mem root gpa a = (0, 0, 2) by rw [G.out, D.out, if_neg (fun h => h rfl), if_neg (by rw [hwr]; decide), if_neg (by rw [hpt]; decide), if_neg (by rw [hod]; decide)]; exact if_neg (by rw [hl]; decide))
                have TLL := Lib.hid (TL.out false · hl)
                clear D hwr hpt hod hl
                go_wp2_with (first
                  | (go_at_call 25; refine (T.out).mono ?_; rintro e w1 ⟨rfl, rfl⟩)
                  | (go_at_call 26; refine (XW.out _).mono ?_; rintro e w1 ⟨rfl, rfl⟩)
                  | (go_at_call 28; refine (TO.out _).mono ?_; rintro e w1 ⟨rfl, rfl⟩)
                  | (go_at_call 29; refine (TLL.out _).mono ?_; rintro e w1 ⟨rfl, rfl⟩))
                refine bodyPost_ret (results_tmp3 rfl _ _ _) rfl ⟨by rw [E.out]; rfl, Below.refl _ _⟩
              | true =>
                have E := Lib.hid (show guest base n mem root gpa a = (at_ v 2 gpa, perm v, 0) by rw [G.out, D.out, if_neg (fun h => h rfl), if_neg (by rw [hwr]; decide), if_neg (by rw [hpt]; decide), if_neg (by rw [hod]; decide)]; exact if_pos hl)
                have TLL := Lib.hid (TL.out true · hl)
                have TP := Lib.hid (fun w => put_any (W := w) (l := 2) (by decide) HUV.out (show U64 gpa from HG.out))
                have a10 := and_w HUV.out
                have b4 := cn4 HUV.out
                have b7 := cn128 HUV.out
                clear D hwr hpt hod hl
                cases hb4 : bt v 2 with
                | true =>
                  cases hb7 : bt v 7 with
                  | true =>
                    rw [hb4] at b4
                    rw [hb7] at b7
                    have P := Lib.hid (show bits .or .i64 ((lo v &&& 10 : Nat) : Int) 4 = perm v from perm_r _ (lo_lt v) (show (bt v 2 && bt v 7) = true by rw [hb4, hb7]; rfl))
                    clear hb4 hb7
                    go_wp2_with (first
                      | (go_at_call 25; refine (T.out).mono ?_; rintro e w1 ⟨rfl, rfl⟩)
                      | (go_at_call 26; refine (XW.out _).mono ?_; rintro e w1 ⟨rfl, rfl⟩)
                      | (go_at_call 28; refine (TO.out _).mono ?_; rintro e w1 ⟨rfl, rfl⟩)
                      | (go_at_call 29; refine (TLL.out _).mono ?_; rintro e w1 ⟨rfl, rfl⟩)
                      | (go_at_call 30; refine (TP.out _).mono ?_; rintro e w1 ⟨rfl, hb⟩; have HB := Lib.hid hb; clear hb))
                    refine bodyPost_ret (results_tmp3 rfl _ _ _) rfl ⟨by rw [E.out, ← P.out]; rfl, HB.out⟩
                  | false =>
                    rw [hb4] at b4
                    rw [hb7] at b7
                    have P := Lib.hid (show ((lo v &&& 10 : Nat) : Int) = perm v from perm_s _ (lo_lt v) (show (bt v 2 && bt v 7) = false by rw [hb4, hb7]; rfl))
                    clear hb4 hb7
                    go_wp2_with (first
                      | (go_at_call 25; refine (T.out).mono ?_; rintro e w1 ⟨rfl, rfl⟩)
                      | (go_at_call 26; refine (XW.out _).mono ?_; rintro e w1 ⟨rfl, rfl⟩)
                      | (go_at_call 28; refine (TO.out _).mono ?_; rintro e w1 ⟨rfl, rfl⟩)
                      | (go_at_call 29; refine (TLL.out _).mono ?_; rintro e w1 ⟨rfl, rfl⟩)
                      | (go_at_call 30; refine (TP.out _).mono ?_; rintro e w1 ⟨rfl, hb⟩; have HB := Lib.hid hb; clear hb))
                    refine bodyPost_ret (results_tmp3 rfl _ _ _) rfl ⟨by rw [E.out, ← P.out]; rfl, HB.out⟩
                | false =>
                  cases hb7 : bt v 7 with
                  | true =>
                    rw [hb4] at b4
                    rw [hb7] at b7
                    have P := Lib.hid (show ((lo v &&& 10 : Nat) : Int) = perm v from perm_s _ (lo_lt v) (show (bt v 2 && bt v 7) = false by rw [hb4, hb7]; rfl))
                    clear hb4 hb7
                    go_wp2_with (first
                      | (go_at_call 25; refine (T.out).mono ?_; rintro e w1 ⟨rfl, rfl⟩)
                      | (go_at_call 26; refine (XW.out _).mono ?_; rintro e w1 ⟨rfl, rfl⟩)
                      | (go_at_call 28; refine (TO.out _).mono ?_; rintro e w1 ⟨rfl, rfl⟩)
                      | (go_at_call 29; refine (TLL.out _).mono ?_; rintro e w1 ⟨rfl, rfl⟩)
                      | (go_at_call 30; refine (TP.out _).mono ?_; rintro e w1 ⟨rfl, hb⟩; have HB := Lib.hid hb; clear hb))
                    refine bodyPost_ret (results_tmp3 rfl _ _ _) rfl ⟨by rw [E.out, ← P.out]; rfl, HB.out⟩
                  | false =>
                    rw [hb4] at b4
                    rw [hb7] at b7
                    have P := Lib.hid (show ((lo v &&& 10 : Nat) : Int) = perm v from perm_s _ (lo_lt v) (show (bt v 2 && bt v 7) = false by rw [hb4, hb7]; rfl))
                    clear hb4 hb7
                    go_wp2_with (first
                      | (go_at_call 25; refine (T.out).mono ?_; rintro e w1 ⟨rfl, rfl⟩)
                      | (go_at_call 26; refine (XW.out _).mono ?_; rintro e w1 ⟨rfl, rfl⟩)
                      | (go_at_call 28; refine (TO.out _).mono ?_; rintro e w1 ⟨rfl, rfl⟩)
                      | (go_at_call 29; refine (TLL.out _).mono ?_; rintro e w1 ⟨rfl, rfl⟩)
                      | (go_at_call 30; refine (TP.out _).mono ?_; rintro e w1 ⟨rfl, hb⟩; have HB := Lib.hid hb; clear hb))
                    refine bodyPost_ret (results_tmp3 rfl _ _ _) rfl ⟨by rw [E.out, ← P.out]; rfl, HB.out⟩
end Go.Proofs.Ytfoocpcpljlndaa.Tab
