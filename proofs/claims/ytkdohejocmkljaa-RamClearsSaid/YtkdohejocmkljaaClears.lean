/- The walk of RamClears: a cleared frame has only bytes 0, and no other frame is turned. -/
import Derived.Test.YtkdohejocmkljaaPair
import Derived.Test.YtkdohejocmkljaaOpen
namespace Go.Proofs.Ytkdohejocmkljaa.Mem
open Go Go.RowKit Go.Proofs.Ytkdohejocmkljaa.Step
set_option linter.unusedVariables false
set_option linter.unusedSimpArgs false
set_option maxRecDepth 100000

theorem u8_bd {v : Int} (h : (Lit.int .u8 v).wf = true) : 0 ≤ v ∧ v < 256 := by have := bounds_u8 h; omega
set_option maxHeartbeats 4000000 in
theorem clears_any (f0 q0 : Int) (A : Option Addr) (len cap : Nat) (f : Nat → Int) (W : World) (w1 : (Lit.int .i64 f0).wf = true) (w2 : (Lit.int .i64 q0).wf = true) (w3 : RdI .u8 W A len f (· < W.heap.size)) (y3 : len ≤ 9223372036854775807) :
    Calls Try.prog 7 #[.int .i64 f0, .int .i64 q0, .slice A len cap] W fun e W' => e = .returned (.bool true) ∧ Below W.heap.size W W' := by
  have h1 := bounds_i64 w1
  have h2 := bounds_i64 w2
  obtain ⟨n, hn⟩ := Int.eq_ofNat_of_zero_le (show 0 ≤ 1 + f0 % 4 by omega)
  have n4 : 1 ≤ n ∧ n ≤ 4 := by omega
  obtain ⟨q, hq⟩ := Int.eq_ofNat_of_zero_le (show 0 ≤ q0 % (n : Int) from Int.emod_nonneg _ (by omega))
  have qn : q < n := by have := Int.emod_lt_of_pos q0 (show (0 : Int) < n by omega); omega
  have P1 := Lib.hid (fun w => place_any f0 4 (by omega) (by omega) (by omega) w)
  have P2 := Lib.hid (fun w => (place_any q0 n (by omega) (by omega) (by omega) w).mono fun e w' h => (by rw [hq] at h; exact h : e = .returned (.int .i64 q) ∧ w = w'))
  have T1 := Lib.hid (fun w => new_yes w 0 n (by omega) (decide_eq_true (by omega)))
  have hw1 : IntKind.i64.wrap (1 + f0 % 4) = n := by rw [IntWalk.i64_in _ (by omega)]; exact hn
  have RD := Lib.hid w3
  clear w1 w2 w3 h1 h2 hq hn
  go_enter Try.func7, Try.ntmps7
  go_wp2_with (first
    | (go_at_call 9; refine (P1.out _).mono ?_; rintro e w1 ⟨rfl, rfl⟩)
    | (go_at_call 10; refine (T1.out _).mono ?_; rintro e w1 ⟨h, rfl, r, m⟩; have R := Lib.hid (Solo.made (Mod.refl Nil W) r m); clear r m))
  go_loopw [10, 11, 12] (fun i b j w => ∃ k : Nat, k ≤ n ∧ i = .int .i64 k ∧ ∃ mem F, Solo W w h 0 n mem F) (fun i _ _ _ => (n - intOf i).toNat)
  case atStart => exact ⟨0, Nat.zero_le _, rfl, _, _, R.out⟩
  case round =>
    obtain ⟨k, hk, rfl, mem, F, hS⟩ := hrel
    have S := Lib.hid hS
    clear hS R
    by_cases hlt : k < n
    · go_wp2_with (first
        | (refine Step.make (t := 35) (n := 4096) rfl rfl rfl rfl Try.underlying35 mk_u8 rfl (by omega) (by omega) ?_; intro g w2 b hg hb; have B1 := Lib.hid b; have HG := Lib.hid hg; have S1 := Lib.hid (S.out.below hb); have HS := Lib.hid (show W.heap.size ≤ g from Nat.le_trans S.out.mod.size hg); have HF := Lib.hid (show ¬ F g from fun hf => by have := S.out.ram.bound g hf; omega); clear b hg hb S))
      go_loopw [12] (fun j w => ∃ i : Nat, i ≤ 4096 ∧ j = .int .i64 i ∧ ∃ fx, Blk w g (row 4096 fx) 5 ∧ (∀ k, k < 4096 → 0 ≤ fx k ∧ fx k < 256) ∧ Solo W w h 0 n mem F) (fun j _ => (4096 - intOf j).toNat)
      case atStart => exact ⟨0, by omega, rfl, fun _ => 0, by have := B1.out; rwa [row_zero] at this, fun _ _ => ⟨Int.le_refl _, (by decide : (0 : Int) < 256)⟩, S1.out⟩
      case round =>
        obtain ⟨i, hi, rfl, fx, hB, hfx, hS⟩ := hrel
        have BX := Lib.hid hB
        have FX := Lib.hid hfx
        have S2 := Lib.hid hS
        clear hB hfx hS
        have T := Lib.hid (fill_yes S2.out.ram (k * 4096) (G := One g) (c := 4096) (rd_row BX.out rfl FX.out) (fun i e => by obtain rfl : i = g := e; exact ⟨HF.out, BX.out.lt⟩) (by omega) (decide_eq_true (by omega)))
        by_cases hil : i < 4096
        · by_cases h0 : len = 0
          · subst h0
            go_wp2_with (go_at_call 15; refine (T.out).mono ?_; rintro e w3 ⟨rfl, r, m⟩; have S3 := Lib.hid (S2.out.step r m); clear r m)
            exact ⟨⟨k + 1, by omega, by go_num, _, _, S3.out⟩, by simp [intOf]; omega⟩
          · have len0 : 0 < len := by omega
            have hq : (i + k) % len < len := Nat.mod_lt _ len0
            obtain ⟨ad, rfl, hab, hc, hwf⟩ := RD.out ((i + k) % len) hq
            have hc' : wr.cell? (ad.add ((i + k) % len)) = some (.int .u8 (f ((i + k) % len))) := (World.cell?_of_block (w := W) (S2.out.mod.block _ (by rw [block_add]; exact hab) (fun h => h))).trans hc
            have HI := Lib.hid (show Nat.blt i (row 4096 fx).size = true by rw [row_size]; exact Nat.ble_eq_true_of_le hil)
            have HV := Lib.hid (u8_bd hwf)
            have q0 : (0 : Int) ≤ ((i : Int) + k) % len := Int.emod_nonneg _ (by omega)
            have q1 : ((i : Int) + k) % len < len := Int.emod_lt_of_pos _ (by omega)
            clear hc hwf hab h0
            go_wp2_with (first
              | ((with_reducible refine Step.gate_store (t := 5) rfl ?_); refine Step.store BX.out rfl rfl rfl rfl rfl pl_u8 rfl HI.out ?_; intro w4 nb m; have NB := Lib.hid nb; have S4 := Lib.hid (S2.out.other m (fun k hk e => HF.out (by obtain rfl : k = g := e; exact hk)) (fun k e => by obtain rfl : k = g := e; exact HS.out)); clear nb m))
            refine ⟨⟨i + 1, by omega, by go_num, upd fx i (f ((i + k) % len)), ?_, fun j hj => ?_, S4.out⟩, by simp [intOf]; omega⟩
            · have nb : Blk w4 g ((row 4096 fx).setIfInBounds i (.int .u8 (f ((i + k) % len)))) 5 := NB.out
              rwa [row_set] at nb
            · unfold upd; split
              · exact HV.out
              · exact FX.out j hj
        · obtain rfl : i = 4096 := by omega
          go_wp2_with (go_at_call 15; refine (T.out).mono ?_; rintro e w3 ⟨rfl, r, m⟩; have S3 := Lib.hid (S2.out.step r m); clear r m)
          exact ⟨⟨k + 1, by omega, by go_num, _, _, S3.out⟩, by simp [intOf]; omega⟩
    · obtain rfl : k = n := by omega
      have C1 := Lib.hid (copy_any S.out.ram)
      go_wp2_with (first
        | (go_at_call 9; refine (P2.out _).mono ?_; rintro e w1 ⟨rfl, rfl⟩)
        | (go_at_call 20; refine (C1.out).mono ?_; rintro e w5 ⟨h2, rfl, r, b⟩; have PP := Lib.hid (Pair.made S.out r b); clear r b; have K1 := Lib.hid (clear_yes PP.out.one q qn))
        | (go_at_call 21; (first
            | ((with_reducible refine (K1.out).mono ?_); rintro e w6 ⟨rfl, r, m⟩; have P3 := Lib.hid (PP.out.step1 r m); clear r m; have K2 := Lib.hid (clear_no P3.out.one (k : Int) (by omega)); have K3 := Lib.hid (clear_no P3.out.one (-1) (by omega)))
            | ((with_reducible refine (K2.out).mono ?_); rintro e w6 ⟨rfl, rfl⟩)
            | ((with_reducible refine (K3.out).mono ?_); rintro e w6 ⟨rfl, rfl⟩))))
      go_loopw [15, 16, 17, 18, 19] (fun i a b c d w => ∃ j : Nat, j ≤ k ∧ i = .int .i64 j ∧ Pair W w h 0 k (clr mem q) h2 0 k mem (Grow F w5 w6) (Grow Nil wr w5)) (fun i _ _ _ _ _ => (k - intOf i).toNat)
      case atStart => exact ⟨0, Nat.zero_le _, rfl, P3.out⟩
      case round =>
        obtain ⟨j, hj, rfl, hP⟩ := hrel
        have PJ := Lib.hid hP
        have d3 : (q : Int) = q := rfl
        clear hP K1 K2 K3 d3
        by_cases hlt : j < k
        · have X1 := Lib.hid (bytes_z PJ.out.one (j * 4096) 4096 4096 rfl (by omega) (by omega) (decide_eq_true (by omega)))
          by_cases hjq : j = q
          · subst hjq
            go_wp2_with (first
              | (go_at_call 16; (first
                  | ((with_reducible refine (X1.out).mono ?_); rintro e w7 ⟨g1, rfl, bx, hg1, hb⟩; have BX := Lib.hid bx; have P4 := Lib.hid (PJ.out.below hb); clear bx hg1 hb; have X2 := Lib.hid (bytes_z P4.out.two (j * 4096) 4096 4096 rfl (by omega) (by omega) (decide_eq_true (by omega))))
                  | ((with_reducible refine (X2.out).mono ?_); rintro e w8 ⟨g2, rfl, by', hg2, hb⟩; have P5 := Lib.hid (P4.out.below hb); have BX2 := Lib.hid (BX.out.below hb); clear by' hg2 hb)))
              | (refine Step.make (t := 35) (n := 4096) rfl rfl rfl rfl Try.underlying35 mk_u8 rfl (by omega) (by omega) ?_; intro g w9 b hg hb; have B1 := Lib.hid b; have BX3 := Lib.hid (BX2.out.below hb); have P6 := Lib.hid (P5.out.below hb); clear b hg hb))
            have SM := Lib.hid (same_rows (ca := 4096) (cb := 4096) BX3.out (row_zero 4096 ▸ B1.out : Blk w9 g (row 4096 fun _ => 0) 5) (fun i hi => by unfold clr; rw [if_pos (by omega)]) (fun i hi => by unfold clr; rw [if_pos (by omega)]; omega) (by omega))
            go_wp2_with (go_at_call 17; refine (SM.out).mono ?_; rintro e w10 ⟨rfl, hw⟩; have P7 := Lib.hid (P6.out.drawn hw); clear hw)
            exact ⟨⟨j + 1, by omega, by go_num, P7.out⟩, by simp [intOf]; omega⟩
          · have d1 : ((j : Int) == (q : Int)) = false := beq_eq_false_iff_ne.2 (by omega)
            go_wp2_with (first
              | (go_at_call 16; (first
                  | ((with_reducible refine (X1.out).mono ?_); rintro e w7 ⟨g1, rfl, bx, hg1, hb⟩; have BX := Lib.hid bx; have P4 := Lib.hid (PJ.out.below hb); clear bx hg1 hb; have X2 := Lib.hid (bytes_z P4.out.two (j * 4096) 4096 4096 rfl (by omega) (by omega) (decide_eq_true (by omega))))
                  | ((with_reducible refine (X2.out).mono ?_); rintro e w8 ⟨g2, rfl, by', hg2, hb⟩; have P5 := Lib.hid (P4.out.below hb); have BX2 := Lib.hid (BX.out.below hb); have BY2 := Lib.hid by'; clear by' hg2 hb)))
              | (go_at_call 17; have SM := Lib.hid (same_rows (ca := 4096) (cb := 4096) BX2.out BY2.out (fun i hi => by unfold clr; rw [if_neg (by omega)]) (fun i hi => P5.out.one.byte (by omega)) (by omega)); refine (SM.out).mono ?_; rintro e w10 ⟨rfl, hw⟩; have P7 := Lib.hid (P5.out.drawn hw); clear hw))
            exact ⟨⟨j + 1, by omega, by go_num, P7.out⟩, by simp [intOf]; omega⟩
        · obtain rfl : j = k := by omega
          have AW := Lib.hid awake
          go_wp2_with (go_at_call 14; refine (AW.out _).mono ?_; rintro e w11 ⟨rfl, hb⟩; have P8 := Lib.hid (PJ.out.below hb); clear hb)
          go_ret
          exact ⟨rfl, P8.out.out⟩
end Go.Proofs.Ytkdohejocmkljaa.Mem
