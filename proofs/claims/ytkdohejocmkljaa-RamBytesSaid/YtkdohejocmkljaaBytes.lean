/- The walk of RamBytes: a number that is written is read by its bytes, the lowest first; no byte beside it is turned. -/
import Derived.Test.YtkdohejocmkljaaCopies
namespace Go.Proofs.Ytkdohejocmkljaa.Mem
open Go Go.RowKit Go.Proofs.Ytkdohejocmkljaa.Step
set_option linter.unusedVariables false
set_option linter.unusedSimpArgs false
set_option maxRecDepth 100000

theorem num_wr (mem : Nat → Int) (o s : Nat) (v : Int) : ∀ l k, k + l = s → num (wr mem o s v) (o + k) l = v / 256 ^ k % 256 ^ l
  | 0, k, h => by simp [num, Int.emod_one]
  | l + 1, k, h => by
    have ih := num_wr mem o s v l (k + 1) (by omega)
    have h1 : wr mem o s v (o + k) = v / 256 ^ k % 256 := by unfold wr; rw [if_pos (by omega), Nat.add_sub_cancel_left]
    show wr mem o s v (o + k) + 256 * num (wr mem o s v) (o + k + 1) l = _
    rw [h1, show o + k + 1 = o + (k + 1) by omega, ih, Int.pow_succ 256 k, ← Int.ediv_ediv_of_nonneg (Int.pow_nonneg (by decide)), Int.pow_succ, Int.mul_comm (256 ^ l) 256]
    generalize v / 256 ^ k = x
    generalize hy : (256 : Int) ^ l = y
    have hy0 : 0 < y := by rw [← hy]; exact Int.pow_pos (by decide)
    have e1 := Int.mul_ediv_add_emod x 256
    have e2 := Int.mul_ediv_add_emod (x / 256) y
    have b1 := Int.emod_nonneg x (show (256 : Int) ≠ 0 by decide)
    have b2 := Int.emod_lt_of_pos x (show (0 : Int) < 256 by decide)
    have b3 := Int.emod_nonneg (x / 256) (Int.ne_of_gt hy0)
    have b4 := Int.emod_lt_of_pos (x / 256) hy0
    have e3 : x = (x % 256 + 256 * (x / 256 % y)) + (256 * y) * (x / 256 / y) := by
      rw [Int.mul_assoc]
      generalize y * (x / 256 / y) = z at *
      omega
    have e4 := congrArg (· % (256 * y)) e3
    rw [show x % (256 * y) = _ from e4, Int.add_mul_emod_self_left, Int.emod_eq_of_lt (a := x % 256 + 256 * (x / 256 % y)) (b := 256 * y) (by omega) (by omega)]
theorem read_v {W : World} {h n : Nat} {base : Int} {mem : Nat → Int} {F : Nat → Prop} {a s : Nat} {v : Int} (r : Ram W h base n (wr mem ((a : Int) - 0).toNat s v) F) (hb : base = 0) (z x : Int) (hz : z = s) (hx : v % 256 ^ s = x) (ha : 0 ≤ (a : Int) ∧ (a : Int) < 18446744073709551616) (h1 : wholeB s = true) (h2 : hasB base n a s = true) :
    Calls Try.prog 11 #[.pointer (some ⟨h, 0, none⟩), .int .u64 a, .int .i64 z] W fun e W' => e = .returned (.tuple #[.int .u64 x, .bool true]) ∧ ∃ k, W' = W.drewN k := by
  subst hz hb hx
  refine (read_yes r a s ha h1 h2).mono fun e w' h => ⟨?_, h.2⟩
  have := num_wr mem ((a : Int) - 0).toNat s v s 0 (by omega)
  rw [h.1, show ((a : Int) - 0).toNat = ((a : Int) - 0).toNat + 0 from rfl]
  simp only [Nat.add_zero] at this ⊢
  rw [this, Int.pow_zero, Int.ediv_one]
theorem read_z {W : World} {h n : Nat} {base : Int} {mem : Nat → Int} {F : Nat → Prop} (r : Ram W h base n mem F) (addr z : Int) (s : Nat) (hz : z = s) (ha : 0 ≤ addr ∧ addr < 18446744073709551616) (h1 : wholeB s = true) (h2 : hasB base n addr s = true) :
    Calls Try.prog 11 #[.pointer (some ⟨h, 0, none⟩), .int .u64 addr, .int .i64 z] W fun e W' => e = .returned (.tuple #[.int .u64 (num mem (addr - base).toNat s), .bool true]) ∧ ∃ k, W' = W.drewN k := by
  subst hz; exact read_yes r addr s ha h1 h2

set_option maxHeartbeats 4000000 in
theorem bytes_1 (at0 s0 v : Int) (A : Option Addr) (len cap : Nat) (f : Nat → Int) (W : World) (w0 : (Lit.int .i64 at0).wf = true) (w1 : (Lit.int .i64 s0).wf = true) (w2 : (Lit.int .u64 v).wf = true) (w3 : RdI .u8 W A len f (· < W.heap.size)) (y3 : len ≤ 9223372036854775807) (hq : s0 % 4 = 0) :
    Calls Try.prog 4 #[.int .i64 at0, .int .i64 s0, .int .u64 v, .slice A len cap] W fun e W' => e = .returned (.bool true) ∧ Below W.heap.size W W' := by
  have b0 := i64_bd w0
  have b1 := i64_bd w1
  obtain ⟨v0, v1⟩ := u64_bd w2
  obtain ⟨a, ha⟩ := Int.eq_ofNat_of_zero_le (show 0 ≤ at0 % 8192 by omega)
  have a8 : a ≤ 8191 := by omega
  have T1 := Lib.hid (fun w => new_z w 0 2 2 rfl (by omega) (by decide))
  have P1 := Lib.hid (fun w => (place_any s0 4 (by omega) b1 (by omega) w).mono fun e w' h => (by rw [hq] at h; exact h : e = .returned (.int .i64 0) ∧ w = w'))
  have P2 := Lib.hid (fun w => (place_any at0 8192 (by omega) b0 (by omega) w).mono fun e w' h => (by rw [ha] at h; exact h : e = .returned (.int .i64 a) ∧ w = w'))
  have RD := Lib.hid w3
  have AW := Lib.hid awake
  have ha1 : IntKind.u64.wrap (a : Int) = a := IntWalk.u64_in _ (by omega)
  clear w0 w1 w2 w3 b0 b1 hq ha
  go_enter Try.func4, Try.ntmps4
  go_wp2_with (first
    | (go_at_call 10; refine (T1.out _).mono ?_; rintro e w1 ⟨h, rfl, r, m⟩; have S := Lib.hid (Solo.made (Mod.refl Nil W) r m); clear r m)
    | (refine Step.make (t := 35) (n := 8192) rfl rfl rfl rfl Try.underlying35 mk_u8 rfl (by omega) (by omega) ?_; intro g w2 b hg hb; have B1 := Lib.hid b; have S1 := Lib.hid (S.out.below hb); have HS := Lib.hid (show W.heap.size ≤ g from Nat.le_trans S.out.mod.size hg); have HF := Lib.hid (show ¬ Grow Nil W w1 g from fun hf => by have := S.out.ram.bound g hf; omega); clear b hg hb S))
  go_loopw [12] (fun j w => ∃ i : Nat, i ≤ 8192 ∧ j = .int .i64 i ∧ ∃ fx, Blk w g (row 8192 fx) 5 ∧ (∀ k, k < 8192 → 0 ≤ fx k ∧ fx k < 256) ∧ Solo W w h 0 2 (fun _ => 0) (Grow Nil W w1)) (fun j _ => (8192 - intOf j).toNat)
  case atStart => exact ⟨0, by omega, rfl, fun _ => 0, by have := B1.out; rwa [row_zero] at this, fun _ _ => ⟨Int.le_refl _, (by decide : (0 : Int) < 256)⟩, S1.out⟩
  case round =>
    obtain ⟨i, hi, rfl, fx, hB, hfx, hS⟩ := hrel
    have BX := Lib.hid hB
    have FX := Lib.hid hfx
    have S2 := Lib.hid hS
    clear hB hfx hS
    by_cases hgo : i < 8192 ∧ 0 < len
    · obtain ⟨hil, len0⟩ := hgo
      have hq : i % len < len := Nat.mod_lt _ len0
      obtain ⟨ad, rfl, hc, hwf⟩ := rdI_at RD.out S2.out.mod hq
      have HI := Lib.hid (show Nat.blt i (row 8192 fx).size = true by rw [row_size]; exact Nat.ble_eq_true_of_le hil)
      have HV := Lib.hid (u8_bd hwf)
      have q0 : (0 : Int) ≤ (i : Int) % len := Int.emod_nonneg _ (by omega)
      have q1 : (i : Int) % len < len := Int.emod_lt_of_pos _ (by omega)
      clear hwf
      go_wp2_with (first
        | ((with_reducible refine Step.gate_store (t := 5) rfl ?_); refine Step.store BX.out rfl rfl rfl rfl rfl pl_u8 rfl HI.out ?_; intro w4 nb m; have NB := Lib.hid nb; have S4 := Lib.hid (S2.out.other m (fun k hk e => HF.out (by obtain rfl : k = g := e; exact hk)) (fun k e => by obtain rfl : k = g := e; exact HS.out)); clear nb m))
      refine ⟨⟨i + 1, by omega, by go_num, upd fx i (f (i % len)), ?_, fun j hj => ?_, S4.out⟩, by simp [intOf]; omega⟩
      · have nb : Blk w4 g ((row 8192 fx).setIfInBounds i (.int .u8 (f (i % len)))) 5 := NB.out
        rwa [row_set] at nb
      · unfold upd; split
        · exact HV.out
        · exact FX.out j hj
    · have T := Lib.hid (fill_yes S2.out.ram 0 (G := One g) (c := 8192) (rd_row BX.out rfl FX.out) (fun i e => by obtain rfl : i = g := e; exact ⟨HF.out, BX.out.lt⟩) (by omega) (decide_eq_true (by omega)))
      have ARMS : True := trivial
      have hsplit : i = 8192 ∨ (i < 8192 ∧ len = 0) := by omega
      clear hgo
      rcases hsplit with rfl | ⟨hil, rfl⟩
      all_goals
        go_wp2_with (first
          | (go_at_call 15; refine (T.out).mono ?_; rintro e w5 ⟨rfl, r, m⟩; have hal := (alloc_below w5 (.cells #[.int .i64 1, .int .i64 2, .int .i64 4, .int .i64 8] 3 (0, 0))); have S5 := Lib.hid ((S2.out.step r m).below hal); have B5 := Lib.hid ((BX.out.mod m HF.out).below hal); have HF5 := Lib.hid (show ¬ Grow (Grow Nil W w1) wr w5 g from fun hf => hf.elim HF.out fun e => by have := BX.out.lt; omega); clear r m hal; have WR := Lib.hid (write_z S5.out.ram (a : Int) v 1 1 rfl (by omega) ⟨v0, v1⟩ (by decide) (decide_eq_true (by omega))))
          | (go_at_call 9; (first | (with_reducible refine (P1.out _).mono ?_) | (with_reducible refine (P2.out _).mono ?_)); rintro e w6 ⟨rfl, rfl⟩)
          | (go_at_call 12; refine (WR.out).mono ?_; rintro e w7 ⟨rfl, r, m⟩; have S7 := Lib.hid (S5.out.step r m); have B7 := Lib.hid (B5.out.mod m HF5.out); have HF7 := Lib.hid (show ¬ Grow (Grow (Grow Nil W w1) wr w5) (w5.alloc (.cells #[.int .i64 1, .int .i64 2, .int .i64 4, .int .i64 8] 3 (0, 0))) w7 g from fun hf => hf.elim HF5.out fun e => by have := B5.out.lt; omega); clear r m WR))
        obtain ⟨F7, hS7, hF7⟩ : ∃ F7, Solo W w7 h 0 2 (Mem.wr (fl (fun _ => 0) (0 - 0 : Int).toNat 8192 fx) ((a : Int) - 0).toNat 1 v) F7 ∧ ¬ F7 g := ⟨_, S7.out, HF7.out⟩
        have Q7 := Lib.hid hS7
        have HF8 := Lib.hid hF7
        clear hS7 hF7 S7 HF7 S5 HF5 B5
        go_loopw [15] (fun i w => ∃ k : Nat, k ≤ 1 ∧ i = .int .i64 k ∧ Blk w g (row 8192 (Mem.wr fx a k v)) 5 ∧ Solo W w h 0 2 (Mem.wr (fl (fun _ => 0) (0 - 0 : Int).toNat 8192 fx) ((a : Int) - 0).toNat 1 v) F7) (fun i _ => (1 - intOf i).toNat)
        case atStart => exact ⟨0, by omega, rfl, by rw [wr_zero]; exact B7.out, Q7.out⟩
        case round =>
          obtain ⟨k, hk, rfl, hB, hS⟩ := hrel
          have BK := Lib.hid hB
          have SK := Lib.hid hS
          clear hB hS
          by_cases hlt : k < 1
          · have HI := Lib.hid (show Nat.blt (a + k) (row 8192 (Mem.wr fx a k v)).size = true by rw [row_size]; exact Nat.ble_eq_true_of_le (by omega))
            go_wp2_with (first
              | ((with_reducible refine Step.gate_store (t := 5) rfl ?_); refine Step.store (i := a + k) BK.out rfl rfl rfl rfl rfl pl_u8 rfl HI.out ?_; intro w8 nb m; have NB := Lib.hid nb; have S8 := Lib.hid (SK.out.other m (fun k hk e => HF8.out (by obtain rfl : k = g := e; exact hk)) (fun k e => by obtain rfl : k = g := e; exact HS.out)); clear nb m))
            refine ⟨⟨k + 1, by omega, by go_num, ?_, S8.out⟩, by simp [intOf]; omega⟩
            have nb : Blk w8 g ((row 8192 (Mem.wr fx a k v)).setIfInBounds (a + k) (.int .u8 (v / 2 ^ (8 * k) % 256))) 5 := NB.out
            rwa [row_set, show (2 : Int) ^ (8 * k) = 256 ^ k by rw [Int.pow_mul]; rfl, wr_succ] at nb
          · obtain rfl : k = 1 := by omega
            have X1 := Lib.hid (bytes_z SK.out.ram 0 8192 8192 rfl (by omega) (by omega) (by decide))
            go_wp2_with (first
              | (go_at_call 16; refine (X1.out).mono ?_; rintro e w9 ⟨g1, rfl, bx, hg1, hb⟩; have B9 := Lib.hid bx; have S9 := Lib.hid (SK.out.below hb); have BK9 := Lib.hid (BK.out.below hb); clear bx hg1 hb; have RV := Lib.hid (read_v S9.out.ram rfl 1 (v % 256) rfl (by rw [show (256 : Int) ^ 1 = 256 by decide]) (by omega) (by decide) (decide_eq_true (by omega))))
              | (go_at_call 11; refine (RV.out).mono ?_; rintro e w10 ⟨rfl, hw⟩; have S10 := Lib.hid (S9.out.drawn hw); have B10 := Lib.hid (B9.out.below (below_drawn hw)); have BK10 := Lib.hid (BK9.out.below (below_drawn hw)); clear hw; have SM := Lib.hid (same_rows (ca := 8192) (cb := 8192) B10.out BK10.out (fun i hi => by unfold Mem.wr fl; simp only [Int.sub_self, Int.toNat_zero, Nat.zero_add, Int.sub_zero, Int.toNat_natCast]; by_cases h1 : a ≤ i ∧ i < a + 1 <;> simp [h1, hi]) (fun i hi => S10.out.ram.byte (by omega)) (by omega)))
              | (go_at_call 17; refine (SM.out).mono ?_; rintro e w11 ⟨rfl, hw⟩; have S11 := Lib.hid (S10.out.drawn hw); clear hw)
              | (go_at_call 14; refine (AW.out _).mono ?_; rintro e w12 ⟨rfl, hb⟩; have S12 := Lib.hid (S11.out.below hb); clear hb))
            go_ret
            exact ⟨rfl, S12.out.out⟩

set_option maxHeartbeats 4000000 in
theorem bytes_2 (at0 s0 v : Int) (A : Option Addr) (len cap : Nat) (f : Nat → Int) (W : World) (w0 : (Lit.int .i64 at0).wf = true) (w1 : (Lit.int .i64 s0).wf = true) (w2 : (Lit.int .u64 v).wf = true) (w3 : RdI .u8 W A len f (· < W.heap.size)) (y3 : len ≤ 9223372036854775807) (hq : s0 % 4 = 1) :
    Calls Try.prog 4 #[.int .i64 at0, .int .i64 s0, .int .u64 v, .slice A len cap] W fun e W' => e = .returned (.bool true) ∧ Below W.heap.size W W' := by
  have b0 := i64_bd w0
  have b1 := i64_bd w1
  obtain ⟨v0, v1⟩ := u64_bd w2
  obtain ⟨a, ha⟩ := Int.eq_ofNat_of_zero_le (show 0 ≤ at0 % 8191 by omega)
  have a8 : a ≤ 8190 := by omega
  have T1 := Lib.hid (fun w => new_z w 0 2 2 rfl (by omega) (by decide))
  have P1 := Lib.hid (fun w => (place_any s0 4 (by omega) b1 (by omega) w).mono fun e w' h => (by rw [hq] at h; exact h : e = .returned (.int .i64 1) ∧ w = w'))
  have P2 := Lib.hid (fun w => (place_any at0 8191 (by omega) b0 (by omega) w).mono fun e w' h => (by rw [ha] at h; exact h : e = .returned (.int .i64 a) ∧ w = w'))
  have RD := Lib.hid w3
  have AW := Lib.hid awake
  have ha1 : IntKind.u64.wrap (a : Int) = a := IntWalk.u64_in _ (by omega)
  clear w0 w1 w2 w3 b0 b1 hq ha
  go_enter Try.func4, Try.ntmps4
  go_wp2_with (first
    | (go_at_call 10; refine (T1.out _).mono ?_; rintro e w1 ⟨h, rfl, r, m⟩; have S := Lib.hid (Solo.made (Mod.refl Nil W) r m); clear r m)
    | (refine Step.make (t := 35) (n := 8192) rfl rfl rfl rfl Try.underlying35 mk_u8 rfl (by omega) (by omega) ?_; intro g w2 b hg hb; have B1 := Lib.hid b; have S1 := Lib.hid (S.out.below hb); have HS := Lib.hid (show W.heap.size ≤ g from Nat.le_trans S.out.mod.size hg); have HF := Lib.hid (show ¬ Grow Nil W w1 g from fun hf => by have := S.out.ram.bound g hf; omega); clear b hg hb S))
  go_loopw [12] (fun j w => ∃ i : Nat, i ≤ 8192 ∧ j = .int .i64 i ∧ ∃ fx, Blk w g (row 8192 fx) 5 ∧ (∀ k, k < 8192 → 0 ≤ fx k ∧ fx k < 256) ∧ Solo W w h 0 2 (fun _ => 0) (Grow Nil W w1)) (fun j _ => (8192 - intOf j).toNat)
  case atStart => exact ⟨0, by omega, rfl, fun _ => 0, by have := B1.out; rwa [row_zero] at this, fun _ _ => ⟨Int.le_refl _, (by decide : (0 : Int) < 256)⟩, S1.out⟩
  case round =>
    obtain ⟨i, hi, rfl, fx, hB, hfx, hS⟩ := hrel
    have BX := Lib.hid hB
    have FX := Lib.hid hfx
    have S2 := Lib.hid hS
    clear hB hfx hS
    by_cases hgo : i < 8192 ∧ 0 < len
    · obtain ⟨hil, len0⟩ := hgo
      have hq : i % len < len := Nat.mod_lt _ len0
      obtain ⟨ad, rfl, hc, hwf⟩ := rdI_at RD.out S2.out.mod hq
      have HI := Lib.hid (show Nat.blt i (row 8192 fx).size = true by rw [row_size]; exact Nat.ble_eq_true_of_le hil)
      have HV := Lib.hid (u8_bd hwf)
      have q0 : (0 : Int) ≤ (i : Int) % len := Int.emod_nonneg _ (by omega)
      have q1 : (i : Int) % len < len := Int.emod_lt_of_pos _ (by omega)
      clear hwf
      go_wp2_with (first
        | ((with_reducible refine Step.gate_store (t := 5) rfl ?_); refine Step.store BX.out rfl rfl rfl rfl rfl pl_u8 rfl HI.out ?_; intro w4 nb m; have NB := Lib.hid nb; have S4 := Lib.hid (S2.out.other m (fun k hk e => HF.out (by obtain rfl : k = g := e; exact hk)) (fun k e => by obtain rfl : k = g := e; exact HS.out)); clear nb m))
      refine ⟨⟨i + 1, by omega, by go_num, upd fx i (f (i % len)), ?_, fun j hj => ?_, S4.out⟩, by simp [intOf]; omega⟩
      · have nb : Blk w4 g ((row 8192 fx).setIfInBounds i (.int .u8 (f (i % len)))) 5 := NB.out
        rwa [row_set] at nb
      · unfold upd; split
        · exact HV.out
        · exact FX.out j hj
    · have T := Lib.hid (fill_yes S2.out.ram 0 (G := One g) (c := 8192) (rd_row BX.out rfl FX.out) (fun i e => by obtain rfl : i = g := e; exact ⟨HF.out, BX.out.lt⟩) (by omega) (decide_eq_true (by omega)))
      have ARMS : True := trivial
      have hsplit : i = 8192 ∨ (i < 8192 ∧ len = 0) := by omega
      clear hgo
      rcases hsplit with rfl | ⟨hil, rfl⟩
      all_goals
        go_wp2_with (first
          | (go_at_call 15; refine (T.out).mono ?_; rintro e w5 ⟨rfl, r, m⟩; have hal := (alloc_below w5 (.cells #[.int .i64 1, .int .i64 2, .int .i64 4, .int .i64 8] 3 (0, 0))); have S5 := Lib.hid ((S2.out.step r m).below hal); have B5 := Lib.hid ((BX.out.mod m HF.out).below hal); have HF5 := Lib.hid (show ¬ Grow (Grow Nil W w1) wr w5 g from fun hf => hf.elim HF.out fun e => by have := BX.out.lt; omega); clear r m hal; have WR := Lib.hid (write_z S5.out.ram (a : Int) v 2 2 rfl (by omega) ⟨v0, v1⟩ (by decide) (decide_eq_true (by omega))))
          | (go_at_call 9; (first | (with_reducible refine (P1.out _).mono ?_) | (with_reducible refine (P2.out _).mono ?_)); rintro e w6 ⟨rfl, rfl⟩)
          | (go_at_call 12; refine (WR.out).mono ?_; rintro e w7 ⟨rfl, r, m⟩; have S7 := Lib.hid (S5.out.step r m); have B7 := Lib.hid (B5.out.mod m HF5.out); have HF7 := Lib.hid (show ¬ Grow (Grow (Grow Nil W w1) wr w5) (w5.alloc (.cells #[.int .i64 1, .int .i64 2, .int .i64 4, .int .i64 8] 3 (0, 0))) w7 g from fun hf => hf.elim HF5.out fun e => by have := B5.out.lt; omega); clear r m WR))
        obtain ⟨F7, hS7, hF7⟩ : ∃ F7, Solo W w7 h 0 2 (Mem.wr (fl (fun _ => 0) (0 - 0 : Int).toNat 8192 fx) ((a : Int) - 0).toNat 2 v) F7 ∧ ¬ F7 g := ⟨_, S7.out, HF7.out⟩
        have Q7 := Lib.hid hS7
        have HF8 := Lib.hid hF7
        clear hS7 hF7 S7 HF7 S5 HF5 B5
        go_loopw [15] (fun i w => ∃ k : Nat, k ≤ 2 ∧ i = .int .i64 k ∧ Blk w g (row 8192 (Mem.wr fx a k v)) 5 ∧ Solo W w h 0 2 (Mem.wr (fl (fun _ => 0) (0 - 0 : Int).toNat 8192 fx) ((a : Int) - 0).toNat 2 v) F7) (fun i _ => (2 - intOf i).toNat)
        case atStart => exact ⟨0, by omega, rfl, by rw [wr_zero]; exact B7.out, Q7.out⟩
        case round =>
          obtain ⟨k, hk, rfl, hB, hS⟩ := hrel
          have BK := Lib.hid hB
          have SK := Lib.hid hS
          clear hB hS
          by_cases hlt : k < 2
          · have HI := Lib.hid (show Nat.blt (a + k) (row 8192 (Mem.wr fx a k v)).size = true by rw [row_size]; exact Nat.ble_eq_true_of_le (by omega))
            go_wp2_with (first
              | ((with_reducible refine Step.gate_store (t := 5) rfl ?_); refine Step.store (i := a + k) BK.out rfl rfl rfl rfl rfl pl_u8 rfl HI.out ?_; intro w8 nb m; have NB := Lib.hid nb; have S8 := Lib.hid (SK.out.other m (fun k hk e => HF8.out (by obtain rfl : k = g := e; exact hk)) (fun k e => by obtain rfl : k = g := e; exact HS.out)); clear nb m))
            refine ⟨⟨k + 1, by omega, by go_num, ?_, S8.out⟩, by simp [intOf]; omega⟩
            have nb : Blk w8 g ((row 8192 (Mem.wr fx a k v)).setIfInBounds (a + k) (.int .u8 (v / 2 ^ (8 * k) % 256))) 5 := NB.out
            rwa [row_set, show (2 : Int) ^ (8 * k) = 256 ^ k by rw [Int.pow_mul]; rfl, wr_succ] at nb
          · obtain rfl : k = 2 := by omega
            have X1 := Lib.hid (bytes_z SK.out.ram 0 8192 8192 rfl (by omega) (by omega) (by decide))
            go_wp2_with (first
              | (go_at_call 16; refine (X1.out).mono ?_; rintro e w9 ⟨g1, rfl, bx, hg1, hb⟩; have B9 := Lib.hid bx; have S9 := Lib.hid (SK.out.below hb); have BK9 := Lib.hid (BK.out.below hb); clear bx hg1 hb; have RV := Lib.hid (read_v S9.out.ram rfl 2 (v % 65536) rfl (by rw [show (256 : Int) ^ 2 = 65536 by decide]) (by omega) (by decide) (decide_eq_true (by omega))))
              | (go_at_call 11; refine (RV.out).mono ?_; rintro e w10 ⟨rfl, hw⟩; have S10 := Lib.hid (S9.out.drawn hw); have B10 := Lib.hid (B9.out.below (below_drawn hw)); have BK10 := Lib.hid (BK9.out.below (below_drawn hw)); clear hw; have SM := Lib.hid (same_rows (ca := 8192) (cb := 8192) B10.out BK10.out (fun i hi => by unfold Mem.wr fl; simp only [Int.sub_self, Int.toNat_zero, Nat.zero_add, Int.sub_zero, Int.toNat_natCast]; by_cases h1 : a ≤ i ∧ i < a + 2 <;> simp [h1, hi]) (fun i hi => S10.out.ram.byte (by omega)) (by omega)))
              | (go_at_call 17; refine (SM.out).mono ?_; rintro e w11 ⟨rfl, hw⟩; have S11 := Lib.hid (S10.out.drawn hw); clear hw)
              | (go_at_call 14; refine (AW.out _).mono ?_; rintro e w12 ⟨rfl, hb⟩; have S12 := Lib.hid (S11.out.below hb); clear hb))
            go_ret
            exact ⟨rfl, S12.out.out⟩

set_option maxHeartbeats 4000000 in
theorem bytes_4 (at0 s0 v : Int) (A : Option Addr) (len cap : Nat) (f : Nat → Int) (W : World) (w0 : (Lit.int .i64 at0).wf = true) (w1 : (Lit.int .i64 s0).wf = true) (w2 : (Lit.int .u64 v).wf = true) (w3 : RdI .u8 W A len f (· < W.heap.size)) (y3 : len ≤ 9223372036854775807) (hq : s0 % 4 = 2) :
    Calls Try.prog 4 #[.int .i64 at0, .int .i64 s0, .int .u64 v, .slice A len cap] W fun e W' => e = .returned (.bool true) ∧ Below W.heap.size W W' := by
  have b0 := i64_bd w0
  have b1 := i64_bd w1
  obtain ⟨v0, v1⟩ := u64_bd w2
  obtain ⟨a, ha⟩ := Int.eq_ofNat_of_zero_le (show 0 ≤ at0 % 8189 by omega)
  have a8 : a ≤ 8188 := by omega
  have T1 := Lib.hid (fun w => new_z w 0 2 2 rfl (by omega) (by decide))
  have P1 := Lib.hid (fun w => (place_any s0 4 (by omega) b1 (by omega) w).mono fun e w' h => (by rw [hq] at h; exact h : e = .returned (.int .i64 2) ∧ w = w'))
  have P2 := Lib.hid (fun w => (place_any at0 8189 (by omega) b0 (by omega) w).mono fun e w' h => (by rw [ha] at h; exact h : e = .returned (.int .i64 a) ∧ w = w'))
  have RD := Lib.hid w3
  have AW := Lib.hid awake
  have ha1 : IntKind.u64.wrap (a : Int) = a := IntWalk.u64_in _ (by omega)
  clear w0 w1 w2 w3 b0 b1 hq ha
  go_enter Try.func4, Try.ntmps4
  go_wp2_with (first
    | (go_at_call 10; refine (T1.out _).mono ?_; rintro e w1 ⟨h, rfl, r, m⟩; have S := Lib.hid (Solo.made (Mod.refl Nil W) r m); clear r m)
    | (refine Step.make (t := 35) (n := 8192) rfl rfl rfl rfl Try.underlying35 mk_u8 rfl (by omega) (by omega) ?_; intro g w2 b hg hb; have B1 := Lib.hid b; have S1 := Lib.hid (S.out.below hb); have HS := Lib.hid (show W.heap.size ≤ g from Nat.le_trans S.out.mod.size hg); have HF := Lib.hid (show ¬ Grow Nil W w1 g from fun hf => by have := S.out.ram.bound g hf; omega); clear b hg hb S))
  go_loopw [12] (fun j w => ∃ i : Nat, i ≤ 8192 ∧ j = .int .i64 i ∧ ∃ fx, Blk w g (row 8192 fx) 5 ∧ (∀ k, k < 8192 → 0 ≤ fx k ∧ fx k < 256) ∧ Solo W w h 0 2 (fun _ => 0) (Grow Nil W w1)) (fun j _ => (8192 - intOf j).toNat)
  case atStart => exact ⟨0, by omega, rfl, fun _ => 0, by have := B1.out; rwa [row_zero] at this, fun _ _ => ⟨Int.le_refl _, (by decide : (0 : Int) < 256)⟩, S1.out⟩
  case round =>
    obtain ⟨i, hi, rfl, fx, hB, hfx, hS⟩ := hrel
    have BX := Lib.hid hB
    have FX := Lib.hid hfx
    have S2 := Lib.hid hS
    clear hB hfx hS
    by_cases hgo : i < 8192 ∧ 0 < len
    · obtain ⟨hil, len0⟩ := hgo
      have hq : i % len < len := Nat.mod_lt _ len0
      obtain ⟨ad, rfl, hc, hwf⟩ := rdI_at RD.out S2.out.mod hq
      have HI := Lib.hid (show Nat.blt i (row 8192 fx).size = true by rw [row_size]; exact Nat.ble_eq_true_of_le hil)
      have HV := Lib.hid (u8_bd hwf)
      have q0 : (0 : Int) ≤ (i : Int) % len := Int.emod_nonneg _ (by omega)
      have q1 : (i : Int) % len < len := Int.emod_lt_of_pos _ (by omega)
      clear hwf
      go_wp2_with (first
        | ((with_reducible refine Step.gate_store (t := 5) rfl ?_); refine Step.store BX.out rfl rfl rfl rfl rfl pl_u8 rfl HI.out ?_; intro w4 nb m; have NB := Lib.hid nb; have S4 := Lib.hid (S2.out.other m (fun k hk e => HF.out (by obtain rfl : k = g := e; exact hk)) (fun k e => by obtain rfl : k = g := e; exact HS.out)); clear nb m))
      refine ⟨⟨i + 1, by omega, by go_num, upd fx i (f (i % len)), ?_, fun j hj => ?_, S4.out⟩, by simp [intOf]; omega⟩
      · have nb : Blk w4 g ((row 8192 fx).setIfInBounds i (.int .u8 (f (i % len)))) 5 := NB.out
        rwa [row_set] at nb
      · unfold upd; split
        · exact HV.out
        · exact FX.out j hj
    · have T := Lib.hid (fill_yes S2.out.ram 0 (G := One g) (c := 8192) (rd_row BX.out rfl FX.out) (fun i e => by obtain rfl : i = g := e; exact ⟨HF.out, BX.out.lt⟩) (by omega) (decide_eq_true (by omega)))
      have ARMS : True := trivial
      have hsplit : i = 8192 ∨ (i < 8192 ∧ len = 0) := by omega
      clear hgo
      rcases hsplit with rfl | ⟨hil, rfl⟩
      all_goals
        go_wp2_with (first
          | (go_at_call 15; refine (T.out).mono ?_; rintro e w5 ⟨rfl, r, m⟩; have hal := (alloc_below w5 (.cells #[.int .i64 1, .int .i64 2, .int .i64 4, .int .i64 8] 3 (0, 0))); have S5 := Lib.hid ((S2.out.step r m).below hal); have B5 := Lib.hid ((BX.out.mod m HF.out).below hal); have HF5 := Lib.hid (show ¬ Grow (Grow Nil W w1) wr w5 g from fun hf => hf.elim HF.out fun e => by have := BX.out.lt; omega); clear r m hal; have WR := Lib.hid (write_z S5.out.ram (a : Int) v 4 4 rfl (by omega) ⟨v0, v1⟩ (by decide) (decide_eq_true (by omega))))
          | (go_at_call 9; (first | (with_reducible refine (P1.out _).mono ?_) | (with_reducible refine (P2.out _).mono ?_)); rintro e w6 ⟨rfl, rfl⟩)
          | (go_at_call 12; refine (WR.out).mono ?_; rintro e w7 ⟨rfl, r, m⟩; have S7 := Lib.hid (S5.out.step r m); have B7 := Lib.hid (B5.out.mod m HF5.out); have HF7 := Lib.hid (show ¬ Grow (Grow (Grow Nil W w1) wr w5) (w5.alloc (.cells #[.int .i64 1, .int .i64 2, .int .i64 4, .int .i64 8] 3 (0, 0))) w7 g from fun hf => hf.elim HF5.out fun e => by have := B5.out.lt; omega); clear r m WR))
        obtain ⟨F7, hS7, hF7⟩ : ∃ F7, Solo W w7 h 0 2 (Mem.wr (fl (fun _ => 0) (0 - 0 : Int).toNat 8192 fx) ((a : Int) - 0).toNat 4 v) F7 ∧ ¬ F7 g := ⟨_, S7.out, HF7.out⟩
        have Q7 := Lib.hid hS7
        have HF8 := Lib.hid hF7
        clear hS7 hF7 S7 HF7 S5 HF5 B5
        go_loopw [15] (fun i w => ∃ k : Nat, k ≤ 4 ∧ i = .int .i64 k ∧ Blk w g (row 8192 (Mem.wr fx a k v)) 5 ∧ Solo W w h 0 2 (Mem.wr (fl (fun _ => 0) (0 - 0 : Int).toNat 8192 fx) ((a : Int) - 0).toNat 4 v) F7) (fun i _ => (4 - intOf i).toNat)
        case atStart => exact ⟨0, by omega, rfl, by rw [wr_zero]; exact B7.out, Q7.out⟩
        case round =>
          obtain ⟨k, hk, rfl, hB, hS⟩ := hrel
          have BK := Lib.hid hB
          have SK := Lib.hid hS
          clear hB hS
          by_cases hlt : k < 4
          · have HI := Lib.hid (show Nat.blt (a + k) (row 8192 (Mem.wr fx a k v)).size = true by rw [row_size]; exact Nat.ble_eq_true_of_le (by omega))
            go_wp2_with (first
              | ((with_reducible refine Step.gate_store (t := 5) rfl ?_); refine Step.store (i := a + k) BK.out rfl rfl rfl rfl rfl pl_u8 rfl HI.out ?_; intro w8 nb m; have NB := Lib.hid nb; have S8 := Lib.hid (SK.out.other m (fun k hk e => HF8.out (by obtain rfl : k = g := e; exact hk)) (fun k e => by obtain rfl : k = g := e; exact HS.out)); clear nb m))
            refine ⟨⟨k + 1, by omega, by go_num, ?_, S8.out⟩, by simp [intOf]; omega⟩
            have nb : Blk w8 g ((row 8192 (Mem.wr fx a k v)).setIfInBounds (a + k) (.int .u8 (v / 2 ^ (8 * k) % 256))) 5 := NB.out
            rwa [row_set, show (2 : Int) ^ (8 * k) = 256 ^ k by rw [Int.pow_mul]; rfl, wr_succ] at nb
          · obtain rfl : k = 4 := by omega
            have X1 := Lib.hid (bytes_z SK.out.ram 0 8192 8192 rfl (by omega) (by omega) (by decide))
            go_wp2_with (first
              | (go_at_call 16; refine (X1.out).mono ?_; rintro e w9 ⟨g1, rfl, bx, hg1, hb⟩; have B9 := Lib.hid bx; have S9 := Lib.hid (SK.out.below hb); have BK9 := Lib.hid (BK.out.below hb); clear bx hg1 hb; have RV := Lib.hid (read_v S9.out.ram rfl 4 (v % 4294967296) rfl (by rw [show (256 : Int) ^ 4 = 4294967296 by decide]) (by omega) (by decide) (decide_eq_true (by omega))))
              | (go_at_call 11; refine (RV.out).mono ?_; rintro e w10 ⟨rfl, hw⟩; have S10 := Lib.hid (S9.out.drawn hw); have B10 := Lib.hid (B9.out.below (below_drawn hw)); have BK10 := Lib.hid (BK9.out.below (below_drawn hw)); clear hw; have SM := Lib.hid (same_rows (ca := 8192) (cb := 8192) B10.out BK10.out (fun i hi => by unfold Mem.wr fl; simp only [Int.sub_self, Int.toNat_zero, Nat.zero_add, Int.sub_zero, Int.toNat_natCast]; by_cases h1 : a ≤ i ∧ i < a + 4 <;> simp [h1, hi]) (fun i hi => S10.out.ram.byte (by omega)) (by omega)))
              | (go_at_call 17; refine (SM.out).mono ?_; rintro e w11 ⟨rfl, hw⟩; have S11 := Lib.hid (S10.out.drawn hw); clear hw)
              | (go_at_call 14; refine (AW.out _).mono ?_; rintro e w12 ⟨rfl, hb⟩; have S12 := Lib.hid (S11.out.below hb); clear hb))
            go_ret
            exact ⟨rfl, S12.out.out⟩

set_option maxHeartbeats 4000000 in
theorem bytes_8 (at0 s0 v : Int) (A : Option Addr) (len cap : Nat) (f : Nat → Int) (W : World) (w0 : (Lit.int .i64 at0).wf = true) (w1 : (Lit.int .i64 s0).wf = true) (w2 : (Lit.int .u64 v).wf = true) (w3 : RdI .u8 W A len f (· < W.heap.size)) (y3 : len ≤ 9223372036854775807) (hq : s0 % 4 = 3) :
    Calls Try.prog 4 #[.int .i64 at0, .int .i64 s0, .int .u64 v, .slice A len cap] W fun e W' => e = .returned (.bool true) ∧ Below W.heap.size W W' := by
  have b0 := i64_bd w0
  have b1 := i64_bd w1
  obtain ⟨v0, v1⟩ := u64_bd w2
  obtain ⟨a, ha⟩ := Int.eq_ofNat_of_zero_le (show 0 ≤ at0 % 8185 by omega)
  have a8 : a ≤ 8184 := by omega
  have T1 := Lib.hid (fun w => new_z w 0 2 2 rfl (by omega) (by decide))
  have P1 := Lib.hid (fun w => (place_any s0 4 (by omega) b1 (by omega) w).mono fun e w' h => (by rw [hq] at h; exact h : e = .returned (.int .i64 3) ∧ w = w'))
  have P2 := Lib.hid (fun w => (place_any at0 8185 (by omega) b0 (by omega) w).mono fun e w' h => (by rw [ha] at h; exact h : e = .returned (.int .i64 a) ∧ w = w'))
  have RD := Lib.hid w3
  have AW := Lib.hid awake
  have ha1 : IntKind.u64.wrap (a : Int) = a := IntWalk.u64_in _ (by omega)
  clear w0 w1 w2 w3 b0 b1 hq ha
  go_enter Try.func4, Try.ntmps4
  go_wp2_with (first
    | (go_at_call 10; refine (T1.out _).mono ?_; rintro e w1 ⟨h, rfl, r, m⟩; have S := Lib.hid (Solo.made (Mod.refl Nil W) r m); clear r m)
    | (refine Step.make (t := 35) (n := 8192) rfl rfl rfl rfl Try.underlying35 mk_u8 rfl (by omega) (by omega) ?_; intro g w2 b hg hb; have B1 := Lib.hid b; have S1 := Lib.hid (S.out.below hb); have HS := Lib.hid (show W.heap.size ≤ g from Nat.le_trans S.out.mod.size hg); have HF := Lib.hid (show ¬ Grow Nil W w1 g from fun hf => by have := S.out.ram.bound g hf; omega); clear b hg hb S))
  go_loopw [12] (fun j w => ∃ i : Nat, i ≤ 8192 ∧ j = .int .i64 i ∧ ∃ fx, Blk w g (row 8192 fx) 5 ∧ (∀ k, k < 8192 → 0 ≤ fx k ∧ fx k < 256) ∧ Solo W w h 0 2 (fun _ => 0) (Grow Nil W w1)) (fun j _ => (8192 - intOf j).toNat)
  case atStart => exact ⟨0, by omega, rfl, fun _ => 0, by have := B1.out; rwa [row_zero] at this, fun _ _ => ⟨Int.le_refl _, (by decide : (0 : Int) < 256)⟩, S1.out⟩
  case round =>
    obtain ⟨i, hi, rfl, fx, hB, hfx, hS⟩ := hrel
    have BX := Lib.hid hB
    have FX := Lib.hid hfx
    have S2 := Lib.hid hS
    clear hB hfx hS
    by_cases hgo : i < 8192 ∧ 0 < len
    · obtain ⟨hil, len0⟩ := hgo
      have hq : i % len < len := Nat.mod_lt _ len0
      obtain ⟨ad, rfl, hc, hwf⟩ := rdI_at RD.out S2.out.mod hq
      have HI := Lib.hid (show Nat.blt i (row 8192 fx).size = true by rw [row_size]; exact Nat.ble_eq_true_of_le hil)
      have HV := Lib.hid (u8_bd hwf)
      have q0 : (0 : Int) ≤ (i : Int) % len := Int.emod_nonneg _ (by omega)
      have q1 : (i : Int) % len < len := Int.emod_lt_of_pos _ (by omega)
      clear hwf
      go_wp2_with (first
        | ((with_reducible refine Step.gate_store (t := 5) rfl ?_); refine Step.store BX.out rfl rfl rfl rfl rfl pl_u8 rfl HI.out ?_; intro w4 nb m; have NB := Lib.hid nb; have S4 := Lib.hid (S2.out.other m (fun k hk e => HF.out (by obtain rfl : k = g := e; exact hk)) (fun k e => by obtain rfl : k = g := e; exact HS.out)); clear nb m))
      refine ⟨⟨i + 1, by omega, by go_num, upd fx i (f (i % len)), ?_, fun j hj => ?_, S4.out⟩, by simp [intOf]; omega⟩
      · have nb : Blk w4 g ((row 8192 fx).setIfInBounds i (.int .u8 (f (i % len)))) 5 := NB.out
        rwa [row_set] at nb
      · unfold upd; split
        · exact HV.out
        · exact FX.out j hj
    · have T := Lib.hid (fill_yes S2.out.ram 0 (G := One g) (c := 8192) (rd_row BX.out rfl FX.out) (fun i e => by obtain rfl : i = g := e; exact ⟨HF.out, BX.out.lt⟩) (by omega) (decide_eq_true (by omega)))
      have ARMS : True := trivial
      have hsplit : i = 8192 ∨ (i < 8192 ∧ len = 0) := by omega
      clear hgo
      rcases hsplit with rfl | ⟨hil, rfl⟩
      all_goals
        go_wp2_with (first
          | (go_at_call 15; refine (T.out).mono ?_; rintro e w5 ⟨rfl, r, m⟩; have hal := (alloc_below w5 (.cells #[.int .i64 1, .int .i64 2, .int .i64 4, .int .i64 8] 3 (0, 0))); have S5 := Lib.hid ((S2.out.step r m).below hal); have B5 := Lib.hid ((BX.out.mod m HF.out).below hal); have HF5 := Lib.hid (show ¬ Grow (Grow Nil W w1) wr w5 g from fun hf => hf.elim HF.out fun e => by have := BX.out.lt; omega); clear r m hal; have WR := Lib.hid (write_z S5.out.ram (a : Int) v 8 8 rfl (by omega) ⟨v0, v1⟩ (by decide) (decide_eq_true (by omega))))
          | (go_at_call 9; (first | (with_reducible refine (P1.out _).mono ?_) | (with_reducible refine (P2.out _).mono ?_)); rintro e w6 ⟨rfl, rfl⟩)
          | (go_at_call 12; refine (WR.out).mono ?_; rintro e w7 ⟨rfl, r, m⟩; have S7 := Lib.hid (S5.out.step r m); have B7 := Lib.hid (B5.out.mod m HF5.out); have HF7 := Lib.hid (show ¬ Grow (Grow (Grow Nil W w1) wr w5) (w5.alloc (.cells #[.int .i64 1, .int .i64 2, .int .i64 4, .int .i64 8] 3 (0, 0))) w7 g from fun hf => hf.elim HF5.out fun e => by have := B5.out.lt; omega); clear r m WR))
        obtain ⟨F7, hS7, hF7⟩ : ∃ F7, Solo W w7 h 0 2 (Mem.wr (fl (fun _ => 0) (0 - 0 : Int).toNat 8192 fx) ((a : Int) - 0).toNat 8 v) F7 ∧ ¬ F7 g := ⟨_, S7.out, HF7.out⟩
        have Q7 := Lib.hid hS7
        have HF8 := Lib.hid hF7
        clear hS7 hF7 S7 HF7 S5 HF5 B5
        go_loopw [15] (fun i w => ∃ k : Nat, k ≤ 8 ∧ i = .int .i64 k ∧ Blk w g (row 8192 (Mem.wr fx a k v)) 5 ∧ Solo W w h 0 2 (Mem.wr (fl (fun _ => 0) (0 - 0 : Int).toNat 8192 fx) ((a : Int) - 0).toNat 8 v) F7) (fun i _ => (8 - intOf i).toNat)
        case atStart => exact ⟨0, by omega, rfl, by rw [wr_zero]; exact B7.out, Q7.out⟩
        case round =>
          obtain ⟨k, hk, rfl, hB, hS⟩ := hrel
          have BK := Lib.hid hB
          have SK := Lib.hid hS
          clear hB hS
          by_cases hlt : k < 8
          · have HI := Lib.hid (show Nat.blt (a + k) (row 8192 (Mem.wr fx a k v)).size = true by rw [row_size]; exact Nat.ble_eq_true_of_le (by omega))
            go_wp2_with (first
              | ((with_reducible refine Step.gate_store (t := 5) rfl ?_); refine Step.store (i := a + k) BK.out rfl rfl rfl rfl rfl pl_u8 rfl HI.out ?_; intro w8 nb m; have NB := Lib.hid nb; have S8 := Lib.hid (SK.out.other m (fun k hk e => HF8.out (by obtain rfl : k = g := e; exact hk)) (fun k e => by obtain rfl : k = g := e; exact HS.out)); clear nb m))
            refine ⟨⟨k + 1, by omega, by go_num, ?_, S8.out⟩, by simp [intOf]; omega⟩
            have nb : Blk w8 g ((row 8192 (Mem.wr fx a k v)).setIfInBounds (a + k) (.int .u8 (v / 2 ^ (8 * k) % 256))) 5 := NB.out
            rwa [row_set, show (2 : Int) ^ (8 * k) = 256 ^ k by rw [Int.pow_mul]; rfl, wr_succ] at nb
          · obtain rfl : k = 8 := by omega
            have X1 := Lib.hid (bytes_z SK.out.ram 0 8192 8192 rfl (by omega) (by omega) (by decide))
            go_wp2_with (first
              | (go_at_call 16; refine (X1.out).mono ?_; rintro e w9 ⟨g1, rfl, bx, hg1, hb⟩; have B9 := Lib.hid bx; have S9 := Lib.hid (SK.out.below hb); have BK9 := Lib.hid (BK.out.below hb); clear bx hg1 hb; have RV := Lib.hid (read_v S9.out.ram rfl 8 v rfl (by rw [show (256 : Int) ^ 8 = 18446744073709551616 by decide, Int.emod_eq_of_lt v0 v1]) (by omega) (by decide) (decide_eq_true (by omega))))
              | (go_at_call 11; refine (RV.out).mono ?_; rintro e w10 ⟨rfl, hw⟩; have S10 := Lib.hid (S9.out.drawn hw); have B10 := Lib.hid (B9.out.below (below_drawn hw)); have BK10 := Lib.hid (BK9.out.below (below_drawn hw)); clear hw; have SM := Lib.hid (same_rows (ca := 8192) (cb := 8192) B10.out BK10.out (fun i hi => by unfold Mem.wr fl; simp only [Int.sub_self, Int.toNat_zero, Nat.zero_add, Int.sub_zero, Int.toNat_natCast]; by_cases h1 : a ≤ i ∧ i < a + 8 <;> simp [h1, hi]) (fun i hi => S10.out.ram.byte (by omega)) (by omega)))
              | (go_at_call 17; refine (SM.out).mono ?_; rintro e w11 ⟨rfl, hw⟩; have S11 := Lib.hid (S10.out.drawn hw); clear hw)
              | (go_at_call 14; refine (AW.out _).mono ?_; rintro e w12 ⟨rfl, hb⟩; have S12 := Lib.hid (S11.out.below hb); clear hb))
            go_ret
            exact ⟨rfl, S12.out.out⟩

theorem bytes_any (at0 s0 v : Int) (A : Option Addr) (len cap : Nat) (f : Nat → Int) (W : World) (w0 : (Lit.int .i64 at0).wf = true) (w1 : (Lit.int .i64 s0).wf = true) (w2 : (Lit.int .u64 v).wf = true) (w3 : RdI .u8 W A len f (· < W.heap.size)) (y3 : len ≤ 9223372036854775807) :
    Calls Try.prog 4 #[.int .i64 at0, .int .i64 s0, .int .u64 v, .slice A len cap] W fun e W' => e = .returned (.bool true) ∧ Below W.heap.size W W' := by
  have hq : s0 % 4 = 0 ∨ s0 % 4 = 1 ∨ s0 % 4 = 2 ∨ s0 % 4 = 3 := by omega
  rcases hq with hq | hq | hq | hq
  · exact bytes_1 at0 s0 v A len cap f W w0 w1 w2 w3 y3 hq
  · exact bytes_2 at0 s0 v A len cap f W w0 w1 w2 w3 y3 hq
  · exact bytes_4 at0 s0 v A len cap f W w0 w1 w2 w3 y3 hq
  · exact bytes_8 at0 s0 v A len cap f W w0 w1 w2 w3 y3 hq
end Go.Proofs.Ytkdohejocmkljaa.Mem
