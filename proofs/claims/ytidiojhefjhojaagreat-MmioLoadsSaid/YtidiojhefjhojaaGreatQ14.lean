/- Parts of the walks and laws for the claim: ExpA; no conditions beyond the theorems' own. -/
import Derived.Test.YtidiojhefjhojaaGreatQ6
import Derived.Test.YtidiojhefjhojaaGreatQ8
section
namespace Go.Proofs.YtidiojhefjhojaaGreat.Enc
open Go Go.RowKit Go.Proofs.YtidiojhefjhojaaGreat.Step
set_option linter.unusedVariables false
set_option linter.unusedSimpArgs false
set_option maxRecDepth 100000
/-- Sixteen bits. -/
structure H16 (c : Int) : Prop where mk :: (out : 0 ≤ c ∧ c < 65536)
theorem half_at (c z1 z2 : Int) (h l : Nat) (hc : H16 c) (hz1 : z1 = h) (hz2 : z2 = l) (hh : h ≤ 15) (hl : l ≤ h) (w : World) :
    Calls Tryz.prog 99 #[.int .u16 c, .int .i64 z1, .int .i64 z2] w fun e w' => e = .returned (.int .i64 (fd c h l)) ∧ ∃ k, w' = w.drewN k := by
  subst hz1; subst hz2
  have hv : bits .and .i64 (wrap64 (c / 2 ^ l)) (wrap64 (wrap64 (2 ^ (h - l + 1)) - 1)) = fd c h l := by
    have := hc.out
    rw [mask_v (c / 2 ^ l) (h - l + 1) ⟨Int.ediv_nonneg hc.out.1 (Int.le_of_lt (Int.pow_pos (by decide))), Int.lt_of_le_of_lt (Int.ediv_le_self _ hc.out.1) (by omega)⟩ (by omega), pow_nat]; rfl
  go_enter Tryz.func99, Tryz.ntmps99
  go_wp2
  go_quiet (fail)
  go_wp2
  go_ret
  exact ⟨rfl, _, rfl⟩
def cN (c : Int) : Int := fd c 12 12 * 32 + fd c 6 2
def cLow (c : Int) : Int := 8 + fd c 4 2
def cHigh (c : Int) : Int := 8 + fd c 9 7
def cW4 (c : Int) : Int := fd c 5 5 * 64 + fd c 12 10 * 8 + fd c 6 6 * 4
def cW8 (c : Int) : Int := fd c 6 5 * 64 + fd c 12 10 * 8
def cA4 (c : Int) : Int := fd c 10 7 * 64 + fd c 12 11 * 16 + fd c 5 5 * 8 + fd c 6 6 * 4
def cBr (c : Int) : Int := fd c 12 12 * 256 + fd c 6 5 * 64 + fd c 2 2 * 32 + fd c 11 10 * 8 + fd c 4 3 * 2
def cSp (c : Int) : Int := fd c 12 12 * 512 + fd c 4 3 * 128 + fd c 5 5 * 64 + fd c 2 2 * 32 + fd c 6 6 * 16
def cJ (c : Int) : Int := fd c 12 12 * 2048 + fd c 8 8 * 1024 + fd c 10 9 * 256 + fd c 6 6 * 128 + fd c 7 7 * 64 + fd c 2 2 * 32 + fd c 11 11 * 16 + fd c 5 3 * 2
def cL4 (c : Int) : Int := fd c 3 2 * 64 + fd c 12 12 * 32 + fd c 6 4 * 4
def cL8 (c : Int) : Int := fd c 4 2 * 64 + fd c 12 12 * 32 + fd c 6 5 * 8
def cS4 (c : Int) : Int := fd c 8 7 * 64 + fd c 12 9 * 4
def cS8 (c : Int) : Int := fd c 9 7 * 64 + fd c 12 10 * 8
def arL : List Int := [2, 6, 9, 10, 20, 19]
def ar (q r low n s k : Int) : Option Ins :=
  if q = 0 then some ⟨9, 7, r, r, 0, n, 0, false⟩ else if q = 1 then some ⟨9, 8, r, r, 0, n, 0, false⟩ else if q = 2 then some ⟨9, 10, r, r, 0, s, 0, false⟩
  else if pk arL k = 0 then none else some ⟨8, pk arL k, r, r, low, 0, 0, false⟩
def mv (link rd rs2 : Int) : Option Ins :=
  if rs2 = 0 then (if link = 1 ∧ rd = 0 then some ⟨12, 0, 0, 0, 0, 0, 0, false⟩ else if rd = 0 then none else some ⟨4, 0, link, rd, 0, 0, 0, false⟩)
  else some ⟨8, 1, rd, rd * link, rs2, 0, 0, false⟩
/-- The forms whose lowest bits are 0, 1, 2. -/
def e0 (f c : Int) : Option Ins :=
  if f = 0 then (if cA4 c = 0 then none else some ⟨9, 1, cLow c, 2, 0, cA4 c, 0, false⟩)
  else if f = 2 then some ⟨6, 0, cLow c, cHigh c, 0, cW4 c, 4, true⟩ else if f = 3 then some ⟨6, 0, cLow c, cHigh c, 0, cW8 c, 8, true⟩
  else if f = 6 then some ⟨7, 0, 0, cHigh c, cLow c, cW4 c, 4, false⟩ else if f = 7 then some ⟨7, 0, 0, cHigh c, cLow c, cW8 c, 8, false⟩ else none
def e1 (f c : Int) : Option Ins :=
  if f = 0 then some ⟨9, 1, fd c 11 7, fd c 11 7, 0, sx 6 (cN c), 0, false⟩
  else if f = 1 then (if fd c 11 7 = 0 then none else some ⟨9, 19, fd c 11 7, fd c 11 7, 0, sx 6 (cN c), 0, false⟩)
  else if f = 2 then some ⟨9, 1, fd c 11 7, 0, 0, sx 6 (cN c), 0, false⟩
  else if f = 3 then (if fd c 11 7 = 2 then (if sx 10 (cSp c) = 0 then none else some ⟨9, 1, 2, 2, 0, sx 10 (cSp c), 0, false⟩) else (if cN c = 0 then none else some ⟨1, 0, fd c 11 7, 0, 0, sx 6 (cN c) * 4096, 0, false⟩))
  else if f = 4 then ar (fd c 11 10) (cHigh c) (cLow c) (cN c) (sx 6 (cN c)) (fd c 12 12 * 4 + fd c 6 5)
  else if f = 5 then some ⟨3, 0, 0, 0, 0, sx 12 (cJ c), 0, false⟩
  else if f = 6 then some ⟨5, 1, 0, cHigh c, 0, sx 9 (cBr c), 0, false⟩ else some ⟨5, 2, 0, cHigh c, 0, sx 9 (cBr c), 0, false⟩
def e2 (f c : Int) : Option Ins :=
  if f = 0 then some ⟨9, 3, fd c 11 7, fd c 11 7, 0, cN c, 0, false⟩
  else if f = 2 then (if fd c 11 7 = 0 then none else some ⟨6, 0, fd c 11 7, 2, 0, cL4 c, 4, true⟩) else if f = 3 then (if fd c 11 7 = 0 then none else some ⟨6, 0, fd c 11 7, 2, 0, cL8 c, 8, true⟩)
  else if f = 4 then mv (fd c 12 12) (fd c 11 7) (fd c 6 2)
  else if f = 6 then some ⟨7, 0, 0, 2, fd c 6 2, cS4 c, 4, false⟩ else if f = 7 then some ⟨7, 0, 0, 2, fd c 6 2, cS8 c, 8, false⟩ else none
/-- What a compressed instruction stands for. -/
def expD (c : Int) : Option Ins := if c % 4 = 0 then e0 (fd c 15 13) c else if c % 4 = 1 then e1 (fd c 15 13) c else if c % 4 = 2 then e2 (fd c 15 13) c else none
theorem cN_bd (c : Int) : 0 ≤ cN c ∧ cN c < (2 ^ 6 : Nat) := by
  have b0 := fd_bd c 12 12
  have b1 := fd_bd c 6 2
  simp only [Nat.reduceSub, Nat.reduceAdd, Nat.reducePow] at b0 b1 ⊢
  unfold cN; omega
theorem hrd (c : Int) (hc : H16 c) (w : World) : Calls Tryz.prog 105 #[.int .u16 c] w fun e w' => e = .returned (.int .i64 (fd c 11 7)) ∧ Below w.heap.size w w' := by
  have T0 := Lib.hid (fun w => calls_below (half_at c 11 7 11 7 hc rfl rfl (by decide) (by decide) w))
  go_enter Tryz.func105, Tryz.ntmps105
  have HB := Lib.hid (Below.refl _ _ : Below w.heap.size w w)
  go_wp2_with (first
    | (go_at_call 99; (with_reducible refine (T0.out _).mono ?_); rintro e w' ⟨rfl, hb⟩; (try (have pb_ := Lib.hid (PB.out.below hb); clear PB; have PB := pb_)); have hb_ := Lib.hid (below_below HB.out hb); clear HB hb; have HB := hb_))
  go_ret
  exact ⟨rfl, HB.out⟩
theorem hrs2 (c : Int) (hc : H16 c) (w : World) : Calls Tryz.prog 110 #[.int .u16 c] w fun e w' => e = .returned (.int .i64 (fd c 6 2)) ∧ Below w.heap.size w w' := by
  have T0 := Lib.hid (fun w => calls_below (half_at c 6 2 6 2 hc rfl rfl (by decide) (by decide) w))
  go_enter Tryz.func110, Tryz.ntmps110
  have HB := Lib.hid (Below.refl _ _ : Below w.heap.size w w)
  go_wp2_with (first
    | (go_at_call 99; (with_reducible refine (T0.out _).mono ?_); rintro e w' ⟨rfl, hb⟩; (try (have pb_ := Lib.hid (PB.out.below hb); clear PB; have PB := pb_)); have hb_ := Lib.hid (below_below HB.out hb); clear HB hb; have HB := hb_))
  go_ret
  exact ⟨rfl, HB.out⟩
theorem hlow (c : Int) (hc : H16 c) (w : World) : Calls Tryz.prog 101 #[.int .u16 c] w fun e w' => e = .returned (.int .i64 (cLow c)) ∧ Below w.heap.size w w' := by
  have T0 := Lib.hid (fun w => calls_below (half_at c 4 2 4 2 hc rfl rfl (by decide) (by decide) w))
  have b0 := fd_lit (a := c) (h := 4) (l := 2) (n := 8) rfl
  unfold cLow
  generalize fd c 4 2 = x at *
  go_enter Tryz.func101, Tryz.ntmps101
  have HB := Lib.hid (Below.refl _ _ : Below w.heap.size w w)
  go_wp2_with (first
    | (go_at_call 99; (with_reducible refine (T0.out _).mono ?_); rintro e w' ⟨rfl, hb⟩; (try (have pb_ := Lib.hid (PB.out.below hb); clear PB; have PB := pb_)); have hb_ := Lib.hid (below_below HB.out hb); clear HB hb; have HB := hb_))
  go_ret
  exact ⟨rfl, HB.out⟩
theorem hhigh (c : Int) (hc : H16 c) (w : World) : Calls Tryz.prog 103 #[.int .u16 c] w fun e w' => e = .returned (.int .i64 (cHigh c)) ∧ Below w.heap.size w w' := by
  have T0 := Lib.hid (fun w => calls_below (half_at c 9 7 9 7 hc rfl rfl (by decide) (by decide) w))
  have b0 := fd_lit (a := c) (h := 9) (l := 7) (n := 8) rfl
  unfold cHigh
  generalize fd c 9 7 = x at *
  go_enter Tryz.func103, Tryz.ntmps103
  have HB := Lib.hid (Below.refl _ _ : Below w.heap.size w w)
  go_wp2_with (first
    | (go_at_call 99; (with_reducible refine (T0.out _).mono ?_); rintro e w' ⟨rfl, hb⟩; (try (have pb_ := Lib.hid (PB.out.below hb); clear PB; have PB := pb_)); have hb_ := Lib.hid (below_below HB.out hb); clear HB hb; have HB := hb_))
  go_ret
  exact ⟨rfl, HB.out⟩
theorem hn (c : Int) (hc : H16 c) (w : World) : Calls Tryz.prog 108 #[.int .u16 c] w fun e w' => e = .returned (.int .i64 (cN c)) ∧ Below w.heap.size w w' := by
  have T12_12 := Lib.hid (fun w => calls_below (half_at c 12 12 12 12 hc rfl rfl (by decide) (by decide) w))
  have T6_2 := Lib.hid (fun w => calls_below (half_at c 6 2 6 2 hc rfl rfl (by decide) (by decide) w))
  have b12_12 := fd_lit (a := c) (h := 12) (l := 12) (n := 2) rfl
  have b6_2 := fd_lit (a := c) (h := 6) (l := 2) (n := 32) rfl
  unfold cN
  generalize fd c 12 12 = x12_12 at *
  generalize fd c 6 2 = x6_2 at *
  have o1_x6_2 : bits .or .i64 (x12_12 * 32) (x6_2) = x12_12 * 32 + x6_2 := i64_orp 5 32 rfl ⟨by omega, by omega⟩ (by omega) ⟨by omega, by omega⟩ (by omega)
  go_enter Tryz.func108, Tryz.ntmps108
  have HB := Lib.hid (Below.refl _ _ : Below w.heap.size w w)
  go_wp2_with (first
    | (go_at_call 99; (with_reducible refine (T12_12.out _).mono ?_); rintro e w' ⟨rfl, hb⟩; (try (have pb_ := Lib.hid (PB.out.below hb); clear PB; have PB := pb_)); have hb_ := Lib.hid (below_below HB.out hb); clear HB hb; have HB := hb_)
    | (go_at_call 99; (with_reducible refine (T6_2.out _).mono ?_); rintro e w' ⟨rfl, hb⟩; (try (have pb_ := Lib.hid (PB.out.below hb); clear PB; have PB := pb_)); have hb_ := Lib.hid (below_below HB.out hb); clear HB hb; have HB := hb_))
  go_ret
  exact ⟨rfl, HB.out⟩
theorem hsigned (c : Int) (hc : H16 c) (w : World) : Calls Tryz.prog 107 #[.int .u16 c] w fun e w' => e = .returned (.int .i64 (sx 6 (cN c))) ∧ Below w.heap.size w w' := by
  have T0 := Lib.hid (hn c hc)
  have T1 := Lib.hid (fun w => calls_same (signed_any (cN c) 6 6 rfl (by decide) (by decide) (cN_bd c) w))
  generalize sx 6 (cN c) = s at *
  generalize cN c = n at *
  go_enter Tryz.func107, Tryz.ntmps107
  have HB := Lib.hid (Below.refl _ _ : Below w.heap.size w w)
  go_wp2_with (first
    | (go_at_call 108; (with_reducible refine (T0.out _).mono ?_); rintro e w' ⟨rfl, hb⟩; (try (have pb_ := Lib.hid (PB.out.below hb); clear PB; have PB := pb_)); have hb_ := Lib.hid (below_below HB.out hb); clear HB hb; have HB := hb_)
    | (go_at_call 106; (with_reducible refine (T1.out _).mono ?_); rintro e w' ⟨rfl, hb⟩; (try (have pb_ := Lib.hid (PB.out.below hb); clear PB; have PB := pb_)); have hb_ := Lib.hid (below_below HB.out hb); clear HB hb; have HB := hb_))
  go_ret
  exact ⟨rfl, HB.out⟩
theorem load_any (a1 a2 a3 a4 : Int) (w : World) : Calls Tryz.prog 102 #[.int .i64 a1, .int .i64 a2, .int .i64 a3, .int .i64 a4] w fun e w' => e = .returned (.agg #[.int .i64 6, .int .i64 0, .int .i64 a2, .int .i64 a3, .int .i64 0, .int .i64 a4, .int .i64 a1, .bool true]) ∧ Below w.heap.size w w' := by
  go_enter Tryz.func102, Tryz.ntmps102
  go_wp2_with (first
  | ((with_reducible refine Step.gate_alloc (t := 74) rfl ?_); refine Step.freshAlloc rfl rfl (alloc_agg zero_inst) ?_; intro g1 w1 b hg hb; have ST := Lib.hid (S1.made b hg hb); clear b hg hb)
  | ((with_reducible refine Step.gate_store (t := 74) rfl ?_); refine Step.storeAll ST.out.one rfl rfl rfl rfl rfl size_inst rfl rfl ?_; intro w3 nb m; have st_ := Lib.hid (ST.out.set1 nb m); clear ST nb m; have ST := st_))
  refine bodyPost_ret (results_row rfl _ _ g1 _ _ _ rfl ST.out.one Tryz.underlying74 rfl size_inst) rfl ⟨rfl, ST.out.below⟩
theorem store_any (a1 a2 a3 a4 : Int) (w : World) : Calls Tryz.prog 104 #[.int .i64 a1, .int .i64 a2, .int .i64 a3, .int .i64 a4] w fun e w' => e = .returned (.agg #[.int .i64 7, .int .i64 0, .int .i64 0, .int .i64 a3, .int .i64 a2, .int .i64 a4, .int .i64 a1, .bool false]) ∧ Below w.heap.size w w' := by
  go_enter Tryz.func104, Tryz.ntmps104
  go_wp2_with (first
  | ((with_reducible refine Step.gate_alloc (t := 74) rfl ?_); refine Step.freshAlloc rfl rfl (alloc_agg zero_inst) ?_; intro g1 w1 b hg hb; have ST := Lib.hid (S1.made b hg hb); clear b hg hb)
  | ((with_reducible refine Step.gate_store (t := 74) rfl ?_); refine Step.storeAll ST.out.one rfl rfl rfl rfl rfl size_inst rfl rfl ?_; intro w3 nb m; have st_ := Lib.hid (ST.out.set1 nb m); clear ST nb m; have ST := st_))
  refine bodyPost_ret (results_row rfl _ _ g1 _ _ _ rfl ST.out.one Tryz.underlying74 rfl size_inst) rfl ⟨rfl, ST.out.below⟩
theorem with_any (a1 a2 a3 a4 : Int) (w : World) : Calls Tryz.prog 100 #[.int .i64 a1, .int .i64 a2, .int .i64 a3, .int .i64 a4] w fun e w' => e = .returned (.agg #[.int .i64 9, .int .i64 a1, .int .i64 a2, .int .i64 a3, .int .i64 0, .int .i64 a4, .int .i64 0, .bool false]) ∧ Below w.heap.size w w' := by
  go_enter Tryz.func100, Tryz.ntmps100
  go_wp2_with (first
  | ((with_reducible refine Step.gate_alloc (t := 74) rfl ?_); refine Step.freshAlloc rfl rfl (alloc_agg zero_inst) ?_; intro g1 w1 b hg hb; have ST := Lib.hid (S1.made b hg hb); clear b hg hb)
  | ((with_reducible refine Step.gate_store (t := 74) rfl ?_); refine Step.storeAll ST.out.one rfl rfl rfl rfl rfl size_inst rfl rfl ?_; intro w3 nb m; have st_ := Lib.hid (ST.out.set1 nb m); clear ST nb m; have ST := st_))
  refine bodyPost_ret (results_row rfl _ _ g1 _ _ _ rfl ST.out.one Tryz.underlying74 rfl size_inst) rfl ⟨rfl, ST.out.below⟩
theorem of_any (a1 a2 a3 a4 : Int) (w : World) : Calls Tryz.prog 148 #[.int .i64 a1, .int .i64 a2, .int .i64 a3, .int .i64 a4] w fun e w' => e = .returned (.agg #[.int .i64 8, .int .i64 a1, .int .i64 a2, .int .i64 a3, .int .i64 a4, .int .i64 0, .int .i64 0, .bool false]) ∧ Below w.heap.size w w' := by
  go_enter Tryz.func148, Tryz.ntmps148
  go_wp2_with (first
  | ((with_reducible refine Step.gate_alloc (t := 74) rfl ?_); refine Step.freshAlloc rfl rfl (alloc_agg zero_inst) ?_; intro g1 w1 b hg hb; have ST := Lib.hid (S1.made b hg hb); clear b hg hb)
  | ((with_reducible refine Step.gate_store (t := 74) rfl ?_); refine Step.storeAll ST.out.one rfl rfl rfl rfl rfl size_inst rfl rfl ?_; intro w3 nb m; have st_ := Lib.hid (ST.out.set1 nb m); clear ST nb m; have ST := st_))
  refine bodyPost_ret (results_row rfl _ _ g1 _ _ _ rfl ST.out.one Tryz.underlying74 rfl size_inst) rfl ⟨rfl, ST.out.below⟩
set_option maxHeartbeats 2000000 in
theorem first_any (c : Int) (hc : H16 c) (w : World) : Calls Tryz.prog 56 #[.int .u16 c] w fun e w' => Says (e0 (fd c 15 13) c) e ∧ Below w.heap.size w w' := by
  have T5_5 := Lib.hid (fun w => calls_below (half_at c 5 5 5 5 hc rfl rfl (by decide) (by decide) w))
  have T12_10 := Lib.hid (fun w => calls_below (half_at c 12 10 12 10 hc rfl rfl (by decide) (by decide) w))
  have T6_6 := Lib.hid (fun w => calls_below (half_at c 6 6 6 6 hc rfl rfl (by decide) (by decide) w))
  have T6_5 := Lib.hid (fun w => calls_below (half_at c 6 5 6 5 hc rfl rfl (by decide) (by decide) w))
  have T15_13 := Lib.hid (fun w => calls_below (half_at c 15 13 15 13 hc rfl rfl (by decide) (by decide) w))
  have T10_7 := Lib.hid (fun w => calls_below (half_at c 10 7 10 7 hc rfl rfl (by decide) (by decide) w))
  have T12_11 := Lib.hid (fun w => calls_below (half_at c 12 11 12 11 hc rfl rfl (by decide) (by decide) w))
  have Hrd := Lib.hid (hrd c hc)
  have Hrs2 := Lib.hid (hrs2 c hc)
  have Hlow := Lib.hid (hlow c hc)
  have Hhigh := Lib.hid (hhigh c hc)
  have Hn := Lib.hid (hn c hc)
  have Hsigned := Lib.hid (hsigned c hc)
  have b5_5 := fd_lit (a := c) (h := 5) (l := 5) (n := 2) rfl
  have b12_10 := fd_lit (a := c) (h := 12) (l := 10) (n := 8) rfl
  have b6_6 := fd_lit (a := c) (h := 6) (l := 6) (n := 2) rfl
  have b6_5 := fd_lit (a := c) (h := 6) (l := 5) (n := 4) rfl
  have b15_13 := fd_lit (a := c) (h := 15) (l := 13) (n := 8) rfl
  have b10_7 := fd_lit (a := c) (h := 10) (l := 7) (n := 16) rfl
  have b12_11 := fd_lit (a := c) (h := 12) (l := 11) (n := 4) rfl
  unfold e0 cA4 cW4 cW8
  generalize cLow c = low at *
  generalize cHigh c = high at *
  generalize fd c 5 5 = x5_5 at *
  generalize fd c 12 10 = x12_10 at *
  generalize fd c 6 6 = x6_6 at *
  generalize fd c 6 5 = x6_5 at *
  generalize fd c 15 13 = x15_13 at *
  generalize fd c 10 7 = x10_7 at *
  generalize fd c 12 11 = x12_11 at *
  have o1_x12_10 : bits .or .i64 (x5_5 * 64) (x12_10 * 8) = x5_5 * 64 + x12_10 * 8 := i64_orp 6 64 rfl ⟨by omega, by omega⟩ (by omega) ⟨by omega, by omega⟩ (by omega)
  have o2_x6_6 : bits .or .i64 (x5_5 * 64 + x12_10 * 8) (x6_6 * 4) = x5_5 * 64 + x12_10 * 8 + x6_6 * 4 := i64_orp 3 8 rfl ⟨by omega, by omega⟩ (by omega) ⟨by omega, by omega⟩ (by omega)
  have p1_x12_10 : bits .or .i64 (x6_5 * 64) (x12_10 * 8) = x6_5 * 64 + x12_10 * 8 := i64_orp 6 64 rfl ⟨by omega, by omega⟩ (by omega) ⟨by omega, by omega⟩ (by omega)
  have r1_x12_11 : bits .or .i64 (x10_7 * 64) (x12_11 * 16) = x10_7 * 64 + x12_11 * 16 := i64_orp 6 64 rfl ⟨by omega, by omega⟩ (by omega) ⟨by omega, by omega⟩ (by omega)
  have r2_x5_5 : bits .or .i64 (x10_7 * 64 + x12_11 * 16) (x5_5 * 8) = x10_7 * 64 + x12_11 * 16 + x5_5 * 8 := i64_orp 4 16 rfl ⟨by omega, by omega⟩ (by omega) ⟨by omega, by omega⟩ (by omega)
  have r3_x6_6 : bits .or .i64 (x10_7 * 64 + x12_11 * 16 + x5_5 * 8) (x6_6 * 4) = x10_7 * 64 + x12_11 * 16 + x5_5 * 8 + x6_6 * 4 := i64_orp 3 8 rfl ⟨by omega, by omega⟩ (by omega) ⟨by omega, by omega⟩ (by omega)
  by_cases h0 : x15_13 = 0
  · subst h0
    obtain ⟨n, hn⟩ : ∃ n, x10_7 * 64 + x12_11 * 16 + x5_5 * 8 + x6_6 * 4 = n := ⟨_, rfl⟩
    rw [hn]
    by_cases h : n = 0
    · rw [show ((if (0 : Int) = 0 then (if n = 0 then none else some ⟨9, 1, low, 2, 0, n, 0, false⟩) else if (0 : Int) = 2 then some ⟨6, 0, low, high, 0, x5_5 * 64 + x12_10 * 8 + x6_6 * 4, 4, true⟩ else if (0 : Int) = 3 then some ⟨6, 0, low, high, 0, x6_5 * 64 + x12_10 * 8, 8, true⟩ else if (0 : Int) = 6 then some ⟨7, 0, 0, high, low, x5_5 * 64 + x12_10 * 8 + x6_6 * 4, 4, false⟩ else if (0 : Int) = 7 then some ⟨7, 0, 0, high, low, x6_5 * 64 + x12_10 * 8, 8, false⟩ else none) : Option Ins) = (none : Option Ins) from by simp [h]]
      go_enter Tryz.func56, Tryz.ntmps56
      go_wp2_with (first
        | (go_at_call 99; (with_reducible refine (T5_5.out _).mono ?_); rintro e w' ⟨rfl, hb⟩; (try (have pb_ := Lib.hid (PB.out.below hb); clear PB; have PB := pb_)); have st_ := Lib.hid (ST.out.call hb); clear ST hb; have ST := st_)
        | (go_at_call 99; (with_reducible refine (T12_10.out _).mono ?_); rintro e w' ⟨rfl, hb⟩; (try (have pb_ := Lib.hid (PB.out.below hb); clear PB; have PB := pb_)); have st_ := Lib.hid (ST.out.call hb); clear ST hb; have ST := st_)
        | (go_at_call 99; (with_reducible refine (T6_6.out _).mono ?_); rintro e w' ⟨rfl, hb⟩; (try (have pb_ := Lib.hid (PB.out.below hb); clear PB; have PB := pb_)); have st_ := Lib.hid (ST.out.call hb); clear ST hb; have ST := st_)
        | (go_at_call 99; (with_reducible refine (T6_5.out _).mono ?_); rintro e w' ⟨rfl, hb⟩; (try (have pb_ := Lib.hid (PB.out.below hb); clear PB; have PB := pb_)); have st_ := Lib.hid (ST.out.call hb); clear ST hb; have ST := st_)
        | (go_at_call 99; (with_reducible refine (T15_13.out _).mono ?_); rintro e w' ⟨rfl, hb⟩; (try (have pb_ := Lib.hid (PB.out.below hb); clear PB; have PB := pb_)); have st_ := Lib.hid (ST.out.call hb); clear ST hb; have ST := st_)
        | (go_at_call 99; (with_reducible refine (T10_7.out _).mono ?_); rintro e w' ⟨rfl, hb⟩; (try (have pb_ := Lib.hid (PB.out.below hb); clear PB; have PB := pb_)); have st_ := Lib.hid (ST.out.call hb); clear ST hb; have ST := st_)
        | (go_at_call 99; (with_reducible refine (T12_11.out _).mono ?_); rintro e w' ⟨rfl, hb⟩; (try (have pb_ := Lib.hid (PB.out.below hb); clear PB; have PB := pb_)); have st_ := Lib.hid (ST.out.call hb); clear ST hb; have ST := st_)
        | (go_at_call 101; (with_reducible refine (Hlow.out _).mono ?_); rintro e w' ⟨rfl, hb⟩; (try (have pb_ := Lib.hid (PB.out.below hb); clear PB; have PB := pb_)); have st_ := Lib.hid (ST.out.call hb); clear ST hb; have ST := st_)
        | (go_at_call 100; (with_reducible refine (with_any _ _ _ _ _).mono ?_); rintro e w' ⟨rfl, hb⟩; (try (have pb_ := Lib.hid (PB.out.below hb); clear PB; have PB := pb_)); have st_ := Lib.hid (ST.out.call hb); clear ST hb; have ST := st_)
        | ((with_reducible refine Step.gate_alloc (t := 74) rfl ?_); refine Step.freshAlloc rfl rfl (alloc_agg zero_inst) ?_; intro g1 w1 b hg hb; have ST := Lib.hid (S1.made b hg hb); clear b hg hb)
        | ((with_reducible refine Step.gate_store (t := 74) rfl ?_); refine Step.storeAll ST.out.one rfl rfl rfl rfl rfl size_inst rfl rfl ?_; intro w3 nb m; have st_ := Lib.hid (ST.out.set1 nb m); clear ST nb m; have ST := st_))
      refine bodyPost_ret (results_row_tmp rfl _ _ g1 _ _ _ rfl ST.out.one Tryz.underlying74 rfl size_inst) rfl ⟨⟨⟨9, 1, low, 2, 0, 0, 0, false⟩, false, rfl, by simp [h]⟩, ST.out.below⟩
    · rw [show ((if (0 : Int) = 0 then (if n = 0 then none else some ⟨9, 1, low, 2, 0, n, 0, false⟩) else if (0 : Int) = 2 then some ⟨6, 0, low, high, 0, x5_5 * 64 + x12_10 * 8 + x6_6 * 4, 4, true⟩ else if (0 : Int) = 3 then some ⟨6, 0, low, high, 0, x6_5 * 64 + x12_10 * 8, 8, true⟩ else if (0 : Int) = 6 then some ⟨7, 0, 0, high, low, x5_5 * 64 + x12_10 * 8 + x6_6 * 4, 4, false⟩ else if (0 : Int) = 7 then some ⟨7, 0, 0, high, low, x6_5 * 64 + x12_10 * 8, 8, false⟩ else none) : Option Ins) = (some ⟨9, 1, low, 2, 0, n, 0, false⟩ : Option Ins) from by simp [h]]
      go_enter Tryz.func56, Tryz.ntmps56
      go_wp2_with (first
        | (go_at_call 99; (with_reducible refine (T5_5.out _).mono ?_); rintro e w' ⟨rfl, hb⟩; (try (have pb_ := Lib.hid (PB.out.below hb); clear PB; have PB := pb_)); have st_ := Lib.hid (ST.out.call hb); clear ST hb; have ST := st_)
        | (go_at_call 99; (with_reducible refine (T12_10.out _).mono ?_); rintro e w' ⟨rfl, hb⟩; (try (have pb_ := Lib.hid (PB.out.below hb); clear PB; have PB := pb_)); have st_ := Lib.hid (ST.out.call hb); clear ST hb; have ST := st_)
        | (go_at_call 99; (with_reducible refine (T6_6.out _).mono ?_); rintro e w' ⟨rfl, hb⟩; (try (have pb_ := Lib.hid (PB.out.below hb); clear PB; have PB := pb_)); have st_ := Lib.hid (ST.out.call hb); clear ST hb; have ST := st_)
        | (go_at_call 99; (with_reducible refine (T6_5.out _).mono ?_); rintro e w' ⟨rfl, hb⟩; (try (have pb_ := Lib.hid (PB.out.below hb); clear PB; have PB := pb_)); have st_ := Lib.hid (ST.out.call hb); clear ST hb; have ST := st_)
        | (go_at_call 99; (with_reducible refine (T15_13.out _).mono ?_); rintro e w' ⟨rfl, hb⟩; (try (have pb_ := Lib.hid (PB.out.below hb); clear PB; have PB := pb_)); have st_ := Lib.hid (ST.out.call hb); clear ST hb; have ST := st_)
        | (go_at_call 99; (with_reducible refine (T10_7.out _).mono ?_); rintro e w' ⟨rfl, hb⟩; (try (have pb_ := Lib.hid (PB.out.below hb); clear PB; have PB := pb_)); have st_ := Lib.hid (ST.out.call hb); clear ST hb; have ST := st_)
        | (go_at_call 99; (with_reducible refine (T12_11.out _).mono ?_); rintro e w' ⟨rfl, hb⟩; (try (have pb_ := Lib.hid (PB.out.below hb); clear PB; have PB := pb_)); have st_ := Lib.hid (ST.out.call hb); clear ST hb; have ST := st_)
        | (go_at_call 101; (with_reducible refine (Hlow.out _).mono ?_); rintro e w' ⟨rfl, hb⟩; (try (have pb_ := Lib.hid (PB.out.below hb); clear PB; have PB := pb_)); have st_ := Lib.hid (ST.out.call hb); clear ST hb; have ST := st_)
        | (go_at_call 100; (with_reducible refine (with_any _ _ _ _ _).mono ?_); rintro e w' ⟨rfl, hb⟩; (try (have pb_ := Lib.hid (PB.out.below hb); clear PB; have PB := pb_)); have st_ := Lib.hid (ST.out.call hb); clear ST hb; have ST := st_)
        | ((with_reducible refine Step.gate_alloc (t := 74) rfl ?_); refine Step.freshAlloc rfl rfl (alloc_agg zero_inst) ?_; intro g1 w1 b hg hb; have ST := Lib.hid (S1.made b hg hb); clear b hg hb)
        | ((with_reducible refine Step.gate_store (t := 74) rfl ?_); refine Step.storeAll ST.out.one rfl rfl rfl rfl rfl size_inst rfl rfl ?_; intro w3 nb m; have st_ := Lib.hid (ST.out.set1 nb m); clear ST nb m; have ST := st_))
      refine bodyPost_ret (results_row_tmp rfl _ _ g1 _ _ _ rfl ST.out.one Tryz.underlying74 rfl size_inst) rfl ⟨⟨⟨9, 1, low, 2, 0, n, 0, false⟩, (n != 0), rfl, by simp [h]⟩, ST.out.below⟩
  by_cases h2 : x15_13 = 2
  · subst h2
    rw [show ((if (2 : Int) = 0 then (if x10_7 * 64 + x12_11 * 16 + x5_5 * 8 + x6_6 * 4 = 0 then none else some ⟨9, 1, low, 2, 0, x10_7 * 64 + x12_11 * 16 + x5_5 * 8 + x6_6 * 4, 0, false⟩) else if (2 : Int) = 2 then some ⟨6, 0, low, high, 0, x5_5 * 64 + x12_10 * 8 + x6_6 * 4, 4, true⟩ else if (2 : Int) = 3 then some ⟨6, 0, low, high, 0, x6_5 * 64 + x12_10 * 8, 8, true⟩ else if (2 : Int) = 6 then some ⟨7, 0, 0, high, low, x5_5 * 64 + x12_10 * 8 + x6_6 * 4, 4, false⟩ else if (2 : Int) = 7 then some ⟨7, 0, 0, high, low, x6_5 * 64 + x12_10 * 8, 8, false⟩ else none) : Option Ins) = (some ⟨6, 0, low, high, 0, x5_5 * 64 + x12_10 * 8 + x6_6 * 4, 4, true⟩ : Option Ins) from by simp []]
    go_enter Tryz.func56, Tryz.ntmps56
    go_wp2_with (first
      | (go_at_call 99; (with_reducible refine (T5_5.out _).mono ?_); rintro e w' ⟨rfl, hb⟩; (try (have pb_ := Lib.hid (PB.out.below hb); clear PB; have PB := pb_)); have st_ := Lib.hid (ST.out.call hb); clear ST hb; have ST := st_)
      | (go_at_call 99; (with_reducible refine (T12_10.out _).mono ?_); rintro e w' ⟨rfl, hb⟩; (try (have pb_ := Lib.hid (PB.out.below hb); clear PB; have PB := pb_)); have st_ := Lib.hid (ST.out.call hb); clear ST hb; have ST := st_)
      | (go_at_call 99; (with_reducible refine (T6_6.out _).mono ?_); rintro e w' ⟨rfl, hb⟩; (try (have pb_ := Lib.hid (PB.out.below hb); clear PB; have PB := pb_)); have st_ := Lib.hid (ST.out.call hb); clear ST hb; have ST := st_)
      | (go_at_call 99; (with_reducible refine (T6_5.out _).mono ?_); rintro e w' ⟨rfl, hb⟩; (try (have pb_ := Lib.hid (PB.out.below hb); clear PB; have PB := pb_)); have st_ := Lib.hid (ST.out.call hb); clear ST hb; have ST := st_)
      | (go_at_call 99; (with_reducible refine (T15_13.out _).mono ?_); rintro e w' ⟨rfl, hb⟩; (try (have pb_ := Lib.hid (PB.out.below hb); clear PB; have PB := pb_)); have st_ := Lib.hid (ST.out.call hb); clear ST hb; have ST := st_)
      | (go_at_call 101; (with_reducible refine (Hlow.out _).mono ?_); rintro e w' ⟨rfl, hb⟩; (try (have pb_ := Lib.hid (PB.out.below hb); clear PB; have PB := pb_)); have st_ := Lib.hid (ST.out.call hb); clear ST hb; have ST := st_)
      | (go_at_call 103; (with_reducible refine (Hhigh.out _).mono ?_); rintro e w' ⟨rfl, hb⟩; (try (have pb_ := Lib.hid (PB.out.below hb); clear PB; have PB := pb_)); have st_ := Lib.hid (ST.out.call hb); clear ST hb; have ST := st_)
      | (go_at_call 102; (with_reducible refine (load_any _ _ _ _ _).mono ?_); rintro e w' ⟨rfl, hb⟩; (try (have pb_ := Lib.hid (PB.out.below hb); clear PB; have PB := pb_)); have st_ := Lib.hid (ST.out.call hb); clear ST hb; have ST := st_)
      | ((with_reducible refine Step.gate_alloc (t := 74) rfl ?_); refine Step.freshAlloc rfl rfl (alloc_agg zero_inst) ?_; intro g1 w1 b hg hb; have ST := Lib.hid (S1.made b hg hb); clear b hg hb)
      | ((with_reducible refine Step.gate_store (t := 74) rfl ?_); refine Step.storeAll ST.out.one rfl rfl rfl rfl rfl size_inst rfl rfl ?_; intro w3 nb m; have st_ := Lib.hid (ST.out.set1 nb m); clear ST nb m; have ST := st_))
    refine bodyPost_ret (results_row_tmp rfl _ _ g1 _ _ _ rfl ST.out.one Tryz.underlying74 rfl size_inst) rfl ⟨⟨⟨6, 0, low, high, 0, x5_5 * 64 + x12_10 * 8 + x6_6 * 4, 4, true⟩, true, rfl, by simp []⟩, ST.out.below⟩
  by_cases h3 : x15_13 = 3
  · subst h3
    rw [show ((if (3 : Int) = 0 then (if x10_7 * 64 + x12_11 * 16 + x5_5 * 8 + x6_6 * 4 = 0 then none else some ⟨9, 1, low, 2, 0, x10_7 * 64 + x12_11 * 16 + x5_5 * 8 + x6_6 * 4, 0, false⟩) else if (3 : Int) = 2 then some ⟨6, 0, low, high, 0, x5_5 * 64 + x12_10 * 8 + x6_6 * 4, 4, true⟩ else if (3 : Int) = 3 then some ⟨6, 0, low, high, 0, x6_5 * 64 + x12_10 * 8, 8, true⟩ else if (3 : Int) = 6 then some ⟨7, 0, 0, high, low, x5_5 * 64 + x12_10 * 8 + x6_6 * 4, 4, false⟩ else if (3 : Int) = 7 then some ⟨7, 0, 0, high, low, x6_5 * 64 + x12_10 * 8, 8, false⟩ else none) : Option Ins) = (some ⟨6, 0, low, high, 0, x6_5 * 64 + x12_10 * 8, 8, true⟩ : Option Ins) from by simp []]
    go_enter Tryz.func56, Tryz.ntmps56
    go_wp2_with (first
      | (go_at_call 99; (with_reducible refine (T5_5.out _).mono ?_); rintro e w' ⟨rfl, hb⟩; (try (have pb_ := Lib.hid (PB.out.below hb); clear PB; have PB := pb_)); have st_ := Lib.hid (ST.out.call hb); clear ST hb; have ST := st_)
      | (go_at_call 99; (with_reducible refine (T12_10.out _).mono ?_); rintro e w' ⟨rfl, hb⟩; (try (have pb_ := Lib.hid (PB.out.below hb); clear PB; have PB := pb_)); have st_ := Lib.hid (ST.out.call hb); clear ST hb; have ST := st_)
      | (go_at_call 99; (with_reducible refine (T6_6.out _).mono ?_); rintro e w' ⟨rfl, hb⟩; (try (have pb_ := Lib.hid (PB.out.below hb); clear PB; have PB := pb_)); have st_ := Lib.hid (ST.out.call hb); clear ST hb; have ST := st_)
      | (go_at_call 99; (with_reducible refine (T6_5.out _).mono ?_); rintro e w' ⟨rfl, hb⟩; (try (have pb_ := Lib.hid (PB.out.below hb); clear PB; have PB := pb_)); have st_ := Lib.hid (ST.out.call hb); clear ST hb; have ST := st_)
      | (go_at_call 99; (with_reducible refine (T15_13.out _).mono ?_); rintro e w' ⟨rfl, hb⟩; (try (have pb_ := Lib.hid (PB.out.below hb); clear PB; have PB := pb_)); have st_ := Lib.hid (ST.out.call hb); clear ST hb; have ST := st_)
      | (go_at_call 101; (with_reducible refine (Hlow.out _).mono ?_); rintro e w' ⟨rfl, hb⟩; (try (have pb_ := Lib.hid (PB.out.below hb); clear PB; have PB := pb_)); have st_ := Lib.hid (ST.out.call hb); clear ST hb; have ST := st_)
      | (go_at_call 103; (with_reducible refine (Hhigh.out _).mono ?_); rintro e w' ⟨rfl, hb⟩; (try (have pb_ := Lib.hid (PB.out.below hb); clear PB; have PB := pb_)); have st_ := Lib.hid (ST.out.call hb); clear ST hb; have ST := st_)
      | (go_at_call 102; (with_reducible refine (load_any _ _ _ _ _).mono ?_); rintro e w' ⟨rfl, hb⟩; (try (have pb_ := Lib.hid (PB.out.below hb); clear PB; have PB := pb_)); have st_ := Lib.hid (ST.out.call hb); clear ST hb; have ST := st_)
      | ((with_reducible refine Step.gate_alloc (t := 74) rfl ?_); refine Step.freshAlloc rfl rfl (alloc_agg zero_inst) ?_; intro g1 w1 b hg hb; have ST := Lib.hid (S1.made b hg hb); clear b hg hb)
      | ((with_reducible refine Step.gate_store (t := 74) rfl ?_); refine Step.storeAll ST.out.one rfl rfl rfl rfl rfl size_inst rfl rfl ?_; intro w3 nb m; have st_ := Lib.hid (ST.out.set1 nb m); clear ST nb m; have ST := st_))
    refine bodyPost_ret (results_row_tmp rfl _ _ g1 _ _ _ rfl ST.out.one Tryz.underlying74 rfl size_inst) rfl ⟨⟨⟨6, 0, low, high, 0, x6_5 * 64 + x12_10 * 8, 8, true⟩, true, rfl, by simp []⟩, ST.out.below⟩
  by_cases h6 : x15_13 = 6
  · subst h6
    rw [show ((if (6 : Int) = 0 then (if x10_7 * 64 + x12_11 * 16 + x5_5 * 8 + x6_6 * 4 = 0 then none else some ⟨9, 1, low, 2, 0, x10_7 * 64 + x12_11 * 16 + x5_5 * 8 + x6_6 * 4, 0, false⟩) else if (6 : Int) = 2 then some ⟨6, 0, low, high, 0, x5_5 * 64 + x12_10 * 8 + x6_6 * 4, 4, true⟩ else if (6 : Int) = 3 then some ⟨6, 0, low, high, 0, x6_5 * 64 + x12_10 * 8, 8, true⟩ else if (6 : Int) = 6 then some ⟨7, 0, 0, high, low, x5_5 * 64 + x12_10 * 8 + x6_6 * 4, 4, false⟩ else if (6 : Int) = 7 then some ⟨7, 0, 0, high, low, x6_5 * 64 + x12_10 * 8, 8, false⟩ else none) : Option Ins) = (some ⟨7, 0, 0, high, low, x5_5 * 64 + x12_10 * 8 + x6_6 * 4, 4, false⟩ : Option Ins) from by simp []]
    go_enter Tryz.func56, Tryz.ntmps56
    go_wp2_with (first
      | (go_at_call 99; (with_reducible refine (T5_5.out _).mono ?_); rintro e w' ⟨rfl, hb⟩; (try (have pb_ := Lib.hid (PB.out.below hb); clear PB; have PB := pb_)); have st_ := Lib.hid (ST.out.call hb); clear ST hb; have ST := st_)
      | (go_at_call 99; (with_reducible refine (T12_10.out _).mono ?_); rintro e w' ⟨rfl, hb⟩; (try (have pb_ := Lib.hid (PB.out.below hb); clear PB; have PB := pb_)); have st_ := Lib.hid (ST.out.call hb); clear ST hb; have ST := st_)
      | (go_at_call 99; (with_reducible refine (T6_6.out _).mono ?_); rintro e w' ⟨rfl, hb⟩; (try (have pb_ := Lib.hid (PB.out.below hb); clear PB; have PB := pb_)); have st_ := Lib.hid (ST.out.call hb); clear ST hb; have ST := st_)
      | (go_at_call 99; (with_reducible refine (T6_5.out _).mono ?_); rintro e w' ⟨rfl, hb⟩; (try (have pb_ := Lib.hid (PB.out.below hb); clear PB; have PB := pb_)); have st_ := Lib.hid (ST.out.call hb); clear ST hb; have ST := st_)
      | (go_at_call 99; (with_reducible refine (T15_13.out _).mono ?_); rintro e w' ⟨rfl, hb⟩; (try (have pb_ := Lib.hid (PB.out.below hb); clear PB; have PB := pb_)); have st_ := Lib.hid (ST.out.call hb); clear ST hb; have ST := st_)
      | (go_at_call 101; (with_reducible refine (Hlow.out _).mono ?_); rintro e w' ⟨rfl, hb⟩; (try (have pb_ := Lib.hid (PB.out.below hb); clear PB; have PB := pb_)); have st_ := Lib.hid (ST.out.call hb); clear ST hb; have ST := st_)
      | (go_at_call 103; (with_reducible refine (Hhigh.out _).mono ?_); rintro e w' ⟨rfl, hb⟩; (try (have pb_ := Lib.hid (PB.out.below hb); clear PB; have PB := pb_)); have st_ := Lib.hid (ST.out.call hb); clear ST hb; have ST := st_)
      | (go_at_call 104; (with_reducible refine (store_any _ _ _ _ _).mono ?_); rintro e w' ⟨rfl, hb⟩; (try (have pb_ := Lib.hid (PB.out.below hb); clear PB; have PB := pb_)); have st_ := Lib.hid (ST.out.call hb); clear ST hb; have ST := st_)
      | ((with_reducible refine Step.gate_alloc (t := 74) rfl ?_); refine Step.freshAlloc rfl rfl (alloc_agg zero_inst) ?_; intro g1 w1 b hg hb; have ST := Lib.hid (S1.made b hg hb); clear b hg hb)
      | ((with_reducible refine Step.gate_store (t := 74) rfl ?_); refine Step.storeAll ST.out.one rfl rfl rfl rfl rfl size_inst rfl rfl ?_; intro w3 nb m; have st_ := Lib.hid (ST.out.set1 nb m); clear ST nb m; have ST := st_))
    refine bodyPost_ret (results_row_tmp rfl _ _ g1 _ _ _ rfl ST.out.one Tryz.underlying74 rfl size_inst) rfl ⟨⟨⟨7, 0, 0, high, low, x5_5 * 64 + x12_10 * 8 + x6_6 * 4, 4, false⟩, true, rfl, by simp []⟩, ST.out.below⟩
  by_cases h7 : x15_13 = 7
  · subst h7
    rw [show ((if (7 : Int) = 0 then (if x10_7 * 64 + x12_11 * 16 + x5_5 * 8 + x6_6 * 4 = 0 then none else some ⟨9, 1, low, 2, 0, x10_7 * 64 + x12_11 * 16 + x5_5 * 8 + x6_6 * 4, 0, false⟩) else if (7 : Int) = 2 then some ⟨6, 0, low, high, 0, x5_5 * 64 + x12_10 * 8 + x6_6 * 4, 4, true⟩ else if (7 : Int) = 3 then some ⟨6, 0, low, high, 0, x6_5 * 64 + x12_10 * 8, 8, true⟩ else if (7 : Int) = 6 then some ⟨7, 0, 0, high, low, x5_5 * 64 + x12_10 * 8 + x6_6 * 4, 4, false⟩ else if (7 : Int) = 7 then some ⟨7, 0, 0, high, low, x6_5 * 64 + x12_10 * 8, 8, false⟩ else none) : Option Ins) = (some ⟨7, 0, 0, high, low, x6_5 * 64 + x12_10 * 8, 8, false⟩ : Option Ins) from by simp []]
    go_enter Tryz.func56, Tryz.ntmps56
    go_wp2_with (first
      | (go_at_call 99; (with_reducible refine (T5_5.out _).mono ?_); rintro e w' ⟨rfl, hb⟩; (try (have pb_ := Lib.hid (PB.out.below hb); clear PB; have PB := pb_)); have st_ := Lib.hid (ST.out.call hb); clear ST hb; have ST := st_)
      | (go_at_call 99; (with_reducible refine (T12_10.out _).mono ?_); rintro e w' ⟨rfl, hb⟩; (try (have pb_ := Lib.hid (PB.out.below hb); clear PB; have PB := pb_)); have st_ := Lib.hid (ST.out.call hb); clear ST hb; have ST := st_)
      | (go_at_call 99; (with_reducible refine (T6_6.out _).mono ?_); rintro e w' ⟨rfl, hb⟩; (try (have pb_ := Lib.hid (PB.out.below hb); clear PB; have PB := pb_)); have st_ := Lib.hid (ST.out.call hb); clear ST hb; have ST := st_)
      | (go_at_call 99; (with_reducible refine (T6_5.out _).mono ?_); rintro e w' ⟨rfl, hb⟩; (try (have pb_ := Lib.hid (PB.out.below hb); clear PB; have PB := pb_)); have st_ := Lib.hid (ST.out.call hb); clear ST hb; have ST := st_)
      | (go_at_call 99; (with_reducible refine (T15_13.out _).mono ?_); rintro e w' ⟨rfl, hb⟩; (try (have pb_ := Lib.hid (PB.out.below hb); clear PB; have PB := pb_)); have st_ := Lib.hid (ST.out.call hb); clear ST hb; have ST := st_)
      | (go_at_call 101; (with_reducible refine (Hlow.out _).mono ?_); rintro e w' ⟨rfl, hb⟩; (try (have pb_ := Lib.hid (PB.out.below hb); clear PB; have PB := pb_)); have st_ := Lib.hid (ST.out.call hb); clear ST hb; have ST := st_)
      | (go_at_call 103; (with_reducible refine (Hhigh.out _).mono ?_); rintro e w' ⟨rfl, hb⟩; (try (have pb_ := Lib.hid (PB.out.below hb); clear PB; have PB := pb_)); have st_ := Lib.hid (ST.out.call hb); clear ST hb; have ST := st_)
      | (go_at_call 104; (with_reducible refine (store_any _ _ _ _ _).mono ?_); rintro e w' ⟨rfl, hb⟩; (try (have pb_ := Lib.hid (PB.out.below hb); clear PB; have PB := pb_)); have st_ := Lib.hid (ST.out.call hb); clear ST hb; have ST := st_)
      | ((with_reducible refine Step.gate_alloc (t := 74) rfl ?_); refine Step.freshAlloc rfl rfl (alloc_agg zero_inst) ?_; intro g1 w1 b hg hb; have ST := Lib.hid (S1.made b hg hb); clear b hg hb)
      | ((with_reducible refine Step.gate_store (t := 74) rfl ?_); refine Step.storeAll ST.out.one rfl rfl rfl rfl rfl size_inst rfl rfl ?_; intro w3 nb m; have st_ := Lib.hid (ST.out.set1 nb m); clear ST nb m; have ST := st_))
    refine bodyPost_ret (results_row_tmp rfl _ _ g1 _ _ _ rfl ST.out.one Tryz.underlying74 rfl size_inst) rfl ⟨⟨⟨7, 0, 0, high, low, x6_5 * 64 + x12_10 * 8, 8, false⟩, true, rfl, by simp []⟩, ST.out.below⟩
  rw [show ((if x15_13 = 0 then (if x10_7 * 64 + x12_11 * 16 + x5_5 * 8 + x6_6 * 4 = 0 then none else some ⟨9, 1, low, 2, 0, x10_7 * 64 + x12_11 * 16 + x5_5 * 8 + x6_6 * 4, 0, false⟩) else if x15_13 = 2 then some ⟨6, 0, low, high, 0, x5_5 * 64 + x12_10 * 8 + x6_6 * 4, 4, true⟩ else if x15_13 = 3 then some ⟨6, 0, low, high, 0, x6_5 * 64 + x12_10 * 8, 8, true⟩ else if x15_13 = 6 then some ⟨7, 0, 0, high, low, x5_5 * 64 + x12_10 * 8 + x6_6 * 4, 4, false⟩ else if x15_13 = 7 then some ⟨7, 0, 0, high, low, x6_5 * 64 + x12_10 * 8, 8, false⟩ else none) : Option Ins) = (none : Option Ins) from by simp [h0, h2, h3, h6, h7]]
  go_enter Tryz.func56, Tryz.ntmps56
  go_wp2_with (first
    | (go_at_call 99; (with_reducible refine (T5_5.out _).mono ?_); rintro e w' ⟨rfl, hb⟩; (try (have pb_ := Lib.hid (PB.out.below hb); clear PB; have PB := pb_)); have st_ := Lib.hid (ST.out.call hb); clear ST hb; have ST := st_)
    | (go_at_call 99; (with_reducible refine (T12_10.out _).mono ?_); rintro e w' ⟨rfl, hb⟩; (try (have pb_ := Lib.hid (PB.out.below hb); clear PB; have PB := pb_)); have st_ := Lib.hid (ST.out.call hb); clear ST hb; have ST := st_)
    | (go_at_call 99; (with_reducible refine (T6_6.out _).mono ?_); rintro e w' ⟨rfl, hb⟩; (try (have pb_ := Lib.hid (PB.out.below hb); clear PB; have PB := pb_)); have st_ := Lib.hid (ST.out.call hb); clear ST hb; have ST := st_)
    | (go_at_call 99; (with_reducible refine (T6_5.out _).mono ?_); rintro e w' ⟨rfl, hb⟩; (try (have pb_ := Lib.hid (PB.out.below hb); clear PB; have PB := pb_)); have st_ := Lib.hid (ST.out.call hb); clear ST hb; have ST := st_)
    | (go_at_call 99; (with_reducible refine (T15_13.out _).mono ?_); rintro e w' ⟨rfl, hb⟩; (try (have pb_ := Lib.hid (PB.out.below hb); clear PB; have PB := pb_)); have st_ := Lib.hid (ST.out.call hb); clear ST hb; have ST := st_)
    | ((with_reducible refine Step.gate_alloc (t := 74) rfl ?_); refine Step.freshAlloc rfl rfl (alloc_agg zero_inst) ?_; intro g1 w1 b hg hb; have ST := Lib.hid (S1.made b hg hb); clear b hg hb)
    | ((with_reducible refine Step.gate_store (t := 74) rfl ?_); refine Step.storeAll ST.out.one rfl rfl rfl rfl rfl size_inst rfl rfl ?_; intro w3 nb m; have st_ := Lib.hid (ST.out.set1 nb m); clear ST nb m; have ST := st_))
  refine bodyPost_ret (results_row_tmp rfl _ _ g1 _ _ _ rfl ST.out.one Tryz.underlying74 rfl size_inst) rfl ⟨⟨⟨0, 0, 0, 0, 0, 0, 0, false⟩, false, rfl, by simp [h0, h2, h3, h6, h7]⟩, ST.out.below⟩
end Go.Proofs.YtidiojhefjhojaaGreat.Enc
end
