/- Parts of the walks and laws for the claim: ExpB; no conditions beyond the theorems' own. -/
import Derived.Test.YtidiojhefjhojaaGreatQ14
import Derived.Test.YtidiojhefjhojaaGreatQ17
section
namespace Go.Proofs.YtidiojhefjhojaaGreat.Enc
open Go Go.RowKit Go.Proofs.YtidiojhefjhojaaGreat.Step
set_option linter.unusedVariables false
set_option linter.unusedSimpArgs false
set_option maxRecDepth 100000
set_option maxHeartbeats 4000000 in
theorem arithmetic_any (c : Int) (hc : H16 c) (w : World) : Calls Tryz.prog 109 #[.int .u16 c] w fun e w' => Says (ar (fd c 11 10) (cHigh c) (cLow c) (cN c) (sx 6 (cN c)) (fd c 12 12 * 4 + fd c 6 5)) e ∧ Below w.heap.size w w' := by
  have T11_10 := Lib.hid (fun w => calls_below (half_at c 11 10 11 10 hc rfl rfl (by decide) (by decide) w))
  have T12_12 := Lib.hid (fun w => calls_below (half_at c 12 12 12 12 hc rfl rfl (by decide) (by decide) w))
  have T6_5 := Lib.hid (fun w => calls_below (half_at c 6 5 6 5 hc rfl rfl (by decide) (by decide) w))
  have Hrd := Lib.hid (hrd c hc)
  have Hrs2 := Lib.hid (hrs2 c hc)
  have Hlow := Lib.hid (hlow c hc)
  have Hhigh := Lib.hid (hhigh c hc)
  have Hn := Lib.hid (hn c hc)
  have Hsigned := Lib.hid (hsigned c hc)
  have b11_10 := fd_lit (a := c) (h := 11) (l := 10) (n := 4) rfl
  have b12_12 := fd_lit (a := c) (h := 12) (l := 12) (n := 2) rfl
  have b6_5 := fd_lit (a := c) (h := 6) (l := 5) (n := 4) rfl
  unfold ar
  generalize cLow c = low at *
  generalize cHigh c = high at *
  generalize sx 6 (cN c) = s at *
  generalize cN c = n at *
  generalize fd c 11 10 = x11_10 at *
  generalize fd c 12 12 = x12_12 at *
  generalize fd c 6 5 = x6_5 at *
  have o1_x6_5 : bits .or .i64 (x12_12 * 4) (x6_5) = x12_12 * 4 + x6_5 := i64_orp 2 4 rfl ⟨by omega, by omega⟩ (by omega) ⟨by omega, by omega⟩ (by omega)
  have HX := Lib.hid (show -9223372036854775808 ≤ x12_12 * 4 + x6_5 ∧ x12_12 * 4 + x6_5 < 9223372036854775808 by omega)
  obtain ⟨u, hu⟩ : ∃ u, pk arL (x12_12 * 4 + x6_5) = u := ⟨_, rfl⟩
  rw [hu]
  have hu : pk ([2, 6, 9, 10, 20, 19] : List Int) (x12_12 * 4 + x6_5) = u := hu
  obtain ⟨E_, hEq⟩ : ∃ E_, (if x11_10 = 0 then some ⟨9, 7, high, high, 0, n, 0, false⟩ else if x11_10 = 1 then some ⟨9, 8, high, high, 0, n, 0, false⟩ else if x11_10 = 2 then some ⟨9, 10, high, high, 0, s, 0, false⟩ else if u = 0 then none else some ⟨8, u, high, high, low, 0, 0, false⟩ : Option Ins) = E_ := ⟨_, rfl⟩
  rw [hEq]
  have hd : (x11_10 = 0 ∧ E_ = some ⟨9, 7, high, high, 0, n, 0, false⟩) ∨ (¬ (x11_10 = 0) ∧ x11_10 = 1 ∧ E_ = some ⟨9, 8, high, high, 0, n, 0, false⟩) ∨ (¬ (x11_10 = 0) ∧ ¬ (x11_10 = 1) ∧ x11_10 = 2 ∧ E_ = some ⟨9, 10, high, high, 0, s, 0, false⟩) ∨ (¬ (x11_10 = 0) ∧ ¬ (x11_10 = 1) ∧ ¬ (x11_10 = 2) ∧ u = 0 ∧ E_ = none) ∨ (¬ (x11_10 = 0) ∧ ¬ (x11_10 = 1) ∧ ¬ (x11_10 = 2) ∧ ¬ (u = 0) ∧ E_ = some ⟨8, u, high, high, low, 0, 0, false⟩) := by
    by_cases c0 : x11_10 = 0
    · exact Or.inl ⟨c0, by rw [← hEq]; simp [c0]⟩
    · by_cases c1 : x11_10 = 1
      · exact Or.inr (Or.inl ⟨c0, c1, by rw [← hEq]; simp [c0, c1]⟩)
      · by_cases c2 : x11_10 = 2
        · exact Or.inr (Or.inr (Or.inl ⟨c0, c1, c2, by rw [← hEq]; simp [c0, c1, c2]⟩))
        · by_cases c3 : u = 0
          · exact Or.inr (Or.inr (Or.inr (Or.inl ⟨c0, c1, c2, c3, by rw [← hEq]; simp [c0, c1, c2, c3]⟩)))
          · exact Or.inr (Or.inr (Or.inr (Or.inr (⟨c0, c1, c2, c3, by rw [← hEq]; simp [c0, c1, c2, c3]⟩))))
  clear hEq
  rcases hd with ⟨c0, hE⟩ | ⟨c0, c1, hE⟩ | ⟨c0, c1, c2, hE⟩ | ⟨c0, c1, c2, c3, hE⟩ | ⟨c0, c1, c2, c3, hE⟩
  all_goals subst hE
  all_goals (
    go_enter Tryz.func109, Tryz.ntmps109
    go_wp2_with (first
      | (go_at_call 99; (with_reducible refine (T11_10.out _).mono ?_); rintro e w' ⟨rfl, hb⟩; (try replace PB := Lib.hid (PB.out.below hb)); replace ST := Lib.hid (ST.out.call hb); clear hb)
      | (go_at_call 99; (with_reducible refine (T12_12.out _).mono ?_); rintro e w' ⟨rfl, hb⟩; (try replace PB := Lib.hid (PB.out.below hb)); replace ST := Lib.hid (ST.out.call hb); clear hb)
      | (go_at_call 99; (with_reducible refine (T6_5.out _).mono ?_); rintro e w' ⟨rfl, hb⟩; (try replace PB := Lib.hid (PB.out.below hb)); replace ST := Lib.hid (ST.out.call hb); clear hb)
      | (go_at_call 101; (with_reducible refine (Hlow.out _).mono ?_); rintro e w' ⟨rfl, hb⟩; (try replace PB := Lib.hid (PB.out.below hb)); replace ST := Lib.hid (ST.out.call hb); clear hb)
      | (go_at_call 103; (with_reducible refine (Hhigh.out _).mono ?_); rintro e w' ⟨rfl, hb⟩; (try replace PB := Lib.hid (PB.out.below hb)); replace ST := Lib.hid (ST.out.call hb); clear hb)
      | (go_at_call 108; (with_reducible refine (Hn.out _).mono ?_); rintro e w' ⟨rfl, hb⟩; (try replace PB := Lib.hid (PB.out.below hb)); replace ST := Lib.hid (ST.out.call hb); clear hb)
      | (go_at_call 107; (with_reducible refine (Hsigned.out _).mono ?_); rintro e w' ⟨rfl, hb⟩; (try replace PB := Lib.hid (PB.out.below hb)); replace ST := Lib.hid (ST.out.call hb); clear hb)
      | ((with_reducible refine Step.gate_build (t := 174) rfl ?_); refine Step.freshSlice (cs := #[.int .i64 2, .int .i64 6, .int .i64 9, .int .i64 10, .int .i64 20, .int .i64 19]) (T := 3) (n := 6) (m := 6) rfl ?hr ?_; (case hr => first | (go_simp; done)); intro g9 w1 b hg hb; have PB := Lib.hid (show Blk w1 g9 (Enc.ints ([2, 6, 9, 10, 20, 19] : List Int)) _ from b); replace ST := Lib.hid (ST.out.call hb); clear b hb hg)
      | (go_at_call 118; (with_reducible refine (pick_any (n := 6) PB.out ([2, 6, 9, 10, 20, 19] : List Int) rfl rfl (by decide) _ HX.out).mono ?_); rintro e w' ⟨rfl, hb⟩; clear PB; replace ST := Lib.hid (ST.out.call hb); clear hb; (try rw [hu]))
      | (go_at_call 100; (with_reducible refine (with_any _ _ _ _ _).mono ?_); rintro e w' ⟨rfl, hb⟩; (try replace PB := Lib.hid (PB.out.below hb)); replace ST := Lib.hid (ST.out.call hb); clear hb)
      | (go_at_call 148; (with_reducible refine (of_any _ _ _ _ _).mono ?_); rintro e w' ⟨rfl, hb⟩; (try replace PB := Lib.hid (PB.out.below hb)); replace ST := Lib.hid (ST.out.call hb); clear hb)
      | ((with_reducible refine Step.gate_alloc (t := 74) rfl ?_); refine Step.freshAlloc rfl rfl (alloc_agg zero_inst) ?_; intro g1 w1 b hg hb; have ST := Lib.hid (S1.made b hg hb); clear b hg hb)
      | ((with_reducible refine Step.gate_store (t := 74) rfl ?_); refine Step.storeAll ST.out.one rfl rfl rfl rfl rfl size_inst rfl rfl ?_; intro w3 nb m; replace ST := Lib.hid (ST.out.set1 nb m); clear nb m))
    refine bodyPost_ret (results_row_tmp rfl _ _ g1 _ _ _ rfl ST.out.one Tryz.underlying74 rfl size_inst) rfl ⟨⟨⟨_, _, _, _, _, _, _, _⟩, _, rfl, ?_⟩, ST.out.below⟩
    first
      | rfl
      | (simp [*]; done))
set_option maxHeartbeats 4000000 in
theorem moves_any (c rd rs2 : Int) (hc : H16 c) (hr : 0 ≤ rd ∧ rd < 32) (w : World) : Calls Tryz.prog 111 #[.int .u16 c, .int .i64 rd, .int .i64 rs2] w fun e w' => Says (mv (fd c 12 12) rd rs2) e ∧ Below w.heap.size w w' := by
  have T12_12 := Lib.hid (fun w => calls_below (half_at c 12 12 12 12 hc rfl rfl (by decide) (by decide) w))
  have b12_12 := fd_lit (a := c) (h := 12) (l := 12) (n := 2) rfl
  unfold mv
  generalize fd c 12 12 = x12_12 at *
  have hl : x12_12 = 0 ∨ x12_12 = 1 := by omega
  have hw1 : wrap64 (rd * 0) = 0 := by simp [wrap64]
  have hw2 : wrap64 (rd * 1) = rd := by unfold wrap64; omega
  clear b12_12 hr
  rcases hl with hl | hl
  all_goals subst hl
  · obtain ⟨E_, hEq⟩ : ∃ E_, (if rs2 = 0 then (if (0 : Int) = 1 ∧ rd = 0 then some ⟨12, 0, 0, 0, 0, 0, 0, false⟩ else if rd = 0 then none else some ⟨4, 0, (0 : Int), rd, 0, 0, 0, false⟩) else some ⟨8, 1, rd, rd * (0 : Int), rs2, 0, 0, false⟩ : Option Ins) = E_ := ⟨_, rfl⟩
    rw [hEq]
    have hd : (rs2 = 0 ∧ rd = 0 ∧ E_ = none) ∨ (rs2 = 0 ∧ ¬ (rd = 0) ∧ E_ = some ⟨4, 0, 0, rd, 0, 0, 0, false⟩) ∨ (¬ (rs2 = 0) ∧ E_ = some ⟨8, 1, rd, rd * 0, rs2, 0, 0, false⟩) := by
      by_cases c0 : rs2 = 0
      · by_cases c1 : rd = 0
        · exact Or.inl ⟨c0, c1, by rw [← hEq]; simp [c0, c1]⟩
        · exact Or.inr (Or.inl ⟨c0, c1, by rw [← hEq]; simp [c0, c1]⟩)
      · exact Or.inr (Or.inr (⟨c0, by rw [← hEq]; simp [c0]⟩))
    clear hEq
    rcases hd with ⟨c0, c1, hE⟩ | ⟨c0, c1, hE⟩ | ⟨c0, hE⟩
    all_goals subst hE
    all_goals (
      go_enter Tryz.func111, Tryz.ntmps111
      go_wp2_with (first
        | (go_at_call 99; (with_reducible refine (T12_12.out _).mono ?_); rintro e w' ⟨rfl, hb⟩; (try replace PB := Lib.hid (PB.out.below hb)); replace ST := Lib.hid (ST.out.call hb); clear hb)
        | (go_at_call 148; (with_reducible refine (of_any _ _ _ _ _).mono ?_); rintro e w' ⟨rfl, hb⟩; (try replace PB := Lib.hid (PB.out.below hb)); replace ST := Lib.hid (ST.out.call hb); clear hb)
        | ((with_reducible refine Step.gate_alloc (t := 74) rfl ?_); refine Step.freshAlloc rfl rfl (alloc_agg zero_inst) ?_; intro g1 w1 b hg hb; have ST := Lib.hid (S1.made b hg hb); clear b hg hb)
        | ((with_reducible refine Step.gate_store (t := 74) rfl ?_); refine Step.storeAll ST.out.one rfl rfl rfl rfl rfl size_inst rfl rfl ?_; intro w3 nb m; replace ST := Lib.hid (ST.out.set1 nb m); clear nb m))
      refine bodyPost_ret (results_row_tmp rfl _ _ g1 _ _ _ rfl ST.out.one Tryz.underlying74 rfl size_inst) rfl ⟨⟨⟨_, _, _, _, _, _, _, _⟩, _, rfl, ?_⟩, ST.out.below⟩
      first
        | rfl
        | (simp [*]; done))
  · obtain ⟨E_, hEq⟩ : ∃ E_, (if rs2 = 0 then (if (1 : Int) = 1 ∧ rd = 0 then some ⟨12, 0, 0, 0, 0, 0, 0, false⟩ else if rd = 0 then none else some ⟨4, 0, (1 : Int), rd, 0, 0, 0, false⟩) else some ⟨8, 1, rd, rd * (1 : Int), rs2, 0, 0, false⟩ : Option Ins) = E_ := ⟨_, rfl⟩
    rw [hEq]
    have hd : (rs2 = 0 ∧ rd = 0 ∧ E_ = some ⟨12, 0, 0, 0, 0, 0, 0, false⟩) ∨ (rs2 = 0 ∧ ¬ (rd = 0) ∧ E_ = some ⟨4, 0, 1, rd, 0, 0, 0, false⟩) ∨ (¬ (rs2 = 0) ∧ E_ = some ⟨8, 1, rd, rd * 1, rs2, 0, 0, false⟩) := by
      by_cases c0 : rs2 = 0
      · by_cases c1 : rd = 0
        · exact Or.inl ⟨c0, c1, by rw [← hEq]; simp [c0, c1]⟩
        · exact Or.inr (Or.inl ⟨c0, c1, by rw [← hEq]; simp [c0, c1]⟩)
      · exact Or.inr (Or.inr (⟨c0, by rw [← hEq]; simp [c0]⟩))
    clear hEq
    rcases hd with ⟨c0, c1, hE⟩ | ⟨c0, c1, hE⟩ | ⟨c0, hE⟩
    all_goals subst hE
    all_goals (
      go_enter Tryz.func111, Tryz.ntmps111
      go_wp2_with (first
        | (go_at_call 99; (with_reducible refine (T12_12.out _).mono ?_); rintro e w' ⟨rfl, hb⟩; (try replace PB := Lib.hid (PB.out.below hb)); replace ST := Lib.hid (ST.out.call hb); clear hb)
        | (go_at_call 148; (with_reducible refine (of_any _ _ _ _ _).mono ?_); rintro e w' ⟨rfl, hb⟩; (try replace PB := Lib.hid (PB.out.below hb)); replace ST := Lib.hid (ST.out.call hb); clear hb)
        | ((with_reducible refine Step.gate_alloc (t := 74) rfl ?_); refine Step.freshAlloc rfl rfl (alloc_agg zero_inst) ?_; intro g1 w1 b hg hb; have ST := Lib.hid (S1.made b hg hb); clear b hg hb)
        | ((with_reducible refine Step.gate_store (t := 74) rfl ?_); refine Step.storeAll ST.out.one rfl rfl rfl rfl rfl size_inst rfl rfl ?_; intro w3 nb m; replace ST := Lib.hid (ST.out.set1 nb m); clear nb m))
      refine bodyPost_ret (results_row_tmp rfl _ _ g1 _ _ _ rfl ST.out.one Tryz.underlying74 rfl size_inst) rfl ⟨⟨⟨_, _, _, _, _, _, _, _⟩, _, rfl, ?_⟩, ST.out.below⟩
      first
        | rfl
        | (simp [*]; done)
        | (simp_all; done))
set_option maxHeartbeats 8000000 in
theorem second_any (c : Int) (hc : H16 c) (w : World) : Calls Tryz.prog 57 #[.int .u16 c] w fun e w' => Says (e1 (fd c 15 13) c) e ∧ Below w.heap.size w w' := by
  have T12_12 := Lib.hid (fun w => calls_below (half_at c 12 12 12 12 hc rfl rfl (by decide) (by decide) w))
  have T6_5 := Lib.hid (fun w => calls_below (half_at c 6 5 6 5 hc rfl rfl (by decide) (by decide) w))
  have T2_2 := Lib.hid (fun w => calls_below (half_at c 2 2 2 2 hc rfl rfl (by decide) (by decide) w))
  have T11_10 := Lib.hid (fun w => calls_below (half_at c 11 10 11 10 hc rfl rfl (by decide) (by decide) w))
  have T4_3 := Lib.hid (fun w => calls_below (half_at c 4 3 4 3 hc rfl rfl (by decide) (by decide) w))
  have T15_13 := Lib.hid (fun w => calls_below (half_at c 15 13 15 13 hc rfl rfl (by decide) (by decide) w))
  have T5_5 := Lib.hid (fun w => calls_below (half_at c 5 5 5 5 hc rfl rfl (by decide) (by decide) w))
  have T6_6 := Lib.hid (fun w => calls_below (half_at c 6 6 6 6 hc rfl rfl (by decide) (by decide) w))
  have T8_8 := Lib.hid (fun w => calls_below (half_at c 8 8 8 8 hc rfl rfl (by decide) (by decide) w))
  have T10_9 := Lib.hid (fun w => calls_below (half_at c 10 9 10 9 hc rfl rfl (by decide) (by decide) w))
  have T7_7 := Lib.hid (fun w => calls_below (half_at c 7 7 7 7 hc rfl rfl (by decide) (by decide) w))
  have T11_11 := Lib.hid (fun w => calls_below (half_at c 11 11 11 11 hc rfl rfl (by decide) (by decide) w))
  have T5_3 := Lib.hid (fun w => calls_below (half_at c 5 3 5 3 hc rfl rfl (by decide) (by decide) w))
  have Hrd := Lib.hid (hrd c hc)
  have Hrs2 := Lib.hid (hrs2 c hc)
  have Hlow := Lib.hid (hlow c hc)
  have Hhigh := Lib.hid (hhigh c hc)
  have Hn := Lib.hid (hn c hc)
  have Hsigned := Lib.hid (hsigned c hc)
  have T4 := Lib.hid (arithmetic_any c hc)
  have b12_12 := fd_lit (a := c) (h := 12) (l := 12) (n := 2) rfl
  have b6_5 := fd_lit (a := c) (h := 6) (l := 5) (n := 4) rfl
  have b2_2 := fd_lit (a := c) (h := 2) (l := 2) (n := 2) rfl
  have b11_10 := fd_lit (a := c) (h := 11) (l := 10) (n := 4) rfl
  have b4_3 := fd_lit (a := c) (h := 4) (l := 3) (n := 4) rfl
  have b15_13 := fd_lit (a := c) (h := 15) (l := 13) (n := 8) rfl
  have b5_5 := fd_lit (a := c) (h := 5) (l := 5) (n := 2) rfl
  have b6_6 := fd_lit (a := c) (h := 6) (l := 6) (n := 2) rfl
  have b8_8 := fd_lit (a := c) (h := 8) (l := 8) (n := 2) rfl
  have b10_9 := fd_lit (a := c) (h := 10) (l := 9) (n := 4) rfl
  have b7_7 := fd_lit (a := c) (h := 7) (l := 7) (n := 2) rfl
  have b11_11 := fd_lit (a := c) (h := 11) (l := 11) (n := 2) rfl
  have b5_3 := fd_lit (a := c) (h := 5) (l := 3) (n := 8) rfl
  have bn := cN_bd c
  have hsb : -32 ≤ sx 6 (cN c) ∧ sx 6 (cN c) < 32 := by
    unfold sx
    simp only [Nat.reduceSub, Nat.reducePow] at bn ⊢
    split <;> omega
  have B9 : 0 ≤ cBr c ∧ cBr c < (2 ^ 9 : Nat) := by unfold cBr; simp only [Nat.reducePow]; omega
  have B10 : 0 ≤ cSp c ∧ cSp c < (2 ^ 10 : Nat) := by unfold cSp; simp only [Nat.reducePow]; omega
  have B12 : 0 ≤ cJ c ∧ cJ c < (2 ^ 12 : Nat) := by unfold cJ; simp only [Nat.reducePow]; omega
  have S9 := Lib.hid (fun w => calls_same (signed_any (cBr c) 9 9 rfl (by decide) (by decide) B9 w))
  have S10 := Lib.hid (fun w => calls_same (signed_any (cSp c) 10 10 rfl (by decide) (by decide) B10 w))
  have S12 := Lib.hid (fun w => calls_same (signed_any (cJ c) 12 12 rfl (by decide) (by decide) B12 w))
  unfold e1
  generalize ar (fd c 11 10) (cHigh c) (cLow c) (cN c) (sx 6 (cN c)) (fd c 12 12 * 4 + fd c 6 5) = d4 at *
  generalize sx 9 (cBr c) = br at *
  generalize sx 10 (cSp c) = sp at *
  generalize sx 12 (cJ c) = jj at *
  unfold cBr at S9
  unfold cSp at S10
  unfold cJ at S12
  clear B9 B10 B12 bn
  generalize cHigh c = high at *
  generalize sx 6 (cN c) = s at *
  generalize cN c = n at *
  generalize fd c 11 7 = rd at *
  generalize fd c 12 12 = x12_12 at *
  generalize fd c 6 5 = x6_5 at *
  generalize fd c 2 2 = x2_2 at *
  generalize fd c 11 10 = x11_10 at *
  generalize fd c 4 3 = x4_3 at *
  generalize fd c 15 13 = x15_13 at *
  generalize fd c 5 5 = x5_5 at *
  generalize fd c 6 6 = x6_6 at *
  generalize fd c 8 8 = x8_8 at *
  generalize fd c 10 9 = x10_9 at *
  generalize fd c 7 7 = x7_7 at *
  generalize fd c 11 11 = x11_11 at *
  generalize fd c 5 3 = x5_3 at *
  have o1_x6_5 : bits .or .i64 (x12_12 * 256) (x6_5 * 64) = x12_12 * 256 + x6_5 * 64 := i64_orp 8 256 rfl ⟨by omega, by omega⟩ (by omega) ⟨by omega, by omega⟩ (by omega)
  have o2_x2_2 : bits .or .i64 (x12_12 * 256 + x6_5 * 64) (x2_2 * 32) = x12_12 * 256 + x6_5 * 64 + x2_2 * 32 := i64_orp 6 64 rfl ⟨by omega, by omega⟩ (by omega) ⟨by omega, by omega⟩ (by omega)
  have o3_x11_10 : bits .or .i64 (x12_12 * 256 + x6_5 * 64 + x2_2 * 32) (x11_10 * 8) = x12_12 * 256 + x6_5 * 64 + x2_2 * 32 + x11_10 * 8 := i64_orp 5 32 rfl ⟨by omega, by omega⟩ (by omega) ⟨by omega, by omega⟩ (by omega)
  have o4_x4_3 : bits .or .i64 (x12_12 * 256 + x6_5 * 64 + x2_2 * 32 + x11_10 * 8) (x4_3 * 2) = x12_12 * 256 + x6_5 * 64 + x2_2 * 32 + x11_10 * 8 + x4_3 * 2 := i64_orp 3 8 rfl ⟨by omega, by omega⟩ (by omega) ⟨by omega, by omega⟩ (by omega)
  have p1_x4_3 : bits .or .i64 (x12_12 * 512) (x4_3 * 128) = x12_12 * 512 + x4_3 * 128 := i64_orp 9 512 rfl ⟨by omega, by omega⟩ (by omega) ⟨by omega, by omega⟩ (by omega)
  have p2_x5_5 : bits .or .i64 (x12_12 * 512 + x4_3 * 128) (x5_5 * 64) = x12_12 * 512 + x4_3 * 128 + x5_5 * 64 := i64_orp 7 128 rfl ⟨by omega, by omega⟩ (by omega) ⟨by omega, by omega⟩ (by omega)
  have p3_x2_2 : bits .or .i64 (x12_12 * 512 + x4_3 * 128 + x5_5 * 64) (x2_2 * 32) = x12_12 * 512 + x4_3 * 128 + x5_5 * 64 + x2_2 * 32 := i64_orp 6 64 rfl ⟨by omega, by omega⟩ (by omega) ⟨by omega, by omega⟩ (by omega)
  have p4_x6_6 : bits .or .i64 (x12_12 * 512 + x4_3 * 128 + x5_5 * 64 + x2_2 * 32) (x6_6 * 16) = x12_12 * 512 + x4_3 * 128 + x5_5 * 64 + x2_2 * 32 + x6_6 * 16 := i64_orp 5 32 rfl ⟨by omega, by omega⟩ (by omega) ⟨by omega, by omega⟩ (by omega)
  have r1_x8_8 : bits .or .i64 (x12_12 * 2048) (x8_8 * 1024) = x12_12 * 2048 + x8_8 * 1024 := i64_orp 11 2048 rfl ⟨by omega, by omega⟩ (by omega) ⟨by omega, by omega⟩ (by omega)
  have r2_x10_9 : bits .or .i64 (x12_12 * 2048 + x8_8 * 1024) (x10_9 * 256) = x12_12 * 2048 + x8_8 * 1024 + x10_9 * 256 := i64_orp 10 1024 rfl ⟨by omega, by omega⟩ (by omega) ⟨by omega, by omega⟩ (by omega)
  have r3_x6_6 : bits .or .i64 (x12_12 * 2048 + x8_8 * 1024 + x10_9 * 256) (x6_6 * 128) = x12_12 * 2048 + x8_8 * 1024 + x10_9 * 256 + x6_6 * 128 := i64_orp 8 256 rfl ⟨by omega, by omega⟩ (by omega) ⟨by omega, by omega⟩ (by omega)
  have r4_x7_7 : bits .or .i64 (x12_12 * 2048 + x8_8 * 1024 + x10_9 * 256 + x6_6 * 128) (x7_7 * 64) = x12_12 * 2048 + x8_8 * 1024 + x10_9 * 256 + x6_6 * 128 + x7_7 * 64 := i64_orp 7 128 rfl ⟨by omega, by omega⟩ (by omega) ⟨by omega, by omega⟩ (by omega)
  have r5_x2_2 : bits .or .i64 (x12_12 * 2048 + x8_8 * 1024 + x10_9 * 256 + x6_6 * 128 + x7_7 * 64) (x2_2 * 32) = x12_12 * 2048 + x8_8 * 1024 + x10_9 * 256 + x6_6 * 128 + x7_7 * 64 + x2_2 * 32 := i64_orp 6 64 rfl ⟨by omega, by omega⟩ (by omega) ⟨by omega, by omega⟩ (by omega)
  have r6_x11_11 : bits .or .i64 (x12_12 * 2048 + x8_8 * 1024 + x10_9 * 256 + x6_6 * 128 + x7_7 * 64 + x2_2 * 32) (x11_11 * 16) = x12_12 * 2048 + x8_8 * 1024 + x10_9 * 256 + x6_6 * 128 + x7_7 * 64 + x2_2 * 32 + x11_11 * 16 := i64_orp 5 32 rfl ⟨by omega, by omega⟩ (by omega) ⟨by omega, by omega⟩ (by omega)
  have r7_x5_3 : bits .or .i64 (x12_12 * 2048 + x8_8 * 1024 + x10_9 * 256 + x6_6 * 128 + x7_7 * 64 + x2_2 * 32 + x11_11 * 16) (x5_3 * 2) = x12_12 * 2048 + x8_8 * 1024 + x10_9 * 256 + x6_6 * 128 + x7_7 * 64 + x2_2 * 32 + x11_11 * 16 + x5_3 * 2 := i64_orp 4 16 rfl ⟨by omega, by omega⟩ (by omega) ⟨by omega, by omega⟩ (by omega)
  obtain ⟨E_, hEq⟩ : ∃ E_, (if x15_13 = 0 then some ⟨9, 1, rd, rd, 0, s, 0, false⟩ else if x15_13 = 1 then (if rd = 0 then none else some ⟨9, 19, rd, rd, 0, s, 0, false⟩) else if x15_13 = 2 then some ⟨9, 1, rd, 0, 0, s, 0, false⟩ else if x15_13 = 3 then (if rd = 2 then (if sp = 0 then none else some ⟨9, 1, 2, 2, 0, sp, 0, false⟩) else (if n = 0 then none else some ⟨1, 0, rd, 0, 0, s * 4096, 0, false⟩)) else if x15_13 = 4 then d4 else if x15_13 = 5 then some ⟨3, 0, 0, 0, 0, jj, 0, false⟩ else if x15_13 = 6 then some ⟨5, 1, 0, high, 0, br, 0, false⟩ else some ⟨5, 2, 0, high, 0, br, 0, false⟩ : Option Ins) = E_ := ⟨_, rfl⟩
  rw [hEq]
  have hd : (x15_13 = 0 ∧ E_ = some ⟨9, 1, rd, rd, 0, s, 0, false⟩) ∨ (¬ (x15_13 = 0) ∧ x15_13 = 1 ∧ rd = 0 ∧ E_ = none) ∨ (¬ (x15_13 = 0) ∧ x15_13 = 1 ∧ ¬ (rd = 0) ∧ E_ = some ⟨9, 19, rd, rd, 0, s, 0, false⟩) ∨ (¬ (x15_13 = 0) ∧ ¬ (x15_13 = 1) ∧ x15_13 = 2 ∧ E_ = some ⟨9, 1, rd, 0, 0, s, 0, false⟩) ∨ (¬ (x15_13 = 0) ∧ ¬ (x15_13 = 1) ∧ ¬ (x15_13 = 2) ∧ x15_13 = 3 ∧ rd = 2 ∧ sp = 0 ∧ E_ = none) ∨ (¬ (x15_13 = 0) ∧ ¬ (x15_13 = 1) ∧ ¬ (x15_13 = 2) ∧ x15_13 = 3 ∧ rd = 2 ∧ ¬ (sp = 0) ∧ E_ = some ⟨9, 1, 2, 2, 0, sp, 0, false⟩) ∨ (¬ (x15_13 = 0) ∧ ¬ (x15_13 = 1) ∧ ¬ (x15_13 = 2) ∧ x15_13 = 3 ∧ ¬ (rd = 2) ∧ n = 0 ∧ E_ = none) ∨ (¬ (x15_13 = 0) ∧ ¬ (x15_13 = 1) ∧ ¬ (x15_13 = 2) ∧ x15_13 = 3 ∧ ¬ (rd = 2) ∧ ¬ (n = 0) ∧ E_ = some ⟨1, 0, rd, 0, 0, s * 4096, 0, false⟩) ∨ (¬ (x15_13 = 0) ∧ ¬ (x15_13 = 1) ∧ ¬ (x15_13 = 2) ∧ ¬ (x15_13 = 3) ∧ x15_13 = 4 ∧ E_ = d4) ∨ (¬ (x15_13 = 0) ∧ ¬ (x15_13 = 1) ∧ ¬ (x15_13 = 2) ∧ ¬ (x15_13 = 3) ∧ ¬ (x15_13 = 4) ∧ x15_13 = 5 ∧ E_ = some ⟨3, 0, 0, 0, 0, jj, 0, false⟩) ∨ (¬ (x15_13 = 0) ∧ ¬ (x15_13 = 1) ∧ ¬ (x15_13 = 2) ∧ ¬ (x15_13 = 3) ∧ ¬ (x15_13 = 4) ∧ ¬ (x15_13 = 5) ∧ x15_13 = 6 ∧ E_ = some ⟨5, 1, 0, high, 0, br, 0, false⟩) ∨ (¬ (x15_13 = 0) ∧ ¬ (x15_13 = 1) ∧ ¬ (x15_13 = 2) ∧ ¬ (x15_13 = 3) ∧ ¬ (x15_13 = 4) ∧ ¬ (x15_13 = 5) ∧ ¬ (x15_13 = 6) ∧ E_ = some ⟨5, 2, 0, high, 0, br, 0, false⟩) := by
    by_cases c0 : x15_13 = 0
    · exact Or.inl ⟨c0, by rw [← hEq]; simp [c0]⟩
    · by_cases c1 : x15_13 = 1
      · by_cases c2 : rd = 0
        · exact Or.inr (Or.inl ⟨c0, c1, c2, by rw [← hEq]; simp [c0, c1, c2]⟩)
        · exact Or.inr (Or.inr (Or.inl ⟨c0, c1, c2, by rw [← hEq]; simp [c0, c1, c2]⟩))
      · by_cases c2 : x15_13 = 2
        · exact Or.inr (Or.inr (Or.inr (Or.inl ⟨c0, c1, c2, by rw [← hEq]; simp [c0, c1, c2]⟩)))
        · by_cases c3 : x15_13 = 3
          · by_cases c4 : rd = 2
            · by_cases c5 : sp = 0
              · exact Or.inr (Or.inr (Or.inr (Or.inr (Or.inl ⟨c0, c1, c2, c3, c4, c5, by rw [← hEq]; simp [c0, c1, c2, c3, c4, c5]⟩))))
              · exact Or.inr (Or.inr (Or.inr (Or.inr (Or.inr (Or.inl ⟨c0, c1, c2, c3, c4, c5, by rw [← hEq]; simp [c0, c1, c2, c3, c4, c5]⟩)))))
            · by_cases c5 : n = 0
              · exact Or.inr (Or.inr (Or.inr (Or.inr (Or.inr (Or.inr (Or.inl ⟨c0, c1, c2, c3, c4, c5, by rw [← hEq]; simp [c0, c1, c2, c3, c4, c5]⟩))))))
              · exact Or.inr (Or.inr (Or.inr (Or.inr (Or.inr (Or.inr (Or.inr (Or.inl ⟨c0, c1, c2, c3, c4, c5, by rw [← hEq]; simp [c0, c1, c2, c3, c4, c5]⟩)))))))
          · by_cases c4 : x15_13 = 4
            · exact Or.inr (Or.inr (Or.inr (Or.inr (Or.inr (Or.inr (Or.inr (Or.inr (Or.inl ⟨c0, c1, c2, c3, c4, by rw [← hEq]; simp [c0, c1, c2, c3, c4]⟩))))))))
            · by_cases c5 : x15_13 = 5
              · exact Or.inr (Or.inr (Or.inr (Or.inr (Or.inr (Or.inr (Or.inr (Or.inr (Or.inr (Or.inl ⟨c0, c1, c2, c3, c4, c5, by rw [← hEq]; simp [c0, c1, c2, c3, c4, c5]⟩)))))))))
              · by_cases c6 : x15_13 = 6
                · exact Or.inr (Or.inr (Or.inr (Or.inr (Or.inr (Or.inr (Or.inr (Or.inr (Or.inr (Or.inr (Or.inl ⟨c0, c1, c2, c3, c4, c5, c6, by rw [← hEq]; simp [c0, c1, c2, c3, c4, c5, c6]⟩))))))))))
                · exact Or.inr (Or.inr (Or.inr (Or.inr (Or.inr (Or.inr (Or.inr (Or.inr (Or.inr (Or.inr (Or.inr (⟨c0, c1, c2, c3, c4, c5, c6, by rw [← hEq]; simp [c0, c1, c2, c3, c4, c5, c6]⟩)))))))))))
  clear hEq
  rcases hd with ⟨c0, hE⟩ | ⟨c0, c1, c2, hE⟩ | ⟨c0, c1, c2, hE⟩ | ⟨c0, c1, c2, hE⟩ | ⟨c0, c1, c2, c3, c4, c5, hE⟩ | ⟨c0, c1, c2, c3, c4, c5, hE⟩ | ⟨c0, c1, c2, c3, c4, c5, hE⟩ | ⟨c0, c1, c2, c3, c4, c5, hE⟩ | ⟨c0, c1, c2, c3, c4, hE⟩ | ⟨c0, c1, c2, c3, c4, c5, hE⟩ | ⟨c0, c1, c2, c3, c4, c5, c6, hE⟩ | ⟨c0, c1, c2, c3, c4, c5, c6, hE⟩
  all_goals subst hE
  all_goals (
    go_enter Tryz.func57, Tryz.ntmps57
    go_wp2_with (first
      | (go_at_call 99; (with_reducible refine (T12_12.out _).mono ?_); rintro e w' ⟨rfl, hb⟩; (try replace PB := Lib.hid (PB.out.below hb)); replace ST := Lib.hid (ST.out.call hb); clear hb)
      | (go_at_call 99; (with_reducible refine (T6_5.out _).mono ?_); rintro e w' ⟨rfl, hb⟩; (try replace PB := Lib.hid (PB.out.below hb)); replace ST := Lib.hid (ST.out.call hb); clear hb)
      | (go_at_call 99; (with_reducible refine (T2_2.out _).mono ?_); rintro e w' ⟨rfl, hb⟩; (try replace PB := Lib.hid (PB.out.below hb)); replace ST := Lib.hid (ST.out.call hb); clear hb)
      | (go_at_call 99; (with_reducible refine (T11_10.out _).mono ?_); rintro e w' ⟨rfl, hb⟩; (try replace PB := Lib.hid (PB.out.below hb)); replace ST := Lib.hid (ST.out.call hb); clear hb)
      | (go_at_call 99; (with_reducible refine (T4_3.out _).mono ?_); rintro e w' ⟨rfl, hb⟩; (try replace PB := Lib.hid (PB.out.below hb)); replace ST := Lib.hid (ST.out.call hb); clear hb)
      | (go_at_call 99; (with_reducible refine (T15_13.out _).mono ?_); rintro e w' ⟨rfl, hb⟩; (try replace PB := Lib.hid (PB.out.below hb)); replace ST := Lib.hid (ST.out.call hb); clear hb)
      | (go_at_call 99; (with_reducible refine (T5_5.out _).mono ?_); rintro e w' ⟨rfl, hb⟩; (try replace PB := Lib.hid (PB.out.below hb)); replace ST := Lib.hid (ST.out.call hb); clear hb)
      | (go_at_call 99; (with_reducible refine (T6_6.out _).mono ?_); rintro e w' ⟨rfl, hb⟩; (try replace PB := Lib.hid (PB.out.below hb)); replace ST := Lib.hid (ST.out.call hb); clear hb)
      | (go_at_call 99; (with_reducible refine (T8_8.out _).mono ?_); rintro e w' ⟨rfl, hb⟩; (try replace PB := Lib.hid (PB.out.below hb)); replace ST := Lib.hid (ST.out.call hb); clear hb)
      | (go_at_call 99; (with_reducible refine (T10_9.out _).mono ?_); rintro e w' ⟨rfl, hb⟩; (try replace PB := Lib.hid (PB.out.below hb)); replace ST := Lib.hid (ST.out.call hb); clear hb)
      | (go_at_call 99; (with_reducible refine (T7_7.out _).mono ?_); rintro e w' ⟨rfl, hb⟩; (try replace PB := Lib.hid (PB.out.below hb)); replace ST := Lib.hid (ST.out.call hb); clear hb)
      | (go_at_call 99; (with_reducible refine (T11_11.out _).mono ?_); rintro e w' ⟨rfl, hb⟩; (try replace PB := Lib.hid (PB.out.below hb)); replace ST := Lib.hid (ST.out.call hb); clear hb)
      | (go_at_call 99; (with_reducible refine (T5_3.out _).mono ?_); rintro e w' ⟨rfl, hb⟩; (try replace PB := Lib.hid (PB.out.below hb)); replace ST := Lib.hid (ST.out.call hb); clear hb)
      | (go_at_call 105; (with_reducible refine (Hrd.out _).mono ?_); rintro e w' ⟨rfl, hb⟩; (try replace PB := Lib.hid (PB.out.below hb)); replace ST := Lib.hid (ST.out.call hb); clear hb)
      | (go_at_call 103; (with_reducible refine (Hhigh.out _).mono ?_); rintro e w' ⟨rfl, hb⟩; (try replace PB := Lib.hid (PB.out.below hb)); replace ST := Lib.hid (ST.out.call hb); clear hb)
      | (go_at_call 108; (with_reducible refine (Hn.out _).mono ?_); rintro e w' ⟨rfl, hb⟩; (try replace PB := Lib.hid (PB.out.below hb)); replace ST := Lib.hid (ST.out.call hb); clear hb)
      | (go_at_call 107; (with_reducible refine (Hsigned.out _).mono ?_); rintro e w' ⟨rfl, hb⟩; (try replace PB := Lib.hid (PB.out.below hb)); replace ST := Lib.hid (ST.out.call hb); clear hb)
      | (go_at_call 106; (with_reducible refine (S9.out _).mono ?_); rintro e w' ⟨rfl, hb⟩; (try replace PB := Lib.hid (PB.out.below hb)); replace ST := Lib.hid (ST.out.call hb); clear hb)
      | (go_at_call 106; (with_reducible refine (S10.out _).mono ?_); rintro e w' ⟨rfl, hb⟩; (try replace PB := Lib.hid (PB.out.below hb)); replace ST := Lib.hid (ST.out.call hb); clear hb)
      | (go_at_call 106; (with_reducible refine (S12.out _).mono ?_); rintro e w' ⟨rfl, hb⟩; (try replace PB := Lib.hid (PB.out.below hb)); replace ST := Lib.hid (ST.out.call hb); clear hb)
      | (go_at_call 109; (with_reducible refine (T4.out _).mono ?_); rintro e w' ⟨⟨⟨r1, r2, r3, r4, r5, r6, r7, r8⟩, ok, rfl, hd4⟩, hb⟩; replace ST := Lib.hid (ST.out.call hb); clear hb; simp only [Ins.cells])
      | (go_at_call 100; (with_reducible refine (with_any _ _ _ _ _).mono ?_); rintro e w' ⟨rfl, hb⟩; (try replace PB := Lib.hid (PB.out.below hb)); replace ST := Lib.hid (ST.out.call hb); clear hb)
      | ((with_reducible refine Step.gate_alloc (t := 74) rfl ?_); refine Step.freshAlloc rfl rfl (alloc_agg zero_inst) ?_; intro g1 w1 b hg hb; have ST := Lib.hid (S1.made b hg hb); clear b hg hb)
      | ((with_reducible refine Step.gate_store (t := 74) rfl ?_); refine Step.storeAll ST.out.one rfl rfl rfl rfl rfl size_inst rfl rfl ?_; intro w3 nb m; replace ST := Lib.hid (ST.out.set1 nb m); clear nb m))
    refine bodyPost_ret (results_row_tmp rfl _ _ g1 _ _ _ rfl ST.out.one Tryz.underlying74 rfl size_inst) rfl ⟨⟨⟨_, _, _, _, _, _, _, _⟩, _, rfl, ?_⟩, ST.out.below⟩
    first
      | rfl
      | exact hd4
      | (simp [*]; done))
set_option maxHeartbeats 8000000 in
theorem third_any (c : Int) (hc : H16 c) (w : World) : Calls Tryz.prog 58 #[.int .u16 c] w fun e w' => Says (e2 (fd c 15 13) c) e ∧ Below w.heap.size w w' := by
  have T15_13 := Lib.hid (fun w => calls_below (half_at c 15 13 15 13 hc rfl rfl (by decide) (by decide) w))
  have T3_2 := Lib.hid (fun w => calls_below (half_at c 3 2 3 2 hc rfl rfl (by decide) (by decide) w))
  have T12_12 := Lib.hid (fun w => calls_below (half_at c 12 12 12 12 hc rfl rfl (by decide) (by decide) w))
  have T6_4 := Lib.hid (fun w => calls_below (half_at c 6 4 6 4 hc rfl rfl (by decide) (by decide) w))
  have T4_2 := Lib.hid (fun w => calls_below (half_at c 4 2 4 2 hc rfl rfl (by decide) (by decide) w))
  have T6_5 := Lib.hid (fun w => calls_below (half_at c 6 5 6 5 hc rfl rfl (by decide) (by decide) w))
  have T8_7 := Lib.hid (fun w => calls_below (half_at c 8 7 8 7 hc rfl rfl (by decide) (by decide) w))
  have T12_9 := Lib.hid (fun w => calls_below (half_at c 12 9 12 9 hc rfl rfl (by decide) (by decide) w))
  have T9_7 := Lib.hid (fun w => calls_below (half_at c 9 7 9 7 hc rfl rfl (by decide) (by decide) w))
  have T12_10 := Lib.hid (fun w => calls_below (half_at c 12 10 12 10 hc rfl rfl (by decide) (by decide) w))
  have Hrd := Lib.hid (hrd c hc)
  have Hrs2 := Lib.hid (hrs2 c hc)
  have Hlow := Lib.hid (hlow c hc)
  have Hhigh := Lib.hid (hhigh c hc)
  have Hn := Lib.hid (hn c hc)
  have Hsigned := Lib.hid (hsigned c hc)
  have b11_7 := fd_lit (a := c) (h := 11) (l := 7) (n := 32) rfl
  have T4 := Lib.hid (moves_any c (fd c 11 7) (fd c 6 2) hc b11_7)
  have b15_13 := fd_lit (a := c) (h := 15) (l := 13) (n := 8) rfl
  have b3_2 := fd_lit (a := c) (h := 3) (l := 2) (n := 4) rfl
  have b12_12 := fd_lit (a := c) (h := 12) (l := 12) (n := 2) rfl
  have b6_4 := fd_lit (a := c) (h := 6) (l := 4) (n := 8) rfl
  have b4_2 := fd_lit (a := c) (h := 4) (l := 2) (n := 8) rfl
  have b6_5 := fd_lit (a := c) (h := 6) (l := 5) (n := 4) rfl
  have b8_7 := fd_lit (a := c) (h := 8) (l := 7) (n := 4) rfl
  have b12_9 := fd_lit (a := c) (h := 12) (l := 9) (n := 16) rfl
  have b9_7 := fd_lit (a := c) (h := 9) (l := 7) (n := 8) rfl
  have b12_10 := fd_lit (a := c) (h := 12) (l := 10) (n := 8) rfl
  unfold e2 cL4 cL8 cS4 cS8
  generalize mv (fd c 12 12) (fd c 11 7) (fd c 6 2) = d4 at *
  generalize cN c = n at *
  generalize fd c 11 7 = rd at *
  generalize fd c 6 2 = rs2 at *
  generalize fd c 15 13 = x15_13 at *
  generalize fd c 3 2 = x3_2 at *
  generalize fd c 12 12 = x12_12 at *
  generalize fd c 6 4 = x6_4 at *
  generalize fd c 4 2 = x4_2 at *
  generalize fd c 6 5 = x6_5 at *
  generalize fd c 8 7 = x8_7 at *
  generalize fd c 12 9 = x12_9 at *
  generalize fd c 9 7 = x9_7 at *
  generalize fd c 12 10 = x12_10 at *
  have o1_x12_12 : bits .or .i64 (x3_2 * 64) (x12_12 * 32) = x3_2 * 64 + x12_12 * 32 := i64_orp 6 64 rfl ⟨by omega, by omega⟩ (by omega) ⟨by omega, by omega⟩ (by omega)
  have o2_x6_4 : bits .or .i64 (x3_2 * 64 + x12_12 * 32) (x6_4 * 4) = x3_2 * 64 + x12_12 * 32 + x6_4 * 4 := i64_orp 5 32 rfl ⟨by omega, by omega⟩ (by omega) ⟨by omega, by omega⟩ (by omega)
  have p1_x12_12 : bits .or .i64 (x4_2 * 64) (x12_12 * 32) = x4_2 * 64 + x12_12 * 32 := i64_orp 6 64 rfl ⟨by omega, by omega⟩ (by omega) ⟨by omega, by omega⟩ (by omega)
  have p2_x6_5 : bits .or .i64 (x4_2 * 64 + x12_12 * 32) (x6_5 * 8) = x4_2 * 64 + x12_12 * 32 + x6_5 * 8 := i64_orp 5 32 rfl ⟨by omega, by omega⟩ (by omega) ⟨by omega, by omega⟩ (by omega)
  have q1_x12_9 : bits .or .i64 (x8_7 * 64) (x12_9 * 4) = x8_7 * 64 + x12_9 * 4 := i64_orp 6 64 rfl ⟨by omega, by omega⟩ (by omega) ⟨by omega, by omega⟩ (by omega)
  have r1_x12_10 : bits .or .i64 (x9_7 * 64) (x12_10 * 8) = x9_7 * 64 + x12_10 * 8 := i64_orp 6 64 rfl ⟨by omega, by omega⟩ (by omega) ⟨by omega, by omega⟩ (by omega)
  obtain ⟨E_, hEq⟩ : ∃ E_, (if x15_13 = 0 then some ⟨9, 3, rd, rd, 0, n, 0, false⟩ else if x15_13 = 2 then (if rd = 0 then none else some ⟨6, 0, rd, 2, 0, x3_2 * 64 + x12_12 * 32 + x6_4 * 4, 4, true⟩) else if x15_13 = 3 then (if rd = 0 then none else some ⟨6, 0, rd, 2, 0, x4_2 * 64 + x12_12 * 32 + x6_5 * 8, 8, true⟩) else if x15_13 = 4 then d4 else if x15_13 = 6 then some ⟨7, 0, 0, 2, rs2, x8_7 * 64 + x12_9 * 4, 4, false⟩ else if x15_13 = 7 then some ⟨7, 0, 0, 2, rs2, x9_7 * 64 + x12_10 * 8, 8, false⟩ else none : Option Ins) = E_ := ⟨_, rfl⟩
  rw [hEq]
  have hd : (x15_13 = 0 ∧ E_ = some ⟨9, 3, rd, rd, 0, n, 0, false⟩) ∨ (¬ (x15_13 = 0) ∧ x15_13 = 2 ∧ rd = 0 ∧ E_ = none) ∨ (¬ (x15_13 = 0) ∧ x15_13 = 2 ∧ ¬ (rd = 0) ∧ E_ = some ⟨6, 0, rd, 2, 0, x3_2 * 64 + x12_12 * 32 + x6_4 * 4, 4, true⟩) ∨ (¬ (x15_13 = 0) ∧ ¬ (x15_13 = 2) ∧ x15_13 = 3 ∧ rd = 0 ∧ E_ = none) ∨ (¬ (x15_13 = 0) ∧ ¬ (x15_13 = 2) ∧ x15_13 = 3 ∧ ¬ (rd = 0) ∧ E_ = some ⟨6, 0, rd, 2, 0, x4_2 * 64 + x12_12 * 32 + x6_5 * 8, 8, true⟩) ∨ (¬ (x15_13 = 0) ∧ ¬ (x15_13 = 2) ∧ ¬ (x15_13 = 3) ∧ x15_13 = 4 ∧ E_ = d4) ∨ (¬ (x15_13 = 0) ∧ ¬ (x15_13 = 2) ∧ ¬ (x15_13 = 3) ∧ ¬ (x15_13 = 4) ∧ x15_13 = 6 ∧ E_ = some ⟨7, 0, 0, 2, rs2, x8_7 * 64 + x12_9 * 4, 4, false⟩) ∨ (¬ (x15_13 = 0) ∧ ¬ (x15_13 = 2) ∧ ¬ (x15_13 = 3) ∧ ¬ (x15_13 = 4) ∧ ¬ (x15_13 = 6) ∧ x15_13 = 7 ∧ E_ = some ⟨7, 0, 0, 2, rs2, x9_7 * 64 + x12_10 * 8, 8, false⟩) ∨ (¬ (x15_13 = 0) ∧ ¬ (x15_13 = 2) ∧ ¬ (x15_13 = 3) ∧ ¬ (x15_13 = 4) ∧ ¬ (x15_13 = 6) ∧ ¬ (x15_13 = 7) ∧ E_ = none) := by
    by_cases c0 : x15_13 = 0
    · exact Or.inl ⟨c0, by rw [← hEq]; simp [c0]⟩
    · by_cases c1 : x15_13 = 2
      · by_cases c2 : rd = 0
        · exact Or.inr (Or.inl ⟨c0, c1, c2, by rw [← hEq]; simp [c0, c1, c2]⟩)
        · exact Or.inr (Or.inr (Or.inl ⟨c0, c1, c2, by rw [← hEq]; simp [c0, c1, c2]⟩))
      · by_cases c2 : x15_13 = 3
        · by_cases c3 : rd = 0
          · exact Or.inr (Or.inr (Or.inr (Or.inl ⟨c0, c1, c2, c3, by rw [← hEq]; simp [c0, c1, c2, c3]⟩)))
          · exact Or.inr (Or.inr (Or.inr (Or.inr (Or.inl ⟨c0, c1, c2, c3, by rw [← hEq]; simp [c0, c1, c2, c3]⟩))))
        · by_cases c3 : x15_13 = 4
          · exact Or.inr (Or.inr (Or.inr (Or.inr (Or.inr (Or.inl ⟨c0, c1, c2, c3, by rw [← hEq]; simp [c0, c1, c2, c3]⟩)))))
          · by_cases c4 : x15_13 = 6
            · exact Or.inr (Or.inr (Or.inr (Or.inr (Or.inr (Or.inr (Or.inl ⟨c0, c1, c2, c3, c4, by rw [← hEq]; simp [c0, c1, c2, c3, c4]⟩))))))
            · by_cases c5 : x15_13 = 7
              · exact Or.inr (Or.inr (Or.inr (Or.inr (Or.inr (Or.inr (Or.inr (Or.inl ⟨c0, c1, c2, c3, c4, c5, by rw [← hEq]; simp [c0, c1, c2, c3, c4, c5]⟩)))))))
              · exact Or.inr (Or.inr (Or.inr (Or.inr (Or.inr (Or.inr (Or.inr (Or.inr (⟨c0, c1, c2, c3, c4, c5, by rw [← hEq]; simp [c0, c1, c2, c3, c4, c5]⟩))))))))
  clear hEq
  rcases hd with ⟨c0, hE⟩ | ⟨c0, c1, c2, hE⟩ | ⟨c0, c1, c2, hE⟩ | ⟨c0, c1, c2, c3, hE⟩ | ⟨c0, c1, c2, c3, hE⟩ | ⟨c0, c1, c2, c3, hE⟩ | ⟨c0, c1, c2, c3, c4, hE⟩ | ⟨c0, c1, c2, c3, c4, c5, hE⟩ | ⟨c0, c1, c2, c3, c4, c5, hE⟩
  all_goals subst hE
  all_goals (
    go_enter Tryz.func58, Tryz.ntmps58
    go_wp2_with (first
      | (go_at_call 99; (with_reducible refine (T15_13.out _).mono ?_); rintro e w' ⟨rfl, hb⟩; (try replace PB := Lib.hid (PB.out.below hb)); replace ST := Lib.hid (ST.out.call hb); clear hb)
      | (go_at_call 99; (with_reducible refine (T3_2.out _).mono ?_); rintro e w' ⟨rfl, hb⟩; (try replace PB := Lib.hid (PB.out.below hb)); replace ST := Lib.hid (ST.out.call hb); clear hb)
      | (go_at_call 99; (with_reducible refine (T12_12.out _).mono ?_); rintro e w' ⟨rfl, hb⟩; (try replace PB := Lib.hid (PB.out.below hb)); replace ST := Lib.hid (ST.out.call hb); clear hb)
      | (go_at_call 99; (with_reducible refine (T6_4.out _).mono ?_); rintro e w' ⟨rfl, hb⟩; (try replace PB := Lib.hid (PB.out.below hb)); replace ST := Lib.hid (ST.out.call hb); clear hb)
      | (go_at_call 99; (with_reducible refine (T4_2.out _).mono ?_); rintro e w' ⟨rfl, hb⟩; (try replace PB := Lib.hid (PB.out.below hb)); replace ST := Lib.hid (ST.out.call hb); clear hb)
      | (go_at_call 99; (with_reducible refine (T6_5.out _).mono ?_); rintro e w' ⟨rfl, hb⟩; (try replace PB := Lib.hid (PB.out.below hb)); replace ST := Lib.hid (ST.out.call hb); clear hb)
      | (go_at_call 99; (with_reducible refine (T8_7.out _).mono ?_); rintro e w' ⟨rfl, hb⟩; (try replace PB := Lib.hid (PB.out.below hb)); replace ST := Lib.hid (ST.out.call hb); clear hb)
      | (go_at_call 99; (with_reducible refine (T12_9.out _).mono ?_); rintro e w' ⟨rfl, hb⟩; (try replace PB := Lib.hid (PB.out.below hb)); replace ST := Lib.hid (ST.out.call hb); clear hb)
      | (go_at_call 99; (with_reducible refine (T9_7.out _).mono ?_); rintro e w' ⟨rfl, hb⟩; (try replace PB := Lib.hid (PB.out.below hb)); replace ST := Lib.hid (ST.out.call hb); clear hb)
      | (go_at_call 99; (with_reducible refine (T12_10.out _).mono ?_); rintro e w' ⟨rfl, hb⟩; (try replace PB := Lib.hid (PB.out.below hb)); replace ST := Lib.hid (ST.out.call hb); clear hb)
      | (go_at_call 105; (with_reducible refine (Hrd.out _).mono ?_); rintro e w' ⟨rfl, hb⟩; (try replace PB := Lib.hid (PB.out.below hb)); replace ST := Lib.hid (ST.out.call hb); clear hb)
      | (go_at_call 110; (with_reducible refine (Hrs2.out _).mono ?_); rintro e w' ⟨rfl, hb⟩; (try replace PB := Lib.hid (PB.out.below hb)); replace ST := Lib.hid (ST.out.call hb); clear hb)
      | (go_at_call 108; (with_reducible refine (Hn.out _).mono ?_); rintro e w' ⟨rfl, hb⟩; (try replace PB := Lib.hid (PB.out.below hb)); replace ST := Lib.hid (ST.out.call hb); clear hb)
      | (go_at_call 111; (with_reducible refine (T4.out _).mono ?_); rintro e w' ⟨⟨⟨r1, r2, r3, r4, r5, r6, r7, r8⟩, ok, rfl, hd4⟩, hb⟩; replace ST := Lib.hid (ST.out.call hb); clear hb; simp only [Ins.cells])
      | (go_at_call 102; (with_reducible refine (load_any _ _ _ _ _).mono ?_); rintro e w' ⟨rfl, hb⟩; (try replace PB := Lib.hid (PB.out.below hb)); replace ST := Lib.hid (ST.out.call hb); clear hb)
      | (go_at_call 104; (with_reducible refine (store_any _ _ _ _ _).mono ?_); rintro e w' ⟨rfl, hb⟩; (try replace PB := Lib.hid (PB.out.below hb)); replace ST := Lib.hid (ST.out.call hb); clear hb)
      | (go_at_call 100; (with_reducible refine (with_any _ _ _ _ _).mono ?_); rintro e w' ⟨rfl, hb⟩; (try replace PB := Lib.hid (PB.out.below hb)); replace ST := Lib.hid (ST.out.call hb); clear hb)
      | ((with_reducible refine Step.gate_alloc (t := 74) rfl ?_); refine Step.freshAlloc rfl rfl (alloc_agg zero_inst) ?_; intro g1 w1 b hg hb; have ST := Lib.hid (S1.made b hg hb); clear b hg hb)
      | ((with_reducible refine Step.gate_store (t := 74) rfl ?_); refine Step.storeAll ST.out.one rfl rfl rfl rfl rfl size_inst rfl rfl ?_; intro w3 nb m; replace ST := Lib.hid (ST.out.set1 nb m); clear nb m))
    refine bodyPost_ret (results_row_tmp rfl _ _ g1 _ _ _ rfl ST.out.one Tryz.underlying74 rfl size_inst) rfl ⟨⟨⟨_, _, _, _, _, _, _, _⟩, _, rfl, ?_⟩, ST.out.below⟩
    first
      | rfl
      | exact hd4
      | (simp [*]; done))
end Go.Proofs.YtidiojhefjhojaaGreat.Enc
end
