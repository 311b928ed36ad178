/- Parts of the walks and laws for the claim: RExpK; no conditions beyond the theorems' own. -/
import Derived.Deep.Cut
import Derived.Test.YtchpnbckgofiaaaGreatQ24
import Derived.Test.YtchpnbckgofiaaaGreatQ26
section
namespace Go.Proofs.YtchpnbckgofiaaaGreat.Enc
open Go Go.RowKit Go.Proofs.YtchpnbckgofiaaaGreat.Step
set_option linter.unusedVariables false
set_option linter.unusedSimpArgs false
set_option maxRecDepth 100000
open Classical in
/-- What Encode answers: the word, and whether it is one. -/
noncomputable def eV (i : Ins) : Int := if dec (encP i) = some i then encP i else 0
open Classical in
noncomputable def eB (i : Ins) : Bool := if dec (encP i) = some i then true else false
/-- What Expand answers. -/
noncomputable def xV : Option Ins → Value
  | none => .tuple #[.int .u32 0, .bool false]
  | some i => .tuple #[.int .u32 (eV i), .bool (eB i)]
theorem kin8 {u : Int} (h : u = 1 ∨ u = 2 ∨ u = 6 ∨ u = 9 ∨ u = 10 ∨ u = 19 ∨ u = 20) (rd rs1 rs2 imm sz : Int) (sg : Bool) : Kin ⟨8, u, rd, rs1, rs2, imm, sz, sg⟩ := .inr (.inr (.inr (.inr (.inr (.inr (.inr (.inr ⟨rfl, h⟩)))))))
theorem rEncode_all (i : Ins) (hk : Kin i) (w : World) : Calls Tryz.prog 66 #[.agg i.cells] w fun e w' => e = .returned (.tuple #[.int .u32 (eV i), .bool (eB i)]) ∧ Below w.heap.size w w' := by
  unfold eV eB
  by_cases hd : dec (encP i) = some i
  · rw [if_pos hd, if_pos hd]
    have hw := word_enc (encP_w i) hd
    have hr := dec_inR hd
    exact rEncodeK_yes i (encP i) hr (encP_w i) hd (Lib.hid (rdecK (encP_w i) (enc_ops hk))) (Lib.hid (fun w => by have := word_all i hr w; rw [hw] at this; exact this)) w
  · rw [if_neg hd, if_neg hd]
    by_cases hr : InR i
    · have hw := wordP_w i hr.2.2.2.2.2
      exact rEncodeK_no i (wordP i) hr hw (fun h => hd (by rw [enc_decK hw hk h]; exact h)) (Lib.hid (rdecK hw (word_ops hk))) (Lib.hid (word_all i hr)) w
    · exact rEncode_out i hr w
theorem R_any (k fn rd rs1 rs2 imm sz : Int) (sg : Bool) (hk : Kin ⟨k, fn, rd, rs1, rs2, imm, sz, sg⟩) (w : World) : Calls Tryz.prog 39 #[.agg #[.int .i64 k, .int .i64 fn, .int .i64 rd, .int .i64 rs1, .int .i64 rs2, .int .i64 imm, .int .i64 sz, .bool sg]] w fun e w' => e = .returned (.tuple #[.int .u32 (eV ⟨k, fn, rd, rs1, rs2, imm, sz, sg⟩), .bool (eB ⟨k, fn, rd, rs1, rs2, imm, sz, sg⟩)]) ∧ Below w.heap.size w w' := by
  have T0 := Lib.hid (rEncode_all ⟨k, fn, rd, rs1, rs2, imm, sz, sg⟩ hk)
  clear hk
  simp only [Ins.cells] at T0
  generalize eV ⟨k, fn, rd, rs1, rs2, imm, sz, sg⟩ = v at *
  generalize eB ⟨k, fn, rd, rs1, rs2, imm, sz, sg⟩ = b at *
  go_enter Tryz.func39, Tryz.ntmps39
  go_wp2_with (first
 | (go_at_call 66; (with_reducible refine (T0.out _).mono ?_); rintro e w' ⟨rfl, hb⟩; replace ST := Lib.hid (ST.out.call hb); clear hb)
 | ((with_reducible refine Step.gate_box (t := 85) rfl ?_); refine Step.fresh (cs := #[.int .i64 k, .int .i64 fn, .int .i64 rd, .int .i64 rs1, .int .i64 rs2, .int .i64 imm, .int .i64 sz, .bool sg]) (T := 85) rfl ?hr ?_; (case hr => go_simp); intro g1 w1 b hg hb; have ST := Lib.hid (S1.made b hg hb); clear b hg hb)
 | (refine Step.loadAll ST.out.one rfl rfl rfl Tryz.underlying85 rfl size_inst ?_))
  go_ret2
  exact ⟨rfl, ST.out.below⟩
theorem f_any (c z1 z2 z3 : Int) (h l n : Nat) (p : Int) (hc : H16 c) (hz1 : z1 = h) (hz2 : z2 = l) (hz3 : z3 = n) (hp : p = (2 ^ n : Nat)) (hh : h ≤ 15) (hl : l ≤ h) (hn : n ≤ 11) (w : World) :
    Calls Tryz.prog 37 #[.int .u16 c, .int .i64 z1, .int .i64 z2, .int .i64 z3] w fun e w' => e = .returned (.int .i64 (fd c h l * p)) ∧ Below w.heap.size w w' := by
  subst hz1 hz2 hz3 hp
  have T0 := Lib.hid (fun w => calls_below (rbits_any c h l h l ⟨by have := hc.out; omega⟩ rfl rfl (by omega) hl w))
  have b0 := fd_bd c h l
  have b1 : (2 ^ (h - l + 1) : Nat) ≤ 65536 := Nat.pow_le_pow_right (n := 2) (j := 16) (by decide) (by omega)
  have b2 : (2 ^ n : Nat) ≤ 2048 := Nat.pow_le_pow_right (n := 2) (j := 11) (by decide) hn
  have b3 := Nat.two_pow_pos n
  have hw : wrap64 (fd c h l * 2 ^ n) = fd c h l * ((2 ^ n : Nat) : Int) := by
    rw [pow_nat]
    obtain ⟨x, hx⟩ := Int.eq_ofNat_of_zero_le b0.1
    rw [hx] at b0 ⊢
    have h1 : x ≤ 65536 := by omega
    have h2 : x * 2 ^ n ≤ 65536 * 2048 := Nat.mul_le_mul h1 b2
    rw [← Int.natCast_mul]
    generalize x * 2 ^ n = y at *
    unfold wrap64; omega
  obtain ⟨v, hv⟩ : ∃ v, fd c h l * ((2 ^ n : Nat) : Int) = v := ⟨_, rfl⟩
  rw [hv] at hw ⊢
  have hcw : (c % 4294967296) = c := by have := hc.out; omega
  generalize fd c h l = x at *
  clear b0 b1 b2 b3 hv hc
  have HB := Lib.hid (Below.refl _ _ : Below w.heap.size w w)
  go_enter Tryz.func37, Tryz.ntmps37
  go_wp2_with (first
 | (go_at_call 65; (with_reducible refine (T0.out _).mono ?_); rintro e w' ⟨rfl, hb⟩; replace HB := Lib.hid (below_below HB.out hb); clear hb))
  go_ret
  exact ⟨by first | exact congrArg (fun q => Ending.returned (.int .i64 q)) hw, HB.out⟩
set_option maxHeartbeats 4000000 in
theorem arith_any (c a b n s : Int) (hc : H16 c) (w : World) : Calls Tryz.prog 40 #[.int .u16 c, .int .i64 a, .int .i64 b, .int .i64 n, .int .i64 s] w fun e w' => e = .returned (xV (ar (fd c 11 10) a b n s (fd c 12 12 * 4 + fd c 6 5))) ∧ Below w.heap.size w w' := by
  have T11_10_0 := Lib.hid (show ∀ w, Calls Tryz.prog 37 #[.int .u16 c, .int .i64 11, .int .i64 10, .int .i64 0] w fun e w' => e = .returned (.int .i64 (fd c 11 10)) ∧ Below w.heap.size w w' from fun w => by
    have := f_any c 11 10 0 11 10 0 1 hc rfl rfl rfl rfl (by decide) (by decide) (by decide) w
    rw [Int.mul_one] at this
    exact this)
  have T12_12_0 := Lib.hid (show ∀ w, Calls Tryz.prog 37 #[.int .u16 c, .int .i64 12, .int .i64 12, .int .i64 0] w fun e w' => e = .returned (.int .i64 (fd c 12 12)) ∧ Below w.heap.size w w' from fun w => by
    have := f_any c 12 12 0 12 12 0 1 hc rfl rfl rfl rfl (by decide) (by decide) (by decide) w
    rw [Int.mul_one] at this
    exact this)
  have T6_5_0 := Lib.hid (show ∀ w, Calls Tryz.prog 37 #[.int .u16 c, .int .i64 6, .int .i64 5, .int .i64 0] w fun e w' => e = .returned (.int .i64 (fd c 6 5)) ∧ Below w.heap.size w w' from fun w => by
    have := f_any c 6 5 0 6 5 0 1 hc rfl rfl rfl rfl (by decide) (by decide) (by decide) w
    rw [Int.mul_one] at this
    exact this)
  have b11_10 := fd_lit (a := c) (h := 11) (l := 10) (n := 4) rfl
  have b12_12 := fd_lit (a := c) (h := 12) (l := 12) (n := 2) rfl
  have b6_5 := fd_lit (a := c) (h := 6) (l := 5) (n := 4) rfl
  unfold ar
  generalize fd c 11 10 = x11_10 at *
  generalize fd c 12 12 = x12_12 at *
  generalize fd c 6 5 = x6_5 at *
  have HX := Lib.hid (show -9223372036854775808 ≤ 4 * x12_12 + x6_5 ∧ 4 * x12_12 + x6_5 < 9223372036854775808 by omega)
  obtain ⟨u, hu⟩ : ∃ u, pk arL (x12_12 * 4 + x6_5) = u := ⟨_, rfl⟩
  rw [hu]
  have HU := Lib.hid (fun (h : ¬ u = 0) rd rs1 rs2 imm sz sg => kin8 (by have := arL_in (x := x12_12 * 4 + x6_5) (by omega) (by omega) (by rw [hu]; exact h); rw [hu] at this; exact this) rd rs1 rs2 imm sz sg)
  have hu : pk ([2, 6, 9, 10, 20, 19, 0, 0] : List Int) (4 * x12_12 + x6_5) = u := by rw [← hu, show 4 * x12_12 + x6_5 = x12_12 * 4 + x6_5 by omega]; exact (pk_pad arL ([2, 6, 9, 10, 20, 19, 0, 0] : List Int) (by decide) _ (by omega)).symm
  obtain ⟨E_, hEq⟩ : ∃ E_, (if x11_10 = 0 then some ⟨9, 7, a, a, 0, n, 0, false⟩ else if x11_10 = 1 then some ⟨9, 8, a, a, 0, n, 0, false⟩ else if x11_10 = 2 then some ⟨9, 10, a, a, 0, s, 0, false⟩ else if u = 0 then none else some ⟨8, u, a, a, b, 0, 0, false⟩ : Option Ins) = E_ := ⟨_, rfl⟩
  rw [hEq]
  have hd : (x11_10 = 0 ∧ E_ = some ⟨9, 7, a, a, 0, n, 0, false⟩) ∨ (¬ (x11_10 = 0) ∧ x11_10 = 1 ∧ E_ = some ⟨9, 8, a, a, 0, n, 0, false⟩) ∨ (¬ (x11_10 = 0) ∧ ¬ (x11_10 = 1) ∧ x11_10 = 2 ∧ E_ = some ⟨9, 10, a, a, 0, s, 0, false⟩) ∨ (¬ (x11_10 = 0) ∧ ¬ (x11_10 = 1) ∧ ¬ (x11_10 = 2) ∧ u = 0 ∧ E_ = none) ∨ (¬ (x11_10 = 0) ∧ ¬ (x11_10 = 1) ∧ ¬ (x11_10 = 2) ∧ ¬ (u = 0) ∧ E_ = some ⟨8, u, a, a, b, 0, 0, false⟩) := by
    by_cases c0 : x11_10 = 0
    · exact Or.inl ⟨c0, by rw [← hEq]; simp [c0]⟩
    · by_cases c1 : x11_10 = 1
      · exact Or.inr (Or.inl ⟨c0, c1, by rw [← hEq]; simp [c0, c1]⟩)
      · by_cases c2 : x11_10 = 2
        · exact Or.inr (Or.inr (Or.inl ⟨c0, c1, c2, by rw [← hEq]; simp [c0, c1, c2]⟩))
        · by_cases c3 : u = 0
          · exact Or.inr (Or.inr (Or.inr (Or.inl ⟨c0, c1, c2, c3, by rw [← hEq]; simp [c0, c1, c2, c3]⟩)))
          · exact Or.inr (Or.inr (Or.inr (Or.inr (⟨c0, c1, c2, c3, by rw [← hEq]; simp [c0, c1, c2, c3]⟩))))
  clear hEq
  rcases hd with ⟨c0, hE⟩ | ⟨c0, c1, hE⟩ | ⟨c0, c1, c2, hE⟩ | ⟨c0, c1, c2, c3, hE⟩ | ⟨c0, c1, c2, c3, hE⟩
  all_goals subst hE
  all_goals (
    have HB := Lib.hid (Below.refl _ _ : Below w.heap.size w w)
    go_enter Tryz.func40, Tryz.ntmps40
    go_wp2_with (first
 | (go_at_call 37; (with_reducible refine (T11_10_0.out _).mono ?_); rintro e w' ⟨rfl, hb⟩; (try replace PB := Lib.hid (PB.out.below hb)); replace HB := Lib.hid (below_below HB.out hb); clear hb)
 | (go_at_call 37; (with_reducible refine (T12_12_0.out _).mono ?_); rintro e w' ⟨rfl, hb⟩; (try replace PB := Lib.hid (PB.out.below hb)); replace HB := Lib.hid (below_below HB.out hb); clear hb)
 | (go_at_call 37; (with_reducible refine (T6_5_0.out _).mono ?_); rintro e w' ⟨rfl, hb⟩; (try replace PB := Lib.hid (PB.out.below hb)); replace HB := Lib.hid (below_below HB.out hb); clear hb)
 | ((with_reducible refine Step.gate_build (t := 124) rfl ?_); refine Step.freshSlice (cs := #[.int .i64 2, .int .i64 6, .int .i64 9, .int .i64 10, .int .i64 20, .int .i64 19, .int .i64 0, .int .i64 0]) (T := 3) (n := 8) (m := 8) rfl ?hr ?_; (case hr => go_simp); intro g1 w1 b hg hb; have PB := Lib.hid (show Blk w1 g1 (Enc.ints ([2, 6, 9, 10, 20, 19, 0, 0] : List Int)) _ from b); have hb_ := Lib.hid (below_below HB.out hb); clear HB b hb hg; have HB := hb_)
 | (go_at_call 67; (with_reducible refine (rpick_any (n := 8) PB.out ([2, 6, 9, 10, 20, 19, 0, 0] : List Int) rfl rfl (by decide) _ HX.out).mono ?_); rintro e w' ⟨rfl, hb⟩; clear PB; replace HB := Lib.hid (below_below HB.out hb); clear hb; (try rw [hu]))
 | (go_at_call 39; (with_reducible refine (R_any _ _ _ _ _ _ _ _ (by first | (simp [Kin]; done) | exact HU.out c3 _ _ _ _ _ _) _).mono ?_); rintro e w' ⟨rfl, hb⟩; (try replace PB := Lib.hid (PB.out.below hb)); replace HB := Lib.hid (below_below HB.out hb); clear hb))
    go_ret2
    first
      | exact ⟨rfl, HB.out⟩)
set_option maxHeartbeats 4000000 in
theorem jumps_any (c rd r2 : Int) (hc : H16 c) (w : World) : Calls Tryz.prog 41 #[.int .u16 c, .int .i64 rd, .int .i64 r2] w fun e w' => e = .returned (xV (mv (fd c 12 12) rd r2)) ∧ Below w.heap.size w w' := by
  have T12_12_0 := Lib.hid (show ∀ w, Calls Tryz.prog 37 #[.int .u16 c, .int .i64 12, .int .i64 12, .int .i64 0] w fun e w' => e = .returned (.int .i64 (fd c 12 12)) ∧ Below w.heap.size w w' from fun w => by
    have := f_any c 12 12 0 12 12 0 1 hc rfl rfl rfl rfl (by decide) (by decide) (by decide) w
    rw [Int.mul_one] at this
    exact this)
  have b12_12 := fd_lit (a := c) (h := 12) (l := 12) (n := 2) rfl
  generalize fd c 12 12 = x12_12 at *
  have hl : x12_12 = 0 ∨ x12_12 = 1 := by omega
  clear b12_12
  rcases hl with hl | hl
  all_goals subst hl
  · obtain ⟨E_, hEq⟩ : ∃ E_, (mv 0 rd r2 : Option Ins) = E_ := ⟨_, rfl⟩
    rw [hEq]
    have hd : (r2 = 0 ∧ rd = 0 ∧ E_ = none) ∨ (r2 = 0 ∧ ¬ (rd = 0) ∧ E_ = some ⟨4, 0, 0, rd, 0, 0, 0, false⟩) ∨ (¬ (r2 = 0) ∧ E_ = some ⟨8, 1, rd, 0, r2, 0, 0, false⟩) := by
      by_cases c0 : r2 = 0
      · by_cases c1 : rd = 0
        · exact Or.inl ⟨c0, c1, by rw [← hEq]; simp [c0, c1, mv]⟩
        · exact Or.inr (Or.inl ⟨c0, c1, by rw [← hEq]; simp [c0, c1, mv]⟩)
      · exact Or.inr (Or.inr (⟨c0, by rw [← hEq]; simp [c0, mv]⟩))
    clear hEq
    rcases hd with ⟨c0, c1, hE⟩ | ⟨c0, c1, hE⟩ | ⟨c0, hE⟩
    all_goals subst hE
    all_goals (
      have HB := Lib.hid (Below.refl _ _ : Below w.heap.size w w)
      go_enter Tryz.func41, Tryz.ntmps41
      go_wp2_with (first
 | (go_at_call 37; (with_reducible refine (T12_12_0.out _).mono ?_); rintro e w' ⟨rfl, hb⟩; replace HB := Lib.hid (below_below HB.out hb); clear hb)
 | (go_at_call 39; (with_reducible refine (R_any _ _ _ _ _ _ _ _ (by first | (simp [Kin]; done)) _).mono ?_); rintro e w' ⟨rfl, hb⟩; replace HB := Lib.hid (below_below HB.out hb); clear hb))
      go_ret2
      first
        | exact ⟨rfl, HB.out⟩)
  · obtain ⟨E_, hEq⟩ : ∃ E_, (mv 1 rd r2 : Option Ins) = E_ := ⟨_, rfl⟩
    rw [hEq]
    have hd : (r2 = 0 ∧ rd = 0 ∧ E_ = some ⟨12, 0, 0, 0, 0, 0, 0, false⟩) ∨ (r2 = 0 ∧ ¬ (rd = 0) ∧ E_ = some ⟨4, 0, 1, rd, 0, 0, 0, false⟩) ∨ (¬ (r2 = 0) ∧ E_ = some ⟨8, 1, rd, rd, r2, 0, 0, false⟩) := by
      by_cases c0 : r2 = 0
      · by_cases c1 : rd = 0
        · exact Or.inl ⟨c0, c1, by rw [← hEq]; simp [c0, c1, mv]⟩
        · exact Or.inr (Or.inl ⟨c0, c1, by rw [← hEq]; simp [c0, c1, mv]⟩)
      · exact Or.inr (Or.inr (⟨c0, by rw [← hEq]; simp [c0, mv]⟩))
    clear hEq
    rcases hd with ⟨c0, c1, hE⟩ | ⟨c0, c1, hE⟩ | ⟨c0, hE⟩
    all_goals subst hE
    all_goals (
      have HB := Lib.hid (Below.refl _ _ : Below w.heap.size w w)
      go_enter Tryz.func41, Tryz.ntmps41
      go_wp2_with (first
 | (go_at_call 37; (with_reducible refine (T12_12_0.out _).mono ?_); rintro e w' ⟨rfl, hb⟩; replace HB := Lib.hid (below_below HB.out hb); clear hb)
 | (go_at_call 39; (with_reducible refine (R_any _ _ _ _ _ _ _ _ (by first | (simp [Kin]; done)) _).mono ?_); rintro e w' ⟨rfl, hb⟩; replace HB := Lib.hid (below_below HB.out hb); clear hb))
      go_ret2
      first
        | exact ⟨rfl, HB.out⟩)
/-- What a compressed instruction stands for, by its lowest and its highest bits. -/
def expT (t c : Int) : Option Ins :=
  if t = 0 then (if (cA4 c) = 0 then none else some ⟨9, 1, (cLow c), 2, 0, (cA4 c), 0, false⟩) else if t = 2 then some ⟨6, 0, (cLow c), (cHigh c), 0, (cW4 c), 4, true⟩ else if t = 3 then some ⟨6, 0, (cLow c), (cHigh c), 0, (cW8 c), 8, true⟩ else if t = 6 then some ⟨7, 0, 0, (cHigh c), (cLow c), (cW4 c), 4, false⟩ else if t = 7 then some ⟨7, 0, 0, (cHigh c), (cLow c), (cW8 c), 8, false⟩ else if t = 8 then some ⟨9, 1, (fd c 11 7), (fd c 11 7), 0, (sx 6 (cN c)), 0, false⟩ else if t = 9 then (if (fd c 11 7) = 0 then none else some ⟨9, 19, (fd c 11 7), (fd c 11 7), 0, (sx 6 (cN c)), 0, false⟩) else if t = 10 then some ⟨9, 1, (fd c 11 7), 0, 0, (sx 6 (cN c)), 0, false⟩ else if t = 11 then (if (fd c 11 7) = 2 then (if (sx 10 (cSp c)) = 0 then none else some ⟨9, 1, 2, 2, 0, (sx 10 (cSp c)), 0, false⟩) else (if (sx 6 (cN c)) = 0 then none else some ⟨1, 0, (fd c 11 7), 0, 0, (sx 6 (cN c)) * 4096, 0, false⟩)) else if t = 12 then (ar (fd c 11 10) (cHigh c) (cLow c) (cN c) (sx 6 (cN c)) (fd c 12 12 * 4 + fd c 6 5)) else if t = 13 then some ⟨3, 0, 0, 0, 0, (sx 12 (cJ c)), 0, false⟩ else if t = 14 then some ⟨5, 1, 0, (cHigh c), 0, (sx 9 (cBr c)), 0, false⟩ else if t = 15 then some ⟨5, 2, 0, (cHigh c), 0, (sx 9 (cBr c)), 0, false⟩ else if t = 16 then some ⟨9, 3, (fd c 11 7), (fd c 11 7), 0, (cN c), 0, false⟩ else if t = 18 then (if (fd c 11 7) = 0 then none else some ⟨6, 0, (fd c 11 7), 2, 0, (cL4 c), 4, true⟩) else if t = 19 then (if (fd c 11 7) = 0 then none else some ⟨6, 0, (fd c 11 7), 2, 0, (cL8 c), 8, true⟩) else if t = 20 then (mv (fd c 12 12) (fd c 11 7) (fd c 6 2)) else if t = 22 then some ⟨7, 0, 0, 2, (fd c 6 2), (cS4 c), 4, false⟩ else if t = 23 then some ⟨7, 0, 0, 2, (fd c 6 2), (cS8 c), 8, false⟩ else none
theorem sx6 {n : Int} (h : 0 ≤ n ∧ n < 64) : sx 6 n = 0 ↔ n = 0 := by
  unfold sx
  simp only [Nat.reduceSub, Nat.reducePow]
  split <;> omega
theorem expT_eq (c : Int) : expD c = expT (8 * fd c 1 0 + fd c 15 13) c := by
  have b1 := fd_lit (a := c) (h := 1) (l := 0) (n := 4) rfl
  have b2 := fd_lit (a := c) (h := 15) (l := 13) (n := 8) rfl
  have e : c % 4 = fd c 1 0 := by show c % 4 = c / 1 % 4; omega
  have bn := cN_bd c
  have hs := sx6 (n := cN c) (by simpa using bn)
  have hs' : (cN c = 0) = (sx 6 (cN c) = 0) := propext hs.symm
  unfold expD
  rw [e]
  unfold expT e0 e1 e2
  simp only [hs']
  generalize fd c 1 0 = q at *
  generalize fd c 15 13 = x at *
  have hq : q = 0 ∨ q = 1 ∨ q = 2 ∨ q = 3 := by omega
  have hx : x = 0 ∨ x = 1 ∨ x = 2 ∨ x = 3 ∨ x = 4 ∨ x = 5 ∨ x = 6 ∨ x = 7 := by omega
  clear b1 b2 e bn hs hs'
  rcases hq with h | h | h | h <;> subst h <;> rcases hx with h | h | h | h | h | h | h | h <;> subst h <;> simp
set_option maxHeartbeats 32000000 in
theorem rExpand_any (c : Int) (hc : H16 c) (w : World) : Calls Tryz.prog 19 #[.int .u16 c] w fun e w' => e = .returned (xV (expD c)) ∧ Below w.heap.size w w' := by
  have T11_7_0 := Lib.hid (show ∀ w, Calls Tryz.prog 37 #[.int .u16 c, .int .i64 11, .int .i64 7, .int .i64 0] w fun e w' => e = .returned (.int .i64 (fd c 11 7)) ∧ Below w.heap.size w w' from fun w => by
    have := f_any c 11 7 0 11 7 0 1 hc rfl rfl rfl rfl (by decide) (by decide) (by decide) w
    rw [Int.mul_one] at this
    exact this)
  have T6_2_0 := Lib.hid (show ∀ w, Calls Tryz.prog 37 #[.int .u16 c, .int .i64 6, .int .i64 2, .int .i64 0] w fun e w' => e = .returned (.int .i64 (fd c 6 2)) ∧ Below w.heap.size w w' from fun w => by
    have := f_any c 6 2 0 6 2 0 1 hc rfl rfl rfl rfl (by decide) (by decide) (by decide) w
    rw [Int.mul_one] at this
    exact this)
  have T9_7_0 := Lib.hid (show ∀ w, Calls Tryz.prog 37 #[.int .u16 c, .int .i64 9, .int .i64 7, .int .i64 0] w fun e w' => e = .returned (.int .i64 (fd c 9 7)) ∧ Below w.heap.size w w' from fun w => by
    have := f_any c 9 7 0 9 7 0 1 hc rfl rfl rfl rfl (by decide) (by decide) (by decide) w
    rw [Int.mul_one] at this
    exact this)
  have T4_2_0 := Lib.hid (show ∀ w, Calls Tryz.prog 37 #[.int .u16 c, .int .i64 4, .int .i64 2, .int .i64 0] w fun e w' => e = .returned (.int .i64 (fd c 4 2)) ∧ Below w.heap.size w w' from fun w => by
    have := f_any c 4 2 0 4 2 0 1 hc rfl rfl rfl rfl (by decide) (by decide) (by decide) w
    rw [Int.mul_one] at this
    exact this)
  have T12_12_5 := Lib.hid (show ∀ w, Calls Tryz.prog 37 #[.int .u16 c, .int .i64 12, .int .i64 12, .int .i64 5] w fun e w' => e = .returned (.int .i64 (fd c 12 12 * 32)) ∧ Below w.heap.size w w' from fun w => by
    have := f_any c 12 12 5 12 12 5 32 hc rfl rfl rfl rfl (by decide) (by decide) (by decide) w
    exact this)
  have T5_5_6 := Lib.hid (show ∀ w, Calls Tryz.prog 37 #[.int .u16 c, .int .i64 5, .int .i64 5, .int .i64 6] w fun e w' => e = .returned (.int .i64 (fd c 5 5 * 64)) ∧ Below w.heap.size w w' from fun w => by
    have := f_any c 5 5 6 5 5 6 64 hc rfl rfl rfl rfl (by decide) (by decide) (by decide) w
    exact this)
  have T12_10_3 := Lib.hid (show ∀ w, Calls Tryz.prog 37 #[.int .u16 c, .int .i64 12, .int .i64 10, .int .i64 3] w fun e w' => e = .returned (.int .i64 (fd c 12 10 * 8)) ∧ Below w.heap.size w w' from fun w => by
    have := f_any c 12 10 3 12 10 3 8 hc rfl rfl rfl rfl (by decide) (by decide) (by decide) w
    exact this)
  have T6_6_2 := Lib.hid (show ∀ w, Calls Tryz.prog 37 #[.int .u16 c, .int .i64 6, .int .i64 6, .int .i64 2] w fun e w' => e = .returned (.int .i64 (fd c 6 6 * 4)) ∧ Below w.heap.size w w' from fun w => by
    have := f_any c 6 6 2 6 6 2 4 hc rfl rfl rfl rfl (by decide) (by decide) (by decide) w
    exact this)
  have T6_5_6 := Lib.hid (show ∀ w, Calls Tryz.prog 37 #[.int .u16 c, .int .i64 6, .int .i64 5, .int .i64 6] w fun e w' => e = .returned (.int .i64 (fd c 6 5 * 64)) ∧ Below w.heap.size w w' from fun w => by
    have := f_any c 6 5 6 6 5 6 64 hc rfl rfl rfl rfl (by decide) (by decide) (by decide) w
    exact this)
  have T12_12_8 := Lib.hid (show ∀ w, Calls Tryz.prog 37 #[.int .u16 c, .int .i64 12, .int .i64 12, .int .i64 8] w fun e w' => e = .returned (.int .i64 (fd c 12 12 * 256)) ∧ Below w.heap.size w w' from fun w => by
    have := f_any c 12 12 8 12 12 8 256 hc rfl rfl rfl rfl (by decide) (by decide) (by decide) w
    exact this)
  have T2_2_5 := Lib.hid (show ∀ w, Calls Tryz.prog 37 #[.int .u16 c, .int .i64 2, .int .i64 2, .int .i64 5] w fun e w' => e = .returned (.int .i64 (fd c 2 2 * 32)) ∧ Below w.heap.size w w' from fun w => by
    have := f_any c 2 2 5 2 2 5 32 hc rfl rfl rfl rfl (by decide) (by decide) (by decide) w
    exact this)
  have T11_10_3 := Lib.hid (show ∀ w, Calls Tryz.prog 37 #[.int .u16 c, .int .i64 11, .int .i64 10, .int .i64 3] w fun e w' => e = .returned (.int .i64 (fd c 11 10 * 8)) ∧ Below w.heap.size w w' from fun w => by
    have := f_any c 11 10 3 11 10 3 8 hc rfl rfl rfl rfl (by decide) (by decide) (by decide) w
    exact this)
  have T4_3_1 := Lib.hid (show ∀ w, Calls Tryz.prog 37 #[.int .u16 c, .int .i64 4, .int .i64 3, .int .i64 1] w fun e w' => e = .returned (.int .i64 (fd c 4 3 * 2)) ∧ Below w.heap.size w w' from fun w => by
    have := f_any c 4 3 1 4 3 1 2 hc rfl rfl rfl rfl (by decide) (by decide) (by decide) w
    exact this)
  have T1_0_0 := Lib.hid (show ∀ w, Calls Tryz.prog 37 #[.int .u16 c, .int .i64 1, .int .i64 0, .int .i64 0] w fun e w' => e = .returned (.int .i64 (fd c 1 0)) ∧ Below w.heap.size w w' from fun w => by
    have := f_any c 1 0 0 1 0 0 1 hc rfl rfl rfl rfl (by decide) (by decide) (by decide) w
    rw [Int.mul_one] at this
    exact this)
  have T15_13_0 := Lib.hid (show ∀ w, Calls Tryz.prog 37 #[.int .u16 c, .int .i64 15, .int .i64 13, .int .i64 0] w fun e w' => e = .returned (.int .i64 (fd c 15 13)) ∧ Below w.heap.size w w' from fun w => by
    have := f_any c 15 13 0 15 13 0 1 hc rfl rfl rfl rfl (by decide) (by decide) (by decide) w
    rw [Int.mul_one] at this
    exact this)
  have T10_7_6 := Lib.hid (show ∀ w, Calls Tryz.prog 37 #[.int .u16 c, .int .i64 10, .int .i64 7, .int .i64 6] w fun e w' => e = .returned (.int .i64 (fd c 10 7 * 64)) ∧ Below w.heap.size w w' from fun w => by
    have := f_any c 10 7 6 10 7 6 64 hc rfl rfl rfl rfl (by decide) (by decide) (by decide) w
    exact this)
  have T12_11_4 := Lib.hid (show ∀ w, Calls Tryz.prog 37 #[.int .u16 c, .int .i64 12, .int .i64 11, .int .i64 4] w fun e w' => e = .returned (.int .i64 (fd c 12 11 * 16)) ∧ Below w.heap.size w w' from fun w => by
    have := f_any c 12 11 4 12 11 4 16 hc rfl rfl rfl rfl (by decide) (by decide) (by decide) w
    exact this)
  have T5_5_3 := Lib.hid (show ∀ w, Calls Tryz.prog 37 #[.int .u16 c, .int .i64 5, .int .i64 5, .int .i64 3] w fun e w' => e = .returned (.int .i64 (fd c 5 5 * 8)) ∧ Below w.heap.size w w' from fun w => by
    have := f_any c 5 5 3 5 5 3 8 hc rfl rfl rfl rfl (by decide) (by decide) (by decide) w
    exact this)
  have T12_12_9 := Lib.hid (show ∀ w, Calls Tryz.prog 37 #[.int .u16 c, .int .i64 12, .int .i64 12, .int .i64 9] w fun e w' => e = .returned (.int .i64 (fd c 12 12 * 512)) ∧ Below w.heap.size w w' from fun w => by
    have := f_any c 12 12 9 12 12 9 512 hc rfl rfl rfl rfl (by decide) (by decide) (by decide) w
    exact this)
  have T4_3_7 := Lib.hid (show ∀ w, Calls Tryz.prog 37 #[.int .u16 c, .int .i64 4, .int .i64 3, .int .i64 7] w fun e w' => e = .returned (.int .i64 (fd c 4 3 * 128)) ∧ Below w.heap.size w w' from fun w => by
    have := f_any c 4 3 7 4 3 7 128 hc rfl rfl rfl rfl (by decide) (by decide) (by decide) w
    exact this)
  have T6_6_4 := Lib.hid (show ∀ w, Calls Tryz.prog 37 #[.int .u16 c, .int .i64 6, .int .i64 6, .int .i64 4] w fun e w' => e = .returned (.int .i64 (fd c 6 6 * 16)) ∧ Below w.heap.size w w' from fun w => by
    have := f_any c 6 6 4 6 6 4 16 hc rfl rfl rfl rfl (by decide) (by decide) (by decide) w
    exact this)
  have T12_12_11 := Lib.hid (show ∀ w, Calls Tryz.prog 37 #[.int .u16 c, .int .i64 12, .int .i64 12, .int .i64 11] w fun e w' => e = .returned (.int .i64 (fd c 12 12 * 2048)) ∧ Below w.heap.size w w' from fun w => by
    have := f_any c 12 12 11 12 12 11 2048 hc rfl rfl rfl rfl (by decide) (by decide) (by decide) w
    exact this)
  have T8_8_10 := Lib.hid (show ∀ w, Calls Tryz.prog 37 #[.int .u16 c, .int .i64 8, .int .i64 8, .int .i64 10] w fun e w' => e = .returned (.int .i64 (fd c 8 8 * 1024)) ∧ Below w.heap.size w w' from fun w => by
    have := f_any c 8 8 10 8 8 10 1024 hc rfl rfl rfl rfl (by decide) (by decide) (by decide) w
    exact this)
  have T10_9_8 := Lib.hid (show ∀ w, Calls Tryz.prog 37 #[.int .u16 c, .int .i64 10, .int .i64 9, .int .i64 8] w fun e w' => e = .returned (.int .i64 (fd c 10 9 * 256)) ∧ Below w.heap.size w w' from fun w => by
    have := f_any c 10 9 8 10 9 8 256 hc rfl rfl rfl rfl (by decide) (by decide) (by decide) w
    exact this)
  have T6_6_7 := Lib.hid (show ∀ w, Calls Tryz.prog 37 #[.int .u16 c, .int .i64 6, .int .i64 6, .int .i64 7] w fun e w' => e = .returned (.int .i64 (fd c 6 6 * 128)) ∧ Below w.heap.size w w' from fun w => by
    have := f_any c 6 6 7 6 6 7 128 hc rfl rfl rfl rfl (by decide) (by decide) (by decide) w
    exact this)
  have T7_7_6 := Lib.hid (show ∀ w, Calls Tryz.prog 37 #[.int .u16 c, .int .i64 7, .int .i64 7, .int .i64 6] w fun e w' => e = .returned (.int .i64 (fd c 7 7 * 64)) ∧ Below w.heap.size w w' from fun w => by
    have := f_any c 7 7 6 7 7 6 64 hc rfl rfl rfl rfl (by decide) (by decide) (by decide) w
    exact this)
  have T11_11_4 := Lib.hid (show ∀ w, Calls Tryz.prog 37 #[.int .u16 c, .int .i64 11, .int .i64 11, .int .i64 4] w fun e w' => e = .returned (.int .i64 (fd c 11 11 * 16)) ∧ Below w.heap.size w w' from fun w => by
    have := f_any c 11 11 4 11 11 4 16 hc rfl rfl rfl rfl (by decide) (by decide) (by decide) w
    exact this)
  have T5_3_1 := Lib.hid (show ∀ w, Calls Tryz.prog 37 #[.int .u16 c, .int .i64 5, .int .i64 3, .int .i64 1] w fun e w' => e = .returned (.int .i64 (fd c 5 3 * 2)) ∧ Below w.heap.size w w' from fun w => by
    have := f_any c 5 3 1 5 3 1 2 hc rfl rfl rfl rfl (by decide) (by decide) (by decide) w
    exact this)
  have T3_2_6 := Lib.hid (show ∀ w, Calls Tryz.prog 37 #[.int .u16 c, .int .i64 3, .int .i64 2, .int .i64 6] w fun e w' => e = .returned (.int .i64 (fd c 3 2 * 64)) ∧ Below w.heap.size w w' from fun w => by
    have := f_any c 3 2 6 3 2 6 64 hc rfl rfl rfl rfl (by decide) (by decide) (by decide) w
    exact this)
  have T6_4_2 := Lib.hid (show ∀ w, Calls Tryz.prog 37 #[.int .u16 c, .int .i64 6, .int .i64 4, .int .i64 2] w fun e w' => e = .returned (.int .i64 (fd c 6 4 * 4)) ∧ Below w.heap.size w w' from fun w => by
    have := f_any c 6 4 2 6 4 2 4 hc rfl rfl rfl rfl (by decide) (by decide) (by decide) w
    exact this)
  have T4_2_6 := Lib.hid (show ∀ w, Calls Tryz.prog 37 #[.int .u16 c, .int .i64 4, .int .i64 2, .int .i64 6] w fun e w' => e = .returned (.int .i64 (fd c 4 2 * 64)) ∧ Below w.heap.size w w' from fun w => by
    have := f_any c 4 2 6 4 2 6 64 hc rfl rfl rfl rfl (by decide) (by decide) (by decide) w
    exact this)
  have T6_5_3 := Lib.hid (show ∀ w, Calls Tryz.prog 37 #[.int .u16 c, .int .i64 6, .int .i64 5, .int .i64 3] w fun e w' => e = .returned (.int .i64 (fd c 6 5 * 8)) ∧ Below w.heap.size w w' from fun w => by
    have := f_any c 6 5 3 6 5 3 8 hc rfl rfl rfl rfl (by decide) (by decide) (by decide) w
    exact this)
  have T8_7_6 := Lib.hid (show ∀ w, Calls Tryz.prog 37 #[.int .u16 c, .int .i64 8, .int .i64 7, .int .i64 6] w fun e w' => e = .returned (.int .i64 (fd c 8 7 * 64)) ∧ Below w.heap.size w w' from fun w => by
    have := f_any c 8 7 6 8 7 6 64 hc rfl rfl rfl rfl (by decide) (by decide) (by decide) w
    exact this)
  have T12_9_2 := Lib.hid (show ∀ w, Calls Tryz.prog 37 #[.int .u16 c, .int .i64 12, .int .i64 9, .int .i64 2] w fun e w' => e = .returned (.int .i64 (fd c 12 9 * 4)) ∧ Below w.heap.size w w' from fun w => by
    have := f_any c 12 9 2 12 9 2 4 hc rfl rfl rfl rfl (by decide) (by decide) (by decide) w
    exact this)
  have T9_7_6 := Lib.hid (show ∀ w, Calls Tryz.prog 37 #[.int .u16 c, .int .i64 9, .int .i64 7, .int .i64 6] w fun e w' => e = .returned (.int .i64 (fd c 9 7 * 64)) ∧ Below w.heap.size w w' from fun w => by
    have := f_any c 9 7 6 9 7 6 64 hc rfl rfl rfl rfl (by decide) (by decide) (by decide) w
    exact this)
  have TA := Lib.hid (arith_any c (cHigh c) (cLow c) (cN c) (sx 6 (cN c)) hc)
  have TJ := Lib.hid (jumps_any c (fd c 11 7) (fd c 6 2) hc)
  have b11_7 := fd_lit (a := c) (h := 11) (l := 7) (n := 32) rfl
  have b6_2 := fd_lit (a := c) (h := 6) (l := 2) (n := 32) rfl
  have b9_7 := fd_lit (a := c) (h := 9) (l := 7) (n := 8) rfl
  have b4_2 := fd_lit (a := c) (h := 4) (l := 2) (n := 8) rfl
  have b12_12 := fd_lit (a := c) (h := 12) (l := 12) (n := 2) rfl
  have b5_5 := fd_lit (a := c) (h := 5) (l := 5) (n := 2) rfl
  have b12_10 := fd_lit (a := c) (h := 12) (l := 10) (n := 8) rfl
  have b6_6 := fd_lit (a := c) (h := 6) (l := 6) (n := 2) rfl
  have b6_5 := fd_lit (a := c) (h := 6) (l := 5) (n := 4) rfl
  have b2_2 := fd_lit (a := c) (h := 2) (l := 2) (n := 2) rfl
  have b11_10 := fd_lit (a := c) (h := 11) (l := 10) (n := 4) rfl
  have b4_3 := fd_lit (a := c) (h := 4) (l := 3) (n := 4) rfl
  have b1_0 := fd_lit (a := c) (h := 1) (l := 0) (n := 4) rfl
  have b15_13 := fd_lit (a := c) (h := 15) (l := 13) (n := 8) rfl
  have b10_7 := fd_lit (a := c) (h := 10) (l := 7) (n := 16) rfl
  have b12_11 := fd_lit (a := c) (h := 12) (l := 11) (n := 4) rfl
  have b8_8 := fd_lit (a := c) (h := 8) (l := 8) (n := 2) rfl
  have b10_9 := fd_lit (a := c) (h := 10) (l := 9) (n := 4) rfl
  have b7_7 := fd_lit (a := c) (h := 7) (l := 7) (n := 2) rfl
  have b11_11 := fd_lit (a := c) (h := 11) (l := 11) (n := 2) rfl
  have b5_3 := fd_lit (a := c) (h := 5) (l := 3) (n := 8) rfl
  have b3_2 := fd_lit (a := c) (h := 3) (l := 2) (n := 4) rfl
  have b6_4 := fd_lit (a := c) (h := 6) (l := 4) (n := 8) rfl
  have b8_7 := fd_lit (a := c) (h := 8) (l := 7) (n := 4) rfl
  have b12_9 := fd_lit (a := c) (h := 12) (l := 9) (n := 16) rfl
  have bn := cN_bd c
  have B9 : 0 ≤ cBr c ∧ cBr c < (2 ^ 9 : Nat) := by unfold cBr; simp only [Nat.reducePow]; omega
  have B10 : 0 ≤ cSp c ∧ cSp c < (2 ^ 10 : Nat) := by unfold cSp; simp only [Nat.reducePow]; omega
  have B12 : 0 ≤ cJ c ∧ cJ c < (2 ^ 12 : Nat) := by unfold cJ; simp only [Nat.reducePow]; omega
  have S6 := Lib.hid (fun w => calls_same (rsigned_any (cN c) 6 6 rfl (by decide) (by decide) bn w))
  have S9 := Lib.hid (fun w => calls_same (rsigned_any (cBr c) 9 9 rfl (by decide) (by decide) B9 w))
  have S10 := Lib.hid (fun w => calls_same (rsigned_any (cSp c) 10 10 rfl (by decide) (by decide) B10 w))
  have S12 := Lib.hid (fun w => calls_same (rsigned_any (cJ c) 12 12 rfl (by decide) (by decide) B12 w))
  have hsb : -32 ≤ sx 6 (cN c) ∧ sx 6 (cN c) < 32 := by
    unfold sx
    simp only [Nat.reduceSub, Nat.reducePow] at bn ⊢
    split <;> omega
  rw [expT_eq c]
  unfold expT
  generalize ar (fd c 11 10) (cHigh c) (cLow c) (cN c) (sx 6 (cN c)) (fd c 12 12 * 4 + fd c 6 5) = d1 at *
  generalize mv (fd c 12 12) (fd c 11 7) (fd c 6 2) = d2 at *
  generalize sx 9 (cBr c) = br at *
  generalize sx 10 (cSp c) = sp at *
  generalize sx 12 (cJ c) = jj at *
  generalize sx 6 (cN c) = s at *
  unfold cBr at S9
  unfold cSp at S10
  unfold cJ at S12
  clear B9 B10 B12 bn
  have h_n : fd c 12 12 * 32 + fd c 6 2 = cN c := rfl
  have h_low : 8 + fd c 4 2 = cLow c := rfl
  have h_high : 8 + fd c 9 7 = cHigh c := rfl
  have h_w4 : fd c 5 5 * 64 + fd c 12 10 * 8 + fd c 6 6 * 4 = cW4 c := rfl
  have h_w8 : fd c 6 5 * 64 + fd c 12 10 * 8 = cW8 c := rfl
  have h_a4 : fd c 10 7 * 64 + fd c 12 11 * 16 + fd c 5 5 * 8 + fd c 6 6 * 4 = cA4 c := rfl
  have h_l4 : fd c 3 2 * 64 + fd c 12 12 * 32 + fd c 6 4 * 4 = cL4 c := rfl
  have h_l8 : fd c 4 2 * 64 + fd c 12 12 * 32 + fd c 6 5 * 8 = cL8 c := rfl
  have h_s4 : fd c 8 7 * 64 + fd c 12 9 * 4 = cS4 c := rfl
  have h_s8 : fd c 9 7 * 64 + fd c 12 10 * 8 = cS8 c := rfl
  generalize cN c = n at *
  generalize cLow c = low at *
  generalize cHigh c = high at *
  generalize cW4 c = w4 at *
  generalize cW8 c = w8 at *
  generalize cA4 c = a4 at *
  generalize cL4 c = l4 at *
  generalize cL8 c = l8 at *
  generalize cS4 c = s4 at *
  generalize cS8 c = s8 at *
  generalize fd c 11 7 = rd at *
  generalize fd c 6 2 = r2 at *
  generalize fd c 9 7 = x9_7 at *
  generalize fd c 4 2 = x4_2 at *
  generalize fd c 12 12 = x12_12 at *
  generalize fd c 5 5 = x5_5 at *
  generalize fd c 12 10 = x12_10 at *
  generalize fd c 6 6 = x6_6 at *
  generalize fd c 6 5 = x6_5 at *
  generalize fd c 2 2 = x2_2 at *
  generalize fd c 11 10 = x11_10 at *
  generalize fd c 4 3 = x4_3 at *
  generalize fd c 1 0 = x1_0 at *
  generalize fd c 15 13 = x15_13 at *
  generalize fd c 10 7 = x10_7 at *
  generalize fd c 12 11 = x12_11 at *
  generalize fd c 8 8 = x8_8 at *
  generalize fd c 10 9 = x10_9 at *
  generalize fd c 7 7 = x7_7 at *
  generalize fd c 11 11 = x11_11 at *
  generalize fd c 5 3 = x5_3 at *
  generalize fd c 3 2 = x3_2 at *
  generalize fd c 6 4 = x6_4 at *
  generalize fd c 8 7 = x8_7 at *
  generalize fd c 12 9 = x12_9 at *
  obtain ⟨t, ht⟩ : ∃ t, 8 * x1_0 + x15_13 = t := ⟨_, rfl⟩
  rw [ht]
  obtain ⟨E_, hEq⟩ : ∃ E_, (if t = 0 then (if a4 = 0 then none else some ⟨9, 1, low, 2, 0, a4, 0, false⟩) else if t = 2 then some ⟨6, 0, low, high, 0, w4, 4, true⟩ else if t = 3 then some ⟨6, 0, low, high, 0, w8, 8, true⟩ else if t = 6 then some ⟨7, 0, 0, high, low, w4, 4, false⟩ else if t = 7 then some ⟨7, 0, 0, high, low, w8, 8, false⟩ else if t = 8 then some ⟨9, 1, rd, rd, 0, s, 0, false⟩ else if t = 9 then (if rd = 0 then none else some ⟨9, 19, rd, rd, 0, s, 0, false⟩) else if t = 10 then some ⟨9, 1, rd, 0, 0, s, 0, false⟩ else if t = 11 then (if rd = 2 then (if sp = 0 then none else some ⟨9, 1, 2, 2, 0, sp, 0, false⟩) else (if s = 0 then none else some ⟨1, 0, rd, 0, 0, s * 4096, 0, false⟩)) else if t = 12 then d1 else if t = 13 then some ⟨3, 0, 0, 0, 0, jj, 0, false⟩ else if t = 14 then some ⟨5, 1, 0, high, 0, br, 0, false⟩ else if t = 15 then some ⟨5, 2, 0, high, 0, br, 0, false⟩ else if t = 16 then some ⟨9, 3, rd, rd, 0, n, 0, false⟩ else if t = 18 then (if rd = 0 then none else some ⟨6, 0, rd, 2, 0, l4, 4, true⟩) else if t = 19 then (if rd = 0 then none else some ⟨6, 0, rd, 2, 0, l8, 8, true⟩) else if t = 20 then d2 else if t = 22 then some ⟨7, 0, 0, 2, r2, s4, 4, false⟩ else if t = 23 then some ⟨7, 0, 0, 2, r2, s8, 8, false⟩ else none : Option Ins) = E_ := ⟨_, rfl⟩
  rw [hEq]
  have hd : (t = 0 ∧ a4 = 0 ∧ E_ = none) ∨ (t = 0 ∧ ¬ (a4 = 0) ∧ E_ = some ⟨9, 1, low, 2, 0, a4, 0, false⟩) ∨ (¬ (t = 0) ∧ t = 2 ∧ E_ = some ⟨6, 0, low, high, 0, w4, 4, true⟩) ∨ (¬ (t = 0) ∧ ¬ (t = 2) ∧ t = 3 ∧ E_ = some ⟨6, 0, low, high, 0, w8, 8, true⟩) ∨ (¬ (t = 0) ∧ ¬ (t = 2) ∧ ¬ (t = 3) ∧ t = 6 ∧ E_ = some ⟨7, 0, 0, high, low, w4, 4, false⟩) ∨ (¬ (t = 0) ∧ ¬ (t = 2) ∧ ¬ (t = 3) ∧ ¬ (t = 6) ∧ t = 7 ∧ E_ = some ⟨7, 0, 0, high, low, w8, 8, false⟩) ∨ (¬ (t = 0) ∧ ¬ (t = 2) ∧ ¬ (t = 3) ∧ ¬ (t = 6) ∧ ¬ (t = 7) ∧ t = 8 ∧ E_ = some ⟨9, 1, rd, rd, 0, s, 0, false⟩) ∨ (¬ (t = 0) ∧ ¬ (t = 2) ∧ ¬ (t = 3) ∧ ¬ (t = 6) ∧ ¬ (t = 7) ∧ ¬ (t = 8) ∧ t = 9 ∧ rd = 0 ∧ E_ = none) ∨ (¬ (t = 0) ∧ ¬ (t = 2) ∧ ¬ (t = 3) ∧ ¬ (t = 6) ∧ ¬ (t = 7) ∧ ¬ (t = 8) ∧ t = 9 ∧ ¬ (rd = 0) ∧ E_ = some ⟨9, 19, rd, rd, 0, s, 0, false⟩) ∨ (¬ (t = 0) ∧ ¬ (t = 2) ∧ ¬ (t = 3) ∧ ¬ (t = 6) ∧ ¬ (t = 7) ∧ ¬ (t = 8) ∧ ¬ (t = 9) ∧ t = 10 ∧ E_ = some ⟨9, 1, rd, 0, 0, s, 0, false⟩) ∨ (¬ (t = 0) ∧ ¬ (t = 2) ∧ ¬ (t = 3) ∧ ¬ (t = 6) ∧ ¬ (t = 7) ∧ ¬ (t = 8) ∧ ¬ (t = 9) ∧ ¬ (t = 10) ∧ t = 11 ∧ rd = 2 ∧ sp = 0 ∧ E_ = none) ∨ (¬ (t = 0) ∧ ¬ (t = 2) ∧ ¬ (t = 3) ∧ ¬ (t = 6) ∧ ¬ (t = 7) ∧ ¬ (t = 8) ∧ ¬ (t = 9) ∧ ¬ (t = 10) ∧ t = 11 ∧ rd = 2 ∧ ¬ (sp = 0) ∧ E_ = some ⟨9, 1, 2, 2, 0, sp, 0, false⟩) ∨ (¬ (t = 0) ∧ ¬ (t = 2) ∧ ¬ (t = 3) ∧ ¬ (t = 6) ∧ ¬ (t = 7) ∧ ¬ (t = 8) ∧ ¬ (t = 9) ∧ ¬ (t = 10) ∧ t = 11 ∧ ¬ (rd = 2) ∧ s = 0 ∧ E_ = none) ∨ (¬ (t = 0) ∧ ¬ (t = 2) ∧ ¬ (t = 3) ∧ ¬ (t = 6) ∧ ¬ (t = 7) ∧ ¬ (t = 8) ∧ ¬ (t = 9) ∧ ¬ (t = 10) ∧ t = 11 ∧ ¬ (rd = 2) ∧ ¬ (s = 0) ∧ E_ = some ⟨1, 0, rd, 0, 0, s * 4096, 0, false⟩) ∨ (¬ (t = 0) ∧ ¬ (t = 2) ∧ ¬ (t = 3) ∧ ¬ (t = 6) ∧ ¬ (t = 7) ∧ ¬ (t = 8) ∧ ¬ (t = 9) ∧ ¬ (t = 10) ∧ ¬ (t = 11) ∧ t = 12 ∧ E_ = d1) ∨ (¬ (t = 0) ∧ ¬ (t = 2) ∧ ¬ (t = 3) ∧ ¬ (t = 6) ∧ ¬ (t = 7) ∧ ¬ (t = 8) ∧ ¬ (t = 9) ∧ ¬ (t = 10) ∧ ¬ (t = 11) ∧ ¬ (t = 12) ∧ t = 13 ∧ E_ = some ⟨3, 0, 0, 0, 0, jj, 0, false⟩) ∨ (¬ (t = 0) ∧ ¬ (t = 2) ∧ ¬ (t = 3) ∧ ¬ (t = 6) ∧ ¬ (t = 7) ∧ ¬ (t = 8) ∧ ¬ (t = 9) ∧ ¬ (t = 10) ∧ ¬ (t = 11) ∧ ¬ (t = 12) ∧ ¬ (t = 13) ∧ t = 14 ∧ E_ = some ⟨5, 1, 0, high, 0, br, 0, false⟩) ∨ (¬ (t = 0) ∧ ¬ (t = 2) ∧ ¬ (t = 3) ∧ ¬ (t = 6) ∧ ¬ (t = 7) ∧ ¬ (t = 8) ∧ ¬ (t = 9) ∧ ¬ (t = 10) ∧ ¬ (t = 11) ∧ ¬ (t = 12) ∧ ¬ (t = 13) ∧ ¬ (t = 14) ∧ t = 15 ∧ E_ = some ⟨5, 2, 0, high, 0, br, 0, false⟩) ∨ (¬ (t = 0) ∧ ¬ (t = 2) ∧ ¬ (t = 3) ∧ ¬ (t = 6) ∧ ¬ (t = 7) ∧ ¬ (t = 8) ∧ ¬ (t = 9) ∧ ¬ (t = 10) ∧ ¬ (t = 11) ∧ ¬ (t = 12) ∧ ¬ (t = 13) ∧ ¬ (t = 14) ∧ ¬ (t = 15) ∧ t = 16 ∧ E_ = some ⟨9, 3, rd, rd, 0, n, 0, false⟩) ∨ (¬ (t = 0) ∧ ¬ (t = 2) ∧ ¬ (t = 3) ∧ ¬ (t = 6) ∧ ¬ (t = 7) ∧ ¬ (t = 8) ∧ ¬ (t = 9) ∧ ¬ (t = 10) ∧ ¬ (t = 11) ∧ ¬ (t = 12) ∧ ¬ (t = 13) ∧ ¬ (t = 14) ∧ ¬ (t = 15) ∧ ¬ (t = 16) ∧ t = 18 ∧ rd = 0 ∧ E_ = none) ∨ (¬ (t = 0) ∧ ¬ (t = 2) ∧ ¬ (t = 3) ∧ ¬ (t = 6) ∧ ¬ (t = 7) ∧ ¬ (t = 8) ∧ ¬ (t = 9) ∧ ¬ (t = 10) ∧ ¬ (t = 11) ∧ ¬ (t = 12) ∧ ¬ (t = 13) ∧ ¬ (t = 14) ∧ ¬ (t = 15) ∧ ¬ (t = 16) ∧ t = 18 ∧ ¬ (rd = 0) ∧ E_ = some ⟨6, 0, rd, 2, 0, l4, 4, true⟩) ∨ (¬ (t = 0) ∧ ¬ (t = 2) ∧ ¬ (t = 3) ∧ ¬ (t = 6) ∧ ¬ (t = 7) ∧ ¬ (t = 8) ∧ ¬ (t = 9) ∧ ¬ (t = 10) ∧ ¬ (t = 11) ∧ ¬ (t = 12) ∧ ¬ (t = 13) ∧ ¬ (t = 14) ∧ ¬ (t = 15) ∧ ¬ (t = 16) ∧ ¬ (t = 18) ∧ t = 19 ∧ rd = 0 ∧ E_ = none) ∨ (¬ (t = 0) ∧ ¬ (t = 2) ∧ ¬ (t = 3) ∧ ¬ (t = 6) ∧ ¬ (t = 7) ∧ ¬ (t = 8) ∧ ¬ (t = 9) ∧ ¬ (t = 10) ∧ ¬ (t = 11) ∧ ¬ (t = 12) ∧ ¬ (t = 13) ∧ ¬ (t = 14) ∧ ¬ (t = 15) ∧ ¬ (t = 16) ∧ ¬ (t = 18) ∧ t = 19 ∧ ¬ (rd = 0) ∧ E_ = some ⟨6, 0, rd, 2, 0, l8, 8, true⟩) ∨ (¬ (t = 0) ∧ ¬ (t = 2) ∧ ¬ (t = 3) ∧ ¬ (t = 6) ∧ ¬ (t = 7) ∧ ¬ (t = 8) ∧ ¬ (t = 9) ∧ ¬ (t = 10) ∧ ¬ (t = 11) ∧ ¬ (t = 12) ∧ ¬ (t = 13) ∧ ¬ (t = 14) ∧ ¬ (t = 15) ∧ ¬ (t = 16) ∧ ¬ (t = 18) ∧ ¬ (t = 19) ∧ t = 20 ∧ E_ = d2) ∨ (¬ (t = 0) ∧ ¬ (t = 2) ∧ ¬ (t = 3) ∧ ¬ (t = 6) ∧ ¬ (t = 7) ∧ ¬ (t = 8) ∧ ¬ (t = 9) ∧ ¬ (t = 10) ∧ ¬ (t = 11) ∧ ¬ (t = 12) ∧ ¬ (t = 13) ∧ ¬ (t = 14) ∧ ¬ (t = 15) ∧ ¬ (t = 16) ∧ ¬ (t = 18) ∧ ¬ (t = 19) ∧ ¬ (t = 20) ∧ t = 22 ∧ E_ = some ⟨7, 0, 0, 2, r2, s4, 4, false⟩) ∨ (¬ (t = 0) ∧ ¬ (t = 2) ∧ ¬ (t = 3) ∧ ¬ (t = 6) ∧ ¬ (t = 7) ∧ ¬ (t = 8) ∧ ¬ (t = 9) ∧ ¬ (t = 10) ∧ ¬ (t = 11) ∧ ¬ (t = 12) ∧ ¬ (t = 13) ∧ ¬ (t = 14) ∧ ¬ (t = 15) ∧ ¬ (t = 16) ∧ ¬ (t = 18) ∧ ¬ (t = 19) ∧ ¬ (t = 20) ∧ ¬ (t = 22) ∧ t = 23 ∧ E_ = some ⟨7, 0, 0, 2, r2, s8, 8, false⟩) ∨ (¬ (t = 0) ∧ ¬ (t = 2) ∧ ¬ (t = 3) ∧ ¬ (t = 6) ∧ ¬ (t = 7) ∧ ¬ (t = 8) ∧ ¬ (t = 9) ∧ ¬ (t = 10) ∧ ¬ (t = 11) ∧ ¬ (t = 12) ∧ ¬ (t = 13) ∧ ¬ (t = 14) ∧ ¬ (t = 15) ∧ ¬ (t = 16) ∧ ¬ (t = 18) ∧ ¬ (t = 19) ∧ ¬ (t = 20) ∧ ¬ (t = 22) ∧ ¬ (t = 23) ∧ E_ = none) := by
    by_cases c0 : t = 0
    · by_cases c1 : a4 = 0
      · exact Or.inl ⟨c0, c1, by rw [← hEq]; simp [c0, c1]⟩
      · exact Or.inr (Or.inl ⟨c0, c1, by rw [← hEq]; simp [c0, c1]⟩)
    · by_cases c1 : t = 2
      · exact Or.inr (Or.inr (Or.inl ⟨c0, c1, by rw [← hEq]; simp [c0, c1]⟩))
      · by_cases c2 : t = 3
        · exact Or.inr (Or.inr (Or.inr (Or.inl ⟨c0, c1, c2, by rw [← hEq]; simp [c0, c1, c2]⟩)))
        · by_cases c3 : t = 6
          · exact Or.inr (Or.inr (Or.inr (Or.inr (Or.inl ⟨c0, c1, c2, c3, by rw [← hEq]; simp [c0, c1, c2, c3]⟩))))
          · by_cases c4 : t = 7
            · exact Or.inr (Or.inr (Or.inr (Or.inr (Or.inr (Or.inl ⟨c0, c1, c2, c3, c4, by rw [← hEq]; simp [c0, c1, c2, c3, c4]⟩)))))
            · by_cases c5 : t = 8
              · exact Or.inr (Or.inr (Or.inr (Or.inr (Or.inr (Or.inr (Or.inl ⟨c0, c1, c2, c3, c4, c5, by rw [← hEq]; simp [c0, c1, c2, c3, c4, c5]⟩))))))
              · by_cases c6 : t = 9
                · by_cases c7 : rd = 0
                  · exact Or.inr (Or.inr (Or.inr (Or.inr (Or.inr (Or.inr (Or.inr (Or.inl ⟨c0, c1, c2, c3, c4, c5, c6, c7, by rw [← hEq]; simp [c0, c1, c2, c3, c4, c5, c6, c7]⟩)))))))
                  · exact Or.inr (Or.inr (Or.inr (Or.inr (Or.inr (Or.inr (Or.inr (Or.inr (Or.inl ⟨c0, c1, c2, c3, c4, c5, c6, c7, by rw [← hEq]; simp [c0, c1, c2, c3, c4, c5, c6, c7]⟩))))))))
                · by_cases c7 : t = 10
                  · exact Or.inr (Or.inr (Or.inr (Or.inr (Or.inr (Or.inr (Or.inr (Or.inr (Or.inr (Or.inl ⟨c0, c1, c2, c3, c4, c5, c6, c7, by rw [← hEq]; simp [c0, c1, c2, c3, c4, c5, c6, c7]⟩)))))))))
                  · by_cases c8 : t = 11
                    · by_cases c9 : rd = 2
                      · by_cases c10 : sp = 0
                        · exact Or.inr (Or.inr (Or.inr (Or.inr (Or.inr (Or.inr (Or.inr (Or.inr (Or.inr (Or.inr (Or.inl ⟨c0, c1, c2, c3, c4, c5, c6, c7, c8, c9, c10, by rw [← hEq]; simp [c0, c1, c2, c3, c4, c5, c6, c7, c8, c9, c10]⟩))))))))))
                        · exact Or.inr (Or.inr (Or.inr (Or.inr (Or.inr (Or.inr (Or.inr (Or.inr (Or.inr (Or.inr (Or.inr (Or.inl ⟨c0, c1, c2, c3, c4, c5, c6, c7, c8, c9, c10, by rw [← hEq]; simp [c0, c1, c2, c3, c4, c5, c6, c7, c8, c9, c10]⟩)))))))))))
                      · by_cases c10 : s = 0
                        · exact Or.inr (Or.inr (Or.inr (Or.inr (Or.inr (Or.inr (Or.inr (Or.inr (Or.inr (Or.inr (Or.inr (Or.inr (Or.inl ⟨c0, c1, c2, c3, c4, c5, c6, c7, c8, c9, c10, by rw [← hEq]; simp [c0, c1, c2, c3, c4, c5, c6, c7, c8, c9, c10]⟩))))))))))))
                        · exact Or.inr (Or.inr (Or.inr (Or.inr (Or.inr (Or.inr (Or.inr (Or.inr (Or.inr (Or.inr (Or.inr (Or.inr (Or.inr (Or.inl ⟨c0, c1, c2, c3, c4, c5, c6, c7, c8, c9, c10, by rw [← hEq]; simp [c0, c1, c2, c3, c4, c5, c6, c7, c8, c9, c10]⟩)))))))))))))
                    · by_cases c9 : t = 12
                      · exact Or.inr (Or.inr (Or.inr (Or.inr (Or.inr (Or.inr (Or.inr (Or.inr (Or.inr (Or.inr (Or.inr (Or.inr (Or.inr (Or.inr (Or.inl ⟨c0, c1, c2, c3, c4, c5, c6, c7, c8, c9, by rw [← hEq]; simp [c0, c1, c2, c3, c4, c5, c6, c7, c8, c9]⟩))))))))))))))
                      · by_cases c10 : t = 13
                        · exact Or.inr (Or.inr (Or.inr (Or.inr (Or.inr (Or.inr (Or.inr (Or.inr (Or.inr (Or.inr (Or.inr (Or.inr (Or.inr (Or.inr (Or.inr (Or.inl ⟨c0, c1, c2, c3, c4, c5, c6, c7, c8, c9, c10, by rw [← hEq]; simp [c0, c1, c2, c3, c4, c5, c6, c7, c8, c9, c10]⟩)))))))))))))))
                        · by_cases c11 : t = 14
                          · exact Or.inr (Or.inr (Or.inr (Or.inr (Or.inr (Or.inr (Or.inr (Or.inr (Or.inr (Or.inr (Or.inr (Or.inr (Or.inr (Or.inr (Or.inr (Or.inr (Or.inl ⟨c0, c1, c2, c3, c4, c5, c6, c7, c8, c9, c10, c11, by rw [← hEq]; simp [c0, c1, c2, c3, c4, c5, c6, c7, c8, c9, c10, c11]⟩))))))))))))))))
                          · by_cases c12 : t = 15
                            · exact Or.inr (Or.inr (Or.inr (Or.inr (Or.inr (Or.inr (Or.inr (Or.inr (Or.inr (Or.inr (Or.inr (Or.inr (Or.inr (Or.inr (Or.inr (Or.inr (Or.inr (Or.inl ⟨c0, c1, c2, c3, c4, c5, c6, c7, c8, c9, c10, c11, c12, by rw [← hEq]; simp [c0, c1, c2, c3, c4, c5, c6, c7, c8, c9, c10, c11, c12]⟩)))))))))))))))))
                            · by_cases c13 : t = 16
                              · exact Or.inr (Or.inr (Or.inr (Or.inr (Or.inr (Or.inr (Or.inr (Or.inr (Or.inr (Or.inr (Or.inr (Or.inr (Or.inr (Or.inr (Or.inr (Or.inr (Or.inr (Or.inr (Or.inl ⟨c0, c1, c2, c3, c4, c5, c6, c7, c8, c9, c10, c11, c12, c13, by rw [← hEq]; simp [c0, c1, c2, c3, c4, c5, c6, c7, c8, c9, c10, c11, c12, c13]⟩))))))))))))))))))
                              · by_cases c14 : t = 18
                                · by_cases c15 : rd = 0
                                  · exact Or.inr (Or.inr (Or.inr (Or.inr (Or.inr (Or.inr (Or.inr (Or.inr (Or.inr (Or.inr (Or.inr (Or.inr (Or.inr (Or.inr (Or.inr (Or.inr (Or.inr (Or.inr (Or.inr (Or.inl ⟨c0, c1, c2, c3, c4, c5, c6, c7, c8, c9, c10, c11, c12, c13, c14, c15, by rw [← hEq]; simp [c0, c1, c2, c3, c4, c5, c6, c7, c8, c9, c10, c11, c12, c13, c14, c15]⟩)))))))))))))))))))
                                  · exact Or.inr (Or.inr (Or.inr (Or.inr (Or.inr (Or.inr (Or.inr (Or.inr (Or.inr (Or.inr (Or.inr (Or.inr (Or.inr (Or.inr (Or.inr (Or.inr (Or.inr (Or.inr (Or.inr (Or.inr (Or.inl ⟨c0, c1, c2, c3, c4, c5, c6, c7, c8, c9, c10, c11, c12, c13, c14, c15, by rw [← hEq]; simp [c0, c1, c2, c3, c4, c5, c6, c7, c8, c9, c10, c11, c12, c13, c14, c15]⟩))))))))))))))))))))
                                · by_cases c15 : t = 19
                                  · by_cases c16 : rd = 0
                                    · exact Or.inr (Or.inr (Or.inr (Or.inr (Or.inr (Or.inr (Or.inr (Or.inr (Or.inr (Or.inr (Or.inr (Or.inr (Or.inr (Or.inr (Or.inr (Or.inr (Or.inr (Or.inr (Or.inr (Or.inr (Or.inr (Or.inl ⟨c0, c1, c2, c3, c4, c5, c6, c7, c8, c9, c10, c11, c12, c13, c14, c15, c16, by rw [← hEq]; simp [c0, c1, c2, c3, c4, c5, c6, c7, c8, c9, c10, c11, c12, c13, c14, c15, c16]⟩)))))))))))))))))))))
                                    · exact Or.inr (Or.inr (Or.inr (Or.inr (Or.inr (Or.inr (Or.inr (Or.inr (Or.inr (Or.inr (Or.inr (Or.inr (Or.inr (Or.inr (Or.inr (Or.inr (Or.inr (Or.inr (Or.inr (Or.inr (Or.inr (Or.inr (Or.inl ⟨c0, c1, c2, c3, c4, c5, c6, c7, c8, c9, c10, c11, c12, c13, c14, c15, c16, by rw [← hEq]; simp [c0, c1, c2, c3, c4, c5, c6, c7, c8, c9, c10, c11, c12, c13, c14, c15, c16]⟩))))))))))))))))))))))
                                  · by_cases c16 : t = 20
                                    · exact Or.inr (Or.inr (Or.inr (Or.inr (Or.inr (Or.inr (Or.inr (Or.inr (Or.inr (Or.inr (Or.inr (Or.inr (Or.inr (Or.inr (Or.inr (Or.inr (Or.inr (Or.inr (Or.inr (Or.inr (Or.inr (Or.inr (Or.inr (Or.inl ⟨c0, c1, c2, c3, c4, c5, c6, c7, c8, c9, c10, c11, c12, c13, c14, c15, c16, by rw [← hEq]; simp [c0, c1, c2, c3, c4, c5, c6, c7, c8, c9, c10, c11, c12, c13, c14, c15, c16]⟩)))))))))))))))))))))))
                                    · by_cases c17 : t = 22
                                      · exact Or.inr (Or.inr (Or.inr (Or.inr (Or.inr (Or.inr (Or.inr (Or.inr (Or.inr (Or.inr (Or.inr (Or.inr (Or.inr (Or.inr (Or.inr (Or.inr (Or.inr (Or.inr (Or.inr (Or.inr (Or.inr (Or.inr (Or.inr (Or.inr (Or.inl ⟨c0, c1, c2, c3, c4, c5, c6, c7, c8, c9, c10, c11, c12, c13, c14, c15, c16, c17, by rw [← hEq]; simp [c0, c1, c2, c3, c4, c5, c6, c7, c8, c9, c10, c11, c12, c13, c14, c15, c16, c17]⟩))))))))))))))))))))))))
                                      · by_cases c18 : t = 23
                                        · exact Or.inr (Or.inr (Or.inr (Or.inr (Or.inr (Or.inr (Or.inr (Or.inr (Or.inr (Or.inr (Or.inr (Or.inr (Or.inr (Or.inr (Or.inr (Or.inr (Or.inr (Or.inr (Or.inr (Or.inr (Or.inr (Or.inr (Or.inr (Or.inr (Or.inr (Or.inl ⟨c0, c1, c2, c3, c4, c5, c6, c7, c8, c9, c10, c11, c12, c13, c14, c15, c16, c17, c18, by rw [← hEq]; simp [c0, c1, c2, c3, c4, c5, c6, c7, c8, c9, c10, c11, c12, c13, c14, c15, c16, c17, c18]⟩)))))))))))))))))))))))))
                                        · exact Or.inr (Or.inr (Or.inr (Or.inr (Or.inr (Or.inr (Or.inr (Or.inr (Or.inr (Or.inr (Or.inr (Or.inr (Or.inr (Or.inr (Or.inr (Or.inr (Or.inr (Or.inr (Or.inr (Or.inr (Or.inr (Or.inr (Or.inr (Or.inr (Or.inr (Or.inr (⟨c0, c1, c2, c3, c4, c5, c6, c7, c8, c9, c10, c11, c12, c13, c14, c15, c16, c17, c18, by rw [← hEq]; simp [c0, c1, c2, c3, c4, c5, c6, c7, c8, c9, c10, c11, c12, c13, c14, c15, c16, c17, c18]⟩))))))))))))))))))))))))))
  clear hEq
  have dd : ∀ d : Option Ins, ∃ v b, xV d = .tuple #[.int .u32 v, .bool b] := fun d => by cases d with
    | none => exact ⟨_, _, rfl⟩
    | some i => exact ⟨_, _, rfl⟩
  obtain ⟨v1, ok1, hv1⟩ := dd d1
  obtain ⟨v2, ok2, hv2⟩ := dd d2
  clear dd
  rw [hv1] at TA
  rw [hv2] at TJ
  have HV1 := Lib.hid hv1
  have HV2 := Lib.hid hv2
  clear hv1 hv2
  have HB := Lib.hid (Below.refl _ _ : Below w.heap.size w w)
  go_enter Tryz.func19, Tryz.ntmps19
  go_upto_region 11 with (first
 | (go_at_call 37; (with_reducible refine (T11_7_0.out _).mono ?_); rintro e w' ⟨rfl, hb⟩; replace HB := Lib.hid (below_below HB.out hb); clear hb)
 | (go_at_call 37; (with_reducible refine (T6_2_0.out _).mono ?_); rintro e w' ⟨rfl, hb⟩; replace HB := Lib.hid (below_below HB.out hb); clear hb)
 | (go_at_call 37; (with_reducible refine (T9_7_0.out _).mono ?_); rintro e w' ⟨rfl, hb⟩; replace HB := Lib.hid (below_below HB.out hb); clear hb)
 | (go_at_call 37; (with_reducible refine (T4_2_0.out _).mono ?_); rintro e w' ⟨rfl, hb⟩; replace HB := Lib.hid (below_below HB.out hb); clear hb)
 | (go_at_call 37; (with_reducible refine (T12_12_5.out _).mono ?_); rintro e w' ⟨rfl, hb⟩; replace HB := Lib.hid (below_below HB.out hb); clear hb)
 | (go_at_call 37; (with_reducible refine (T5_5_6.out _).mono ?_); rintro e w' ⟨rfl, hb⟩; replace HB := Lib.hid (below_below HB.out hb); clear hb)
 | (go_at_call 37; (with_reducible refine (T12_10_3.out _).mono ?_); rintro e w' ⟨rfl, hb⟩; replace HB := Lib.hid (below_below HB.out hb); clear hb)
 | (go_at_call 37; (with_reducible refine (T6_6_2.out _).mono ?_); rintro e w' ⟨rfl, hb⟩; replace HB := Lib.hid (below_below HB.out hb); clear hb)
 | (go_at_call 37; (with_reducible refine (T6_5_6.out _).mono ?_); rintro e w' ⟨rfl, hb⟩; replace HB := Lib.hid (below_below HB.out hb); clear hb)
 | (go_at_call 37; (with_reducible refine (T12_12_8.out _).mono ?_); rintro e w' ⟨rfl, hb⟩; replace HB := Lib.hid (below_below HB.out hb); clear hb)
 | (go_at_call 37; (with_reducible refine (T2_2_5.out _).mono ?_); rintro e w' ⟨rfl, hb⟩; replace HB := Lib.hid (below_below HB.out hb); clear hb)
 | (go_at_call 37; (with_reducible refine (T11_10_3.out _).mono ?_); rintro e w' ⟨rfl, hb⟩; replace HB := Lib.hid (below_below HB.out hb); clear hb)
 | (go_at_call 37; (with_reducible refine (T4_3_1.out _).mono ?_); rintro e w' ⟨rfl, hb⟩; replace HB := Lib.hid (below_below HB.out hb); clear hb)
 | (go_at_call 37; (with_reducible refine (T1_0_0.out _).mono ?_); rintro e w' ⟨rfl, hb⟩; replace HB := Lib.hid (below_below HB.out hb); clear hb)
 | (go_at_call 37; (with_reducible refine (T15_13_0.out _).mono ?_); rintro e w' ⟨rfl, hb⟩; replace HB := Lib.hid (below_below HB.out hb); clear hb)
 | (go_at_call 38; (with_reducible refine (S6.out _).mono ?_); rintro e w' ⟨rfl, hb⟩; replace HB := Lib.hid (below_below HB.out hb); clear hb)
 | (go_at_call 38; (with_reducible refine (S9.out _).mono ?_); rintro e w' ⟨rfl, hb⟩; replace HB := Lib.hid (below_below HB.out hb); clear hb))
  rcases hd with ⟨c0, c1, hE⟩ | ⟨c0, c1, hE⟩ | ⟨c0, c1, hE⟩ | ⟨c0, c1, c2, hE⟩ | ⟨c0, c1, c2, c3, hE⟩ | ⟨c0, c1, c2, c3, c4, hE⟩ | ⟨c0, c1, c2, c3, c4, c5, hE⟩ | ⟨c0, c1, c2, c3, c4, c5, c6, c7, hE⟩ | ⟨c0, c1, c2, c3, c4, c5, c6, c7, hE⟩ | ⟨c0, c1, c2, c3, c4, c5, c6, c7, hE⟩ | ⟨c0, c1, c2, c3, c4, c5, c6, c7, c8, c9, c10, hE⟩ | ⟨c0, c1, c2, c3, c4, c5, c6, c7, c8, c9, c10, hE⟩ | ⟨c0, c1, c2, c3, c4, c5, c6, c7, c8, c9, c10, hE⟩ | ⟨c0, c1, c2, c3, c4, c5, c6, c7, c8, c9, c10, hE⟩ | ⟨c0, c1, c2, c3, c4, c5, c6, c7, c8, c9, hE⟩ | ⟨c0, c1, c2, c3, c4, c5, c6, c7, c8, c9, c10, hE⟩ | ⟨c0, c1, c2, c3, c4, c5, c6, c7, c8, c9, c10, c11, hE⟩ | ⟨c0, c1, c2, c3, c4, c5, c6, c7, c8, c9, c10, c11, c12, hE⟩ | ⟨c0, c1, c2, c3, c4, c5, c6, c7, c8, c9, c10, c11, c12, c13, hE⟩ | ⟨c0, c1, c2, c3, c4, c5, c6, c7, c8, c9, c10, c11, c12, c13, c14, c15, hE⟩ | ⟨c0, c1, c2, c3, c4, c5, c6, c7, c8, c9, c10, c11, c12, c13, c14, c15, hE⟩ | ⟨c0, c1, c2, c3, c4, c5, c6, c7, c8, c9, c10, c11, c12, c13, c14, c15, c16, hE⟩ | ⟨c0, c1, c2, c3, c4, c5, c6, c7, c8, c9, c10, c11, c12, c13, c14, c15, c16, hE⟩ | ⟨c0, c1, c2, c3, c4, c5, c6, c7, c8, c9, c10, c11, c12, c13, c14, c15, c16, hE⟩ | ⟨c0, c1, c2, c3, c4, c5, c6, c7, c8, c9, c10, c11, c12, c13, c14, c15, c16, c17, hE⟩ | ⟨c0, c1, c2, c3, c4, c5, c6, c7, c8, c9, c10, c11, c12, c13, c14, c15, c16, c17, c18, hE⟩ | ⟨c0, c1, c2, c3, c4, c5, c6, c7, c8, c9, c10, c11, c12, c13, c14, c15, c16, c17, c18, hE⟩
  all_goals subst hE
  all_goals (
    go_wp2_with (first
 | (go_at_call 37; (with_reducible refine (T12_12_5.out _).mono ?_); rintro e w' ⟨rfl, hb⟩; replace HB := Lib.hid (below_below HB.out hb); clear hb)
 | (go_at_call 37; (with_reducible refine (T5_5_6.out _).mono ?_); rintro e w' ⟨rfl, hb⟩; replace HB := Lib.hid (below_below HB.out hb); clear hb)
 | (go_at_call 37; (with_reducible refine (T12_10_3.out _).mono ?_); rintro e w' ⟨rfl, hb⟩; replace HB := Lib.hid (below_below HB.out hb); clear hb)
 | (go_at_call 37; (with_reducible refine (T6_6_2.out _).mono ?_); rintro e w' ⟨rfl, hb⟩; replace HB := Lib.hid (below_below HB.out hb); clear hb)
 | (go_at_call 37; (with_reducible refine (T2_2_5.out _).mono ?_); rintro e w' ⟨rfl, hb⟩; replace HB := Lib.hid (below_below HB.out hb); clear hb)
 | (go_at_call 37; (with_reducible refine (T10_7_6.out _).mono ?_); rintro e w' ⟨rfl, hb⟩; replace HB := Lib.hid (below_below HB.out hb); clear hb)
 | (go_at_call 37; (with_reducible refine (T12_11_4.out _).mono ?_); rintro e w' ⟨rfl, hb⟩; replace HB := Lib.hid (below_below HB.out hb); clear hb)
 | (go_at_call 37; (with_reducible refine (T5_5_3.out _).mono ?_); rintro e w' ⟨rfl, hb⟩; replace HB := Lib.hid (below_below HB.out hb); clear hb)
 | (go_at_call 37; (with_reducible refine (T12_12_9.out _).mono ?_); rintro e w' ⟨rfl, hb⟩; replace HB := Lib.hid (below_below HB.out hb); clear hb)
 | (go_at_call 37; (with_reducible refine (T4_3_7.out _).mono ?_); rintro e w' ⟨rfl, hb⟩; replace HB := Lib.hid (below_below HB.out hb); clear hb)
 | (go_at_call 37; (with_reducible refine (T6_6_4.out _).mono ?_); rintro e w' ⟨rfl, hb⟩; replace HB := Lib.hid (below_below HB.out hb); clear hb)
 | (go_at_call 37; (with_reducible refine (T12_12_11.out _).mono ?_); rintro e w' ⟨rfl, hb⟩; replace HB := Lib.hid (below_below HB.out hb); clear hb)
 | (go_at_call 37; (with_reducible refine (T8_8_10.out _).mono ?_); rintro e w' ⟨rfl, hb⟩; replace HB := Lib.hid (below_below HB.out hb); clear hb)
 | (go_at_call 37; (with_reducible refine (T10_9_8.out _).mono ?_); rintro e w' ⟨rfl, hb⟩; replace HB := Lib.hid (below_below HB.out hb); clear hb)
 | (go_at_call 37; (with_reducible refine (T6_6_7.out _).mono ?_); rintro e w' ⟨rfl, hb⟩; replace HB := Lib.hid (below_below HB.out hb); clear hb)
 | (go_at_call 37; (with_reducible refine (T7_7_6.out _).mono ?_); rintro e w' ⟨rfl, hb⟩; replace HB := Lib.hid (below_below HB.out hb); clear hb)
 | (go_at_call 37; (with_reducible refine (T11_11_4.out _).mono ?_); rintro e w' ⟨rfl, hb⟩; replace HB := Lib.hid (below_below HB.out hb); clear hb)
 | (go_at_call 37; (with_reducible refine (T5_3_1.out _).mono ?_); rintro e w' ⟨rfl, hb⟩; replace HB := Lib.hid (below_below HB.out hb); clear hb)
 | (go_at_call 37; (with_reducible refine (T3_2_6.out _).mono ?_); rintro e w' ⟨rfl, hb⟩; replace HB := Lib.hid (below_below HB.out hb); clear hb)
 | (go_at_call 37; (with_reducible refine (T6_4_2.out _).mono ?_); rintro e w' ⟨rfl, hb⟩; replace HB := Lib.hid (below_below HB.out hb); clear hb)
 | (go_at_call 37; (with_reducible refine (T4_2_6.out _).mono ?_); rintro e w' ⟨rfl, hb⟩; replace HB := Lib.hid (below_below HB.out hb); clear hb)
 | (go_at_call 37; (with_reducible refine (T6_5_3.out _).mono ?_); rintro e w' ⟨rfl, hb⟩; replace HB := Lib.hid (below_below HB.out hb); clear hb)
 | (go_at_call 37; (with_reducible refine (T8_7_6.out _).mono ?_); rintro e w' ⟨rfl, hb⟩; replace HB := Lib.hid (below_below HB.out hb); clear hb)
 | (go_at_call 37; (with_reducible refine (T12_9_2.out _).mono ?_); rintro e w' ⟨rfl, hb⟩; replace HB := Lib.hid (below_below HB.out hb); clear hb)
 | (go_at_call 37; (with_reducible refine (T9_7_6.out _).mono ?_); rintro e w' ⟨rfl, hb⟩; replace HB := Lib.hid (below_below HB.out hb); clear hb)
 | (go_at_call 38; (with_reducible refine (S10.out _).mono ?_); rintro e w' ⟨rfl, hb⟩; replace HB := Lib.hid (below_below HB.out hb); clear hb)
 | (go_at_call 38; (with_reducible refine (S12.out _).mono ?_); rintro e w' ⟨rfl, hb⟩; replace HB := Lib.hid (below_below HB.out hb); clear hb)
 | (go_at_call 40; (with_reducible refine (TA.out _).mono ?_); rintro e w' ⟨rfl, hb⟩; replace HB := Lib.hid (below_below HB.out hb); clear hb)
 | (go_at_call 41; (with_reducible refine (TJ.out _).mono ?_); rintro e w' ⟨rfl, hb⟩; replace HB := Lib.hid (below_below HB.out hb); clear hb)
 | (go_at_call 39; (with_reducible refine (R_any _ _ _ _ _ _ _ _ (by first | (simp [Kin]; done)) _).mono ?_); rintro e w' ⟨rfl, hb⟩; replace HB := Lib.hid (below_below HB.out hb); clear hb))
    all_goals first
      | (go_ret2; exact ⟨rfl, HB.out⟩)
      | (go_ret2; exact ⟨by rw [HV1.out]; rfl, HB.out⟩)
      | (go_ret2; exact ⟨by rw [HV2.out]; rfl, HB.out⟩)
      | (exfalso; simp_all; done))
end Go.Proofs.YtchpnbckgofiaaaGreat.Enc
end
