/- Parts of the walks and laws for the claim: Back, Alu; no conditions beyond the theorems' own. -/
import Derived.Test.YthkodjkkcgdmfaaGreatT19
import Derived.Test.YthkodjkkcgdmfaaGreatT20
section
namespace Go.Proofs.YthkodjkkcgdmfaaGreat.Enc
open Go Go.RowKit
set_option linter.unusedVariables false
set_option linter.unusedSimpArgs false
set_option maxRecDepth 100000
theorem cn_eq {a op : Int} (h : fd a 6 0 = op) (h15 : op ≠ 15) (h47 : op ≠ 47) : cn a = a := by
  unfold cn
  rw [h, if_neg h15, if_neg h47]
theorem sys_enc {a : Int} {i : Ins} (ha : W32 a) (hop : fd a 6 0 = 115) (h : sysD a = some i) : encP i = a := by
  have b4 := fd_lit (a := a) (h := 14) (l := 12) (n := 8) rfl
  unfold sysD at h
  rcases ite_some h with ⟨c, h⟩ | ⟨_, h⟩
  · injection h with h; subst h; exact c.symm
  rcases ite_some h with ⟨c, h⟩ | ⟨_, h⟩
  · injection h with h; subst h; exact c.symm
  rcases ite_some h with ⟨c, h⟩ | ⟨_, h⟩
  · injection h with h; subst h; exact c.symm
  rcases ite_some h with ⟨c, h⟩ | ⟨_, h⟩
  · injection h with h; subst h; exact c.symm
  rcases ite_some h with ⟨h0, h⟩ | ⟨h0, h⟩
  · rcases ite_some h with ⟨c, h⟩ | ⟨_, h⟩
    · injection h with h; subst h; exact k115s a ha.out hop h0 c.2 c.1
    · cases h
  rcases ite_some h with ⟨_, h⟩ | ⟨c, h⟩
  · cases h
  · injection h with h
    subst h
    by_cases hx : fd a 14 12 < 4
    · rw [if_pos hx]
      have e : pk csL (fd a 14 12) = fd a 14 12 := by
        generalize fd a 14 12 = x at *
        obtain h | h | h : x = 1 ∨ x = 2 ∨ x = 3 := by omega
        all_goals (subst h; rfl)
      rw [e]
      exact k115a a ha.out hop hx
    · rw [if_neg hx]
      have e : pk csL (fd a 14 12) + 4 = fd a 14 12 ∧ 0 ≤ pk csL (fd a 14 12) := by
        generalize fd a 14 12 = x at *
        obtain h | h | h | h : x = 4 ∨ x = 5 ∨ x = 6 ∨ x = 7 := by omega
        all_goals (subst h; decide)
      exact k115b a ha.out (pk csL (fd a 14 12)) e.1 e.2 hop
theorem at_enc {a : Int} {i : Ins} (ha : W32 a) (hop : fd a 6 0 = 47) (h : atD a = some i) : encP i = a - fd a 26 25 * 33554432 := by
  have b4 := fd_lit (a := a) (h := 14) (l := 12) (n := 8) rfl
  have b5 := fd_lit (a := a) (h := 31) (l := 27) (n := 32) rfl
  unfold atD at h
  rcases ite_some h with ⟨hx, h⟩ | ⟨_, h⟩
  · rcases ite_some h with ⟨c, h⟩ | ⟨_, h⟩
    · injection h with h
      subst h
      have hz : ix at2 (if fd a 14 12 = 2 then 4 else 8) + 2 = fd a 14 12 := by
        rcases hx with hx | hx
        · rw [hx]; rfl
        · rw [hx]; rfl
      obtain ⟨z, hz'⟩ : ∃ z : Int, (if fd a 14 12 = 2 then 4 else 8) = z := ⟨_, rfl⟩
      rw [hz'] at hz ⊢
      clear hz' hx
      unfold atF at c ⊢
      by_cases h2 : fd a 31 27 = 2
      · simp only [if_pos h2]
        have k := k47l a ha.out hop h2
        rw [← hz] at k
        exact k
      simp only [if_neg h2] at c ⊢
      by_cases h3 : fd a 31 27 = 3
      · simp only [if_pos h3]
        have k := k47s a ha.out hop h3
        rw [← hz] at k
        exact k
      simp only [if_neg h3] at c ⊢
      have k := k47a a ha.out hop
      by_cases h1 : fd a 31 27 = 1
      · simp only [if_pos h1]
        rw [← hz, h1] at k
        exact k
      simp only [if_neg h1] at c ⊢
      by_cases h4 : fd a 31 27 % 4 = 0
      · simp only [if_pos h4]
        rw [← hz] at k
        have e := am_ix b5 h4
        show bor (bor (bor 47 (regW (fd a 11 7) (fd a 19 15) (fd a 24 20))) (pt (ix at2 z + 2) 3 12)) (pt (ix amL (pk [2, 3, 5, 4, 6, 7, 8, 9] (fd a 31 27 / 4))) 5 27) = _
        rw [e]
        exact k
      · simp only [if_neg h4] at c
        cases c
    · cases h
  · cases h
theorem enc_dec {a : Int} {i : Ins} (ha : W32 a) (h : dec a = some i) : encP i = cn a := by
  have b4 := fd_lit (a := a) (h := 14) (l := 12) (n := 8) rfl
  unfold dec decOp at h
  rcases ite_some h with ⟨c, h⟩ | ⟨_, h⟩
  · injection h with h; subst h; exact (k55 a ha.out c).trans (cn_eq c (by decide) (by decide)).symm
  rcases ite_some h with ⟨c, h⟩ | ⟨_, h⟩
  · injection h with h; subst h; exact (k23 a ha.out c).trans (cn_eq c (by decide) (by decide)).symm
  rcases ite_some h with ⟨c, h⟩ | ⟨_, h⟩
  · injection h with h; subst h; exact (k111 a ha.out c).trans (cn_eq c (by decide) (by decide)).symm
  rcases ite_some h with ⟨c, h⟩ | ⟨_, h⟩
  · rcases ite_some h with ⟨c2, h⟩ | ⟨_, h⟩
    · injection h with h; subst h; exact (k103 a ha.out c c2).trans (cn_eq c (by decide) (by decide)).symm
    · cases h
  rcases ite_some h with ⟨c, h⟩ | ⟨_, h⟩
  · rcases ite_some h with ⟨_, h⟩ | ⟨c2, h⟩
    · cases h
    · injection h with h
      subst h
      rw [cn_eq c (by decide) (by decide)]
      have k := k99 a ha.out c
      have e := ix_br b4 c2
      show bor (bor (bor (bor (bor (bor 99 (regW 0 (fd a 19 15) (fd a 24 20))) (pt (ix brI (pk brL (fd a 14 12))) 3 12)) _) _) _) _ = _
      rw [e]
      exact k
  rcases ite_some h with ⟨c, h⟩ | ⟨_, h⟩
  · rcases ite_some h with ⟨c2, h⟩ | ⟨_, h⟩
    · injection h with h
      subst h
      rw [cn_eq c (by decide) (by decide)]
      have k := k3 a ha.out c
      by_cases hx : fd a 14 12 < 4
      · rw [decide_eq_true hx]
        show bor (bor (bor 3 _) (pt (ix ld4 (pk ldL (fd a 14 12))) 3 12)) _ = _
        rw [(ix_ld b4.1 hx).1]
        exact k
      · rw [decide_eq_false hx]
        show bor (bor (bor 3 _) (pt (ix ld4 (pk ldL (fd a 14 12)) + 4) 3 12)) _ = _
        rw [ix_ld' (by omega) c2]
        exact k
    · cases h
  rcases ite_some h with ⟨c, h⟩ | ⟨_, h⟩
  · rcases ite_some h with ⟨c2, h⟩ | ⟨_, h⟩
    · injection h with h
      subst h
      rw [cn_eq c (by decide) (by decide)]
      have k := k35 a ha.out c
      show bor (bor (bor (bor 35 _) (pt (ix ld4 (pk stL (fd a 14 12))) 3 12)) _) _ = _
      rw [(ix_ld b4.1 c2).2]
      exact k
    · cases h
  rcases ite_some h with ⟨c, h⟩ | ⟨_, h⟩
  · rcases ite_some h with ⟨c2, h⟩ | ⟨_, h⟩
    · injection h with h
      subst h
      rw [cn_eq c (by decide) (by decide)]
      unfold im13 at c2 ⊢
      by_cases h1 : fd a 14 12 = 1
      · simp only [if_pos h1] at c2 ⊢
        by_cases h0 : fd a 31 26 = 0
        · simp only [if_pos h0]
          exact k19_1 a ha.out c h1 h0
        · simp only [if_neg h0] at c2
          cases c2
      simp only [if_neg h1] at c2 ⊢
      by_cases h5 : fd a 14 12 = 5
      · simp only [if_pos h5] at c2 ⊢
        by_cases h0 : fd a 31 26 = 0
        · simp only [if_pos h0]
          exact k19_5 a ha.out c h5 h0
        simp only [if_neg h0] at c2 ⊢
        by_cases h6 : fd a 31 26 = 16
        · simp only [if_pos h6]
          exact k19_5a a ha.out c h5 h6
        · simp only [if_neg h6] at c2
          cases c2
      simp only [if_neg h5]
      show bor (encI (pk imL (fd a 14 12)) (immI a)) _ = _
      rw [(ix_im b4 h1 h5).2]
      exact k19_o a ha.out c
    · cases h
  rcases ite_some h with ⟨c, h⟩ | ⟨_, h⟩
  · rcases ite_some h with ⟨c2, h⟩ | ⟨_, h⟩
    · injection h with h
      subst h
      rw [cn_eq c (by decide) (by decide)]
      unfold im1b at c2 ⊢
      by_cases h0 : fd a 14 12 = 0
      · simp only [if_pos h0]
        exact k27_0 a ha.out c h0
      simp only [if_neg h0] at c2 ⊢
      by_cases h1 : fd a 14 12 = 1
      · simp only [if_pos h1] at c2 ⊢
        by_cases hs : fd a 31 25 = 0
        · simp only [if_pos hs]
          exact k27_1 a ha.out c h1 hs
        · simp only [if_neg hs] at c2
          cases c2
      simp only [if_neg h1] at c2 ⊢
      by_cases h5 : fd a 14 12 = 5
      · simp only [if_pos h5] at c2 ⊢
        by_cases hs : fd a 31 25 = 0
        · simp only [if_pos hs]
          exact k27_5 a ha.out c h5 hs
        simp only [if_neg hs] at c2 ⊢
        by_cases h6 : fd a 31 25 = 32
        · simp only [if_pos h6]
          exact k27_5a a ha.out c h5 h6
        · simp only [if_neg h6] at c2
          cases c2
      · simp only [if_neg h5] at c2
        cases c2
    · cases h
  rcases ite_some h with ⟨c, h⟩ | ⟨_, h⟩
  · rcases ite_some h with ⟨_, h⟩ | ⟨c2, h⟩
    · cases h
    · injection h with h
      subst h
      rw [cn_eq c (by decide) (by decide)]
      show bor (pk rwL (regF true (fd a 31 25) (fd a 14 12))) _ = _
      rw [rw_regF b4 c2]
      exact k51 a ha.out c
  rcases ite_some h with ⟨c, h⟩ | ⟨_, h⟩
  · rcases ite_some h with ⟨_, h⟩ | ⟨c2, h⟩
    · cases h
    · injection h with h
      subst h
      rw [cn_eq c (by decide) (by decide)]
      show bor (pk rwL (regF false (fd a 31 25) (fd a 14 12))) _ = _
      rw [rw_regF b4 c2]
      exact k59 a ha.out c
  rcases ite_some h with ⟨c, h⟩ | ⟨_, h⟩
  · rcases ite_some h with ⟨c2, h⟩ | ⟨_, h⟩
    · injection h with h
      subst h
      unfold cn
      rw [if_pos c]
      rfl
    · cases h
  rcases ite_some h with ⟨c, h⟩ | ⟨_, h⟩
  · rw [cn_eq c (by decide) (by decide)]
    exact sys_enc ha c h
  rcases ite_some h with ⟨c, h⟩ | ⟨_, h⟩
  · rw [at_enc ha c h]
    unfold cn
    rw [c, if_neg (by decide), if_pos rfl]
  · cases h
end Go.Proofs.YthkodjkkcgdmfaaGreat.Enc
end
section
namespace Go.Proofs.YthkodjkkcgdmfaaGreat.Enc
open Go Go.RowKit Go.Proofs.YthkodjkkcgdmfaaGreat.Step
set_option linter.unusedVariables false
set_option linter.unusedSimpArgs false
set_option maxRecDepth 100000
def rbor (x y : Int) : Int := bits .or .u32 x y
def alL : List Int := ([0, 0, 0, 1, 2, 3, 4, 5, 5, 6, 7, 0, 1, 2, 3, 4, 5, 6, 7, 0, 0, 1, 5, 5, 0, 4, 5, 6, 7] : List Int)
def bwL : List Int := ([0, 0, 1, 4, 5, 6, 7] : List Int)
def szL : List Int := ([0, 0, 1, 0, 2, 0, 0, 0, 3] : List Int)
def amW : List Int := ([0, 1, 0, 4, 12, 8, 16, 20, 24, 28] : List Int)
/-- f3 and f7 of an operation. -/
def al1 (fn : Int) : Int := if fn = 2 ∨ fn = 8 ∨ fn = 20 ∨ fn = 23 then rbor (pt (pk alL fn) 3 12) 1073741824 else pt (pk alL fn) 3 12
def al (fn : Int) : Int := if (decide (11 ≤ fn) && decide (fn ≤ 18)) = true then rbor (al1 fn) 33554432 else if (decide (24 ≤ fn) && decide (fn ≤ 28)) = true then rbor (al1 fn) 33554432 else al1 fn
theorem in_any (v l h : Int) (w : World) : Calls Tryz.prog 43 #[.int .i64 v, .int .i64 l, .int .i64 h] w fun e w' => e = .returned (.bool (decide (l ≤ v) && decide (v ≤ h))) ∧ Below w.heap.size w w' := by
  by_cases h1 : l ≤ v
  · rw [decide_eq_true h1, Bool.true_and]
    go_enter Tryz.func43, Tryz.ntmps43
    go_wp2
    go_ret
    exact ⟨rfl, Below.refl _ _⟩
  · rw [decide_eq_false h1, Bool.false_and]
    go_enter Tryz.func43, Tryz.ntmps43
    go_wp2
    go_ret
    exact ⟨rfl, Below.refl _ _⟩
set_option maxHeartbeats 4000000 in
theorem alu_any (fn : Int) (hf : 0 ≤ fn ∧ fn ≤ 28) (w : World) : Calls Tryz.prog 69 #[.int .i64 fn] w fun e w' => e = .returned (.int .u32 (al fn)) ∧ Below w.heap.size w w' := by
  have T0 := Lib.hid (fun w => calls_same (show Calls Tryz.prog 67 #[.int .i64 (pk alL fn), .int .i64 3, .int .i64 12] w fun e w' => e = .returned (.int .u32 (pt (pk alL fn) 3 12)) ∧ w = w' from at_any (pk alL fn) 3 12 3 12 rfl rfl (by decide) (by decide) w))
  have TI := Lib.hid in_any
  have HX := Lib.hid (show -9223372036854775808 ≤ fn ∧ fn < 9223372036854775808 by omega)
  unfold al al1
  obtain ⟨u, hu⟩ : ∃ u, pk alL fn = u := ⟨_, rfl⟩
  rw [hu] at T0 ⊢
  have hu : pk ([0, 0, 0, 1, 2, 3, 4, 5, 5, 6, 7, 0, 1, 2, 3, 4, 5, 6, 7, 0, 0, 1, 5, 5, 0, 4, 5, 6, 7] : List Int) fn = u := hu
  generalize pt (u) 3 12 = p0 at *
  obtain ⟨E_, hEq⟩ : ∃ E_, (if (decide (11 ≤ fn) && decide (fn ≤ 18)) = true then rbor (if fn = 2 ∨ fn = 8 ∨ fn = 20 ∨ fn = 23 then rbor p0 1073741824 else p0) 33554432 else if (decide (24 ≤ fn) && decide (fn ≤ 28)) = true then rbor (if fn = 2 ∨ fn = 8 ∨ fn = 20 ∨ fn = 23 then rbor p0 1073741824 else p0) 33554432 else (if fn = 2 ∨ fn = 8 ∨ fn = 20 ∨ fn = 23 then rbor p0 1073741824 else p0) : Int) = E_ := ⟨_, rfl⟩
  rw [hEq]
  have hd : (fn = 2 ∧ E_ = bits .or .u32 p0 1073741824) ∨ (fn = 8 ∧ E_ = bits .or .u32 p0 1073741824) ∨ (fn = 20 ∧ E_ = bits .or .u32 p0 1073741824) ∨ (fn = 23 ∧ E_ = bits .or .u32 p0 1073741824) ∨ (((fn == 2) = false ∧ (fn == 8) = false ∧ (fn == 20) = false ∧ (fn == 23) = false) ∧ (((decide (11 ≤ fn) && decide (fn ≤ 18)) = true ∧ E_ = bits .or .u32 p0 33554432) ∨ ((decide (11 ≤ fn) && decide (fn ≤ 18)) = false ∧ (decide (24 ≤ fn) && decide (fn ≤ 28)) = true ∧ E_ = bits .or .u32 p0 33554432) ∨ ((decide (11 ≤ fn) && decide (fn ≤ 18)) = false ∧ (decide (24 ≤ fn) && decide (fn ≤ 28)) = false ∧ E_ = p0))) := by
    rw [← hEq]
    by_cases c2 : fn = 2
    · subst c2; exact Or.inl ⟨rfl, rfl⟩
    by_cases c8 : fn = 8
    · subst c8; exact Or.inr (Or.inl ⟨rfl, rfl⟩)
    by_cases c20 : fn = 20
    · subst c20; exact Or.inr (Or.inr (Or.inl ⟨rfl, rfl⟩))
    by_cases c23 : fn = 23
    · subst c23; exact Or.inr (Or.inr (Or.inr (Or.inl ⟨rfl, rfl⟩)))
    refine Or.inr (Or.inr (Or.inr (Or.inr ⟨⟨beq_eq_false_iff_ne.2 c2, beq_eq_false_iff_ne.2 c8, beq_eq_false_iff_ne.2 c20, beq_eq_false_iff_ne.2 c23⟩, ?_⟩)))
    have hn : ¬ (fn = 2 ∨ fn = 8 ∨ fn = 20 ∨ fn = 23) := by omega
    simp only [if_neg hn]
    cases d1 : (decide (11 ≤ fn) && decide (fn ≤ 18)) with
    | true => exact Or.inl ⟨rfl, rfl⟩
    | false =>
      cases d2 : (decide (24 ≤ fn) && decide (fn ≤ 28)) with
      | true => exact Or.inr (Or.inl ⟨rfl, rfl, rfl⟩)
      | false => exact Or.inr (Or.inr ⟨rfl, rfl, rfl⟩)
  clear hEq hf
  rcases hd with ⟨c, hE⟩ | ⟨c, hE⟩ | ⟨c, hE⟩ | ⟨c, hE⟩ | ⟨⟨c, c8, c20, c23⟩, ⟨d1, hE⟩ | ⟨d1, d2, hE⟩ | ⟨d1, d2, hE⟩⟩
  all_goals subst hE
  all_goals (try subst c)
  all_goals (
    go_enter Tryz.func69, Tryz.ntmps69
    have HB := Lib.hid (Below.refl _ _ : Below w.heap.size w w)
    go_wp2_with (first
      | (go_at_call 67; (with_reducible refine (T0.out _).mono ?_); rintro e w' ⟨rfl, hb⟩; (try replace PB := Lib.hid (PB.out.below hb)); replace HB := Lib.hid (below_below HB.out hb); clear hb)
      | (go_at_call 43; (with_reducible refine (TI.out _ _ _ _).mono ?_); rintro e w' ⟨rfl, hb⟩; (try replace PB := Lib.hid (PB.out.below hb)); replace HB := Lib.hid (below_below HB.out hb); clear hb)
      | ((with_reducible refine Step.gate_build (t := 53) rfl ?_); refine Step.freshSlice (cs := #[.int .i64 0, .int .i64 0, .int .i64 0, .int .i64 1, .int .i64 2, .int .i64 3, .int .i64 4, .int .i64 5, .int .i64 5, .int .i64 6, .int .i64 7, .int .i64 0, .int .i64 1, .int .i64 2, .int .i64 3, .int .i64 4, .int .i64 5, .int .i64 6, .int .i64 7, .int .i64 0, .int .i64 0, .int .i64 1, .int .i64 5, .int .i64 5, .int .i64 0, .int .i64 4, .int .i64 5, .int .i64 6, .int .i64 7]) (T := 3) (n := 29) (m := 29) rfl ?hr ?_; (case hr => first | (go_simp; done) | (go_simp; rfl)); intro g1 w1 b hg hb; have PB := Lib.hid (show Blk w1 g1 (Enc.ints ([0, 0, 0, 1, 2, 3, 4, 5, 5, 6, 7, 0, 1, 2, 3, 4, 5, 6, 7, 0, 0, 1, 5, 5, 0, 4, 5, 6, 7] : List Int)) _ from b); have hb_ := Lib.hid (below_below HB.out hb); clear HB b hb hg; have HB := hb_)
      | (go_at_call 68; (with_reducible refine (rpick_any (n := 29) PB.out ([0, 0, 0, 1, 2, 3, 4, 5, 5, 6, 7, 0, 1, 2, 3, 4, 5, 6, 7, 0, 0, 1, 5, 5, 0, 4, 5, 6, 7] : List Int) rfl rfl (by decide) _ (by first | exact HX.out | decide)).mono ?_); rintro e w' ⟨rfl, hb⟩; clear PB; replace HB := Lib.hid (below_below HB.out hb); clear hb; (try rw [hu])))
    go_ret
    exact ⟨rfl, HB.out⟩)
end Go.Proofs.YthkodjkkcgdmfaaGreat.Enc
end
