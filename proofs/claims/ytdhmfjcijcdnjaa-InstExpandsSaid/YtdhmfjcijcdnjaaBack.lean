/- What is read is written, and read again as the same. -/
import Derived.Test.YtdhmfjcijcdnjaaKey
namespace Go.Proofs.Ytdhmfjcijcdnjaa.Enc
open Go Go.RowKit
set_option linter.unusedVariables false
set_option linter.unusedSimpArgs false
set_option maxRecDepth 100000

theorem cn_eq {a op : Int} (h : fd a 6 0 = op) (h15 : op ≠ 15) (h47 : op ≠ 47) : cn a = a := by
  unfold cn
  rw [h, if_neg h15, if_neg h47]
theorem sys_enc {a : Int} {i : Ins} (ha : W32 a) (hop : fd a 6 0 = 115) (h : sysD a = some i) : encP i = a := by
  have b4 := fd_lit (a := a) (h := 14) (l := 12) (n := 8) rfl
  unfold sysD at h
  rcases ite_some h with ⟨c, h⟩ | ⟨_, h⟩
  · injection h with h; subst h; exact c.symm
  rcases ite_some h with ⟨c, h⟩ | ⟨_, h⟩
  · injection h with h; subst h; exact c.symm
  rcases ite_some h with ⟨c, h⟩ | ⟨_, h⟩
  · injection h with h; subst h; exact c.symm
  rcases ite_some h with ⟨c, h⟩ | ⟨_, h⟩
  · injection h with h; subst h; exact c.symm
  rcases ite_some h with ⟨h0, h⟩ | ⟨h0, h⟩
  · rcases ite_some h with ⟨c, h⟩ | ⟨_, h⟩
    · injection h with h; subst h; exact k115s a ha.out hop h0 c.2 c.1
    · cases h
  rcases ite_some h with ⟨_, h⟩ | ⟨c, h⟩
  · cases h
  · injection h with h
    subst h
    by_cases hx : fd a 14 12 < 4
    · rw [if_pos hx]
      have e : pk csL (fd a 14 12) = fd a 14 12 := by
        generalize fd a 14 12 = x at *
        obtain h | h | h : x = 1 ∨ x = 2 ∨ x = 3 := by omega
        all_goals (subst h; rfl)
      rw [e]
      exact k115a a ha.out hop hx
    · rw [if_neg hx]
      have e : pk csL (fd a 14 12) + 4 = fd a 14 12 ∧ 0 ≤ pk csL (fd a 14 12) := by
        generalize fd a 14 12 = x at *
        obtain h | h | h | h : x = 4 ∨ x = 5 ∨ x = 6 ∨ x = 7 := by omega
        all_goals (subst h; decide)
      exact k115b a ha.out (pk csL (fd a 14 12)) e.1 e.2 hop
theorem at_enc {a : Int} {i : Ins} (ha : W32 a) (hop : fd a 6 0 = 47) (h : atD a = some i) : encP i = a - fd a 26 25 * 33554432 := by
  have b4 := fd_lit (a := a) (h := 14) (l := 12) (n := 8) rfl
  have b5 := fd_lit (a := a) (h := 31) (l := 27) (n := 32) rfl
  unfold atD at h
  rcases ite_some h with ⟨hx, h⟩ | ⟨_, h⟩
  · rcases ite_some h with ⟨c, h⟩ | ⟨_, h⟩
    · injection h with h
      subst h
      have hz : ix at2 (if fd a 14 12 = 2 then 4 else 8) + 2 = fd a 14 12 := by
        rcases hx with hx | hx
        · rw [hx]; rfl
        · rw [hx]; rfl
      obtain ⟨z, hz'⟩ : ∃ z : Int, (if fd a 14 12 = 2 then 4 else 8) = z := ⟨_, rfl⟩
      rw [hz'] at hz ⊢
      clear hz' hx
      unfold atF at c ⊢
      by_cases h2 : fd a 31 27 = 2
      · simp only [if_pos h2]
        have k := k47l a ha.out hop h2
        rw [← hz] at k
        exact k
      simp only [if_neg h2] at c ⊢
      by_cases h3 : fd a 31 27 = 3
      · simp only [if_pos h3]
        have k := k47s a ha.out hop h3
        rw [← hz] at k
        exact k
      simp only [if_neg h3] at c ⊢
      have k := k47a a ha.out hop
      by_cases h1 : fd a 31 27 = 1
      · simp only [if_pos h1]
        rw [← hz, h1] at k
        exact k
      simp only [if_neg h1] at c ⊢
      by_cases h4 : fd a 31 27 % 4 = 0
      · simp only [if_pos h4]
        rw [← hz] at k
        have e := am_ix b5 h4
        show bor (bor (bor 47 (regW (fd a 11 7) (fd a 19 15) (fd a 24 20))) (pt (ix at2 z + 2) 3 12)) (pt (ix amL (pk [2, 3, 5, 4, 6, 7, 8, 9] (fd a 31 27 / 4))) 5 27) = _
        rw [e]
        exact k
      · simp only [if_neg h4] at c
        cases c
    · cases h
  · cases h
theorem enc_dec {a : Int} {i : Ins} (ha : W32 a) (h : dec a = some i) : encP i = cn a := by
  have b4 := fd_lit (a := a) (h := 14) (l := 12) (n := 8) rfl
  unfold dec decOp at h
  rcases ite_some h with ⟨c, h⟩ | ⟨_, h⟩
  · injection h with h; subst h; exact (k55 a ha.out c).trans (cn_eq c (by decide) (by decide)).symm
  rcases ite_some h with ⟨c, h⟩ | ⟨_, h⟩
  · injection h with h; subst h; exact (k23 a ha.out c).trans (cn_eq c (by decide) (by decide)).symm
  rcases ite_some h with ⟨c, h⟩ | ⟨_, h⟩
  · injection h with h; subst h; exact (k111 a ha.out c).trans (cn_eq c (by decide) (by decide)).symm
  rcases ite_some h with ⟨c, h⟩ | ⟨_, h⟩
  · rcases ite_some h with ⟨c2, h⟩ | ⟨_, h⟩
    · injection h with h; subst h; exact (k103 a ha.out c c2).trans (cn_eq c (by decide) (by decide)).symm
    · cases h
  rcases ite_some h with ⟨c, h⟩ | ⟨_, h⟩
  · rcases ite_some h with ⟨_, h⟩ | ⟨c2, h⟩
    · cases h
    · injection h with h
      subst h
      rw [cn_eq c (by decide) (by decide)]
      have k := k99 a ha.out c
      have e := ix_br b4 c2
      show bor (bor (bor (bor (bor (bor 99 (regW 0 (fd a 19 15) (fd a 24 20))) (pt (ix brI (pk brL (fd a 14 12))) 3 12)) _) _) _) _ = _
      rw [e]
      exact k
  rcases ite_some h with ⟨c, h⟩ | ⟨_, h⟩
  · rcases ite_some h with ⟨c2, h⟩ | ⟨_, h⟩
    · injection h with h
      subst h
      rw [cn_eq c (by decide) (by decide)]
      have k := k3 a ha.out c
      by_cases hx : fd a 14 12 < 4
      · rw [decide_eq_true hx]
        show bor (bor (bor 3 _) (pt (ix ld4 (pk ldL (fd a 14 12))) 3 12)) _ = _
        rw [(ix_ld b4.1 hx).1]
        exact k
      · rw [decide_eq_false hx]
        show bor (bor (bor 3 _) (pt (ix ld4 (pk ldL (fd a 14 12)) + 4) 3 12)) _ = _
        rw [ix_ld' (by omega) c2]
        exact k
    · cases h
  rcases ite_some h with ⟨c, h⟩ | ⟨_, h⟩
  · rcases ite_some h with ⟨c2, h⟩ | ⟨_, h⟩
    · injection h with h
      subst h
      rw [cn_eq c (by decide) (by decide)]
      have k := k35 a ha.out c
      show bor (bor (bor (bor 35 _) (pt (ix ld4 (pk stL (fd a 14 12))) 3 12)) _) _ = _
      rw [(ix_ld b4.1 c2).2]
      exact k
    · cases h
  rcases ite_some h with ⟨c, h⟩ | ⟨_, h⟩
  · rcases ite_some h with ⟨c2, h⟩ | ⟨_, h⟩
    · injection h with h
      subst h
      rw [cn_eq c (by decide) (by decide)]
      unfold im13 at c2 ⊢
      by_cases h1 : fd a 14 12 = 1
      · simp only [if_pos h1] at c2 ⊢
        by_cases h0 : fd a 31 26 = 0
        · simp only [if_pos h0]
          exact k19_1 a ha.out c h1 h0
        · simp only [if_neg h0] at c2
          cases c2
      simp only [if_neg h1] at c2 ⊢
      by_cases h5 : fd a 14 12 = 5
      · simp only [if_pos h5] at c2 ⊢
        by_cases h0 : fd a 31 26 = 0
        · simp only [if_pos h0]
          exact k19_5 a ha.out c h5 h0
        simp only [if_neg h0] at c2 ⊢
        by_cases h6 : fd a 31 26 = 16
        · simp only [if_pos h6]
          exact k19_5a a ha.out c h5 h6
        · simp only [if_neg h6] at c2
          cases c2
      simp only [if_neg h5]
      show bor (encI (pk imL (fd a 14 12)) (immI a)) _ = _
      rw [(ix_im b4 h1 h5).2]
      exact k19_o a ha.out c
    · cases h
  rcases ite_some h with ⟨c, h⟩ | ⟨_, h⟩
  · rcases ite_some h with ⟨c2, h⟩ | ⟨_, h⟩
    · injection h with h
      subst h
      rw [cn_eq c (by decide) (by decide)]
      unfold im1b at c2 ⊢
      by_cases h0 : fd a 14 12 = 0
      · simp only [if_pos h0]
        exact k27_0 a ha.out c h0
      simp only [if_neg h0] at c2 ⊢
      by_cases h1 : fd a 14 12 = 1
      · simp only [if_pos h1] at c2 ⊢
        by_cases hs : fd a 31 25 = 0
        · simp only [if_pos hs]
          exact k27_1 a ha.out c h1 hs
        · simp only [if_neg hs] at c2
          cases c2
      simp only [if_neg h1] at c2 ⊢
      by_cases h5 : fd a 14 12 = 5
      · simp only [if_pos h5] at c2 ⊢
        by_cases hs : fd a 31 25 = 0
        · simp only [if_pos hs]
          exact k27_5 a ha.out c h5 hs
        simp only [if_neg hs] at c2 ⊢
        by_cases h6 : fd a 31 25 = 32
        · simp only [if_pos h6]
          exact k27_5a a ha.out c h5 h6
        · simp only [if_neg h6] at c2
          cases c2
      · simp only [if_neg h5] at c2
        cases c2
    · cases h
  rcases ite_some h with ⟨c, h⟩ | ⟨_, h⟩
  · rcases ite_some h with ⟨_, h⟩ | ⟨c2, h⟩
    · cases h
    · injection h with h
      subst h
      rw [cn_eq c (by decide) (by decide)]
      show bor (pk rwL (regF true (fd a 31 25) (fd a 14 12))) _ = _
      rw [rw_regF b4 c2]
      exact k51 a ha.out c
  rcases ite_some h with ⟨c, h⟩ | ⟨_, h⟩
  · rcases ite_some h with ⟨_, h⟩ | ⟨c2, h⟩
    · cases h
    · injection h with h
      subst h
      rw [cn_eq c (by decide) (by decide)]
      show bor (pk rwL (regF false (fd a 31 25) (fd a 14 12))) _ = _
      rw [rw_regF b4 c2]
      exact k59 a ha.out c
  rcases ite_some h with ⟨c, h⟩ | ⟨_, h⟩
  · rcases ite_some h with ⟨c2, h⟩ | ⟨_, h⟩
    · injection h with h
      subst h
      unfold cn
      rw [if_pos c]
      rfl
    · cases h
  rcases ite_some h with ⟨c, h⟩ | ⟨_, h⟩
  · rw [cn_eq c (by decide) (by decide)]
    exact sys_enc ha c h
  rcases ite_some h with ⟨c, h⟩ | ⟨_, h⟩
  · rw [at_enc ha c h]
    unfold cn
    rw [c, if_neg (by decide), if_pos rfl]
  · cases h
theorem fd_cut (a : Int) (h : 0 ≤ a ∧ a < 4294967296) : let b := a - fd a 26 25 * 33554432
    fd b 6 0 = fd a 6 0 ∧ fd b 14 12 = fd a 14 12 ∧ fd b 11 7 = fd a 11 7 ∧ fd b 19 15 = fd a 19 15 ∧ fd b 24 20 = fd a 24 20 ∧ fd b 31 27 = fd a 31 27 := by
  intro b
  have hb : b = a - a / 33554432 % 4 * 33554432 := rfl
  refine ⟨?_, ?_, ?_, ?_, ?_, ?_⟩
  · show b / 1 % 128 = a / 1 % 128; omega
  · show b / 4096 % 8 = a / 4096 % 8; omega
  · show b / 128 % 32 = a / 128 % 32; omega
  · show b / 32768 % 32 = a / 32768 % 32; omega
  · show b / 1048576 % 32 = a / 1048576 % 32; omega
  · show b / 134217728 % 32 = a / 134217728 % 32; omega
theorem dec_cn {a : Int} {i : Ins} (ha : W32 a) (h : dec a = some i) : dec (cn a) = some i := by
  by_cases h15 : fd a 6 0 = 15
  · have e : cn a = 15 := if_pos h15
    rw [e, ← h]
    unfold dec at h ⊢
    rw [h15] at h ⊢
    have h2 : (if fd a 14 12 < 2 then some (⟨10, 0, 0, 0, 0, 0, 0, false⟩ : Ins) else none) = some i := h
    rcases ite_some h2 with ⟨c, _⟩ | ⟨_, h3⟩
    · show _ = (if fd a 14 12 < 2 then some (⟨10, 0, 0, 0, 0, 0, 0, false⟩ : Ins) else none)
      rw [if_pos c]
      rfl
    · cases h3
  · by_cases h47 : fd a 6 0 = 47
    · have e : cn a = a - fd a 26 25 * 33554432 := by unfold cn; rw [if_neg h15, if_pos h47]
      obtain ⟨e1, e2, e3, e4, e5, e6⟩ := fd_cut a ha.out
      rw [e, ← h]
      unfold dec
      rw [e1, h47]
      show atD _ = atD _
      unfold atD
      rw [e2, e3, e4, e5, e6]
    · have e : cn a = a := by unfold cn; rw [if_neg h15, if_neg h47]
      rw [e]; exact h
/-- What is read is written as a word that is read the same. -/
theorem back {a : Int} {i : Ins} (ha : W32 a) (h : dec a = some i) : dec (encP i) = some i := by
  rw [enc_dec ha h]
  exact dec_cn ha h
end Go.Proofs.Ytdhmfjcijcdnjaa.Enc
