/- The fields of what is read lie within their bounds. -/
import Derived.Test.YtdhmfjcijcdnjaaDec
namespace Go.Proofs.Ytdhmfjcijcdnjaa.Enc
open Go Go.RowKit
set_option linter.unusedVariables false
set_option linter.unusedSimpArgs false

/-- An instruction's fields, within bounds. -/
structure Fits (i : Ins) : Prop where
  rd : 0 ≤ i.rd ∧ i.rd < 32
  rs1 : 0 ≤ i.rs1 ∧ i.rs1 < 32
  rs2 : 0 ≤ i.rs2 ∧ i.rs2 < 32
  k : 1 ≤ i.k ∧ i.k ≤ 20
  sz : i.sz = 0 ∨ i.sz = 1 ∨ i.sz = 2 ∨ i.sz = 4 ∨ i.sz = 8
  u : i.k = 1 ∨ i.k = 2 → i.imm % 4096 = 0 ∧ -2147483648 ≤ i.imm ∧ i.imm < 2147483648
  j : i.k = 3 → i.imm % 2 = 0 ∧ -1048576 ≤ i.imm ∧ i.imm < 1048576
  b : i.k = 5 → i.imm % 2 = 0 ∧ -4096 ≤ i.imm ∧ i.imm < 4096
  o : i.k ≠ 1 → i.k ≠ 2 → i.k ≠ 3 → i.k ≠ 5 → -2048 ≤ i.imm ∧ i.imm < 4096
theorem immI_bd (a : Int) : -2048 ≤ immI a ∧ immI a < 2048 := by
  have h := rawI_bd a
  unfold immI sx
  simp only [Nat.reduceSub, Nat.reducePow] at h ⊢
  split <;> omega
theorem immS_bd (a : Int) : -2048 ≤ immS a ∧ immS a < 2048 := by
  have h := rawS_bd a
  unfold immS sx
  simp only [Nat.reduceSub, Nat.reducePow] at h ⊢
  split <;> omega
theorem immU_bd (a : Int) : immU a % 4096 = 0 ∧ -2147483648 ≤ immU a ∧ immU a < 2147483648 := by
  have h := rawU_bd a
  have hm : rawU a % 4096 = 0 := by unfold rawU; omega
  unfold immU sx
  simp only [Nat.reduceSub, Nat.reducePow] at h ⊢
  split <;> omega
theorem immJ_bd (a : Int) : immJ a % 2 = 0 ∧ -1048576 ≤ immJ a ∧ immJ a < 1048576 := by
  have h := rawJ_bd a
  have hm : rawJ a % 2 = 0 := by unfold rawJ; omega
  unfold immJ sx
  simp only [Nat.reduceSub, Nat.reducePow] at h ⊢
  split <;> omega
theorem immB_bd (a : Int) : immB a % 2 = 0 ∧ -4096 ≤ immB a ∧ immB a < 4096 := by
  have h := rawB_bd a
  have hm : rawB a % 2 = 0 := by unfold rawB; omega
  unfold immB sx
  simp only [Nat.reduceSub, Nat.reducePow] at h ⊢
  split <;> omega
theorem im13_imm (hi x sh m : Int) : (im13 hi x sh m).2.1 = sh ∨ (im13 hi x sh m).2.1 = m := by
  unfold im13
  repeat' split
  all_goals simp
theorem im1b_imm (s x sh m : Int) : (im1b s x sh m).2.1 = sh ∨ (im1b s x sh m).2.1 = m := by
  unfold im1b
  repeat' split
  all_goals simp
theorem atF_k {f r : Int} (h : (atF f r).2.2 = true) : 15 ≤ (atF f r).1 ∧ (atF f r).1 ≤ 17 := by
  unfold atF at h ⊢
  repeat' split
  all_goals simp_all
theorem ld_sz {x : Int} (h0 : 0 ≤ x) (h : x < 7) : pk ldL x = 0 ∨ pk ldL x = 1 ∨ pk ldL x = 2 ∨ pk ldL x = 4 ∨ pk ldL x = 8 := by
  obtain h | h | h | h | h | h | h : x = 0 ∨ x = 1 ∨ x = 2 ∨ x = 3 ∨ x = 4 ∨ x = 5 ∨ x = 6 := by omega
  all_goals (subst h; decide)
theorem st_sz {x : Int} (h0 : 0 ≤ x) (h : x < 4) : pk stL x = 0 ∨ pk stL x = 1 ∨ pk stL x = 2 ∨ pk stL x = 4 ∨ pk stL x = 8 := by
  obtain h | h | h | h : x = 0 ∨ x = 1 ∨ x = 2 ∨ x = 3 := by omega
  all_goals (subst h; decide)
theorem ite_some {α : Type} {p : Prop} [Decidable p] {x y : Option α} {i : α} (h : (if p then x else y) = some i) : (p ∧ x = some i) ∨ (¬ p ∧ y = some i) := by
  by_cases c : p
  · rw [if_pos c] at h; exact .inl ⟨c, h⟩
  · rw [if_neg c] at h; exact .inr ⟨c, h⟩
theorem z32 : 0 ≤ (0 : Int) ∧ (0 : Int) < 32 := by decide
theorem sysD_fits {a : Int} {i : Ins} (h : sysD a = some i) : Fits i := by
  have b1 := fd_lit (a := a) (h := 11) (l := 7) (n := 32) rfl
  have b2 := fd_lit (a := a) (h := 19) (l := 15) (n := 32) rfl
  have b3 := fd_lit (a := a) (h := 24) (l := 20) (n := 32) rfl
  have b5 := fd_lit (a := a) (h := 31) (l := 20) (n := 4096) rfl
  unfold sysD at h
  rcases ite_some h with ⟨c, h⟩ | ⟨_, h⟩
  · injection h with h
    subst h
    exact ⟨z32, z32, z32, (show (1 : Int) ≤ 11 ∧ (11 : Int) ≤ 20 from by decide), .inl rfl, fun h => absurd (show (11 : Int) = 1 ∨ (11 : Int) = 2 from h) (by decide), fun h => absurd (show (11 : Int) = 3 from h) (by decide), fun h => absurd (show (11 : Int) = 5 from h) (by decide), fun _ _ _ _ => (show (-2048 : Int) ≤ 0 ∧ (0 : Int) < 4096 from by decide)⟩
  rcases ite_some h with ⟨c, h⟩ | ⟨_, h⟩
  · injection h with h
    subst h
    exact ⟨z32, z32, z32, (show (1 : Int) ≤ 12 ∧ (12 : Int) ≤ 20 from by decide), .inl rfl, fun h => absurd (show (12 : Int) = 1 ∨ (12 : Int) = 2 from h) (by decide), fun h => absurd (show (12 : Int) = 3 from h) (by decide), fun h => absurd (show (12 : Int) = 5 from h) (by decide), fun _ _ _ _ => (show (-2048 : Int) ≤ 0 ∧ (0 : Int) < 4096 from by decide)⟩
  rcases ite_some h with ⟨c, h⟩ | ⟨_, h⟩
  · injection h with h
    subst h
    exact ⟨z32, z32, z32, (show (1 : Int) ≤ 18 ∧ (18 : Int) ≤ 20 from by decide), .inl rfl, fun h => absurd (show (18 : Int) = 1 ∨ (18 : Int) = 2 from h) (by decide), fun h => absurd (show (18 : Int) = 3 from h) (by decide), fun h => absurd (show (18 : Int) = 5 from h) (by decide), fun _ _ _ _ => (show (-2048 : Int) ≤ 0 ∧ (0 : Int) < 4096 from by decide)⟩
  rcases ite_some h with ⟨c, h⟩ | ⟨_, h⟩
  · injection h with h
    subst h
    exact ⟨z32, z32, z32, (show (1 : Int) ≤ 19 ∧ (19 : Int) ≤ 20 from by decide), .inl rfl, fun h => absurd (show (19 : Int) = 1 ∨ (19 : Int) = 2 from h) (by decide), fun h => absurd (show (19 : Int) = 3 from h) (by decide), fun h => absurd (show (19 : Int) = 5 from h) (by decide), fun _ _ _ _ => (show (-2048 : Int) ≤ 0 ∧ (0 : Int) < 4096 from by decide)⟩
  rcases ite_some h with ⟨_, h⟩ | ⟨_, h⟩
  · rcases ite_some h with ⟨c, h⟩ | ⟨_, h⟩
    · injection h with h
      subst h
      exact ⟨z32, b2, b3, (show (1 : Int) ≤ 20 ∧ (20 : Int) ≤ 20 from by decide), .inl rfl, fun h => absurd (show (20 : Int) = 1 ∨ (20 : Int) = 2 from h) (by decide), fun h => absurd (show (20 : Int) = 3 from h) (by decide), fun h => absurd (show (20 : Int) = 5 from h) (by decide), fun _ _ _ _ => (show (-2048 : Int) ≤ 0 ∧ (0 : Int) < 4096 from by decide)⟩
    · cases h
  rcases ite_some h with ⟨_, h⟩ | ⟨_, h⟩
  · cases h
  · injection h with h
    subst h
    by_cases c : fd a 14 12 < 4
    · simp only [if_pos c]
      exact ⟨b1, b2, z32, (show (1 : Int) ≤ 13 ∧ (13 : Int) ≤ 20 from by decide), .inl rfl, fun h => absurd (show (13 : Int) = 1 ∨ (13 : Int) = 2 from h) (by decide), fun h => absurd (show (13 : Int) = 3 from h) (by decide), fun h => absurd (show (13 : Int) = 5 from h) (by decide), fun _ _ _ _ => ⟨by have := b5.1; show (-2048 : Int) ≤ fd a 31 20; omega, b5.2⟩⟩
    · simp only [if_neg c]
      exact ⟨b1, b2, z32, (show (1 : Int) ≤ 14 ∧ (14 : Int) ≤ 20 from by decide), .inl rfl, fun h => absurd (show (14 : Int) = 1 ∨ (14 : Int) = 2 from h) (by decide), fun h => absurd (show (14 : Int) = 3 from h) (by decide), fun h => absurd (show (14 : Int) = 5 from h) (by decide), fun _ _ _ _ => ⟨by have := b5.1; show (-2048 : Int) ≤ fd a 31 20; omega, b5.2⟩⟩
theorem atD_fits {a : Int} {i : Ins} (h : atD a = some i) : Fits i := by
  have b1 := fd_lit (a := a) (h := 11) (l := 7) (n := 32) rfl
  have b2 := fd_lit (a := a) (h := 19) (l := 15) (n := 32) rfl
  have b3 := fd_lit (a := a) (h := 24) (l := 20) (n := 32) rfl
  have k1 := @atF_k (fd a 31 27) (fd a 24 20)
  unfold atD at h
  generalize (atF (fd a 31 27) (fd a 24 20)) = q3 at *
  rcases ite_some h with ⟨_, h⟩ | ⟨_, h⟩
  · rcases ite_some h with ⟨c, h⟩ | ⟨_, h⟩
    · injection h with h
      subst h
      have k2 := k1 c
      refine ⟨b1, b2, b3, ⟨by show 1 ≤ q3.1; omega, by show q3.1 ≤ 20; omega⟩, ?_, fun h => ?_, fun h => ?_, fun h => ?_, fun _ _ _ _ => (show (-2048 : Int) ≤ 0 ∧ (0 : Int) < 4096 from by decide)⟩
      · by_cases c2 : fd a 14 12 = 2
        · exact .inr (.inr (.inr (.inl (if_pos c2))))
        · exact .inr (.inr (.inr (.inr (if_neg c2))))
      · have h' : q3.1 = 1 ∨ q3.1 = 2 := h; omega
      · have h' : q3.1 = 3 := h; omega
      · have h' : q3.1 = 5 := h; omega
    · cases h
  · cases h
theorem dec_fits {a : Int} {i : Ins} (h : dec a = some i) : Fits i := by
  have b1 := fd_lit (a := a) (h := 11) (l := 7) (n := 32) rfl
  have b2 := fd_lit (a := a) (h := 19) (l := 15) (n := 32) rfl
  have b3 := fd_lit (a := a) (h := 24) (l := 20) (n := 32) rfl
  have b4 := fd_lit (a := a) (h := 14) (l := 12) (n := 8) rfl
  have b6 := fd_lit (a := a) (h := 25) (l := 20) (n := 64) rfl
  have bI := immI_bd a
  have bS := immS_bd a
  have bU := immU_bd a
  have bJ := immJ_bd a
  have bB := immB_bd a
  have m1 := im13_imm (fd a 31 26) (fd a 14 12) (fd a 25 20) (immI a)
  have m2 := im1b_imm (fd a 31 25) (fd a 14 12) (fd a 24 20) (immI a)
  have n1 : -2048 ≤ (im13 (fd a 31 26) (fd a 14 12) (fd a 25 20) (immI a)).2.1 ∧ (im13 (fd a 31 26) (fd a 14 12) (fd a 25 20) (immI a)).2.1 < 4096 := by rcases m1 with m1 | m1 <;> (rw [m1]; omega)
  have n2 : -2048 ≤ (im1b (fd a 31 25) (fd a 14 12) (fd a 24 20) (immI a)).2.1 ∧ (im1b (fd a 31 25) (fd a 14 12) (fd a 24 20) (immI a)).2.1 < 4096 := by rcases m2 with m2 | m2 <;> (rw [m2]; omega)
  unfold dec decOp at h
  rcases ite_some h with ⟨c, h⟩ | ⟨_, h⟩
  · injection h with h
    subst h
    exact ⟨b1, z32, z32, (show (1 : Int) ≤ 1 ∧ (1 : Int) ≤ 20 from by decide), .inl rfl, fun _ => bU, fun h => absurd (show (1 : Int) = 3 from h) (by decide), fun h => absurd (show (1 : Int) = 5 from h) (by decide), fun h => absurd rfl h⟩
  rcases ite_some h with ⟨c, h⟩ | ⟨_, h⟩
  · injection h with h
    subst h
    exact ⟨b1, z32, z32, (show (1 : Int) ≤ 2 ∧ (2 : Int) ≤ 20 from by decide), .inl rfl, fun _ => bU, fun h => absurd (show (2 : Int) = 3 from h) (by decide), fun h => absurd (show (2 : Int) = 5 from h) (by decide), fun _ h => absurd rfl h⟩
  rcases ite_some h with ⟨c, h⟩ | ⟨_, h⟩
  · injection h with h
    subst h
    exact ⟨b1, z32, z32, (show (1 : Int) ≤ 3 ∧ (3 : Int) ≤ 20 from by decide), .inl rfl, fun h => absurd (show (3 : Int) = 1 ∨ (3 : Int) = 2 from h) (by decide), fun _ => bJ, fun h => absurd (show (3 : Int) = 5 from h) (by decide), fun _ _ h => absurd rfl h⟩
  rcases ite_some h with ⟨_, h⟩ | ⟨_, h⟩
  · rcases ite_some h with ⟨c, h⟩ | ⟨_, h⟩
    · injection h with h
      subst h
      exact ⟨b1, b2, z32, (show (1 : Int) ≤ 4 ∧ (4 : Int) ≤ 20 from by decide), .inl rfl, fun h => absurd (show (4 : Int) = 1 ∨ (4 : Int) = 2 from h) (by decide), fun h => absurd (show (4 : Int) = 3 from h) (by decide), fun h => absurd (show (4 : Int) = 5 from h) (by decide), fun _ _ _ _ => ⟨bI.1, Int.lt_trans bI.2 (by decide)⟩⟩
    · cases h
  rcases ite_some h with ⟨_, h⟩ | ⟨_, h⟩
  · rcases ite_some h with ⟨_, h⟩ | ⟨c, h⟩
    · cases h
    · injection h with h
      subst h
      exact ⟨z32, b2, b3, (show (1 : Int) ≤ 5 ∧ (5 : Int) ≤ 20 from by decide), .inl rfl, fun h => absurd (show (5 : Int) = 1 ∨ (5 : Int) = 2 from h) (by decide), fun h => absurd (show (5 : Int) = 3 from h) (by decide), fun _ => bB, fun _ _ _ h => absurd rfl h⟩
  rcases ite_some h with ⟨_, h⟩ | ⟨_, h⟩
  · rcases ite_some h with ⟨c, h⟩ | ⟨_, h⟩
    · injection h with h
      subst h
      exact ⟨b1, b2, z32, (show (1 : Int) ≤ 6 ∧ (6 : Int) ≤ 20 from by decide), ld_sz b4.1 c, fun h => absurd (show (6 : Int) = 1 ∨ (6 : Int) = 2 from h) (by decide), fun h => absurd (show (6 : Int) = 3 from h) (by decide), fun h => absurd (show (6 : Int) = 5 from h) (by decide), fun _ _ _ _ => ⟨bI.1, Int.lt_trans bI.2 (by decide)⟩⟩
    · cases h
  rcases ite_some h with ⟨_, h⟩ | ⟨_, h⟩
  · rcases ite_some h with ⟨c, h⟩ | ⟨_, h⟩
    · injection h with h
      subst h
      exact ⟨z32, b2, b3, (show (1 : Int) ≤ 7 ∧ (7 : Int) ≤ 20 from by decide), st_sz b4.1 c, fun h => absurd (show (7 : Int) = 1 ∨ (7 : Int) = 2 from h) (by decide), fun h => absurd (show (7 : Int) = 3 from h) (by decide), fun h => absurd (show (7 : Int) = 5 from h) (by decide), fun _ _ _ _ => ⟨bS.1, Int.lt_trans bS.2 (by decide)⟩⟩
    · cases h
  rcases ite_some h with ⟨_, h⟩ | ⟨_, h⟩
  · rcases ite_some h with ⟨c, h⟩ | ⟨_, h⟩
    · injection h with h
      subst h
      exact ⟨b1, b2, z32, (show (1 : Int) ≤ 9 ∧ (9 : Int) ≤ 20 from by decide), .inl rfl, fun h => absurd (show (9 : Int) = 1 ∨ (9 : Int) = 2 from h) (by decide), fun h => absurd (show (9 : Int) = 3 from h) (by decide), fun h => absurd (show (9 : Int) = 5 from h) (by decide), fun _ _ _ _ => n1⟩
    · cases h
  rcases ite_some h with ⟨_, h⟩ | ⟨_, h⟩
  · rcases ite_some h with ⟨c, h⟩ | ⟨_, h⟩
    · injection h with h
      subst h
      exact ⟨b1, b2, z32, (show (1 : Int) ≤ 9 ∧ (9 : Int) ≤ 20 from by decide), .inl rfl, fun h => absurd (show (9 : Int) = 1 ∨ (9 : Int) = 2 from h) (by decide), fun h => absurd (show (9 : Int) = 3 from h) (by decide), fun h => absurd (show (9 : Int) = 5 from h) (by decide), fun _ _ _ _ => n2⟩
    · cases h
  rcases ite_some h with ⟨_, h⟩ | ⟨_, h⟩
  · rcases ite_some h with ⟨_, h⟩ | ⟨c, h⟩
    · cases h
    · injection h with h
      subst h
      exact ⟨b1, b2, b3, (show (1 : Int) ≤ 8 ∧ (8 : Int) ≤ 20 from by decide), .inl rfl, fun h => absurd (show (8 : Int) = 1 ∨ (8 : Int) = 2 from h) (by decide), fun h => absurd (show (8 : Int) = 3 from h) (by decide), fun h => absurd (show (8 : Int) = 5 from h) (by decide), fun _ _ _ _ => (show (-2048 : Int) ≤ 0 ∧ (0 : Int) < 4096 from by decide)⟩
  rcases ite_some h with ⟨_, h⟩ | ⟨_, h⟩
  · rcases ite_some h with ⟨_, h⟩ | ⟨c, h⟩
    · cases h
    · injection h with h
      subst h
      exact ⟨b1, b2, b3, (show (1 : Int) ≤ 8 ∧ (8 : Int) ≤ 20 from by decide), .inl rfl, fun h => absurd (show (8 : Int) = 1 ∨ (8 : Int) = 2 from h) (by decide), fun h => absurd (show (8 : Int) = 3 from h) (by decide), fun h => absurd (show (8 : Int) = 5 from h) (by decide), fun _ _ _ _ => (show (-2048 : Int) ≤ 0 ∧ (0 : Int) < 4096 from by decide)⟩
  rcases ite_some h with ⟨_, h⟩ | ⟨_, h⟩
  · rcases ite_some h with ⟨c, h⟩ | ⟨_, h⟩
    · injection h with h
      subst h
      exact ⟨z32, z32, z32, (show (1 : Int) ≤ 10 ∧ (10 : Int) ≤ 20 from by decide), .inl rfl, fun h => absurd (show (10 : Int) = 1 ∨ (10 : Int) = 2 from h) (by decide), fun h => absurd (show (10 : Int) = 3 from h) (by decide), fun h => absurd (show (10 : Int) = 5 from h) (by decide), fun _ _ _ _ => (show (-2048 : Int) ≤ 0 ∧ (0 : Int) < 4096 from by decide)⟩
    · cases h
  rcases ite_some h with ⟨_, h⟩ | ⟨_, h⟩
  · exact sysD_fits h
  rcases ite_some h with ⟨_, h⟩ | ⟨_, h⟩
  · exact atD_fits h
  · cases h
end Go.Proofs.Ytdhmfjcijcdnjaa.Enc
