/- Numbers read where numbers were written. -/
import Derived.Test.YtfoocpcpljlndaaAwakeB
namespace Go.Proofs.Ytfoocpcpljlndaa.Duo
open Go Go.RowKit Go.Proofs.Ytfoocpcpljlndaa.Step Go.Proofs.Ytfoocpcpljlndaa.Mem Go.Proofs.Ytfoocpcpljlndaa.Tab
set_option linter.unusedVariables false
set_option linter.unusedSimpArgs false

theorem num_eq {mem mem' : Nat → Int} : ∀ (l o : Nat), (∀ i, o ≤ i → i < o + l → mem i = mem' i) → num mem o l = num mem' o l
  | 0, _, _ => rfl
  | l + 1, o, h => by
    simp only [num]
    rw [h o (Nat.le_refl _) (by omega), num_eq l (o + 1) fun i a b => h i (by omega) (by omega)]
theorem num_far {mem : Nat → Int} {o o' : Nat} {v : Int} (h : o' + 8 ≤ o ∨ o + 8 ≤ o') : num (wr mem o 8 v) o' 8 = num mem o' 8 :=
  num_eq 8 o' fun i a b => by unfold wr; rw [if_neg (by omega)]
theorem num_same {mem : Nat → Int} {o : Nat} {v : Int} (hv : U64 v) : num (wr mem o 8 v) o 8 = v := by
  obtain ⟨v0, v1⟩ := hv
  have e : ∀ k, k < 8 → wr mem o 8 v (o + k) = v / 256 ^ k % 256 := fun k hk => by
    unfold wr
    rw [if_pos (by omega), Nat.add_sub_cancel_left]
  have e0 : wr mem o 8 v o = v % 256 := by
    have := e 0 (by decide)
    rw [Nat.add_zero] at this
    rw [this]; omega
  have e1 : wr mem o 8 v (o + 1) = v / 256 % 256 := e 1 (by decide)
  have e2 : wr mem o 8 v (o + 2) = v / 65536 % 256 := e 2 (by decide)
  have e3 : wr mem o 8 v (o + 3) = v / 16777216 % 256 := e 3 (by decide)
  have e4 : wr mem o 8 v (o + 4) = v / 4294967296 % 256 := e 4 (by decide)
  have e5 : wr mem o 8 v (o + 5) = v / 1099511627776 % 256 := e 5 (by decide)
  have e6 : wr mem o 8 v (o + 6) = v / 281474976710656 % 256 := e 6 (by decide)
  have e7 : wr mem o 8 v (o + 7) = v / 72057594037927936 % 256 := e 7 (by decide)
  simp only [num, Nat.add_assoc, Nat.reduceAdd]
  rw [e0, e1, e2, e3, e4, e5, e6, e7]
  omega
/-- An entry of a table, as a cell. -/
theorem phys_cell {n : Nat} {mem : Nat → Int} {t i : Int} (ht : 0 ≤ t ∧ t < n) (hi : 0 ≤ i ∧ i < 512) (hn : n ≤ 1024) : phys 0 n mem t i = (num mem (t * 4096 + 8 * i).toNat 8, 0) := by
  unfold phys
  rw [if_neg (by omega), if_pos (show hasB 0 n (t * 4096 + 8 * i) 8 = true from decide_eq_true (by omega)), Int.sub_zero]
theorem at_cell {n : Nat} {f : Nat → Int × Int} {k : Nat} {j : Nat} {v : Int} (hj : (f k).1 = j) (hv : (f k).2 = v) (hn : j < 512 * n) : cm n f (k + 1) = wr (cm n f k) (8 * j) 8 v := by
  show wr (cm n f k) (8 * ((f k).1 % ((512 * n : Nat) : Int))).toNat 8 (f k).2 = _
  rw [hj, hv, Int.emod_eq_of_lt (by omega) (by omega)]
  congr 1
theorem down_step {rd : Int → Int → Int × Int} {addr t v : Int} {l : Nat} (h : rd t (ix addr l) = (v, 0)) :
    down rd addr (l + 1) t = (if wrongB v = true then .page else if ptr v = true then down rd addr l (pn v) else if odd v l = true then .page else .leaf v l) := by
  simp only [down]
  rw [h]
  rfl
end Go.Proofs.Ytfoocpcpljlndaa.Duo
