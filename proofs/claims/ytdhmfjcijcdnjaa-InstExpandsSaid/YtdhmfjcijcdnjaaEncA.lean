/- The parts of a word that is put together, of the program and of the document; the place of a number in a list. -/
import Derived.Test.YtdhmfjcijcdnjaaDec
import Derived.Test.YtdhmfjcijcdnjaaDrawn
namespace Go.Proofs.Ytdhmfjcijcdnjaa.Enc
open Go Go.RowKit Go.Proofs.Ytdhmfjcijcdnjaa.Step
set_option linter.unusedVariables false
set_option linter.unusedSimpArgs false
set_option maxRecDepth 100000

/-- The low n bits of a number, at a place. -/
def pt (v : Int) (n l : Nat) : Int := v % (2 ^ n : Nat) * (2 ^ l : Nat)
theorem pt_bd (v : Int) (n l : Nat) (h : n + l ≤ 32) : 0 ≤ pt v n l ∧ pt v n l < 4294967296 := by
  have hp : (0 : Int) < (2 ^ n : Nat) := by exact_mod_cast Nat.two_pow_pos n
  have hq : (0 : Int) < (2 ^ l : Nat) := by exact_mod_cast Nat.two_pow_pos l
  have h1 := Int.emod_nonneg v (show ((2 ^ n : Nat) : Int) ≠ 0 by omega)
  have h2 := Int.emod_lt_of_pos v hp
  have h3 : 2 ^ n * 2 ^ l ≤ 4294967296 := by rw [← Nat.pow_add]; exact Nat.pow_le_pow_right (n := 2) (j := 32) (by decide) h
  have h4 : ((2 ^ n : Nat) : Int) * ((2 ^ l : Nat) : Int) ≤ 4294967296 := by rw [← Int.natCast_mul]; generalize 2 ^ n * 2 ^ l = q at h3 ⊢; omega
  unfold pt
  refine ⟨Int.mul_nonneg h1 (by omega), ?_⟩
  have h5 : v % ((2 ^ n : Nat) : Int) * ((2 ^ l : Nat) : Int) < ((2 ^ n : Nat) : Int) * ((2 ^ l : Nat) : Int) := Int.mul_lt_mul_of_pos_right h2 hq
  omega
theorem u32_mask (x : Int) (n : Nat) (hn : n ≤ 32) (hx : 0 ≤ x ∧ x < 4294967296) : bits .and .u32 x ((2 ^ n - 1 : Nat) : Int) = x % (2 ^ n : Nat) := by
  have hp : 2 ^ n ≤ 4294967296 := Nat.pow_le_pow_right (n := 2) (j := 32) (by decide) hn
  have hp0 := Nat.two_pow_pos n
  obtain ⟨X, rfl⟩ := Int.eq_ofNat_of_zero_le hx.1
  rw [u32_and_nat _ _ (by omega) (by omega), Nat.and_two_pow_sub_one_eq_mod]; rfl
theorem put_any (v z1 z2 : Int) (h l : Nat) (hz1 : z1 = h) (hz2 : z2 = l) (hh : h ≤ 31) (hl : l ≤ h) (w : World) :
    Calls Try.prog 46 #[.int .i64 v, .int .i64 z1, .int .i64 z2] w fun e w' => e = .returned (.int .u32 (pt v (h - l + 1) l)) ∧ w = w' := by
  subst hz1; subst hz2
  have hp : 2 ^ (h - l + 1) ≤ 4294967296 := Nat.pow_le_pow_right (n := 2) (j := 32) (by decide) (by omega)
  have hv : bits .and .u32 (v % 4294967296) ((2 ^ (h - l + 1) - 1) % 4294967296) * 2 ^ l % 4294967296 = pt v (h - l + 1) l := by
    have h0 := Nat.two_pow_pos (h - l + 1)
    have e1 : ((2 : Int) ^ (h - l + 1) - 1) % 4294967296 = ((2 ^ (h - l + 1) - 1 : Nat) : Int) := by rw [pow_nat]; generalize 2 ^ (h - l + 1) = p at *; omega
    rw [e1, u32_mask _ _ (by omega) (by omega)]
    have e2 : v % 4294967296 % ((2 ^ (h - l + 1) : Nat) : Int) = v % ((2 ^ (h - l + 1) : Nat) : Int) := by
      refine Int.emod_emod_of_dvd v ?_
      have hd : 2 ^ (h - l + 1) ∣ 2 ^ 32 := Nat.pow_dvd_pow 2 (by omega)
      exact Int.natCast_dvd_natCast.2 hd
    rw [e2, pow_nat l]
    have := pt_bd v (h - l + 1) l (by omega)
    exact Int.emod_eq_of_lt this.1 this.2
  go_enter Try.func46, Try.ntmps46
  go_wp2
  go_ret
  exact ⟨congrArg (fun x => Ending.returned (.int .u32 x)) hv, rfl⟩
theorem tmod_fix (v p : Int) (hp : 0 < p) : (v.tmod p < 0 → v.tmod p + p = v % p) ∧ (0 ≤ v.tmod p → v.tmod p = v % p) := by
  have h := Int.tmod_eq_emod (a := v) (b := p)
  have h1 := Int.emod_nonneg v (show p ≠ 0 by omega)
  have h2 := Int.emod_lt_of_pos v hp
  split at h <;> omega
theorem at_any (v z1 z2 : Int) (n l : Nat) (hz1 : z1 = n) (hz2 : z2 = l) (hn : 1 ≤ n) (hl : n + l ≤ 32) (w : World) :
    Calls Try.prog 50 #[.int .i64 v, .int .i64 z1, .int .i64 z2] w fun e w' => e = .returned (.int .u32 (pt v n l)) ∧ w = w' := by
  subst hz1; subst hz2
  have hw : wrap64 (2 ^ n) = ((2 ^ n : Nat) : Int) := by rw [pow_nat]; exact wrap_pow n (by omega)
  have h0 := Nat.two_pow_pos n
  have hp : 2 ^ n ≤ 4294967296 := Nat.pow_le_pow_right (n := 2) (j := 32) (by decide) (by omega)
  have hne : ¬ wrap64 (2 ^ n) = 0 := by rw [hw]; omega
  have hf := tmod_fix v ((2 ^ n : Nat) : Int) (by omega)
  have hb := pt_bd v n l hl
  have he1 := Int.emod_nonneg v (show ((2 ^ n : Nat) : Int) ≠ 0 by omega)
  have he2 := Int.emod_lt_of_pos v (show (0 : Int) < ((2 ^ n : Nat) : Int) by omega)
  have key : ∀ q : Int, q = v % ((2 ^ n : Nat) : Int) → q % 4294967296 * 2 ^ l % 4294967296 = pt v n l := by
    intro q hq
    rw [show q % 4294967296 = q by omega, pow_nat l, hq]
    exact Int.emod_eq_of_lt hb.1 hb.2
  obtain ⟨t, ht⟩ : ∃ t, v.tmod (wrap64 (2 ^ n)) = t := ⟨_, rfl⟩
  rw [hw] at ht
  rw [ht] at hf
  have ht' : v.tmod (wrap64 (2 ^ n)) = t := by rw [hw]; exact ht
  by_cases hneg : t < 0
  · have hk := key (wrap64 (t + wrap64 (2 ^ n))) (by rw [hw, ← hf.1 hneg]; generalize 2 ^ n = p at *; unfold wrap64; omega)
    clear key hf hb he1 he2 ht hp hw h0
    go_enter Try.func50, Try.ntmps50
    go_wp2
    go_ret
    exact ⟨by first | rfl | exact congrArg (fun x => Ending.returned (.int .u32 x)) hk, rfl⟩
  · have hk := key t (hf.2 (by omega))
    have hnn : 0 ≤ t := by omega
    clear key hf hb he1 he2 ht hp hw h0
    go_enter Try.func50, Try.ntmps50
    go_wp2
    go_ret
    exact ⟨by first | rfl | exact congrArg (fun x => Ending.returned (.int .u32 x)) hk, rfl⟩
/-- Where a number stands in a list first; -1: nowhere. -/
def ix (L : List Int) (v : Int) : Int := match L.findIdx? (· == v) with | some i => (i : Int) | none => -1
theorem ix_hit {L : List Int} {v : Int} {k : Nat} (h : k < L.length) (hk : L.getD k 0 = v) (hm : ∀ j, j < k → L.getD j 0 ≠ v) : ix L v = k := by
  have h0 : L.findIdx? (· == v) = some k := by
    rw [List.findIdx?_eq_some_iff_getElem]
    refine ⟨h, ?_, fun j hj => ?_⟩
    · simpa [List.getD, List.getElem?_eq_getElem h] using hk
    · have := hm j hj
      simpa [List.getD, List.getElem?_eq_getElem (show j < L.length by omega)] using this
  unfold ix; rw [h0]
theorem ix_miss {L : List Int} {v : Int} (hm : ∀ j, j < L.length → L.getD j 0 ≠ v) : ix L v = -1 := by
  have h0 : L.findIdx? (· == v) = none := by
    rw [List.findIdx?_eq_none_iff]
    intro x hx
    obtain ⟨j, hj, rfl⟩ := List.getElem_of_mem hx
    have := hm j hj
    simpa [List.getD, List.getElem?_eq_getElem hj] using this
  unfold ix; rw [h0]
theorem index_any {W : World} {g n : Nat} {cs : Array Value} {T : TypeId} (hb : Blk W g cs T) (L : List Int) (hcs : cs = ints L) (hn : n = L.length) (hl : L.length ≤ 1000) (v : Int) :
    Calls Try.prog 47 #[.slice (some ⟨g, 0, none⟩) n n, .int .i64 v] W fun e w' => e = .returned (.int .i64 (ix L v)) ∧ W = w' := by
  subst hn hcs
  have HB := Lib.hid hb
  clear hb
  go_enter Try.func47, Try.ntmps47
  go_wp2
  go_loopw [8] (fun i w_ => ∃ k : Nat, k ≤ L.length ∧ i = .int .i64 k ∧ w_ = W ∧ ∀ j, j < k → L.getD j 0 ≠ v) (fun i _ => (L.length - intOf i).toNat)
  case atStart => exact ⟨0, Nat.zero_le _, rfl, rfl, fun j h => absurd h (Nat.not_lt_zero j)⟩
  case round =>
    obtain ⟨k, hk, rfl, rfl, hm⟩ := hrel
    have HM := Lib.hid hm
    clear hm
    by_cases hlt : k < L.length
    · have hc := (HB.out.cell k).trans (ints_at L k hlt)
      by_cases hv : L.getD k 0 = v
      · have HI := Lib.hid (ix_hit hlt hv HM.out)
        rw [hv] at hc
        clear HM hv
        go_wp2
        go_ret
        exact ⟨by rw [HI.out]; rfl, rfl⟩
      · obtain ⟨u, hu⟩ : ∃ u, L.getD k 0 = u := ⟨_, rfl⟩
        rw [hu] at hc hv
        have cv : (v == u) = false := beq_eq_false_iff_ne.2 (Ne.symm hv)
        clear hv
        have HU := Lib.hid hu
        clear hu
        go_wp2
        refine ⟨⟨k + 1, by omega, by go_num, by first | rfl | trivial, fun j hj => ?_⟩, by simp [intOf]; omega⟩
        by_cases e : j = k
        · subst e; rw [HU.out]; exact fun h => by simp [h] at cv
        · exact HM.out j (by omega)
    · obtain rfl : k = L.length := by omega
      have HI := Lib.hid (ix_miss HM.out)
      clear HM
      go_wp2
      go_ret
      exact ⟨by rw [HI.out]; rfl, rfl⟩
end Go.Proofs.Ytdhmfjcijcdnjaa.Enc
