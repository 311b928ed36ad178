/- A memory of the program: what its blocks hold, and what get and put make of it. -/
import Derived.Test.YtkdohejocmkljaaGet
namespace Go.Proofs.Ytkdohejocmkljaa.Mem
open Go Go.RowKit Go.Proofs.Ytkdohejocmkljaa.Step
set_option linter.unusedVariables false
set_option linter.unusedSimpArgs false
set_option maxRecDepth 100000

/-- What was owned, and what is new. -/
def Grow (F : Nat → Prop) (W W' : World) : Nat → Prop := fun k => F k ∨ W.heap.size ≤ k ∧ k < W'.heap.size
/-- A content with one place turned. -/
def upd (mem : Nat → Int) (i : Nat) (v : Int) : Nat → Int := fun k => if k = i then v else mem k

structure RamIn (W : World) (h fb : Nat) (cs : Array Value) (fs : Nat → Option Nat) (base : Int) (n : Nat) (mem : Nat → Int) (F : Nat → Prop) : Prop where
  hdr : Blk W h #[.int .u64 base, .slice (some ⟨fb, 0, none⟩) n n] 66
  row : Blk W fb cs 69
  csz : cs.size = n
  n_lo : 1 ≤ n
  n_hi : n ≤ 1024
  b_lo : 0 ≤ base
  b_hi : base ≤ 4503599627370496
  at_ : ∀ k, k < n → cs[k]? = some (.pointer ((fs k).map fun g => ⟨g, 0, none⟩))
  frame : ∀ k g, k < n → fs k = some g → F g ∧ ∃ bs, Blk W g bs 71 ∧ bs.size = 4096 ∧ ∀ j, j < 4096 → bs[j]? = some (.int .u8 (mem (k * 4096 + j)))
  none_ : ∀ k, k < n → fs k = none → ∀ j, j < 4096 → mem (k * 4096 + j) = 0
  inj : ∀ k k' g, k < n → k' < n → fs k = some g → fs k' = some g → k = k'
  foot_h : F h
  foot_fb : F fb
  bound : ∀ k, F k → k < W.heap.size
  byte : ∀ i, i < n * 4096 → 0 ≤ mem i ∧ mem i < 256
/-- A memory at a block, from a base on, of so many frames, with these bytes; what it stands in lies within F. -/
def Ram (W : World) (h : Nat) (base : Int) (n : Nat) (mem : Nat → Int) (F : Nat → Prop) : Prop := ∃ fb cs fs, RamIn W h fb cs fs base n mem F

theorem RamIn.mod {W W' : World} {h fb n : Nat} {cs : Array Value} {fs : Nat → Option Nat} {base : Int} {mem : Nat → Int} {F S : Nat → Prop} (r : RamIn W h fb cs fs base n mem F) (m : Mod S W W') (hs : ∀ k, F k → ¬ S k) : RamIn W' h fb cs fs base n mem F where
  hdr := r.hdr.mod m (hs _ r.foot_h)
  row := r.row.mod m (hs _ r.foot_fb)
  csz := r.csz
  n_lo := r.n_lo
  n_hi := r.n_hi
  b_lo := r.b_lo
  b_hi := r.b_hi
  at_ := r.at_
  frame := fun k g hk hf => by
    obtain ⟨hF, bs, hb, h2⟩ := r.frame k g hk hf
    exact ⟨hF, bs, hb.mod m (hs _ hF), h2⟩
  none_ := r.none_
  inj := r.inj
  foot_h := r.foot_h
  foot_fb := r.foot_fb
  bound := fun k hk => Nat.lt_of_lt_of_le (r.bound k hk) m.size
  byte := r.byte
theorem Ram.mod {W W' : World} {h n : Nat} {base : Int} {mem : Nat → Int} {F S : Nat → Prop} (r : Ram W h base n mem F) (m : Mod S W W') (hs : ∀ k, F k → ¬ S k) : Ram W' h base n mem F := by
  obtain ⟨fb, cs, fs, r⟩ := r
  exact ⟨fb, cs, fs, r.mod m hs⟩
theorem Ram.below {W W' : World} {h n : Nat} {base : Int} {mem : Nat → Int} {F : Nat → Prop} (r : Ram W h base n mem F) (m : Below W.heap.size W W') : Ram W' h base n mem F := r.mod (Mod.of_below m Nil) fun _ _ h => h
theorem Ram.bound {W : World} {h n : Nat} {base : Int} {mem : Nat → Int} {F : Nat → Prop} (r : Ram W h base n mem F) : ∀ k, F k → k < W.heap.size := by obtain ⟨fb, cs, fs, r⟩ := r; exact r.bound
theorem Ram.size {W : World} {h n : Nat} {base : Int} {mem : Nat → Int} {F : Nat → Prop} (r : Ram W h base n mem F) : 1 ≤ n ∧ n ≤ 1024 ∧ 0 ≤ base ∧ base ≤ 4503599627370496 := by obtain ⟨fb, cs, fs, r⟩ := r; exact ⟨r.n_lo, r.n_hi, r.b_lo, r.b_hi⟩
theorem Ram.byte {W : World} {h n : Nat} {base : Int} {mem : Nat → Int} {F : Nat → Prop} (r : Ram W h base n mem F) {i : Nat} (hi : i < n * 4096) : 0 ≤ mem i ∧ mem i < 256 := by obtain ⟨fb, cs, fs, r⟩ := r; exact r.byte i hi
theorem Ram.congr {W : World} {h n : Nat} {base : Int} {mem mem' : Nat → Int} {F : Nat → Prop} (r : Ram W h base n mem F) (hm : ∀ i, i < n * 4096 → mem i = mem' i) : Ram W h base n mem' F := by
  obtain ⟨fb, cs, fs, r⟩ := r
  have lt : ∀ k j, k < n → j < 4096 → k * 4096 + j < n * 4096 := fun k j hk hj => by have := Nat.mul_le_mul_right 4096 (show k + 1 ≤ n from hk); omega
  refine ⟨fb, cs, fs, { r with frame := fun k g hk hf => ?_, none_ := fun k hk hf j hj => ?_, byte := fun i hi => ?_ }⟩
  · obtain ⟨hF, bs, hb, h2, h3⟩ := r.frame k g hk hf
    exact ⟨hF, bs, hb, h2, fun j hj => by rw [← hm _ (lt k j hk hj)]; exact h3 j hj⟩
  · rw [← hm _ (lt k j hk hj)]; exact r.none_ k hk hf j hj
  · rw [← hm _ hi]; exact r.byte i hi

theorem offs {base addr : Int} {n : Nat} (ha : base ≤ addr) (hb : addr < base + n * 4096) : ∃ k j : Nat, (addr - base) / 4096 = (k : Int) ∧ (addr - base) % 4096 = (j : Int) ∧ j < 4096 ∧ k < n ∧ (addr - base).toNat = k * 4096 + j := by
  refine ⟨((addr - base) / 4096).toNat, ((addr - base) % 4096).toNat, ?_, ?_, ?_, ?_, ?_⟩ <;> omega

theorem get {W : World} {h n : Nat} {base : Int} {mem : Nat → Int} {F : Nat → Prop} (r : Ram W h base n mem F) (addr : Int) (ha : base ≤ addr) (hb : addr < base + n * 4096) :
    Calls Try.prog 35 #[.pointer (some ⟨h, 0, none⟩), .int .u64 addr] W fun e W' => e = .returned (.int .u8 (mem (addr - base).toNat)) ∧ W = W' := by
  obtain ⟨fb, cs, fs, r⟩ := r
  obtain ⟨k, j, hk, hj, hj4, hkn, ho⟩ := offs ha hb
  have := r.n_hi
  have := r.b_hi
  have c0 := r.hdr.cell 0
  have c1 := r.hdr.cell 1
  have ck := (r.row.cell k).trans (r.at_ k hkn)
  simp only [List.getElem?_toArray, List.getElem?_cons_zero, List.getElem?_cons_succ] at c0 c1
  rw [ho]
  cases hf : fs k with
  | none =>
    rw [r.none_ k hkn hf j hj4]
    rw [hf] at ck
    exact get_nil W h fb n base addr k r.b_lo ha (by omega) hk hkn r.n_hi c0 c1 ck
  | some g =>
    obtain ⟨_, bs, hb, _, hbs⟩ := r.frame k g hkn hf
    rw [hf] at ck
    exact get_frame W h fb n g base addr _ k j r.b_lo ha (by omega) hk hj hj4 hkn r.n_hi c0 c1 ck ((hb.cell j).trans (hbs j hj4))

theorem put {W : World} {h n : Nat} {base : Int} {mem : Nat → Int} {F : Nat → Prop} (r : Ram W h base n mem F) (addr v : Int) (ha : base ≤ addr) (hb : addr < base + n * 4096) (hv : 0 ≤ v ∧ v < 256) :
    Calls Try.prog 36 #[.pointer (some ⟨h, 0, none⟩), .int .u64 addr, .int .u8 v] W fun e W' => e = .returned (.tuple #[]) ∧ Ram W' h base n (upd mem (addr - base).toNat v) (Grow F W W') ∧ Mod F W W' := by
  obtain ⟨fb, cs, fs, r⟩ := r
  obtain ⟨k, j, hk, hj, hj4, hkn, ho⟩ := offs ha hb
  have := r.n_hi
  have := r.b_hi
  have hne : h ≠ fb := fun e => by subst e; have := (r.hdr.inj r.row).2; revert this; decide
  have hbyte : ∀ i, i < n * 4096 → 0 ≤ upd mem (k * 4096 + j) v i ∧ upd mem (k * 4096 + j) v i < 256 := fun i hi => by
    unfold upd; split
    · exact hv
    · exact r.byte i hi
  rw [ho]
  cases hf : fs k with
  | some g =>
    obtain ⟨hF, bs, hb, hsz, hbs⟩ := r.frame k g hkn hf
    have ck := r.at_ k hkn
    rw [hf] at ck
    refine (put_old W h fb n g base addr v cs bs k j r.b_lo ha (by omega) hk hj hj4 hkn r.n_hi r.hdr r.row ck hb hsz).mono ?_
    rintro e W' ⟨rfl, hb', m⟩
    have gh : h ≠ g := fun e => by subst e; have := (r.hdr.inj hb).2; revert this; decide
    have gf : fb ≠ g := fun e => by subst e; have := (r.row.inj hb).2; revert this; decide
    refine ⟨rfl, ⟨fb, cs, fs, ?_⟩, m.mono fun i _ e => by obtain rfl : i = g := e; exact hF⟩
    refine { hdr := r.hdr.one m gh, row := r.row.one m gf, csz := r.csz, n_lo := r.n_lo, n_hi := r.n_hi, b_lo := r.b_lo, b_hi := r.b_hi, at_ := r.at_, frame := fun k' g' hk' hf' => ?_, none_ := fun k' hk' hf' j' hj' => ?_, inj := r.inj, foot_h := .inl r.foot_h, foot_fb := .inl r.foot_fb, bound := fun i hi => ?_, byte := hbyte }
    · obtain ⟨hF', bs', hb2, hsz', hbs'⟩ := r.frame k' g' hk' hf'
      refine ⟨.inl hF', ?_⟩
      by_cases e : g' = g
      · subst e
        obtain rfl := r.inj k' k g' hk' hkn hf' hf
        refine ⟨_, hb', by simpa using hsz, fun j' hj' => ?_⟩
        unfold upd
        by_cases ej : j = j'
        · subst ej; rw [if_pos rfl]; simp [hsz, hj4]
        · rw [if_neg (by omega), Array.getElem?_setIfInBounds_ne ej]; exact hbs j' hj'
      · refine ⟨bs', hb2.one m e, hsz', fun j' hj' => ?_⟩
        have : k' ≠ k := fun ek => e (by subst ek; rw [hf] at hf'; exact (Option.some.inj hf').symm)
        unfold upd
        rw [if_neg (by omega)]; exact hbs' j' hj'
    · have : k' ≠ k := fun ek => by subst ek; rw [hf] at hf'; cases hf'
      unfold upd
      rw [if_neg (by omega)]; exact r.none_ k' hk' hf' j' hj'
    · rcases hi with hi | hi
      · exact Nat.lt_of_lt_of_le (r.bound i hi) m.size
      · exact hi.2
  | none =>
    have ck := r.at_ k hkn
    rw [hf] at ck
    refine (put_new W h fb n base addr v cs k j r.b_lo ha (by omega) hk hj hj4 hkn r.n_hi r.hdr r.row r.csz hne ck).mono ?_
    rintro e W' ⟨rfl, g, hg, hfb, hnew, m⟩
    refine ⟨rfl, ⟨fb, cs.setIfInBounds k (.pointer (some ⟨g, 0, none⟩)), fun i => if i = k then some g else fs i, ?_⟩, m.mono fun i _ e => by obtain rfl : i = fb := e; exact r.foot_fb⟩
    refine { hdr := r.hdr.one m hne, row := hfb, csz := by simpa using r.csz, n_lo := r.n_lo, n_hi := r.n_hi, b_lo := r.b_lo, b_hi := r.b_hi, at_ := fun k' hk' => ?_, frame := fun k' g' hk' hf' => ?_, none_ := fun k' hk' hf' j' hj' => ?_, inj := fun a b g' ha hb h1 h2 => ?_, foot_h := .inl r.foot_h, foot_fb := .inl r.foot_fb, bound := fun i hi => ?_, byte := hbyte }
    · by_cases e : k = k'
      · subst e; simp [r.csz, hkn]
      · rw [Array.getElem?_setIfInBounds_ne e]; simp only [if_neg (Ne.symm e)]; exact r.at_ k' hk'
    · by_cases e : k' = k
      · subst e
        simp only [if_true, Option.some.injEq] at hf'
        subst hf'
        refine ⟨.inr ⟨hnew, hg.lt⟩, _, hg, by simp [zeros], fun j' hj' => ?_⟩
        unfold upd
        by_cases ej : j = j'
        · subst ej; rw [if_pos rfl]; simp [zeros, hj4]
        · rw [if_neg (by omega), Array.getElem?_setIfInBounds_ne ej, r.none_ k' hk' hf j' hj']; simp [zeros, hj']
      · simp only [if_neg e] at hf'
        obtain ⟨hF', bs', hb2, hsz', hbs'⟩ := r.frame k' g' hk' hf'
        have : g' ≠ fb := fun eg => by subst eg; have := (hb2.inj r.row).2; revert this; decide
        refine ⟨.inl hF', bs', hb2.one m this, hsz', fun j' hj' => ?_⟩
        unfold upd
        rw [if_neg (by omega)]; exact hbs' j' hj'
    · by_cases e : k' = k
      · simp [e] at hf'
      · simp only [if_neg e] at hf'
        unfold upd
        rw [if_neg (by omega)]; exact r.none_ k' hk' hf' j' hj'
    · have old : ∀ c, c < n → fs c ≠ some g := fun c hc hcg => by
        have := r.bound g (r.frame c g hc hcg).1
        omega
      by_cases ea : a = k <;> by_cases eb : b = k
      · rw [ea, eb]
      · simp only [if_pos ea, if_neg eb, Option.some.injEq] at h1 h2; subst h1; exact absurd h2 (old b hb)
      · simp only [if_neg ea, if_pos eb, Option.some.injEq] at h1 h2; subst h2; exact absurd h1 (old a ha)
      · simp only [if_neg ea, if_neg eb] at h1 h2; exact r.inj a b g' ha hb h1 h2
    · rcases hi with hi | hi
      · exact Nat.lt_of_lt_of_le (r.bound i hi) m.size
      · exact hi.2
end Go.Proofs.Ytkdohejocmkljaa.Mem
