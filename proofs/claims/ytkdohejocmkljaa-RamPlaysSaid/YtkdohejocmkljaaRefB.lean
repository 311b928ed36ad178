/- The document's memory as a whole: the predicate, get and put under it. -/
import Derived.Test.YtkdohejocmkljaaRef
namespace Go.Proofs.Ytkdohejocmkljaa.Ref
open Go Go.RowKit Go.Proofs.Ytkdohejocmkljaa.Step Go.Proofs.Ytkdohejocmkljaa.Mem
set_option linter.unusedVariables false
set_option linter.unusedSimpArgs false
set_option maxRecDepth 100000

structure MemIn (W : World) (h fb : Nat) (cs : Array Value) (fs : Nat → Option (Nat × Nat)) (base : Int) (n : Nat) (mem : Nat → Int) (F : Nat → Prop) : Prop where
  hdr : Blk W h #[.int .u64 base, .int .i64 n, .slice (some ⟨fb, 0, none⟩) n n] 74
  row : Blk W fb cs 35
  csz : cs.size = n
  n_lo : 1 ≤ n
  n_hi : n ≤ 1024
  b_lo : 0 ≤ base
  b_hi : base ≤ 4503599627370496
  at_ : ∀ k, k < n → cs[k]? = some (sl (fs k))
  frame : ∀ k g c, k < n → fs k = some (g, c) → F g ∧ ∃ bs, Blk W g bs 5 ∧ 4096 ≤ bs.size ∧ ∀ j, j < 4096 → bs[j]? = some (.int .u8 (mem (k * 4096 + j)))
  none_ : ∀ k, k < n → fs k = none → ∀ j, j < 4096 → mem (k * 4096 + j) = 0
  inj : ∀ k k' g c c', k < n → k' < n → fs k = some (g, c) → fs k' = some (g, c') → k = k'
  foot_h : F h
  foot_fb : F fb
  bound : ∀ k, F k → k < W.heap.size
  byte : ∀ i, i < n * 4096 → 0 ≤ mem i ∧ mem i < 256
def Mem (W : World) (h : Nat) (base : Int) (n : Nat) (mem : Nat → Int) (F : Nat → Prop) : Prop := ∃ fb cs fs, MemIn W h fb cs fs base n mem F

theorem Mem.mod {W W' : World} {h n : Nat} {base : Int} {mem : Nat → Int} {F S : Nat → Prop} (r : Mem W h base n mem F) (m : Mod S W W') (hs : ∀ k, F k → ¬ S k) : Mem W' h base n mem F := by
  obtain ⟨fb, cs, fs, r⟩ := r
  exact ⟨fb, cs, fs, { r with hdr := r.hdr.mod m (hs _ r.foot_h), row := r.row.mod m (hs _ r.foot_fb), frame := fun k g c hk hf => (by
    obtain ⟨hF, bs, hb, h2⟩ := r.frame k g c hk hf
    exact ⟨hF, bs, hb.mod m (hs _ hF), h2⟩), bound := fun k hk => Nat.lt_of_lt_of_le (r.bound k hk) m.size }⟩
theorem Mem.below {W W' : World} {h n : Nat} {base : Int} {mem : Nat → Int} {F : Nat → Prop} (r : Mem W h base n mem F) (m : Below W.heap.size W W') : Mem W' h base n mem F := r.mod (Mod.of_below m Nil) fun _ _ h => h
theorem Mem.drawn {W W' : World} {h n : Nat} {base : Int} {mem : Nat → Int} {F : Nat → Prop} (r : Mem W h base n mem F) (hw : ∃ k, W' = W.drewN k) : Mem W' h base n mem F := r.below (below_drawn hw)
theorem Mem.bound {W : World} {h n : Nat} {base : Int} {mem : Nat → Int} {F : Nat → Prop} (r : Mem W h base n mem F) : ∀ k, F k → k < W.heap.size := by obtain ⟨fb, cs, fs, r⟩ := r; exact r.bound
theorem Mem.size {W : World} {h n : Nat} {base : Int} {mem : Nat → Int} {F : Nat → Prop} (r : Mem W h base n mem F) : 1 ≤ n ∧ n ≤ 1024 ∧ 0 ≤ base ∧ base ≤ 4503599627370496 := by obtain ⟨fb, cs, fs, r⟩ := r; exact ⟨r.n_lo, r.n_hi, r.b_lo, r.b_hi⟩
theorem Mem.byte {W : World} {h n : Nat} {base : Int} {mem : Nat → Int} {F : Nat → Prop} (r : Mem W h base n mem F) {i : Nat} (hi : i < n * 4096) : 0 ≤ mem i ∧ mem i < 256 := by obtain ⟨fb, cs, fs, r⟩ := r; exact r.byte i hi
theorem Mem.more {W : World} {h n : Nat} {base : Int} {mem : Nat → Int} {F F' : Nat → Prop} (r : Mem W h base n mem F) (hF : ∀ k, F k → F' k) (hb : ∀ k, F' k → k < W.heap.size) : Mem W h base n mem F' := by
  obtain ⟨fb, cs, fs, r⟩ := r
  exact ⟨fb, cs, fs, { r with frame := fun k g c hk hf => ⟨hF _ (r.frame k g c hk hf).1, (r.frame k g c hk hf).2⟩, foot_h := hF _ r.foot_h, foot_fb := hF _ r.foot_fb, bound := hb }⟩
theorem Mem.grow {W W1 W2 : World} {h n : Nat} {base : Int} {mem : Nat → Int} {F : Nat → Prop} (r : Mem W2 h base n mem (Grow (Grow F W W1) W1 W2)) (hF : ∀ k, F k → k < W.heap.size) (h1 : W.heap.size ≤ W1.heap.size) (h2 : W1.heap.size ≤ W2.heap.size) : Mem W2 h base n mem (Grow F W W2) :=
  r.more (Grow.grow h1 h2) (Grow.bound hF (Nat.le_trans h1 h2))
theorem Mem.cells {W : World} {h n : Nat} {base : Int} {mem : Nat → Int} {F : Nat → Prop} (r : Mem W h base n mem F) : ∃ fb : Nat, W.cell? ⟨h, 0, none⟩ = some (.int .u64 base) ∧ W.cell? ⟨h, 1, none⟩ = some (.int .i64 n) ∧ W.cell? ⟨h, 2, none⟩ = some (.slice (some ⟨fb, 0, none⟩) n n) := by
  obtain ⟨fb, cs, fs, r⟩ := r
  have c0 := r.hdr.cell 0
  have c1 := r.hdr.cell 1
  have c2 := r.hdr.cell 2
  simp only [List.getElem?_toArray, List.getElem?_cons_zero, List.getElem?_cons_succ] at c0 c1 c2
  exact ⟨fb, c0, c1, c2⟩

theorem get {W : World} {h n : Nat} {base : Int} {mem : Nat → Int} {F : Nat → Prop} (r : Mem W h base n mem F) (addr : Int) (ha : base ≤ addr) (hb : addr < base + n * 4096) :
    Calls Try.prog 40 #[.pointer (some ⟨h, 0, none⟩), .int .u64 addr] W fun e W' => e = .returned (.int .u8 (mem (addr - base).toNat)) ∧ W = W' := by
  obtain ⟨fb', c0, _, c1⟩ := r.cells
  obtain ⟨fb, cs, fs, r⟩ := r
  obtain ⟨k, j, hk, hj, hj4, hkn, ho⟩ := offs ha hb
  have := r.n_hi
  have := r.b_hi
  have c0 := r.hdr.cell 0
  have c1 := r.hdr.cell 2
  have ck := (r.row.cell k).trans (r.at_ k hkn)
  simp only [List.getElem?_toArray, List.getElem?_cons_zero, List.getElem?_cons_succ] at c0 c1
  rw [ho]
  cases hf : fs k with
  | none =>
    rw [r.none_ k hkn hf j hj4]
    rw [hf] at ck
    exact get_nil W h fb n base addr k r.b_lo ha (by omega) hk hkn r.n_hi c0 c1 ck
  | some p =>
    obtain ⟨g, c⟩ := p
    obtain ⟨_, bs, hb, _, hbs⟩ := r.frame k g c hkn hf
    rw [hf] at ck
    exact get_frame W h fb n g c base addr _ k j r.b_lo ha (by omega) hk hj hj4 hkn r.n_hi c0 c1 ck ((hb.cell j).trans (hbs j hj4))

theorem put {W : World} {h n : Nat} {base : Int} {mem : Nat → Int} {F : Nat → Prop} (r : Mem W h base n mem F) (addr v : Int) (ha : base ≤ addr) (hb : addr < base + n * 4096) (hv : 0 ≤ v ∧ v < 256) :
    Calls Try.prog 39 #[.pointer (some ⟨h, 0, none⟩), .int .u64 addr, .int .u8 v] W fun e W' => e = .returned (.tuple #[]) ∧ Mem W' h base n (upd mem (addr - base).toNat v) (Grow F W W') ∧ Mod F W W' := by
  obtain ⟨fb, cs, fs, r⟩ := r
  obtain ⟨k, j, hk, hj, hj4, hkn, ho⟩ := offs ha hb
  have := r.n_hi
  have := r.b_hi
  have hne : h ≠ fb := fun e => by subst e; have := (r.hdr.inj r.row).2; revert this; decide
  have hbyte : ∀ i, i < n * 4096 → 0 ≤ upd mem (k * 4096 + j) v i ∧ upd mem (k * 4096 + j) v i < 256 := fun i hi => by
    unfold upd; split
    · exact hv
    · exact r.byte i hi
  rw [ho]
  cases hf : fs k with
  | some p =>
    obtain ⟨g, c⟩ := p
    obtain ⟨hF, bs, hb, hsz, hbs⟩ := r.frame k g c hkn hf
    have ck := r.at_ k hkn
    rw [hf] at ck
    refine (put_old W h fb n g c base addr v cs bs k j r.b_lo ha (by omega) hk hj hj4 hkn r.n_hi r.hdr r.row ck hb hsz).mono ?_
    rintro e W' ⟨rfl, hb', m⟩
    have gh : h ≠ g := fun e => by subst e; have := (r.hdr.inj hb).2; revert this; decide
    have gf : fb ≠ g := fun e => by subst e; have := (r.row.inj hb).2; revert this; decide
    refine ⟨rfl, ⟨fb, cs, fs, ?_⟩, m.mono fun i _ e => by obtain rfl : i = g := e; exact hF⟩
    refine { hdr := r.hdr.one m gh, row := r.row.one m gf, csz := r.csz, n_lo := r.n_lo, n_hi := r.n_hi, b_lo := r.b_lo, b_hi := r.b_hi, at_ := r.at_, frame := fun k' g' c' hk' hf' => ?_, none_ := fun k' hk' hf' j' hj' => ?_, inj := r.inj, foot_h := .inl r.foot_h, foot_fb := .inl r.foot_fb, bound := Grow.bound r.bound m.size, byte := hbyte }
    · obtain ⟨hF', bs', hb2, hsz', hbs'⟩ := r.frame k' g' c' hk' hf'
      refine ⟨.inl hF', ?_⟩
      by_cases e : g' = g
      · subst e
        obtain rfl := r.inj k' k g' c' c hk' hkn hf' hf
        refine ⟨_, hb', by simpa using hsz, fun j' hj' => ?_⟩
        unfold upd
        by_cases ej : j = j'
        · subst ej; rw [if_pos rfl]; simp [show j < bs.size by omega]
        · rw [if_neg (by omega), Array.getElem?_setIfInBounds_ne ej]; exact hbs j' hj'
      · refine ⟨bs', hb2.one m e, hsz', fun j' hj' => ?_⟩
        have : k' ≠ k := fun ek => e (by subst ek; rw [hf] at hf'; exact (congrArg Prod.fst (Option.some.inj hf')).symm)
        unfold upd
        rw [if_neg (by omega)]; exact hbs' j' hj'
    · have : k' ≠ k := fun ek => by subst ek; rw [hf] at hf'; cases hf'
      unfold upd
      rw [if_neg (by omega)]; exact r.none_ k' hk' hf' j' hj'
  | none =>
    have ck := r.at_ k hkn
    rw [hf] at ck
    refine (put_new W h fb n base addr v cs k j r.b_lo ha (by omega) hk hj hj4 hkn r.n_hi r.hdr r.row r.csz hne ck).mono ?_
    rintro e W' ⟨rfl, g, hg, hfb, hnew, m⟩
    refine ⟨rfl, ⟨fb, cs.setIfInBounds k (.slice (some ⟨g, 0, none⟩) 4096 4096), fun i => if i = k then some (g, 4096) else fs i, ?_⟩, m.mono fun i _ e => by obtain rfl : i = fb := e; exact r.foot_fb⟩
    refine { hdr := r.hdr.one m hne, row := hfb, csz := by simpa using r.csz, n_lo := r.n_lo, n_hi := r.n_hi, b_lo := r.b_lo, b_hi := r.b_hi, at_ := fun k' hk' => ?_, frame := fun k' g' c' hk' hf' => ?_, none_ := fun k' hk' hf' j' hj' => ?_, inj := fun a b g' c c' ha hb h1 h2 => ?_, foot_h := .inl r.foot_h, foot_fb := .inl r.foot_fb, bound := Grow.bound r.bound m.size, byte := hbyte }
    · by_cases e : k = k'
      · subst e; simp [r.csz, hkn, sl]
      · rw [Array.getElem?_setIfInBounds_ne e]; simp only [if_neg (Ne.symm e)]; exact r.at_ k' hk'
    · by_cases e : k' = k
      · subst e
        simp only [if_true, Option.some.injEq, Prod.mk.injEq] at hf'
        obtain ⟨rfl, rfl⟩ := hf'
        refine ⟨.inr ⟨hnew, hg.lt⟩, _, hg, by rw [row_size]; exact Nat.le_refl _, fun j' hj' => ?_⟩
        rw [row_at _ _ hj']
        unfold upd
        by_cases ej : j = j'
        · subst ej; rw [if_pos rfl, if_pos rfl]
        · rw [if_neg (Ne.symm ej), if_neg (by omega), r.none_ k' hk' hf j' hj']
      · simp only [if_neg e] at hf'
        obtain ⟨hF', bs', hb2, hsz', hbs'⟩ := r.frame k' g' c' hk' hf'
        have : g' ≠ fb := fun eg => by subst eg; have := (hb2.inj r.row).2; revert this; decide
        refine ⟨.inl hF', bs', hb2.one m this, hsz', fun j' hj' => ?_⟩
        unfold upd
        rw [if_neg (by omega)]; exact hbs' j' hj'
    · by_cases e : k' = k
      · simp [e] at hf'
      · simp only [if_neg e] at hf'
        unfold upd
        rw [if_neg (by omega)]; exact r.none_ k' hk' hf' j' hj'
    · have old : ∀ d c, d < n → fs d ≠ some (g, c) := fun d c hd hcg => by
        have := r.bound g (r.frame d g c hd hcg).1
        omega
      by_cases ea : a = k <;> by_cases eb : b = k
      · rw [ea, eb]
      · simp only [if_pos ea, if_neg eb, Option.some.injEq, Prod.mk.injEq] at h1 h2; obtain ⟨rfl, _⟩ := h1; exact absurd h2 (old b _ hb)
      · simp only [if_neg ea, if_pos eb, Option.some.injEq, Prod.mk.injEq] at h1 h2; obtain ⟨rfl, _⟩ := h2; exact absurd h1 (old a _ ha)
      · simp only [if_neg ea, if_neg eb] at h1 h2; exact r.inj a b g' c c' ha hb h1 h2

theorem right_any (s : Int) (w : World) : Calls Try.prog 38 #[.int .i64 s] w fun e w' => e = .returned (.bool (wholeB s)) ∧ w = w' := by
  by_cases h1 : s = 1
  · subst h1; go_enter Try.func38, Try.ntmps38; go_wp2; go_ret; exact ⟨rfl, rfl⟩
  by_cases h2 : s = 2
  · subst h2; go_enter Try.func38, Try.ntmps38; go_wp2; go_ret; exact ⟨rfl, rfl⟩
  by_cases h3 : s = 4
  · subst h3; go_enter Try.func38, Try.ntmps38; go_wp2; go_ret; exact ⟨rfl, rfl⟩
  by_cases h4 : s = 8
  · subst h4; go_enter Try.func38, Try.ntmps38; go_wp2; go_ret; exact ⟨rfl, rfl⟩
  have E := Lib.hid (show wholeB s = false from decide_eq_false (by omega))
  have d1 : (s == 1) = false := by simpa using h1
  have d2 : (s == 2) = false := by simpa using h2
  have d3 : (s == 4) = false := by simpa using h3
  have d4 : (s == 8) = false := by simpa using h4
  go_enter Try.func38, Try.ntmps38; go_wp2; go_ret; exact ⟨by rw [E.out]; rfl, rfl⟩

set_option maxHeartbeats 1000000 in
theorem has_any {W : World} {h n : Nat} {base : Int} {mem : Nat → Int} {F : Nat → Prop} (r : Mem W h base n mem F) (addr size : Int) (ha : 0 ≤ addr ∧ addr < 18446744073709551616) (hs : size < 9223372036854775808) :
    Calls Try.prog 25 #[.pointer (some ⟨h, 0, none⟩), .int .u64 addr, .int .i64 size] W fun e W' => e = .returned (.bool (hasB base n addr size)) ∧ W = W' := by
  obtain ⟨fb, c0, c1, c2⟩ := r.cells
  obtain ⟨n1, n2, b1, b2⟩ := r.size
  obtain ⟨ha1, ha2⟩ := ha
  clear r
  have hsz := Lib.hid hs
  clear hs
  by_cases h1 : size < 0
  · have E := Lib.hid (show hasB base n addr size = false from decide_eq_false (by omega))
    go_enter Try.func25, Try.ntmps25
    go_wp2
    go_ret
    exact ⟨by rw [E.out]; rfl, rfl⟩
  · have d1 : decide (size < 0) = false := by simpa using h1
    have h1' : 0 ≤ size := by omega
    clear h1
    by_cases h2 : addr < base
    · have E := Lib.hid (show hasB base n addr size = false from decide_eq_false (by omega))
      go_enter Try.func25, Try.ntmps25
      go_wp2
      go_ret
      exact ⟨by rw [E.out]; rfl, rfl⟩
    · have d2 : decide (addr < base) = false := by simpa using h2
      have h2' : base ≤ addr := by omega
      clear h2
      have hs : IntKind.u64.wrap (addr - base) = addr - base := IntWalk.u64_in _ (by omega)
      have hs0 : IntKind.u64.wrap size = size := IntWalk.u64_in _ (by have := hsz.out; omega)
      by_cases h3 : addr - base ≤ (n : Int) * 4096
      · have hs2 : IntKind.u64.wrap ((n : Int) * 4096 - (addr - base)) = (n : Int) * 4096 - (addr - base) := IntWalk.u64_in _ (by omega)
        have E := Lib.hid (show hasB base n addr size = decide (size ≤ (n : Int) * 4096 - (addr - base)) from decide_eq_decide.2 (by omega))
        go_enter Try.func25, Try.ntmps25
        go_wp2
        go_ret
        exact ⟨by rw [E.out]; rfl, rfl⟩
      · have d3 : decide (addr - base ≤ (n : Int) * 4096) = false := by simpa using h3
        have h3' : (n : Int) * 4096 < addr - base := by omega
        clear h3
        have E := Lib.hid (show hasB base n addr size = false from decide_eq_false (by omega))
        go_enter Try.func25, Try.ntmps25
        go_wp2
        go_ret
        exact ⟨by rw [E.out]; rfl, rfl⟩
end Go.Proofs.Ytkdohejocmkljaa.Ref
