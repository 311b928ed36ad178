/- Slices of bytes; a memory tells bytes and is filled with bytes; two slices are the same bytes. -/
import Derived.Test.YtkdohejocmkljaaOwn
namespace Go.Proofs.Ytkdohejocmkljaa.Mem
open Go Go.RowKit Go.Proofs.Ytkdohejocmkljaa.Step
set_option linter.unusedVariables false
set_option linter.unusedSimpArgs false
set_option maxRecDepth 100000

/-- A slice's bytes, in blocks of G. -/
def Rd (W : World) (A : Option Addr) (n : Nat) (f : Nat → Int) (G : Nat → Prop) : Prop := ∀ k, k < n → ∃ ad, A = some ad ∧ G ad.block ∧ W.cell? (ad.add k) = some (.int .u8 (f k)) ∧ 0 ≤ f k ∧ f k < 256
theorem block_add (a : Addr) (n : Nat) : (a.add n).block = a.block := by unfold Addr.add; split <;> rfl
theorem Rd.mod {W W' : World} {A : Option Addr} {n : Nat} {f : Nat → Int} {G S : Nat → Prop} (r : Rd W A n f G) (m : Mod S W W') (hs : ∀ k, G k → ¬ S k) (hb : ∀ k, G k → k < W.heap.size) : Rd W' A n f G := fun k hk => by
  obtain ⟨ad, e, hG, hc, hv⟩ := r k hk
  exact ⟨ad, e, hG, (World.cell?_of_block (w := W) (m.block _ (by rw [block_add]; exact hb _ hG) (by rw [block_add]; exact hs _ hG))).trans hc, hv⟩
theorem Rd.below {W W' : World} {A : Option Addr} {n : Nat} {f : Nat → Int} {G : Nat → Prop} (r : Rd W A n f G) (m : Below W.heap.size W W') (hb : ∀ k, G k → k < W.heap.size) : Rd W' A n f G := r.mod (Mod.of_below m Nil) (fun _ _ h => h) hb
theorem Rd.drawn {W W' : World} {A : Option Addr} {n : Nat} {f : Nat → Int} {G : Nat → Prop} (r : Rd W A n f G) (m : ∃ k, W' = W.drewN k) : Rd W' A n f G := by obtain ⟨k, rfl⟩ := m; exact r
theorem Rd.congr {W : World} {A : Option Addr} {n : Nat} {f g : Nat → Int} {G : Nat → Prop} (r : Rd W A n f G) (h : ∀ k, k < n → f k = g k) : Rd W A n g G := fun k hk => by rw [← h k hk]; exact r k hk
theorem Rd.more {W : World} {A : Option Addr} {n : Nat} {f : Nat → Int} {G G' : Nat → Prop} (r : Rd W A n f G) (h : ∀ k, G k → G' k) : Rd W A n f G' := fun k hk => by
  obtain ⟨ad, e, hG, hc⟩ := r k hk
  exact ⟨ad, e, h _ hG, hc⟩
/-- A row of bytes. -/
def row (n : Nat) (f : Nat → Int) : Array Value := (Array.range n).map fun k => .int .u8 (f k)
theorem row_size (n : Nat) (f : Nat → Int) : (row n f).size = n := by simp [row]
theorem row_at (n : Nat) (f : Nat → Int) {k : Nat} (h : k < n) : (row n f)[k]? = some (.int .u8 (f k)) := by simp [row, h]
theorem row_set (n : Nat) (f : Nat → Int) {k : Nat} (v : Int) : (row n f).setIfInBounds k (.int .u8 v) = row n (upd f k v) := by
  apply Array.ext (by simp [row])
  intro i h1 h2
  by_cases e : k = i
  · subst e; simp [row, upd]
  · rw [Array.getElem_setIfInBounds_ne (by simpa [row] using h2) e]
    simp [row, upd, Ne.symm e]
theorem row_zero (n : Nat) : Array.replicate n (Value.int .u8 0) = row n fun _ => 0 := by
  apply Array.ext (by simp [row])
  intro i h1 h2
  simp [row]
theorem row_congr {n : Nat} {f g : Nat → Int} (h : ∀ k, k < n → f k = g k) : row n f = row n g := by
  apply Array.ext (by simp [row])
  intro i h1 h2
  simp only [row, Array.getElem_map, Array.getElem_range]
  rw [h i (by simpa [row] using h1)]
theorem rd_row {W : World} {g n : Nat} {f : Nat → Int} {G : Nat → Prop} (b : Blk W g (row n f) 5) (hG : G g) (hf : ∀ k, k < n → 0 ≤ f k ∧ f k < 256) : Rd W (some ⟨g, 0, none⟩) n f G := fun k hk => by
  refine ⟨_, rfl, hG, ?_, hf k hk⟩
  have : (⟨g, 0, none⟩ : Addr).add k = ⟨g, k, none⟩ := by unfold Addr.add; split <;> simp_all
  rw [this]
  exact (b.cell k).trans (row_at n f hk)

set_option maxHeartbeats 1000000 in
theorem same_any {W : World} {A B : Option Addr} {n ca cb : Nat} {f : Nat → Int} {G G' : Nat → Prop} (ra : Rd W A n f G) (rb : Rd W B n f G') (hn : n ≤ 1000000000000) :
    Calls Try.prog 17 #[.slice A n ca, .slice B n cb] W fun e W' => e = .returned (.bool true) ∧ ∃ k, W' = W.drewN k := by
  have RA := Lib.hid ra
  have RB := Lib.hid rb
  clear ra rb
  go_enter Try.func17, Try.ntmps17
  go_wp2
  go_loopw [5] (fun i w => ∃ k : Nat, k ≤ n ∧ i = .int .i64 k ∧ ∃ m, w = W.drewN m) (fun i _ => (n - intOf i).toNat)
  case atStart => exact ⟨0, Nat.zero_le _, rfl, 0, rfl⟩
  case round =>
    obtain ⟨k, hk, rfl, hm⟩ := hrel
    have HM := Lib.hid hm
    by_cases hlt : k < n
    · obtain ⟨ad, rfl, _, hc, hf1, hf2⟩ := (RA.out.drawn hm) k hlt
      obtain ⟨bd, rfl, _, hd, _⟩ := (RB.out.drawn hm) k hlt
      clear hm
      go_wp2
      go_quiet (fail)
      go_wp2
      refine ⟨⟨k + 1, by omega, by go_num, ?_⟩, by simp [intOf]; omega⟩
      obtain ⟨m, hm⟩ := HM.out
      exact ⟨m + nq, by rw [hm, World.drewN_drewN]⟩
    · clear hm
      obtain rfl : k = n := by omega
      go_wp2
      go_ret
      exact ⟨rfl, HM.out⟩

set_option maxHeartbeats 1000000 in
theorem bytes_yes {W : World} {h n : Nat} {base : Int} {mem : Nat → Int} {F : Nat → Prop} (r : Ram W h base n mem F) (addr : Int) (s : Nat) (ha : 0 ≤ addr ∧ addr < 18446744073709551616) (hs9 : (s : Int) < 9223372036854775808) (h2 : hasB base n addr s = true) :
    Calls Try.prog 16 #[.pointer (some ⟨h, 0, none⟩), .int .u64 addr, .int .i64 s] W fun e W' => ∃ g, e = .returned (.tuple #[.slice (some ⟨g, 0, none⟩) s s, .bool true]) ∧ Blk W' g (row s fun k => mem ((addr - base).toNat + k)) 5 ∧ W.heap.size ≤ g ∧ Below W.heap.size W W' := by
  obtain ⟨hh1, hh2, hh3⟩ := of_decide_eq_true h2
  have T2 := Lib.hid ((has_any r addr s ha hs9).mono fun e w' h => (by rw [h2] at h; exact h : e = .returned (.bool true) ∧ ∃ k, w' = W.drewN k))
  obtain ⟨n1, n2, b1, b2⟩ := r.size
  have R := Lib.hid r
  obtain ⟨ha1, ha2⟩ := ha
  have s1 : s ≤ 4194304 := by omega
  have HN := Lib.hid (show 1 * s ≤ 281474976710656 by omega)
  have HN2 := Lib.hid (show s ≤ 9223372036854775807 by omega)
  clear h2 r hs9
  go_enter Try.func16, Try.ntmps16
  go_wp2_with (first
    | (go_at_call 13; refine (T2.out).mono ?_; rintro e w1 ⟨rfl, hw⟩; have R1 := Lib.hid (R.out.drawn hw); have HW := Lib.hid (below_drawn hw); clear hw)
    | (refine Step.make (t := 35) rfl rfl rfl rfl Try.underlying35 mk_u8 rfl HN.out HN2.out ?_; intro g w2 b hg hb; have B1 := Lib.hid b; have HG := Lib.hid hg; have HM := Lib.hid hb; have R2 := Lib.hid (R1.out.below hb); clear b hg hb))
  go_loopw [9, 19] (fun x i w => ∃ k : Nat, k ≤ s ∧ i = .int .i64 k ∧ Blk w g (row s fun j => if j < k then mem ((addr - base).toNat + j) else 0) 5 ∧ Mod (One g) w2 w) (fun _ i _ => (s - intOf i).toNat)
  case atStart => exact ⟨0, Nat.zero_le _, rfl, by have := B1.out; rw [row_zero] at this; simpa using this, Mod.refl _ _⟩
  case round =>
    obtain ⟨k, hk, rfl, hB, hM⟩ := hrel
    have HB := Lib.hid hB
    have HM2 := Lib.hid hM
    have RR := Lib.hid (R2.out.mod hM (fun i hi e => by have := R.out.bound i hi; have := HG.out; have := HW.out.size; obtain rfl : i = g := e; omega))
    clear hB hM
    by_cases hlt : k < s
    · have T3 := Lib.hid (get RR.out (addr + k) (by omega) (by omega))
      have HI := Lib.hid (show Nat.blt k (row s fun j => if j < k then mem ((addr - base).toNat + j) else 0).size = true by rw [row_size]; exact Nat.ble_eq_true_of_le hlt)
      go_wp2_with (first
        | (go_at_call 35; refine (T3.out).mono ?_; rintro e w3 ⟨rfl, rfl⟩)
        | ((with_reducible refine Step.gate_store (t := 5) rfl ?_); refine Step.store HB.out rfl rfl rfl rfl rfl pl_u8 rfl HI.out ?_; intro w4 nb m; have NB := Lib.hid nb; have M4 := Lib.hid m; clear nb m))
      refine ⟨⟨k + 1, by omega, by go_num, ?_, HM2.out.trans M4.out⟩, by simp [intOf]; omega⟩
      have nb : Blk w4 g ((row s fun j => if j < k then mem ((addr - base).toNat + j) else 0).setIfInBounds k (.int .u8 (mem (addr + k - base).toNat))) 5 := NB.out
      rw [row_set] at nb
      refine (row_congr fun j hj => ?_) ▸ nb
      unfold upd
      by_cases e : j = k
      · subst e; rw [if_pos rfl, if_pos (by omega)]; congr 1; omega
      · rw [if_neg e]
        dsimp only
        by_cases e2 : j < k
        · rw [if_pos e2, if_pos (by omega)]
        · rw [if_neg e2, if_neg (by omega)]
    · obtain rfl : k = s := by omega
      go_wp2
      refine bodyPost_ret (results_tmp2 rfl _ _ _) rfl ⟨g, rfl, (row_congr fun j hj => if_pos hj) ▸ HB.out, Nat.le_trans HW.out.size HG.out, ?_⟩
      have b2 : Below W.heap.size W w2 := HW.out.trans (HM.out.mono HW.out.size)
      refine below_mod (Below.refl _ _) (Nat.le_refl _) ((Mod.of_below b2 (One g)).trans HM2.out) fun i _ e => ?_
      obtain rfl : i = g := e
      exact Nat.le_trans HW.out.size HG.out

set_option maxHeartbeats 1000000 in
theorem bytes_no {W : World} {h n : Nat} {base : Int} {mem : Nat → Int} {F : Nat → Prop} (r : Ram W h base n mem F) (addr s : Int) (ha : 0 ≤ addr ∧ addr < 18446744073709551616) (hs9 : s < 9223372036854775808) (h2 : hasB base n addr s = false) :
    Calls Try.prog 16 #[.pointer (some ⟨h, 0, none⟩), .int .u64 addr, .int .i64 s] W fun e W' => e = .returned (.tuple #[.slice none 0 0, .bool false]) ∧ ∃ k, W' = W.drewN k := by
  have T2 := Lib.hid ((has_any r addr s ha hs9).mono fun e w' h => (by rw [h2] at h; exact h : e = .returned (.bool false) ∧ ∃ k, w' = W.drewN k))
  clear h2 r hs9
  go_enter Try.func16, Try.ntmps16
  go_wp2_with (first
    | (go_at_call 13; refine (T2.out).mono ?_; rintro e w1 ⟨rfl, hw⟩; have HW := Lib.hid hw; clear hw))
  exact bodyPost_ret (results_tmp2 rfl _ _ _) rfl ⟨rfl, HW.out⟩

/-- Bytes, filled in. -/
def fl (mem : Nat → Int) (off len : Nat) (f : Nat → Int) : Nat → Int := fun i => if off ≤ i ∧ i < off + len then f (i - off) else mem i
theorem fl_zero (mem : Nat → Int) (off : Nat) (f : Nat → Int) : fl mem off 0 f = mem := funext fun i => if_neg (by omega)
theorem fl_succ (mem : Nat → Int) (off k : Nat) (f : Nat → Int) : upd (fl mem off k f) (off + k) (f k) = fl mem off (k + 1) f := by
  funext i
  unfold upd fl
  by_cases h : i = off + k
  · subst h; rw [if_pos rfl, if_pos (by omega), Nat.add_sub_cancel_left]
  · rw [if_neg h]
    by_cases h2 : off ≤ i ∧ i < off + k
    · rw [if_pos h2, if_pos (by omega)]
    · rw [if_neg h2, if_neg (by omega)]

set_option maxHeartbeats 1000000 in
theorem fill_yes {W : World} {h n : Nat} {base : Int} {mem : Nat → Int} {F G : Nat → Prop} (r : Ram W h base n mem F) (addr : Int) {A : Option Addr} {s c : Nat} {f : Nat → Int} (rb : Rd W A s f G) (hG : ∀ k, G k → ¬ F k ∧ k < W.heap.size) (ha : 0 ≤ addr ∧ addr < 18446744073709551616) (h2 : hasB base n addr s = true) :
    Calls Try.prog 15 #[.pointer (some ⟨h, 0, none⟩), .int .u64 addr, .slice A s c] W fun e W' => e = .returned (.bool true) ∧ Ram W' h base n (fl mem (addr - base).toNat s f) (Grow F W W') ∧ Mod F W W' := by
  obtain ⟨hh1, hh2, hh3⟩ := of_decide_eq_true h2
  obtain ⟨n1, n2, b1, b2⟩ := r.size
  have hs9 : (s : Int) < 9223372036854775808 := by omega
  have T2 := Lib.hid ((has_any r addr s ha hs9).mono fun e w' h => (by rw [h2] at h; exact h : e = .returned (.bool true) ∧ ∃ k, w' = W.drewN k))
  have R := Lib.hid r
  have RB := Lib.hid rb
  have HG := Lib.hid hG
  obtain ⟨ha1, ha2⟩ := ha
  have s1 : s ≤ 4194304 := by omega
  clear h2 r hs9 rb hG
  go_enter Try.func15, Try.ntmps15
  go_wp2_with (first
    | (go_at_call 13; refine (T2.out).mono ?_; rintro e w1 ⟨rfl, hw⟩; have R1 := Lib.hid (R.out.drawn hw); have HW := Lib.hid (below_drawn hw); clear hw))
  go_loopw [7, 8, 17] (fun x y i W1 => ∃ k : Nat, k ≤ s ∧ i = .int .i64 k ∧ Ram W1 h base n (fl mem (addr - base).toNat k f) (Grow F W W1) ∧ Mod F W W1) (fun _ _ i _ => (s - intOf i).toNat)
  case atStart =>
    refine ⟨0, Nat.zero_le _, rfl, ?_, ?_⟩
    · rw [fl_zero]; exact R1.out.more (fun k hk => .inl hk) (Grow.bound R.out.bound HW.out.size)
    · exact Mod.of_below HW.out F
  case round =>
    obtain ⟨k, hk, rfl, hR, hM⟩ := hrel
    by_cases hlt : k < s
    · obtain ⟨ad, rfl, _, hc, hf⟩ := (RB.out.mod hM (fun i hi => (HG.out i hi).1) (fun i hi => (HG.out i hi).2)) k hlt
      have T3 := Lib.hid (put hR (addr + k) (f k) (by omega) (by omega) hf)
      have hsz := Lib.hid hM.size
      have HM := Lib.hid hM
      clear hR hM hf
      go_wp2_with (go_at_call 36; refine (T3.out).mono ?_; rintro e w2 ⟨rfl, hR, hM⟩; have HR2 := Lib.hid hR; have HM2 := Lib.hid hM; clear hR hM)
      refine ⟨⟨k + 1, by omega, by go_num, ?_, mod_grow HM.out HM2.out⟩, by simp [intOf]; omega⟩
      have := (HR2.out.grow R.out.bound hsz.out HM2.out.size)
      rw [show (addr + (k : Int) - base).toNat = (addr - base).toNat + k by omega, fl_succ] at this
      exact this
    · obtain rfl : k = s := by omega
      have HR := Lib.hid hR
      have HM := Lib.hid hM
      clear hR hM
      go_wp2
      go_ret
      exact ⟨rfl, HR.out, HM.out⟩

set_option maxHeartbeats 1000000 in
theorem fill_no {W : World} {h n : Nat} {base : Int} {mem : Nat → Int} {F : Nat → Prop} (r : Ram W h base n mem F) (addr : Int) (A : Option Addr) (s c : Nat) (ha : 0 ≤ addr ∧ addr < 18446744073709551616) (hs9 : (s : Int) < 9223372036854775808) (h2 : hasB base n addr s = false) :
    Calls Try.prog 15 #[.pointer (some ⟨h, 0, none⟩), .int .u64 addr, .slice A s c] W fun e W' => e = .returned (.bool false) ∧ ∃ k, W' = W.drewN k := by
  have T2 := Lib.hid ((has_any r addr s ha hs9).mono fun e w' h => (by rw [h2] at h; exact h : e = .returned (.bool false) ∧ ∃ k, w' = W.drewN k))
  clear h2 r hs9
  go_enter Try.func15, Try.ntmps15
  go_wp2_with (first
    | (go_at_call 13; refine (T2.out).mono ?_; rintro e w1 ⟨rfl, hw⟩; have HW := Lib.hid hw; clear hw))
  go_ret
  exact ⟨rfl, HW.out⟩

theorem base_any {W : World} {h n : Nat} {base : Int} {mem : Nat → Int} {F : Nat → Prop} (r : Ram W h base n mem F) :
    Calls Try.prog 23 #[.pointer (some ⟨h, 0, none⟩)] W fun e W' => e = .returned (.int .u64 base) ∧ W = W' := by
  obtain ⟨fb, c0, c1⟩ := r.cells
  clear r
  go_enter Try.func23, Try.ntmps23
  go_wp2
  go_ret
  exact ⟨rfl, rfl⟩
theorem frames_any {W : World} {h n : Nat} {base : Int} {mem : Nat → Int} {F : Nat → Prop} (r : Ram W h base n mem F) :
    Calls Try.prog 24 #[.pointer (some ⟨h, 0, none⟩)] W fun e W' => e = .returned (.int .i64 n) ∧ W = W' := by
  obtain ⟨fb, c0, c1⟩ := r.cells
  clear r
  go_enter Try.func24, Try.ntmps24
  go_wp2
  go_ret
  exact ⟨rfl, rfl⟩
end Go.Proofs.Ytkdohejocmkljaa.Mem
