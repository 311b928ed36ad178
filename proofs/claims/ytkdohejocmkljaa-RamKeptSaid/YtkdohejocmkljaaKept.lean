/- The walk of RamKept: bytes that are handed in stay, spare room too, and are not kept; bytes that are told are new memory. -/
import Derived.Test.YtkdohejocmkljaaLend
import Derived.Test.YtkdohejocmkljaaOpenB
namespace Go.Proofs.Ytkdohejocmkljaa.Mem
open Go Go.RowKit Go.Proofs.Ytkdohejocmkljaa.Step
set_option linter.unusedVariables false
set_option linter.unusedSimpArgs false
set_option maxRecDepth 100000

theorem rd_blk {W : World} {g n : Nat} {cur : Array Value} {f : Nat → Int} {G : Nat → Prop} (b : Blk W g cur 5) (hG : G g) (hc : ∀ k, k < n → cur[k]? = some (.int .u8 (f k))) (hf : ∀ k, k < n → 0 ≤ f k ∧ f k < 256) : Rd W (some ⟨g, 0, none⟩) n f G := fun k hk => by
  refine ⟨_, rfl, hG, ?_, hf k hk⟩
  have : (⟨g, 0, none⟩ : Addr).add k = ⟨g, k, none⟩ := by unfold Addr.add; split <;> simp_all
  rw [this]
  exact (b.cell k).trans (hc k hk)
theorem rd_u8 {W : World} {A : Option Addr} {n : Nat} {f : Nat → Int} {G : Nat → Prop} (r : RdI .u8 W A n f G) : Rd W A n f G := fun k hk => by
  obtain ⟨ad, e, hG, hc, hw⟩ := r k hk
  exact ⟨ad, e, hG, hc, u8_bd hw⟩
theorem Rd.less {W : World} {A : Option Addr} {n m : Nat} {f : Nat → Int} {G : Nat → Prop} (r : Rd W A n f G) (h : m ≤ n) : Rd W A m f G := fun k hk => r k (by omega)
/-- Every cell up to m is a byte. -/
def AllB (cur : Array Value) (m : Nat) : Prop := ∀ k, k < m → ∃ x, cur[k]? = some (.int .u8 x)
theorem AllB.set {cur : Array Value} {m k : Nat} (h : AllB cur m) (y : Int) : AllB (cur.setIfInBounds k (.int .u8 y)) m := fun j hj => by
  obtain ⟨x, hx⟩ := h j hj
  by_cases e : k = j
  · subst e
    have := (Array.getElem?_eq_some_iff.1 hx).1
    exact ⟨y, by simp [this]⟩
  · exact ⟨x, by rw [Array.getElem?_setIfInBounds_ne e]; exact hx⟩

set_option maxHeartbeats 4000000 in
theorem kept_short (at0 : Int) (A : Option Addr) (len cap : Nat) (f : Nat → Int) (W : World) (w0 : (Lit.int .i64 at0).wf = true) (w1 : RdI .u8 W A len f (· < W.heap.size)) (x1 : A = none → len = 0 ∧ cap = 0) (x2 : len ≤ cap) (hl : len ≤ 4096) :
    Calls Try.prog 5 #[.int .i64 at0, .slice A len cap] W fun e W' => e = .returned (.bool true) ∧ Below W.heap.size W W' := by
  have RA := Lib.hid ((rd_u8 w1).less (show len ≤ len by omega))
  have NIL := Lib.hid (show A = none → len = 0 ∧ cap = 0 from fun h => ⟨by have := x1 h; omega, (x1 h).2⟩)
  have FB := Lib.hid (show ∀ k, k < len → 0 ≤ f k ∧ f k < 256 from fun k hk => by obtain ⟨_, _, _, _, h⟩ := (rd_u8 w1) k (by omega); exact h)
  obtain ⟨q, hq⟩ := Int.eq_ofNat_of_zero_le (show 0 ≤ at0 % 4096 by omega)
  have q4 : q < 4096 := by omega
  have T1 := Lib.hid (fun w => new_z w 4096 3 3 rfl (by omega) (by decide))
  have P := Lib.hid (fun w => (place_any at0 4096 (by omega) (i64_bd w0) (by omega) w).mono fun e w' h => (by rw [hq] at h; exact h : e = .returned (.int .i64 q) ∧ w = w'))
  have AW := Lib.hid awake
  have MB := Lib.hid (show ∀ k, k < len + 70 → 0 ≤ marks len f k ∧ marks len f k < 256 from fun k hk => by
    unfold marks
    by_cases h : k < len
    · rw [if_pos h]; exact FB.out k h
    · rw [if_neg h]; omega)
  clear w0 w1 x1 hq
  go_enter Try.func5, Try.ntmps5
  go_wp2_with (first
    | (go_at_call 10; refine (T1.out _).mono ?_; rintro e w1 ⟨h, rfl, r, m⟩; have S := Lib.hid (Solo.made (Mod.refl Nil W) r m); clear r m)
    | (go_at_call 9; refine (P.out _).mono ?_; rintro e w2 ⟨rfl, rfl⟩)
    | (go_at_call 18; have L := Lib.hid (lend_any (c := cap) (Arg.mk (RA.out.mod S.out.mod (fun k hk h => h) (fun k hk => hk)) NIL.out) (by omega)); refine (L.out).mono ?_; rintro e w3 ⟨g, capL, cur, rfl, b, hc, hg, hb⟩; have B3 := Lib.hid b; have S3 := Lib.hid (S.out.below hb); have HF := Lib.hid (show ¬ Grow Nil W w1 g from fun hf => by have := S.out.ram.bound g hf; omega); have HC := Lib.hid hc; have HGW := Lib.hid (show W.heap.size ≤ g from Nat.le_trans S.out.mod.size hg); clear b hc hg hb L)
    | (go_at_call 15; have FI := Lib.hid (fill_yes S3.out.ram (4096 + q) (G := One g) (c := capL) (rd_blk (n := len) (f := marks len f) B3.out rfl (fun k hk => HC.out k (by omega)) (fun k hk => MB.out k (by omega))) (fun i e => by obtain rfl : i = g := e; exact ⟨HF.out, B3.out.lt⟩) (by omega) (decide_eq_true (by omega))); refine (FI.out).mono ?_; rintro e w4 ⟨rfl, r, m⟩; have S4 := Lib.hid (S3.out.step r m); have B4 := Lib.hid (B3.out.mod m HF.out); have HF4 := Lib.hid (show ¬ Grow (Grow Nil W w1) w3 w4 g from fun hf => hf.elim HF.out fun e => by have := B3.out.lt; omega); clear r m FI)
    | (go_at_call 19; have BK := Lib.hid (back_any (n := len) (c := cap) (cb := capL) (RA.out.mod S4.out.mod (fun k hk h => h) (fun k hk => hk)) (rd_blk (G := One g) B4.out rfl HC.out MB.out) (by omega) (fun k hk => rfl)); refine (BK.out).mono ?_; rintro e w5 ⟨rfl, hw⟩; have S5 := Lib.hid (S4.out.drawn hw); have B5 := Lib.hid (B4.out.below (below_drawn hw)); clear hw BK))
  obtain ⟨F5, hS5, hF5⟩ : ∃ F5, Solo W w5 h 4096 3 (fl (fun _ => 0) ((4096 : Int) + q - 4096).toNat len (marks len f)) F5 ∧ ¬ F5 g := ⟨_, S5.out, HF4.out⟩
  have Q5 := Lib.hid hS5
  have HF5 := Lib.hid hF5
  clear hS5 hF5 S S3 S4 S5 HF HF4
  go_loopw [10] (fun i w => ∃ k : Nat, k ≤ len + 70 ∧ i = .int .i64 k ∧ (∃ cc, Blk w g cc 5 ∧ AllB cc (len + 70)) ∧ Solo W w h 4096 3 (fl (fun _ => 0) ((4096 : Int) + q - 4096).toNat len (marks len f)) F5) (fun i _ => (len + 70 - intOf i).toNat)
  case atStart => exact ⟨0, by omega, rfl, ⟨cur, B5.out, fun k hk => ⟨_, HC.out k hk⟩⟩, Q5.out⟩
  case round =>
    obtain ⟨k, hk, rfl, ⟨cc, hB, hA⟩, hS⟩ := hrel
    have BK := Lib.hid hB
    have AK := Lib.hid hA
    have SK := Lib.hid hS
    clear hB hA hS
    by_cases hlt : k < len + 70
    · obtain ⟨x, hx⟩ := AK.out k hlt
      have HI := Lib.hid (show Nat.blt k cc.size = true from Nat.ble_eq_true_of_le ((Array.getElem?_eq_some_iff.1 hx).1))
      have hc := (BK.out.cell k).trans hx
      clear hx
      go_wp2_with (first
        | ((with_reducible refine Step.gate_store (t := 5) rfl ?_); refine Step.store BK.out rfl rfl rfl rfl rfl pl_u8 rfl HI.out ?_; intro w8 nb m; have NB := Lib.hid nb; have S8 := Lib.hid (SK.out.other m (fun k hk e => HF5.out (by obtain rfl : k = g := e; exact hk)) (fun k e => by obtain rfl : k = g := e; exact HGW.out)); clear nb m))
      exact ⟨⟨k + 1, by omega, by go_num, ⟨_, NB.out, AK.out.set _⟩, S8.out⟩, by simp [intOf]; omega⟩
    · obtain ⟨_, h1, h2⟩ : True ∧ len + 70 = k ∧ True := ⟨trivial, by omega, trivial⟩
      subst h1
      have X1 := Lib.hid (bytes_z SK.out.ram (4096 + q) len len rfl (by omega) (by omega) (decide_eq_true (by omega)))
      go_wp2_with (first
        | (go_at_call 16; (first
            | ((with_reducible refine (X1.out).mono ?_); rintro e w9 ⟨g1, rfl, bx, hg1, hb⟩; have B9 := Lib.hid bx; have S9 := Lib.hid (SK.out.below hb); have HG1 := Lib.hid (show W.heap.size ≤ g1 from Nat.le_trans SK.out.mod.size hg1); have HF9 := Lib.hid (show ¬ F5 g1 from fun hf => by have := SK.out.ram.bound g1 hf; omega); clear bx hg1 hb X1; have X2 := Lib.hid (bytes_z S9.out.ram (4096 + q) len len rfl (by omega) (by omega) (decide_eq_true (by omega))))
            | ((with_reducible refine (X2.out).mono ?_); rintro e w10 ⟨g2, rfl, bx, hg2, hb⟩; have B10 := Lib.hid bx; have S10 := Lib.hid (S9.out.below hb); have BX10 := Lib.hid (B9.out.below hb); have HNE := Lib.hid (show g2 ≠ g1 by have := B9.out.lt; omega); clear bx hg2 hb X2))))
      go_loopw [15] (fun i w => ∃ k : Nat, k ≤ len ∧ i = .int .i64 k ∧ (∃ cc, Blk w g1 cc 5 ∧ AllB cc len) ∧ Blk w g2 (row len fun k => fl (fun _ => 0) ((4096 : Int) + q - 4096).toNat len (marks len f) (((4096 : Int) + q - 4096).toNat + k)) 5 ∧ Solo W w h 4096 3 (fl (fun _ => 0) ((4096 : Int) + q - 4096).toNat len (marks len f)) F5) (fun i _ => (len - intOf i).toNat)
      case atStart => exact ⟨0, by omega, rfl, ⟨_, BX10.out, fun k hk => ⟨_, row_at _ _ hk⟩⟩, B10.out, S10.out⟩
      case round =>
        obtain ⟨j, hj, rfl, ⟨cj, hB, hA⟩, hB2, hS⟩ := hrel
        have BJ := Lib.hid hB
        have AJ := Lib.hid hA
        have YJ := Lib.hid hB2
        have SJ := Lib.hid hS
        clear hB hA hB2 hS
        by_cases hjl : j < len
        · obtain ⟨x, hx⟩ := AJ.out j hjl
          have HI := Lib.hid (show Nat.blt j cj.size = true from Nat.ble_eq_true_of_le ((Array.getElem?_eq_some_iff.1 hx).1))
          have hc := (BJ.out.cell j).trans hx
          clear hx
          go_wp2_with (first
            | ((with_reducible refine Step.gate_store (t := 5) rfl ?_); refine Step.store BJ.out rfl rfl rfl rfl rfl pl_u8 rfl HI.out ?_; intro w8 nb m; have NB := Lib.hid nb; have Y8 := Lib.hid (YJ.out.one m HNE.out); have S8 := Lib.hid (SJ.out.other m (fun k hk e => HF9.out (by obtain rfl : k = g1 := e; exact hk)) (fun k e => by obtain rfl : k = g1 := e; exact HG1.out)); clear nb m))
          exact ⟨⟨j + 1, by omega, by go_num, ⟨_, NB.out, AJ.out.set _⟩, Y8.out, S8.out⟩, by simp [intOf]; omega⟩
        · obtain ⟨_, h1, h2⟩ : True ∧ len = j ∧ True := ⟨trivial, by omega, trivial⟩
          subst h1
          have X3 := Lib.hid (bytes_z SJ.out.ram (4096 + q) len len rfl (by omega) (by omega) (decide_eq_true (by omega)))
          have EQ := Lib.hid (show ∀ k, k < len → fl (fun _ => 0) ((4096 : Int) + q - 4096).toNat len (marks len f) (((4096 : Int) + q - 4096).toNat + k) = f k from fun k hk => by rw [fl, if_pos (by omega), Nat.add_sub_cancel_left, marks, if_pos hk])
          have RB := Lib.hid (fun w (m : Mod Nil W w) => RA.out.mod m (fun k hk h => h) (fun k hk => hk))
          go_wp2_with (first
            | (go_at_call 16; refine (X3.out).mono ?_; rintro e w11 ⟨g3, rfl, bx, hg3, hb⟩; have B11 := Lib.hid bx; have S11 := Lib.hid (SJ.out.below hb); have Y11 := Lib.hid (YJ.out.below hb); clear bx hg3 hb X3; have SM := Lib.hid (same_any (n := len) (ca := len) (cb := cap) ((rd_row (G := fun _ => True) Y11.out trivial (fun k hk => by rw [EQ.out k hk]; exact FB.out k hk)).congr EQ.out) (RB.out _ S11.out.mod) (by omega)))
            | (go_at_call 17; (first
                | ((with_reducible refine (SM.out).mono ?_); rintro e w12 ⟨rfl, hw⟩; have S12 := Lib.hid (S11.out.drawn hw); have B12 := Lib.hid (B11.out.below (below_drawn hw)); clear hw SM; have SM2 := Lib.hid (same_any (n := len) (ca := len) (cb := cap) ((rd_row (G := fun _ => True) B12.out trivial (fun k hk => by rw [EQ.out k hk]; exact FB.out k hk)).congr EQ.out) (RB.out _ S12.out.mod) (by omega)))
                | ((with_reducible refine (SM2.out).mono ?_); rintro e w13 ⟨rfl, hw⟩; have S13 := Lib.hid (S12.out.drawn hw); clear hw SM2)))
            | (go_at_call 14; refine (AW.out _).mono ?_; rintro e w14 ⟨rfl, hb⟩; have S14 := Lib.hid (S13.out.below hb); clear hb))
          go_ret
          exact ⟨rfl, S14.out.out⟩

set_option maxHeartbeats 4000000 in
theorem kept_long (at0 : Int) (A : Option Addr) (len cap : Nat) (f : Nat → Int) (W : World) (w0 : (Lit.int .i64 at0).wf = true) (w1 : RdI .u8 W A len f (· < W.heap.size)) (x1 : A = none → len = 0 ∧ cap = 0) (x2 : len ≤ cap) (hl : 4096 < len) :
    Calls Try.prog 5 #[.int .i64 at0, .slice A len cap] W fun e W' => e = .returned (.bool true) ∧ Below W.heap.size W W' := by
  have RA := Lib.hid ((rd_u8 w1).less (show 4096 ≤ len by omega))
  have NIL := Lib.hid (show A = none → 4096 = 0 ∧ cap = 0 from fun h => ⟨by have := x1 h; omega, (x1 h).2⟩)
  have FB := Lib.hid (show ∀ k, k < 4096 → 0 ≤ f k ∧ f k < 256 from fun k hk => by obtain ⟨_, _, _, _, h⟩ := (rd_u8 w1) k (by omega); exact h)
  obtain ⟨q, hq⟩ := Int.eq_ofNat_of_zero_le (show 0 ≤ at0 % 4096 by omega)
  have q4 : q < 4096 := by omega
  have T1 := Lib.hid (fun w => new_z w 4096 3 3 rfl (by omega) (by decide))
  have P := Lib.hid (fun w => (place_any at0 4096 (by omega) (i64_bd w0) (by omega) w).mono fun e w' h => (by rw [hq] at h; exact h : e = .returned (.int .i64 q) ∧ w = w'))
  have AW := Lib.hid awake
  have MB := Lib.hid (show ∀ k, k < 4096 + 70 → 0 ≤ marks 4096 f k ∧ marks 4096 f k < 256 from fun k hk => by
    unfold marks
    by_cases h : k < 4096
    · rw [if_pos h]; exact FB.out k h
    · rw [if_neg h]; omega)
  obtain ⟨ad, rfl⟩ : ∃ ad, A = some ad := by cases A with | none => have := x1 rfl; omega | some ad => exact ⟨ad, rfl⟩
  have c4 : 4096 ≤ cap := by omega
  clear w0 w1 x1 hq
  go_enter Try.func5, Try.ntmps5
  go_wp2_with (first
    | (go_at_call 10; refine (T1.out _).mono ?_; rintro e w1 ⟨h, rfl, r, m⟩; have S := Lib.hid (Solo.made (Mod.refl Nil W) r m); clear r m)
    | (go_at_call 9; refine (P.out _).mono ?_; rintro e w2 ⟨rfl, rfl⟩)
    | (go_at_call 18; have L := Lib.hid (lend_any (c := cap) (Arg.mk (RA.out.mod S.out.mod (fun k hk h => h) (fun k hk => hk)) NIL.out) (by omega)); refine (L.out).mono ?_; rintro e w3 ⟨g, capL, cur, rfl, b, hc, hg, hb⟩; have B3 := Lib.hid b; have S3 := Lib.hid (S.out.below hb); have HF := Lib.hid (show ¬ Grow Nil W w1 g from fun hf => by have := S.out.ram.bound g hf; omega); have HC := Lib.hid hc; have HGW := Lib.hid (show W.heap.size ≤ g from Nat.le_trans S.out.mod.size hg); clear b hc hg hb L)
    | (go_at_call 15; have FI := Lib.hid (fill_yes S3.out.ram (4096 + q) (G := One g) (c := capL) (rd_blk (n := 4096) (f := marks 4096 f) B3.out rfl (fun k hk => HC.out k (by omega)) (fun k hk => MB.out k (by omega))) (fun i e => by obtain rfl : i = g := e; exact ⟨HF.out, B3.out.lt⟩) (by omega) (decide_eq_true (by omega))); refine (FI.out).mono ?_; rintro e w4 ⟨rfl, r, m⟩; have S4 := Lib.hid (S3.out.step r m); have B4 := Lib.hid (B3.out.mod m HF.out); have HF4 := Lib.hid (show ¬ Grow (Grow Nil W w1) w3 w4 g from fun hf => hf.elim HF.out fun e => by have := B3.out.lt; omega); clear r m FI)
    | (go_at_call 19; have BK := Lib.hid (back_any (n := 4096) (c := cap) (cb := capL) (RA.out.mod S4.out.mod (fun k hk h => h) (fun k hk => hk)) (rd_blk (G := One g) B4.out rfl HC.out MB.out) (by omega) (fun k hk => rfl)); refine (BK.out).mono ?_; rintro e w5 ⟨rfl, hw⟩; have S5 := Lib.hid (S4.out.drawn hw); have B5 := Lib.hid (B4.out.below (below_drawn hw)); clear hw BK))
  obtain ⟨F5, hS5, hF5⟩ : ∃ F5, Solo W w5 h 4096 3 (fl (fun _ => 0) ((4096 : Int) + q - 4096).toNat 4096 (marks 4096 f)) F5 ∧ ¬ F5 g := ⟨_, S5.out, HF4.out⟩
  have Q5 := Lib.hid hS5
  have HF5 := Lib.hid hF5
  clear hS5 hF5 S S3 S4 S5 HF HF4
  go_loopw [10] (fun i w => ∃ k : Nat, k ≤ 4096 + 70 ∧ i = .int .i64 k ∧ (∃ cc, Blk w g cc 5 ∧ AllB cc (4096 + 70)) ∧ Solo W w h 4096 3 (fl (fun _ => 0) ((4096 : Int) + q - 4096).toNat 4096 (marks 4096 f)) F5) (fun i _ => (4096 + 70 - intOf i).toNat)
  case atStart => exact ⟨0, by omega, rfl, ⟨cur, B5.out, fun k hk => ⟨_, HC.out k hk⟩⟩, Q5.out⟩
  case round =>
    obtain ⟨k, hk, rfl, ⟨cc, hB, hA⟩, hS⟩ := hrel
    have BK := Lib.hid hB
    have AK := Lib.hid hA
    have SK := Lib.hid hS
    clear hB hA hS
    by_cases hlt : k < 4096 + 70
    · obtain ⟨x, hx⟩ := AK.out k hlt
      have HI := Lib.hid (show Nat.blt k cc.size = true from Nat.ble_eq_true_of_le ((Array.getElem?_eq_some_iff.1 hx).1))
      have hc := (BK.out.cell k).trans hx
      clear hx
      go_wp2_with (first
        | ((with_reducible refine Step.gate_store (t := 5) rfl ?_); refine Step.store BK.out rfl rfl rfl rfl rfl pl_u8 rfl HI.out ?_; intro w8 nb m; have NB := Lib.hid nb; have S8 := Lib.hid (SK.out.other m (fun k hk e => HF5.out (by obtain rfl : k = g := e; exact hk)) (fun k e => by obtain rfl : k = g := e; exact HGW.out)); clear nb m))
      exact ⟨⟨k + 1, by omega, by go_num, ⟨_, NB.out, AK.out.set _⟩, S8.out⟩, by simp [intOf]; omega⟩
    · obtain ⟨_, h1, h2⟩ : True ∧ 4096 + 70 = k ∧ True := ⟨trivial, by omega, trivial⟩
      subst h1
      have X1 := Lib.hid (bytes_z SK.out.ram (4096 + q) 4096 4096 rfl (by omega) (by omega) (decide_eq_true (by omega)))
      go_wp2_with (first
        | (go_at_call 16; (first
            | ((with_reducible refine (X1.out).mono ?_); rintro e w9 ⟨g1, rfl, bx, hg1, hb⟩; have B9 := Lib.hid bx; have S9 := Lib.hid (SK.out.below hb); have HG1 := Lib.hid (show W.heap.size ≤ g1 from Nat.le_trans SK.out.mod.size hg1); have HF9 := Lib.hid (show ¬ F5 g1 from fun hf => by have := SK.out.ram.bound g1 hf; omega); clear bx hg1 hb X1; have X2 := Lib.hid (bytes_z S9.out.ram (4096 + q) 4096 4096 rfl (by omega) (by omega) (decide_eq_true (by omega))))
            | ((with_reducible refine (X2.out).mono ?_); rintro e w10 ⟨g2, rfl, bx, hg2, hb⟩; have B10 := Lib.hid bx; have S10 := Lib.hid (S9.out.below hb); have BX10 := Lib.hid (B9.out.below hb); have HNE := Lib.hid (show g2 ≠ g1 by have := B9.out.lt; omega); clear bx hg2 hb X2))))
      go_loopw [15] (fun i w => ∃ k : Nat, k ≤ 4096 ∧ i = .int .i64 k ∧ (∃ cc, Blk w g1 cc 5 ∧ AllB cc 4096) ∧ Blk w g2 (row 4096 fun k => fl (fun _ => 0) ((4096 : Int) + q - 4096).toNat 4096 (marks 4096 f) (((4096 : Int) + q - 4096).toNat + k)) 5 ∧ Solo W w h 4096 3 (fl (fun _ => 0) ((4096 : Int) + q - 4096).toNat 4096 (marks 4096 f)) F5) (fun i _ => (4096 - intOf i).toNat)
      case atStart => exact ⟨0, by omega, rfl, ⟨_, BX10.out, fun k hk => ⟨_, row_at _ _ hk⟩⟩, B10.out, S10.out⟩
      case round =>
        obtain ⟨j, hj, rfl, ⟨cj, hB, hA⟩, hB2, hS⟩ := hrel
        have BJ := Lib.hid hB
        have AJ := Lib.hid hA
        have YJ := Lib.hid hB2
        have SJ := Lib.hid hS
        clear hB hA hB2 hS
        by_cases hjl : j < 4096
        · obtain ⟨x, hx⟩ := AJ.out j hjl
          have HI := Lib.hid (show Nat.blt j cj.size = true from Nat.ble_eq_true_of_le ((Array.getElem?_eq_some_iff.1 hx).1))
          have hc := (BJ.out.cell j).trans hx
          clear hx
          go_wp2_with (first
            | ((with_reducible refine Step.gate_store (t := 5) rfl ?_); refine Step.store BJ.out rfl rfl rfl rfl rfl pl_u8 rfl HI.out ?_; intro w8 nb m; have NB := Lib.hid nb; have Y8 := Lib.hid (YJ.out.one m HNE.out); have S8 := Lib.hid (SJ.out.other m (fun k hk e => HF9.out (by obtain rfl : k = g1 := e; exact hk)) (fun k e => by obtain rfl : k = g1 := e; exact HG1.out)); clear nb m))
          exact ⟨⟨j + 1, by omega, by go_num, ⟨_, NB.out, AJ.out.set _⟩, Y8.out, S8.out⟩, by simp [intOf]; omega⟩
        · obtain ⟨_, h1, h2⟩ : True ∧ 4096 = j ∧ True := ⟨trivial, by omega, trivial⟩
          subst h1
          have X3 := Lib.hid (bytes_z SJ.out.ram (4096 + q) 4096 4096 rfl (by omega) (by omega) (decide_eq_true (by omega)))
          have EQ := Lib.hid (show ∀ k, k < 4096 → fl (fun _ => 0) ((4096 : Int) + q - 4096).toNat 4096 (marks 4096 f) (((4096 : Int) + q - 4096).toNat + k) = f k from fun k hk => by rw [fl, if_pos (by omega), Nat.add_sub_cancel_left, marks, if_pos hk])
          have RB := Lib.hid (fun w (m : Mod Nil W w) => RA.out.mod m (fun k hk h => h) (fun k hk => hk))
          go_wp2_with (first
            | (go_at_call 16; refine (X3.out).mono ?_; rintro e w11 ⟨g3, rfl, bx, hg3, hb⟩; have B11 := Lib.hid bx; have S11 := Lib.hid (SJ.out.below hb); have Y11 := Lib.hid (YJ.out.below hb); clear bx hg3 hb X3; have SM := Lib.hid (same_any (n := 4096) (ca := 4096) (cb := cap) ((rd_row (G := fun _ => True) Y11.out trivial (fun k hk => by rw [EQ.out k hk]; exact FB.out k hk)).congr EQ.out) (RB.out _ S11.out.mod) (by omega)))
            | (go_at_call 17; (first
                | ((with_reducible refine (SM.out).mono ?_); rintro e w12 ⟨rfl, hw⟩; have S12 := Lib.hid (S11.out.drawn hw); have B12 := Lib.hid (B11.out.below (below_drawn hw)); clear hw SM; have SM2 := Lib.hid (same_any (n := 4096) (ca := 4096) (cb := cap) ((rd_row (G := fun _ => True) B12.out trivial (fun k hk => by rw [EQ.out k hk]; exact FB.out k hk)).congr EQ.out) (RB.out _ S12.out.mod) (by omega)))
                | ((with_reducible refine (SM2.out).mono ?_); rintro e w13 ⟨rfl, hw⟩; have S13 := Lib.hid (S12.out.drawn hw); clear hw SM2)))
            | (go_at_call 14; refine (AW.out _).mono ?_; rintro e w14 ⟨rfl, hb⟩; have S14 := Lib.hid (S13.out.below hb); clear hb))
          go_ret
          exact ⟨rfl, S14.out.out⟩

theorem kept_any (at0 : Int) (A : Option Addr) (len cap : Nat) (f : Nat → Int) (W : World) (w0 : (Lit.int .i64 at0).wf = true) (w1 : RdI .u8 W A len f (· < W.heap.size)) (y1 : len ≤ 9223372036854775807) (x1 : A = none → len = 0 ∧ cap = 0) (x2 : len ≤ cap) :
    Calls Try.prog 5 #[.int .i64 at0, .slice A len cap] W fun e W' => e = .returned (.bool true) ∧ Below W.heap.size W W' := by
  by_cases hl : len ≤ 4096
  · exact kept_short at0 A len cap f W w0 w1 x1 x2 hl
  · exact kept_long at0 A len cap f W w0 w1 x1 x2 (by omega)
end Go.Proofs.Ytkdohejocmkljaa.Mem
