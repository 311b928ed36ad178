/- One or two memories that a call has made for itself, by what they stand in. -/
import Derived.Test.YtkdohejocmkljaaRamF
namespace Go.Proofs.Ytkdohejocmkljaa.Mem
open Go Go.RowKit Go.Proofs.Ytkdohejocmkljaa.Step
set_option linter.unusedVariables false
set_option linter.unusedSimpArgs false
set_option maxRecDepth 100000

/-- Two memories of the call's own. -/
structure Pair (W w : World) (h1 : Nat) (b1 : Int) (n1 : Nat) (m1 : Nat → Int) (h2 : Nat) (b2 : Int) (n2 : Nat) (m2 : Nat → Int) (F1 F2 : Nat → Prop) : Prop where
  one : Ram w h1 b1 n1 m1 F1
  two : Ram w h2 b2 n2 m2 F2
  apart : ∀ k, F1 k → ¬ F2 k
  new : ∀ k, F1 k ∨ F2 k → W.heap.size ≤ k
  mod : Mod Nil W w
theorem Pair.below {W w w' : World} {h1 n1 h2 n2 : Nat} {b1 b2 : Int} {m1 m2 : Nat → Int} {F1 F2 : Nat → Prop} (p : Pair W w h1 b1 n1 m1 h2 b2 n2 m2 F1 F2) (b : Below w.heap.size w w') : Pair W w' h1 b1 n1 m1 h2 b2 n2 m2 F1 F2 :=
  ⟨p.one.below b, p.two.below b, p.apart, p.new, p.mod.trans (Mod.of_below b Nil)⟩
theorem Pair.drawn {W w w' : World} {h1 n1 h2 n2 : Nat} {b1 b2 : Int} {m1 m2 : Nat → Int} {F1 F2 : Nat → Prop} (p : Pair W w h1 b1 n1 m1 h2 b2 n2 m2 F1 F2) (b : ∃ k, w' = w.drewN k) : Pair W w' h1 b1 n1 m1 h2 b2 n2 m2 F1 F2 := p.below (below_drawn b)
/-- One memory of the call's own. -/
structure Solo (W w : World) (h : Nat) (b : Int) (n : Nat) (mem : Nat → Int) (F : Nat → Prop) : Prop where
  ram : Ram w h b n mem F
  new : ∀ k, F k → W.heap.size ≤ k
  mod : Mod Nil W w
theorem Solo.made {W w w' : World} {h n : Nat} {b : Int} {mem : Nat → Int} (m0 : Mod Nil W w) (r : Ram w' h b n mem (Grow Nil w w')) (m : Mod Nil w w') : Solo W w' h b n mem (Grow Nil w w') :=
  ⟨r, fun k hk => hk.elim (fun h => h.elim) fun h => Nat.le_trans m0.size h.1, m0.trans m⟩
theorem Solo.below {W w w' : World} {h n : Nat} {b : Int} {mem : Nat → Int} {F : Nat → Prop} (s : Solo W w h b n mem F) (m : Below w.heap.size w w') : Solo W w' h b n mem F := ⟨s.ram.below m, s.new, s.mod.trans (Mod.of_below m Nil)⟩
theorem Solo.drawn {W w w' : World} {h n : Nat} {b : Int} {mem : Nat → Int} {F : Nat → Prop} (s : Solo W w h b n mem F) (m : ∃ k, w' = w.drewN k) : Solo W w' h b n mem F := s.below (below_drawn m)
theorem Solo.step {W w w' : World} {h n : Nat} {b : Int} {mem mem' : Nat → Int} {F : Nat → Prop} (s : Solo W w h b n mem F) (r : Ram w' h b n mem' (Grow F w w')) (m : Mod F w w') : Solo W w' h b n mem' (Grow F w w') :=
  ⟨r, fun k hk => hk.elim (s.new k) fun h => Nat.le_trans s.mod.size h.1, s.mod.trans_new m fun i hi h => by have := s.new i h; omega⟩
/-- Something newer is turned. -/
theorem Solo.other {W w w' : World} {h n : Nat} {b : Int} {mem : Nat → Int} {F S : Nat → Prop} (s : Solo W w h b n mem F) (m : Mod S w w') (hs : ∀ k, F k → ¬ S k) (hn : ∀ k, S k → W.heap.size ≤ k) : Solo W w' h b n mem F :=
  ⟨s.ram.mod m hs, s.new, s.mod.trans_new m fun i hi h => by have := hn i h; omega⟩
theorem Solo.out {W w : World} {h n : Nat} {b : Int} {mem : Nat → Int} {F : Nat → Prop} (s : Solo W w h b n mem F) : Below W.heap.size W w := s.mod.below
theorem Pair.made {W w w' : World} {h1 n1 h2 n2 : Nat} {b1 b2 : Int} {m1 m2 : Nat → Int} {F : Nat → Prop} (s : Solo W w h1 b1 n1 m1 F) (r : Ram w' h2 b2 n2 m2 (Grow Nil w w')) (b : Below w.heap.size w w') : Pair W w' h1 b1 n1 m1 h2 b2 n2 m2 F (Grow Nil w w') :=
  ⟨s.ram.below b, r, fun k h1 h2 => by
      have := s.ram.bound k h1
      rcases h2 with h2 | h2
      · exact h2
      · omega, fun k hk => by
      rcases hk with h | (h | h)
      · exact s.new k h
      · exact h.elim
      · exact Nat.le_trans s.mod.size h.1, s.mod.trans (Mod.of_below b Nil)⟩
theorem Pair.out {W w : World} {h1 n1 h2 n2 : Nat} {b1 b2 : Int} {m1 m2 : Nat → Int} {F1 F2 : Nat → Prop} (p : Pair W w h1 b1 n1 m1 h2 b2 n2 m2 F1 F2) : Below W.heap.size W w := p.mod.below
theorem Pair.step1 {W w w' : World} {h1 n1 h2 n2 : Nat} {b1 b2 : Int} {m1 m2 m1' : Nat → Int} {F1 F2 : Nat → Prop} (p : Pair W w h1 b1 n1 m1 h2 b2 n2 m2 F1 F2) (r : Ram w' h1 b1 n1 m1' (Grow F1 w w')) (m : Mod F1 w w') : Pair W w' h1 b1 n1 m1' h2 b2 n2 m2 (Grow F1 w w') F2 :=
  ⟨r, p.two.mod m (fun k h2 h1 => p.apart k h1 h2), fun k h1 h2 => by
      rcases h1 with h1 | h1
      · exact p.apart k h1 h2
      · have := p.two.bound k h2; omega, fun k hk => by
      rcases hk with (h | h) | h
      · exact p.new k (.inl h)
      · exact Nat.le_trans p.mod.size h.1
      · exact p.new k (.inr h), p.mod.trans_new m fun i hi h => by have := p.new i (.inl h); omega⟩
theorem Pair.step2 {W w w' : World} {h1 n1 h2 n2 : Nat} {b1 b2 : Int} {m1 m2 m2' : Nat → Int} {F1 F2 : Nat → Prop} (p : Pair W w h1 b1 n1 m1 h2 b2 n2 m2 F1 F2) (r : Ram w' h2 b2 n2 m2' (Grow F2 w w')) (m : Mod F2 w w') : Pair W w' h1 b1 n1 m1 h2 b2 n2 m2' F1 (Grow F2 w w') :=
  ⟨p.one.mod m (fun k h1 h2 => p.apart k h1 h2), r, fun k h1 h2 => by
      rcases h2 with h2 | h2
      · exact p.apart k h1 h2
      · have := p.one.bound k h1; omega, fun k hk => by
      rcases hk with h | (h | h)
      · exact p.new k (.inl h)
      · exact p.new k (.inr h)
      · exact Nat.le_trans p.mod.size h.1, p.mod.trans_new m fun i hi h => by have := p.new i (.inr h); omega⟩


/-- The bytes of a memory, their number told as a number of the program. -/
theorem bytes_z {W : World} {h n : Nat} {base : Int} {mem : Nat → Int} {F : Nat → Prop} (r : Ram W h base n mem F) (addr z : Int) (s : Nat) (hz : z = s) (ha : 0 ≤ addr ∧ addr < 18446744073709551616) (hs9 : (s : Int) < 9223372036854775808) (h2 : hasB base n addr s = true) :
    Calls Try.prog 16 #[.pointer (some ⟨h, 0, none⟩), .int .u64 addr, .int .i64 z] W fun e W' => ∃ g, e = .returned (.tuple #[.slice (some ⟨g, 0, none⟩) s s, .bool true]) ∧ Blk W' g (row s fun k => mem ((addr - base).toNat + k)) 5 ∧ W.heap.size ≤ g ∧ Below W.heap.size W W' := by
  subst hz; exact bytes_yes r addr s ha hs9 h2
/-- Two rows of the same bytes. -/
theorem same_rows {W : World} {g1 g2 n ca cb : Nat} {f1 f2 : Nat → Int} (b1 : Blk W g1 (row n f1) 5) (b2 : Blk W g2 (row n f2) 5) (he : ∀ k, k < n → f1 k = f2 k) (hb : ∀ k, k < n → 0 ≤ f1 k ∧ f1 k < 256) (hn : n ≤ 1000000000000) :
    Calls Try.prog 17 #[.slice (some ⟨g1, 0, none⟩) n ca, .slice (some ⟨g2, 0, none⟩) n cb] W fun e W' => e = .returned (.bool true) ∧ ∃ k, W' = W.drewN k :=
  same_any (rd_row (G := fun _ => True) b1 trivial hb) ((rd_row (G := fun _ => True) b2 trivial fun k hk => he k hk ▸ hb k hk).congr fun k hk => (he k hk).symm) hn
theorem make_u8 (n : Nat) (hn : n ≤ 100000000000) (w : World) : (Instr.makeSlice 35 (.int .i64 n) (.int .i64 n)).run Try.prog w = .ok (.slice (some ⟨w.heap.size, 0, none⟩) n n) (w.alloc (.cells (row n fun _ => 0) 5 (0, 0))) := by
  have h := mk_u8
  cases hi' : Try.prog.info? 5 with
  | none => rw [hi'] at h; cases h
  | some i =>
    rw [hi'] at h
    simp only [Option.map_some, Option.some.injEq, Prod.mk.injEq] at h
    obtain ⟨h1, h2, h3⟩ := h
    have hr := run_make (P := Try.prog) w 35 5 i _ Try.underlying35 hi' h3 .i64 .i64 n n (by omega) (Int.le_refl _) (by rw [h2]; omega) (by omega)
    simp only [Int.toNat_natCast, h1, Nat.mul_one, Value.cells, madeCells_one, row_zero] at hr
    exact hr
end Go.Proofs.Ytkdohejocmkljaa.Mem
