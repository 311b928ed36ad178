/- A memory and the document's, of one content; the game of a script: the pair at play, and those that were put by. -/
import Derived.Test.YtkdohejocmkljaaSameB
import Derived.Test.YtkdohejocmkljaaRefF
import Derived.Laws.AppendOwn
import Derived.Laws.OwnMore
namespace Go.Proofs.Ytkdohejocmkljaa.Duo
open Go Go.RowKit Go.Proofs.Ytkdohejocmkljaa.Step Go.Proofs.Ytkdohejocmkljaa.Mem
set_option linter.unusedVariables false
set_option linter.unusedSimpArgs false
set_option maxRecDepth 100000

/-- A memory and the document's, of one content, in blocks newer than W. -/
structure Duo (W w : World) (h1 h2 : Nat) (base : Int) (n : Nat) (mem : Nat → Int) (F1 F2 : Nat → Prop) : Prop where
  one : Ram w h1 base n mem F1
  two : Ref.Mem w h2 base n mem F2
  apart : ∀ k, F1 k → ¬ F2 k
  new : ∀ k, F1 k ∨ F2 k → W.heap.size ≤ k
  mod : Mod Nil W w
section
variable {W w w' : World} {h1 h2 n : Nat} {base : Int} {mem mem' : Nat → Int} {F1 F2 S : Nat → Prop}
theorem Duo.below (d : Duo W w h1 h2 base n mem F1 F2) (b : Below w.heap.size w w') : Duo W w' h1 h2 base n mem F1 F2 :=
  ⟨d.one.below b, d.two.below b, d.apart, d.new, d.mod.trans (Mod.of_below b Nil)⟩
theorem Duo.drawn (d : Duo W w h1 h2 base n mem F1 F2) (b : ∃ k, w' = w.drewN k) : Duo W w' h1 h2 base n mem F1 F2 := d.below (below_drawn b)
theorem Duo.out (d : Duo W w h1 h2 base n mem F1 F2) : Below W.heap.size W w := d.mod.below
/-- Something newer beside them is turned. -/
theorem Duo.other (d : Duo W w h1 h2 base n mem F1 F2) (m : Mod S w w') (hs : ∀ k, F1 k ∨ F2 k → ¬ S k) (hn : ∀ k, S k → W.heap.size ≤ k) : Duo W w' h1 h2 base n mem F1 F2 :=
  ⟨d.one.mod m fun k h => hs k (.inl h), d.two.mod m fun k h => hs k (.inr h), d.apart, d.new, d.mod.trans_new m fun i hi h => by have := hn i h; omega⟩
theorem Duo.bound (d : Duo W w h1 h2 base n mem F1 F2) : ∀ k, F1 k ∨ F2 k → k < w.heap.size := fun k h => h.elim (d.one.bound k) (d.two.bound k)
theorem Duo.made {w1 w2 : World} (m0 : Mod Nil W w) (r1 : Ram w1 h1 base n mem (Grow Nil w w1)) (m1 : Mod Nil w w1) (r2 : Ref.Mem w2 h2 base n mem (Grow Nil w1 w2)) (m2 : Mod Nil w1 w2) : Duo W w2 h1 h2 base n mem (Grow Nil w w1) (Grow Nil w1 w2) :=
  ⟨r1.mod m2 (fun _ _ h => h), r2, fun k h1 h2 => by
      have := r1.bound k h1
      rcases h2 with h2 | h2
      · exact h2
      · omega, fun k h => by
      have := m0.size
      have := m1.size
      rcases h with (h | h) | (h | h)
      · exact h.elim
      · omega
      · exact h.elim
      · omega, (m0.trans m1).trans m2⟩
/-- The first is turned, then the second. -/
theorem Duo.step {w1 w2 : World} (d : Duo W w h1 h2 base n mem F1 F2) (r1 : Ram w1 h1 base n mem' (Grow F1 w w1)) (m1 : Mod F1 w w1) (r2 : Ref.Mem w2 h2 base n mem' (Grow F2 w1 w2)) (m2 : Mod F2 w1 w2) : Duo W w2 h1 h2 base n mem' (Grow F1 w w1) (Grow F2 w1 w2) :=
  ⟨r1.mod m2 (fun k a b => by
      have := d.two.bound k b
      rcases a with a | a
      · exact d.apart k a b
      · omega), r2, fun k a b => by
      have hb := r1.bound k a
      rcases a with a | a <;> rcases b with b | b
      · exact d.apart k a b
      · omega
      · have := d.two.bound k b; omega
      · omega, fun k h => by
      have := d.mod.size
      have := m1.size
      rcases h with (h | h) | (h | h)
      · exact d.new k (.inl h)
      · omega
      · exact d.new k (.inr h)
      · omega, (d.mod.trans_new m1 fun i hi h => by have := d.new i (.inl h); omega).trans_new m2 fun i hi h => by have := d.new i (.inr h); omega⟩
end


/-- No block of pairs. -/
def NotTwo (W : World) (k : Nat) : Prop := ∀ cs fr, W.heap[k]? ≠ some (.cells cs 62 fr)
theorem NotTwo.of {W : World} {g : Nat} {cs : Array Value} {T : TypeId} (b : Blk W g cs T) (hT : T ≠ 62) : NotTwo W g := fun cs' fr h => by
  have := b.out.symm.trans h
  simp at this
  exact hT this.2.1
theorem NotTwo.same {W W' : World} {k : Nat} (h : NotTwo W k) (e : W'.heap[k]? = W.heap[k]?) : NotTwo W' k := fun cs fr h2 => h cs fr (e.symm.trans h2)
theorem ram_typed {W : World} {h n : Nat} {base : Int} {mem : Nat → Int} {F : Nat → Prop} (r : Ram W h base n mem F) : Ram W h base n mem fun k => F k ∧ NotTwo W k := by
  obtain ⟨fb, cs, fs, r⟩ := r
  exact ⟨fb, cs, fs, { r with
    frame := fun k g hk hf => by
      obtain ⟨hF, bs, hb, h2⟩ := r.frame k g hk hf
      exact ⟨⟨hF, NotTwo.of hb (by decide)⟩, bs, hb, h2⟩
    foot_h := ⟨r.foot_h, NotTwo.of r.hdr (by decide)⟩
    foot_fb := ⟨r.foot_fb, NotTwo.of r.row (by decide)⟩
    bound := fun k hk => r.bound k hk.1 }⟩
theorem ref_typed {W : World} {h n : Nat} {base : Int} {mem : Nat → Int} {F : Nat → Prop} (r : Ref.Mem W h base n mem F) : Ref.Mem W h base n mem fun k => F k ∧ NotTwo W k := by
  obtain ⟨fb, cs, fs, r⟩ := r
  exact ⟨fb, cs, fs, { r with
    frame := fun k g c hk hf => by
      obtain ⟨hF, bs, hb, h2⟩ := r.frame k g c hk hf
      exact ⟨⟨hF, NotTwo.of hb (by decide)⟩, bs, hb, h2⟩
    foot_h := ⟨r.foot_h, NotTwo.of r.hdr (by decide)⟩
    foot_fb := ⟨r.foot_fb, NotTwo.of r.row (by decide)⟩
    bound := fun k hk => r.bound k hk.1 }⟩
theorem duo_typed {W w : World} {h1 h2 n : Nat} {base : Int} {mem : Nat → Int} {F1 F2 : Nat → Prop} (d : Duo W w h1 h2 base n mem F1 F2) : Duo W w h1 h2 base n mem (fun k => F1 k ∧ NotTwo w k) (fun k => F2 k ∧ NotTwo w k) :=
  ⟨ram_typed d.one, ref_typed d.two, fun k a b => d.apart k a.1 b.1, fun k h => d.new k (h.elim (fun a => .inl a.1) fun a => .inr a.1), d.mod⟩
/-- A pair that was put by. -/
structure Oth where
  h1 : Nat
  h2 : Nat
  mem : Nat → Int
  F1 : Nat → Prop
  F2 : Nat → Prop
def Oth.cells (p : Oth) : List Value := [.pointer (some ⟨p.h1, 0, none⟩), .pointer (some ⟨p.h2, 0, none⟩)]
/-- The pair at play, and those that were put by, in a slice of the call's own. -/
structure Game (W w : World) (base : Int) (n h1 h2 : Nat) (mem : Nat → Int) (F1 F2 : Nat → Prop) (v : Value) (ls : List Oth) : Prop where
  duo : Duo W w h1 h2 base n mem F1 F2
  typed : ∀ k, F1 k ∨ F2 k → NotTwo w k
  own : w.ownsRow W.heap.size 62 2 v ls.length (ls.flatMap Oth.cells)
  oth : ∀ p ∈ ls, Duo W w p.h1 p.h2 base n p.mem p.F1 p.F2 ∧ (∀ k, p.F1 k ∨ p.F2 k → NotTwo w k) ∧ ∀ k, F1 k ∨ F2 k → ¬ (p.F1 k ∨ p.F2 k)
theorem own_two {w : World} {base n : Nat} {v : Value} {xs : List Value} (h : w.ownsRow base 62 2 v n xs) {g : Nat} (e : v.ownBlock = some g) : ∃ cur, w.heap[g]? = some (.cells cur 62 (0, 0)) ∧ base ≤ g := by
  obtain ⟨_, ⟨rfl, _⟩ | ⟨g', cap, cur, rfl, hb, ho, _⟩⟩ := h
  · cases e
  · cases e; exact ⟨cur, ho, hb⟩
section
variable {W w w' : World} {base : Int} {n h1 h2 : Nat} {mem : Nat → Int} {F1 F2 : Nat → Prop} {v : Value} {ls : List Oth}
theorem Game.own_out (g : Game W w base n h1 h2 mem F1 F2 v ls) {b : Nat} (e : v.ownBlock = some b) : ¬ (F1 b ∨ F2 b) ∧ (∀ p ∈ ls, ¬ (p.F1 b ∨ p.F2 b)) ∧ W.heap.size ≤ b ∧ b < w.heap.size := by
  obtain ⟨cur, ho, hb⟩ := own_two g.own e
  exact ⟨fun h => g.typed b h cur (0, 0) ho, fun p hp h => (g.oth p hp).2.1 b h cur (0, 0) ho, hb, (Array.getElem?_eq_some_iff.1 ho).1⟩
theorem own_mod {S : Nat → Prop} {k b : Nat} {T : TypeId} {xs : List Value} (h : w.ownsRow b T 2 v k xs) (m : Mod S w w') (hs : ∀ g, v.ownBlock = some g → ¬ S g) : w'.ownsRow b T 2 v k xs := by
  obtain ⟨a1, a2 | ⟨g, cap, cur, rfl, hb, ho, hr⟩⟩ := h
  · exact ⟨a1, .inl a2⟩
  · exact ⟨a1, .inr ⟨g, cap, cur, rfl, hb, (m.block g (Array.getElem?_eq_some_iff.1 ho).1 (hs g rfl)).trans ho, hr⟩⟩
theorem Game.below (g : Game W w base n h1 h2 mem F1 F2 v ls) (b : Below w.heap.size w w') : Game W w' base n h1 h2 mem F1 F2 v ls :=
  ⟨g.duo.below b, fun k h => (g.typed k h).same (b.block k (g.duo.bound k h)), own_mod g.own (Mod.of_below b Nil) (fun _ _ h => h), fun p hp => by
    obtain ⟨a1, a2, a3⟩ := g.oth p hp
    exact ⟨a1.below b, fun k h => (a2 k h).same (b.block k (a1.bound k h)), a3⟩⟩
/-- The pair at play is turned. -/
theorem Game.step {mem' : Nat → Int} {F1' F2' : Nat → Prop} (g : Game W w base n h1 h2 mem F1 F2 v ls) (d : Duo W w' h1 h2 base n mem' F1' F2') (m : Mod (fun k => F1 k ∨ F2 k) w w') (hF : ∀ k, k < w.heap.size → F1' k ∨ F2' k → F1 k ∨ F2 k) :
    Game W w' base n h1 h2 mem' (fun k => F1' k ∧ NotTwo w' k) (fun k => F2' k ∧ NotTwo w' k) v ls :=
  ⟨duo_typed d, fun k h => h.elim (fun a => a.2) fun a => a.2, own_mod g.own m fun b e h => (g.own_out e).1 h, fun p hp => by
    obtain ⟨a1, a2, a3⟩ := g.oth p hp
    refine ⟨a1.other m (fun k h h2 => a3 k h2 h) (fun k h => g.duo.new k h), fun k h => (a2 k h).same (m.block k (a1.bound k h) fun h2 => a3 k h2 h), fun k h h2 => ?_⟩
    have hk := a1.bound k h2
    exact a3 k (hF k hk (h.elim (fun a => .inl a.1) fun a => .inr a.1)) h2⟩
/-- One more pair is put by; the slice of those has grown. -/
theorem Game.append {p : Oth} {v' : Value} {mem' : Nat → Int} {G1 G2 : Nat → Prop} {a1 a2 : Nat} (g : Game W w base n h1 h2 mem F1 F2 v ls)
    (own' : w'.ownsRow W.heap.size 62 2 v' (ls.length + 1) (ls.flatMap Oth.cells ++ p.cells)) (gr : w.grownBy w' v.ownBlock)
    (dp : Duo W w p.h1 p.h2 base n p.mem p.F1 p.F2) (tp : ∀ k, p.F1 k ∨ p.F2 k → NotTwo w k) (dm : Duo W w a1 a2 base n mem' G1 G2) (tm : ∀ k, G1 k ∨ G2 k → NotTwo w k) (hpm : ∀ k, G1 k ∨ G2 k → ¬ (p.F1 k ∨ p.F2 k)) (hm : ∀ q ∈ ls, ∀ k, G1 k ∨ G2 k → ¬ (q.F1 k ∨ q.F2 k)) :
    Game W w' base n a1 a2 mem' G1 G2 v' (ls ++ [p]) := by
  have m : Mod (fun k => v.ownBlock = some k) w w' := ⟨gr.os, gr.tape, gr.output, gr.size, fun k hk hs => gr.block k hk fun e => hs e.symm⟩
  have hn : ∀ k, v.ownBlock = some k → W.heap.size ≤ k := fun k e => (g.own_out e).2.2.1
  have no : ∀ k, NotTwo w k → ¬ v.ownBlock = some k := fun k h e => by
    obtain ⟨cur, ho, _⟩ := own_two g.own e
    exact h cur (0, 0) ho
  refine ⟨dm.other m (fun k h e => no k (tm k h) e) hn, fun k h => (tm k h).same (m.block k (dm.bound k h) (no k (tm k h))), ?_, fun q hq => ?_⟩
  · have e : (ls ++ [p]).flatMap Oth.cells = ls.flatMap Oth.cells ++ p.cells := by simp
    rw [e, List.length_append]; exact own'
  · rcases List.mem_append.1 hq with hq | hq
    · obtain ⟨b1, b2, b3⟩ := g.oth q hq
      exact ⟨b1.other m (fun k h e => no k (b2 k h) e) hn, fun k h => (b2 k h).same (m.block k (b1.bound k h) (no k (b2 k h))), hm q hq⟩
    · obtain rfl := List.mem_singleton.1 hq
      exact ⟨dp.other m (fun k h e => no k (tp k h) e) hn, fun k h => (tp k h).same (m.block k (dp.bound k h) (no k (tp k h))), hpm⟩
end
end Go.Proofs.Ytkdohejocmkljaa.Duo
