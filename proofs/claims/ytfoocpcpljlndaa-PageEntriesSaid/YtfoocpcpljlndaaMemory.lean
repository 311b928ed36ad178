/- law00.Memory: a memory and the document's, of one content; a number into both. -/
import Derived.Test.YtfoocpcpljlndaaSameB
import Derived.Test.YtfoocpcpljlndaaRefD
import Derived.Test.YtfoocpcpljlndaaOpen
import Derived.Deep.RegionHeld3
import Derived.Laws.ResultCell
namespace Go.Proofs.Ytfoocpcpljlndaa.Duo
open Go Go.RowKit Go.Proofs.Ytfoocpcpljlndaa.Step Go.Proofs.Ytfoocpcpljlndaa.Mem
set_option linter.unusedVariables false
set_option linter.unusedSimpArgs false
set_option maxRecDepth 100000

/-- A memory and the document's, of one content, in blocks newer than W. -/
structure Duo (W w : World) (h1 h2 : Nat) (base : Int) (n : Nat) (mem : Nat → Int) (F1 F2 : Nat → Prop) : Prop where
  one : Ram w h1 base n mem F1
  two : Ref.Mem w h2 base n mem F2
  apart : ∀ k, F1 k → ¬ F2 k
  new : ∀ k, F1 k ∨ F2 k → W.heap.size ≤ k
  mod : Mod Nil W w
section
variable {W w w' : World} {h1 h2 n : Nat} {base : Int} {mem mem' : Nat → Int} {F1 F2 S : Nat → Prop}
theorem Duo.below (d : Duo W w h1 h2 base n mem F1 F2) (b : Below w.heap.size w w') : Duo W w' h1 h2 base n mem F1 F2 :=
  ⟨d.one.below b, d.two.below b, d.apart, d.new, d.mod.trans (Mod.of_below b Nil)⟩
theorem Duo.drawn (d : Duo W w h1 h2 base n mem F1 F2) (b : ∃ k, w' = w.drewN k) : Duo W w' h1 h2 base n mem F1 F2 := d.below (below_drawn b)
theorem Duo.out (d : Duo W w h1 h2 base n mem F1 F2) : Below W.heap.size W w := d.mod.below
/-- Something newer beside them is turned. -/
theorem Duo.other (d : Duo W w h1 h2 base n mem F1 F2) (m : Mod S w w') (hs : ∀ k, F1 k ∨ F2 k → ¬ S k) (hn : ∀ k, S k → W.heap.size ≤ k) : Duo W w' h1 h2 base n mem F1 F2 :=
  ⟨d.one.mod m fun k h => hs k (.inl h), d.two.mod m fun k h => hs k (.inr h), d.apart, d.new, d.mod.trans_new m fun i hi h => by have := hn i h; omega⟩
theorem Duo.bound (d : Duo W w h1 h2 base n mem F1 F2) : ∀ k, F1 k ∨ F2 k → k < w.heap.size := fun k h => h.elim (d.one.bound k) (d.two.bound k)
theorem Duo.made {w1 w2 : World} (m0 : Mod Nil W w) (r1 : Ram w1 h1 base n mem (Grow Nil w w1)) (m1 : Mod Nil w w1) (r2 : Ref.Mem w2 h2 base n mem (Grow Nil w1 w2)) (m2 : Mod Nil w1 w2) : Duo W w2 h1 h2 base n mem (Grow Nil w w1) (Grow Nil w1 w2) :=
  ⟨r1.mod m2 (fun _ _ h => h), r2, fun k h1 h2 => by
      have := r1.bound k h1
      rcases h2 with h2 | h2
      · exact h2
      · omega, fun k h => by
      have := m0.size
      have := m1.size
      rcases h with (h | h) | (h | h)
      · exact h.elim
      · omega
      · exact h.elim
      · omega, (m0.trans m1).trans m2⟩
/-- The first is turned, then the second. -/
theorem Duo.step {w1 w2 : World} (d : Duo W w h1 h2 base n mem F1 F2) (r1 : Ram w1 h1 base n mem' (Grow F1 w w1)) (m1 : Mod F1 w w1) (r2 : Ref.Mem w2 h2 base n mem' (Grow F2 w1 w2)) (m2 : Mod F2 w1 w2) : Duo W w2 h1 h2 base n mem' (Grow F1 w w1) (Grow F2 w1 w2) :=
  ⟨r1.mod m2 (fun k a b => by
      have := d.two.bound k b
      rcases a with a | a
      · exact d.apart k a b
      · omega), r2, fun k a b => by
      have hb := r1.bound k a
      rcases a with a | a <;> rcases b with b | b
      · exact d.apart k a b
      · omega
      · have := d.two.bound k b; omega
      · omega, fun k h => by
      have := d.mod.size
      have := m1.size
      rcases h with (h | h) | (h | h)
      · exact d.new k (.inl h)
      · omega
      · exact d.new k (.inr h)
      · omega, (d.mod.trans_new m1 fun i hi h => by have := d.new i (.inl h); omega).trans_new m2 fun i hi h => by have := d.new i (.inr h); omega⟩
end

theorem write_z {W : World} {h n : Nat} {base : Int} {mem : Nat → Int} {F : Nat → Prop} (r : Ram W h base n mem F) (addr v z : Int) (s : Nat) (hz : z = s) (ha : 0 ≤ addr ∧ addr < 18446744073709551616) (hv : 0 ≤ v ∧ v < 18446744073709551616) (h1 : wholeB s = true) (h2 : hasB base n addr s = true) :
    Calls Try.prog 37 #[.pointer (some ⟨h, 0, none⟩), .int .u64 addr, .int .i64 z, .int .u64 v] W fun e W' => e = .returned (.bool true) ∧ Ram W' h base n (wr mem (addr - base).toNat s v) (Grow F W W') ∧ Mod F W W' := by subst hz; exact write_yes r addr v s ha hv h1 h2
theorem rwrite_z {W : World} {h n : Nat} {base : Int} {mem : Nat → Int} {F : Nat → Prop} (r : Ref.Mem W h base n mem F) (addr v z : Int) (s : Nat) (hz : z = s) (ha : 0 ≤ addr ∧ addr < 18446744073709551616) (hv : 0 ≤ v ∧ v < 18446744073709551616) (h1 : wholeB s = true) (h2 : hasB base n addr s = true) :
    Calls Try.prog 38 #[.pointer (some ⟨h, 0, none⟩), .int .u64 addr, .int .i64 z, .int .u64 v] W fun e W' => e = .returned (.bool true) ∧ Ref.Mem W' h base n (wr mem (addr - base).toNat s v) (Grow F W W') ∧ Mod F W W' := by subst hz; exact Ref.write_yes r addr v s ha hv h1 h2

set_option maxHeartbeats 1000000 in
theorem wboth {W w : World} {h1 h2 n : Nat} {base : Int} {mem : Nat → Int} {F1 F2 : Nat → Prop} (d : Duo W w h1 h2 base n mem F1 F2) (addr v : Int) (ha : 0 ≤ addr ∧ addr < 18446744073709551616) (hv : 0 ≤ v ∧ v < 18446744073709551616) (hh : hasB base n addr 8 = true) :
    Calls Try.prog 19 #[.agg #[.pointer (some ⟨h1, 0, none⟩), .pointer (some ⟨h2, 0, none⟩)], .int .u64 addr, .int .i64 8, .int .u64 v] w fun e w' => e = .returned (.tuple #[]) ∧ ∃ F1' F2', Duo W w' h1 h2 base n (wr mem (addr - base).toNat 8 v) F1' F2' ∧ (∀ k, k < w.heap.size → F1' k → F1 k) ∧ (∀ k, k < w.heap.size → F2' k → F2 k) ∧ Mod (fun k => F1 k ∨ F2 k) w w' := by
  have D := Lib.hid d
  have P1 := Lib.hid (fun (w1 : World) (r : Ram w1 h1 base n mem F1) => write_z r addr v 8 8 rfl ha hv (by decide) hh)
  have P2 := Lib.hid (fun (w1 : World) (r : Ref.Mem w1 h2 base n mem F2) => rwrite_z r addr v 8 8 rfl ha hv (by decide) hh)
  have hu := Try.underlying31
  clear d ha hv hh
  go_enter Try.func19, Try.ntmps19
  go_wp2_with (first
    | ((with_reducible refine Step.gate_box (t := 31) rfl ?_); refine Step.fresh (cs := #[.pointer (some ⟨h1, 0, none⟩), .pointer (some ⟨h2, 0, none⟩)]) (T := 31) rfl ?hr ?_; (case hr => first | (go_simp; done) | (go_simp; rfl)); intro g w2 b hg hb; have c0 := b.cell 0; have B := Lib.hid b; have D2 := Lib.hid (D.out.below hb); have HB := Lib.hid hb; have HG := Lib.hid hg; simp only [List.getElem?_toArray, List.getElem?_cons_zero] at c0; clear b hg hb)
    | (go_at_call 37; refine (P1.out _ D2.out.one).mono ?_; rintro e w3 ⟨rfl, r, m⟩; have R1 := Lib.hid r; have M1 := Lib.hid m; have c1 := (((B.out.mod m (fun hf => by have := D.out.bound g (.inl hf); have := HG.out; omega)).cell 1)); have r2 := Lib.hid (D2.out.two.mod m (fun k h2 h1 => D.out.apart k h1 h2)); simp only [List.getElem?_toArray, List.getElem?_cons_zero, List.getElem?_cons_succ] at c1; clear r m)
    | (go_at_call 38; refine (P2.out _ r2.out).mono ?_; rintro e w4 ⟨rfl, r, m⟩; have R2 := Lib.hid r; have M2 := Lib.hid m; clear r m))
  go_end0
  have dd := D2.out.step R1.out M1.out R2.out M2.out
  have hs := HB.out.size
  refine ⟨rfl, _, _, dd, fun k hk h => h.elim id fun h => by omega, fun k hk h => h.elim id fun h => by have := M1.out.size; omega, ?_⟩
  refine ((Mod.of_below HB.out _).trans (M1.out.mono fun k _ h => .inl h)).trans (M2.out.mono fun k _ h => .inr h)
end Go.Proofs.Ytfoocpcpljlndaa.Duo
