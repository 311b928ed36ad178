/- Parts of the walks and laws for the claim: RamE, RamF, Pair, Ref, RefB, RefC, RefD, Open, Memory, MemoryB, LendA, Fill, DkM, CaseM, CaseS, OpenB; no conditions beyond the theorems' own. -/
import Derived.Below
import Derived.ChangeSlices
import Derived.Deep.RegionHeld3
import Derived.Laws.AppendOwn
import Derived.Laws.Cover3
import Derived.Laws.OwnMore
import Derived.Laws.ResultCell
import Derived.OpenShut
import Derived.ProofKit
import Derived.RowKit
import Derived.WalkKit
import Derived.Test.YtidiojhefjhojaaGreatQ2
import Derived.Test.YtidiojhefjhojaaGreatQ19
section
namespace Go.Proofs.YtidiojhefjhojaaGreat.Mem
open Go Go.RowKit Go.Proofs.YtidiojhefjhojaaGreat.Step
set_option linter.unusedVariables false
set_option linter.unusedSimpArgs false
set_option maxRecDepth 100000
/-- A slice's bytes, in blocks of G. -/
def Rd (W : World) (A : Option Addr) (n : Nat) (f : Nat → Int) (G : Nat → Prop) : Prop := ∀ k, k < n → ∃ ad, A = some ad ∧ G ad.block ∧ W.cell? (ad.add k) = some (.int .u8 (f k)) ∧ 0 ≤ f k ∧ f k < 256
theorem block_add (a : Addr) (n : Nat) : (a.add n).block = a.block := by unfold Addr.add; split <;> rfl
theorem Rd.mod {W W' : World} {A : Option Addr} {n : Nat} {f : Nat → Int} {G S : Nat → Prop} (r : Rd W A n f G) (m : Mod S W W') (hs : ∀ k, G k → ¬ S k) (hb : ∀ k, G k → k < W.heap.size) : Rd W' A n f G := fun k hk => by
  obtain ⟨ad, e, hG, hc, hv⟩ := r k hk
  exact ⟨ad, e, hG, (World.cell?_of_block (w := W) (m.block _ (by rw [block_add]; exact hb _ hG) (by rw [block_add]; exact hs _ hG))).trans hc, hv⟩
theorem Rd.below {W W' : World} {A : Option Addr} {n : Nat} {f : Nat → Int} {G : Nat → Prop} (r : Rd W A n f G) (m : Below W.heap.size W W') (hb : ∀ k, G k → k < W.heap.size) : Rd W' A n f G := r.mod (Mod.of_below m Nil) (fun _ _ h => h) hb
theorem Rd.drawn {W W' : World} {A : Option Addr} {n : Nat} {f : Nat → Int} {G : Nat → Prop} (r : Rd W A n f G) (m : ∃ k, W' = W.drewN k) : Rd W' A n f G := by obtain ⟨k, rfl⟩ := m; exact r
theorem Rd.congr {W : World} {A : Option Addr} {n : Nat} {f g : Nat → Int} {G : Nat → Prop} (r : Rd W A n f G) (h : ∀ k, k < n → f k = g k) : Rd W A n g G := fun k hk => by rw [← h k hk]; exact r k hk
theorem Rd.more {W : World} {A : Option Addr} {n : Nat} {f : Nat → Int} {G G' : Nat → Prop} (r : Rd W A n f G) (h : ∀ k, G k → G' k) : Rd W A n f G' := fun k hk => by
  obtain ⟨ad, e, hG, hc⟩ := r k hk
  exact ⟨ad, e, h _ hG, hc⟩
/-- A row of bytes. -/
def row (n : Nat) (f : Nat → Int) : Array Value := (Array.range n).map fun k => .int .u8 (f k)
theorem row_size (n : Nat) (f : Nat → Int) : (row n f).size = n := by simp [row]
theorem row_at (n : Nat) (f : Nat → Int) {k : Nat} (h : k < n) : (row n f)[k]? = some (.int .u8 (f k)) := by simp [row, h]
theorem row_set (n : Nat) (f : Nat → Int) {k : Nat} (v : Int) : (row n f).setIfInBounds k (.int .u8 v) = row n (upd f k v) := by
  apply Array.ext (by simp [row])
  intro i h1 h2
  by_cases e : k = i
  · subst e; simp [row, upd]
  · rw [Array.getElem_setIfInBounds_ne (by simpa [row] using h2) e]
    simp [row, upd, Ne.symm e]
theorem row_zero (n : Nat) : Array.replicate n (Value.int .u8 0) = row n fun _ => 0 := by
  apply Array.ext (by simp [row])
  intro i h1 h2
  simp [row]
/-- Bytes, filled in. -/
def fl (mem : Nat → Int) (off len : Nat) (f : Nat → Int) : Nat → Int := fun i => if off ≤ i ∧ i < off + len then f (i - off) else mem i
theorem fl_zero (mem : Nat → Int) (off : Nat) (f : Nat → Int) : fl mem off 0 f = mem := funext fun i => if_neg (by omega)
theorem fl_succ (mem : Nat → Int) (off k : Nat) (f : Nat → Int) : upd (fl mem off k f) (off + k) (f k) = fl mem off (k + 1) f := by
  funext i
  unfold upd fl
  by_cases h : i = off + k
  · subst h; rw [if_pos rfl, if_pos (by omega), Nat.add_sub_cancel_left]
  · rw [if_neg h]
    by_cases h2 : off ≤ i ∧ i < off + k
    · rw [if_pos h2, if_pos (by omega)]
    · rw [if_neg h2, if_neg (by omega)]
set_option maxHeartbeats 1000000 in
theorem fill_yes {W : World} {h n : Nat} {base : Int} {mem : Nat → Int} {F G : Nat → Prop} (r : Ram W h base n mem F) (addr : Int) {A : Option Addr} {s c : Nat} {f : Nat → Int} (rb : Rd W A s f G) (hG : ∀ k, G k → ¬ F k ∧ k < W.heap.size) (ha : 0 ≤ addr ∧ addr < 18446744073709551616) (h2 : hasB base n addr s = true) :
    Calls Tryz.prog 32 #[.pointer (some ⟨h, 0, none⟩), .int .u64 addr, .slice A s c] W fun e W' => e = .returned (.bool true) ∧ Ram W' h base n (fl mem (addr - base).toNat s f) (Grow F W W') ∧ Mod F W W' := by
  obtain ⟨hh1, hh2, hh3⟩ := of_decide_eq_true h2
  obtain ⟨n1, n2, b1, b2⟩ := r.size
  have hs9 : (s : Int) < 9223372036854775808 := by omega
  have T2 := Lib.hid ((has_any r addr s ha hs9).mono fun e w' h => (by rw [h2] at h; exact h : e = .returned (.bool true) ∧ ∃ k, w' = W.drewN k))
  have R := Lib.hid r
  have RB := Lib.hid rb
  have HG := Lib.hid hG
  obtain ⟨ha1, ha2⟩ := ha
  have s1 : s ≤ 4194304 := by omega
  clear h2 r hs9 rb hG
  go_enter Tryz.func32, Tryz.ntmps32
  go_wp2_with (first
    | (go_at_call 9; refine (T2.out).mono ?_; rintro e w1 ⟨rfl, hw⟩; have R1 := Lib.hid (R.out.drawn hw); have HW := Lib.hid (below_drawn hw); clear hw))
  go_loopw [7, 8, 17] (fun x y i W1 => ∃ k : Nat, k ≤ s ∧ i = .int .i64 k ∧ Ram W1 h base n (fl mem (addr - base).toNat k f) (Grow F W W1) ∧ Mod F W W1) (fun _ _ i _ => (s - intOf i).toNat)
  case atStart =>
    refine ⟨0, Nat.zero_le _, rfl, ?_, ?_⟩
    · rw [fl_zero]; exact R1.out.more (fun k hk => .inl hk) (Grow.bound R.out.bound HW.out.size)
    · exact Mod.of_below HW.out F
  case round =>
    obtain ⟨k, hk, rfl, hR, hM⟩ := hrel
    by_cases hlt : k < s
    · obtain ⟨ad, rfl, _, hc, hf⟩ := (RB.out.mod hM (fun i hi => (HG.out i hi).1) (fun i hi => (HG.out i hi).2)) k hlt
      have T3 := Lib.hid (put hR (addr + k) (f k) (by omega) (by omega) hf)
      have hsz := Lib.hid hM.size
      have HM := Lib.hid hM
      clear hR hM hf
      go_wp2_with (go_at_call 50; refine (T3.out).mono ?_; rintro e w2 ⟨rfl, hR, hM⟩; have HR2 := Lib.hid hR; have HM2 := Lib.hid hM; clear hR hM)
      refine ⟨⟨k + 1, by omega, by go_num, ?_, mod_grow HM.out HM2.out⟩, by simp [intOf]; omega⟩
      have := (HR2.out.grow R.out.bound hsz.out HM2.out.size)
      rw [show (addr + (k : Int) - base).toNat = (addr - base).toNat + k by omega, fl_succ] at this
      exact this
    · obtain rfl : k = s := by omega
      have HR := Lib.hid hR
      have HM := Lib.hid hM
      clear hR hM
      go_wp2
      go_ret
      exact ⟨rfl, HR.out, HM.out⟩
end Go.Proofs.YtidiojhefjhojaaGreat.Mem
end
section
namespace Go.Proofs.YtidiojhefjhojaaGreat.Mem
open Go Go.RowKit Go.Proofs.YtidiojhefjhojaaGreat.Step
set_option linter.unusedVariables false
set_option linter.unusedSimpArgs false
set_option maxRecDepth 100000
/-- The first k frames of a content. -/
def first (mem : Nat → Int) (k : Nat) : Nat → Int := fun i => if i < k * 4096 then mem i else 0
end Go.Proofs.YtidiojhefjhojaaGreat.Mem
end
section
namespace Go.Proofs.YtidiojhefjhojaaGreat.Mem
open Go Go.RowKit Go.Proofs.YtidiojhefjhojaaGreat.Step
set_option linter.unusedVariables false
set_option linter.unusedSimpArgs false
set_option maxRecDepth 100000
/-- Two memories of the call's own. -/
structure Pair (W w : World) (h1 : Nat) (b1 : Int) (n1 : Nat) (m1 : Nat → Int) (h2 : Nat) (b2 : Int) (n2 : Nat) (m2 : Nat → Int) (F1 F2 : Nat → Prop) : Prop where
  one : Ram w h1 b1 n1 m1 F1
  two : Ram w h2 b2 n2 m2 F2
  apart : ∀ k, F1 k → ¬ F2 k
  new : ∀ k, F1 k ∨ F2 k → W.heap.size ≤ k
  mod : Mod Nil W w
theorem Pair.below {W w w' : World} {h1 n1 h2 n2 : Nat} {b1 b2 : Int} {m1 m2 : Nat → Int} {F1 F2 : Nat → Prop} (p : Pair W w h1 b1 n1 m1 h2 b2 n2 m2 F1 F2) (b : Below w.heap.size w w') : Pair W w' h1 b1 n1 m1 h2 b2 n2 m2 F1 F2 :=
  ⟨p.one.below b, p.two.below b, p.apart, p.new, p.mod.trans (Mod.of_below b Nil)⟩
theorem Pair.drawn {W w w' : World} {h1 n1 h2 n2 : Nat} {b1 b2 : Int} {m1 m2 : Nat → Int} {F1 F2 : Nat → Prop} (p : Pair W w h1 b1 n1 m1 h2 b2 n2 m2 F1 F2) (b : ∃ k, w' = w.drewN k) : Pair W w' h1 b1 n1 m1 h2 b2 n2 m2 F1 F2 := p.below (below_drawn b)
/-- One memory of the call's own. -/
structure Solo (W w : World) (h : Nat) (b : Int) (n : Nat) (mem : Nat → Int) (F : Nat → Prop) : Prop where
  ram : Ram w h b n mem F
  new : ∀ k, F k → W.heap.size ≤ k
  mod : Mod Nil W w
theorem Solo.made {W w w' : World} {h n : Nat} {b : Int} {mem : Nat → Int} (m0 : Mod Nil W w) (r : Ram w' h b n mem (Grow Nil w w')) (m : Mod Nil w w') : Solo W w' h b n mem (Grow Nil w w') :=
  ⟨r, fun k hk => hk.elim (fun h => h.elim) fun h => Nat.le_trans m0.size h.1, m0.trans m⟩
theorem Solo.below {W w w' : World} {h n : Nat} {b : Int} {mem : Nat → Int} {F : Nat → Prop} (s : Solo W w h b n mem F) (m : Below w.heap.size w w') : Solo W w' h b n mem F := ⟨s.ram.below m, s.new, s.mod.trans (Mod.of_below m Nil)⟩
theorem Solo.drawn {W w w' : World} {h n : Nat} {b : Int} {mem : Nat → Int} {F : Nat → Prop} (s : Solo W w h b n mem F) (m : ∃ k, w' = w.drewN k) : Solo W w' h b n mem F := s.below (below_drawn m)
theorem Solo.step {W w w' : World} {h n : Nat} {b : Int} {mem mem' : Nat → Int} {F : Nat → Prop} (s : Solo W w h b n mem F) (r : Ram w' h b n mem' (Grow F w w')) (m : Mod F w w') : Solo W w' h b n mem' (Grow F w w') :=
  ⟨r, fun k hk => hk.elim (s.new k) fun h => Nat.le_trans s.mod.size h.1, s.mod.trans_new m fun i hi h => by have := s.new i h; omega⟩
/-- Something newer is turned. -/
theorem Solo.other {W w w' : World} {h n : Nat} {b : Int} {mem : Nat → Int} {F S : Nat → Prop} (s : Solo W w h b n mem F) (m : Mod S w w') (hs : ∀ k, F k → ¬ S k) (hn : ∀ k, S k → W.heap.size ≤ k) : Solo W w' h b n mem F :=
  ⟨s.ram.mod m hs, s.new, s.mod.trans_new m fun i hi h => by have := hn i h; omega⟩
theorem Solo.out {W w : World} {h n : Nat} {b : Int} {mem : Nat → Int} {F : Nat → Prop} (s : Solo W w h b n mem F) : Below W.heap.size W w := s.mod.below
theorem Pair.made {W w w' : World} {h1 n1 h2 n2 : Nat} {b1 b2 : Int} {m1 m2 : Nat → Int} {F : Nat → Prop} (s : Solo W w h1 b1 n1 m1 F) (r : Ram w' h2 b2 n2 m2 (Grow Nil w w')) (b : Below w.heap.size w w') : Pair W w' h1 b1 n1 m1 h2 b2 n2 m2 F (Grow Nil w w') :=
  ⟨s.ram.below b, r, fun k h1 h2 => by
      have := s.ram.bound k h1
      rcases h2 with h2 | h2
      · exact h2
      · omega, fun k hk => by
      rcases hk with h | (h | h)
      · exact s.new k h
      · exact h.elim
      · exact Nat.le_trans s.mod.size h.1, s.mod.trans (Mod.of_below b Nil)⟩
theorem Pair.out {W w : World} {h1 n1 h2 n2 : Nat} {b1 b2 : Int} {m1 m2 : Nat → Int} {F1 F2 : Nat → Prop} (p : Pair W w h1 b1 n1 m1 h2 b2 n2 m2 F1 F2) : Below W.heap.size W w := p.mod.below
theorem make_u8 (n : Nat) (hn : n ≤ 100000000000) (w : World) : (Instr.makeSlice 23 (.int .i64 n) (.int .i64 n)).run Tryz.prog w = .ok (.slice (some ⟨w.heap.size, 0, none⟩) n n) (w.alloc (.cells (row n fun _ => 0) 5 (0, 0))) := by
  have h := mk_u8
  cases hi' : Tryz.prog.info? 5 with
  | none => rw [hi'] at h; cases h
  | some i =>
    rw [hi'] at h
    simp only [Option.map_some, Option.some.injEq, Prod.mk.injEq] at h
    obtain ⟨h1, h2, h3⟩ := h
    have hr := run_make (P := Tryz.prog) w 23 5 i _ Tryz.underlying23 hi' h3 .i64 .i64 n n (by omega) (Int.le_refl _) (by rw [h2]; omega) (by omega)
    simp only [Int.toNat_natCast, h1, Nat.mul_one, Value.cells, madeCells_one, row_zero] at hr
    exact hr
end Go.Proofs.YtidiojhefjhojaaGreat.Mem
end
section
namespace Go.Proofs.YtidiojhefjhojaaGreat.Ref
open Go Go.RowKit Go.Proofs.YtidiojhefjhojaaGreat.Step Go.Proofs.YtidiojhefjhojaaGreat.Mem
set_option linter.unusedVariables false
set_option linter.unusedSimpArgs false
set_option maxRecDepth 100000
def sl : Option (Nat × Nat) → Value
  | none => .slice none 0 0
  | some (g, c) => .slice (some ⟨g, 0, none⟩) 4096 c
theorem eql_nil (w : World) : (binOp .eql 23 (.slice none 0 0) (.slice none 0 0)).run Tryz.prog w = .ok (.bool true) w := by
  have := run_equal_slice_nil (P := Tryz.prog) w 23 _ none 0 0 Tryz.underlying23
  simp [binOp, this, Result.andThen]
theorem eql_some (w : World) (ad : Addr) (n c : Nat) : (binOp .eql 23 (.slice (some ad) n c) (.slice none 0 0)).run Tryz.prog w = .ok (.bool false) w := by
  have := run_equal_slice_nil (P := Tryz.prog) w 23 _ (some ad) n c Tryz.underlying23
  simp [binOp, this, Result.andThen]
set_option maxHeartbeats 1000000 in
theorem put_old (W : World) (h fb n g c : Nat) (base addr v : Int) (cs bs : Array Value) (k j : Nat) (hb : 0 ≤ base) (ha : base ≤ addr) (ha2 : addr < 18446744073709551616) (hk : (addr - base) / 4096 = (k : Int)) (hj : (addr - base) % 4096 = (j : Int)) (hjn : j < 4096) (hkn : k < n) (hn : n ≤ 1024)
    (b0 : Step.Blk W h #[.int .u64 base, .int .i64 n, .slice (some ⟨fb, 0, none⟩) n n] 135) (b1 : Step.Blk W fb cs 23) (ck : cs[k]? = some (.slice (some ⟨g, 0, none⟩) 4096 c)) (b2 : Step.Blk W g bs 5) (hbs : 4096 ≤ bs.size) :
    Calls Tryz.prog 52 #[.pointer (some ⟨h, 0, none⟩), .int .u64 addr, .int .u8 v] W fun e W' => e = .returned (.tuple #[]) ∧ Step.Blk W' g (bs.setIfInBounds j (.int .u8 v)) 5 ∧ Step.Mod (Step.One g) W W' := by
  have hs : IntKind.u64.wrap (addr - base) = addr - base := IntWalk.u64_in _ (by omega)
  have hu35 := eql_nil
  have hu36 := eql_some
  have c0 := b0.cell 0
  have c1 := b0.cell 2
  have ck' := (b1.cell k).trans ck
  have B2 := Lib.hid b2
  have HJ2 := Lib.hid (show Nat.blt j bs.size = true from Nat.ble_eq_true_of_le (by omega))
  clear hbs b0 b1 ck b2
  simp only [List.getElem?_toArray, List.getElem?_cons_zero, List.getElem?_cons_succ] at c0 c1
  go_enter Tryz.func52, Tryz.ntmps52
  go_wp2_with (first
    | ((with_reducible refine Step.gate_store (t := 5) rfl ?_); refine Step.store B2.out rfl rfl rfl rfl rfl pl_u8 rfl HJ2.out ?_; intro w1 n2 m; have N2 := Lib.hid n2; have M := Lib.hid m; clear n2 m))
  go_end0
  exact ⟨rfl, N2.out, M.out⟩
theorem make_4096 (w : World) : (Instr.makeSlice 23 (.int .i64 4096) (.int .i64 4096)).run Tryz.prog w = .ok (.slice (some ⟨w.heap.size, 0, none⟩) 4096 4096) (w.alloc (.cells (row 4096 fun _ => 0) 5 (0, 0))) := make_u8 4096 (by omega) w
set_option maxHeartbeats 1000000 in
theorem put_new (W : World) (h fb n : Nat) (base addr v : Int) (cs : Array Value) (k j : Nat) (hb : 0 ≤ base) (ha : base ≤ addr) (ha2 : addr < 18446744073709551616) (hk : (addr - base) / 4096 = (k : Int)) (hj : (addr - base) % 4096 = (j : Int)) (hjn : j < 4096) (hkn : k < n) (hn : n ≤ 1024)
    (b0 : Step.Blk W h #[.int .u64 base, .int .i64 n, .slice (some ⟨fb, 0, none⟩) n n] 135) (b1 : Step.Blk W fb cs 23) (hcs : cs.size = n) (hne : h ≠ fb) (ck : cs[k]? = some (.slice none 0 0)) :
    Calls Tryz.prog 52 #[.pointer (some ⟨h, 0, none⟩), .int .u64 addr, .int .u8 v] W fun e W' => e = .returned (.tuple #[]) ∧ ∃ g, Step.Blk W' g (row 4096 (upd (fun _ => 0) j v)) 5 ∧ Step.Blk W' fb (cs.setIfInBounds k (.slice (some ⟨g, 0, none⟩) 4096 4096)) 23 ∧ W.heap.size ≤ g ∧ Step.Mod (Step.One fb) W W' := by
  have hs : IntKind.u64.wrap (addr - base) = addr - base := IntWalk.u64_in _ (by omega)
  have hu35 := eql_nil
  have hu36 := eql_some
  have c0 := b0.cell 0
  have c1 := b0.cell 2
  have ck' := (b1.cell k).trans ck
  have lt0 := b0.lt
  have lt1 := b1.lt
  have B0 := Lib.hid b0
  have B1 := Lib.hid b1
  have HK2 := Lib.hid (show Nat.blt k cs.size = true by rw [hcs]; exact Nat.ble_eq_true_of_le hkn)
  have HMK := make_4096
  have fz : ∀ o, ((W.alloc o).drew).frozen? ⟨fb, k, none⟩ = false := fun o => ((b1.below (alloc_below W o)).frozen k)
  have hne2 : (⟨h, 2, none⟩ : Addr) ≠ ⟨fb, k, none⟩ := fun e => hne (congrArg Addr.block e)
  have hne3 : ¬ h = fb := hne
  have fz3 : ∀ o, (W.alloc o).frozen? ⟨fb, k, none⟩ = false := fun o => ((b1.below (alloc_below W o)).frozen k)
  have hkeep : ∀ v o, (((W.setCell ⟨fb, k, none⟩ v).alloc o).drew).cell? ⟨h, 2, none⟩ = some (.slice (some ⟨fb, 0, none⟩) n n) := fun v o => ((((b0.one (setCell_mod W fb k v) hne).below (alloc_below _ o)).cell 2).trans rfl : _)
  clear b0 b1 ck hcs
  simp only [List.getElem?_toArray, List.getElem?_cons_zero, List.getElem?_cons_succ] at c0 c1
  go_enter Tryz.func52, Tryz.ntmps52
  go_wp2
  go_region_held3 (fun w' => w'.cell? ⟨h, 2, none⟩ = some (.slice (some ⟨fb, 0, none⟩) n n)) (first | go_keep) (fail)
  rename_i hHeld
  have hsz : (W.setCell ⟨fb, k, none⟩ (.slice (some ⟨W.heap.size, 0, none⟩) 4096 4096)).heap.size = W.heap.size := by simp [World.setCell]
  have al : Below (W.setCell ⟨fb, k, none⟩ (.slice (some ⟨W.heap.size, 0, none⟩) 4096 4096)).heap.size (W.setCell ⟨fb, k, none⟩ (.slice (some ⟨W.heap.size, 0, none⟩) 4096 4096)) ((W.setCell ⟨fb, k, none⟩ (.slice (some ⟨W.heap.size, 0, none⟩) 4096 4096)).alloc (.cells (row 4096 fun _ => 0) 5 (0, 0))).drew := (alloc_below _ _).drew
  obtain ⟨W2, hW2⟩ : ∃ W2, W2 = ((W.setCell ⟨fb, k, none⟩ (.slice (some ⟨W.heap.size, 0, none⟩) 4096 4096)).alloc (.cells (row 4096 fun _ => 0) 5 (0, 0))).drew := ⟨_, rfl⟩
  have m1 : Step.Mod (Step.One fb) W W2 := by rw [hW2]; exact (setCell_mod W fb k _).trans (Mod.of_below al _)
  have bf : Step.Blk W2 fb (cs.setIfInBounds k (.slice (some ⟨W.heap.size, 0, none⟩) 4096 4096)) 23 := by rw [hW2]; exact (setCell_out W fb k _ cs _ B1.out).below al
  have bg : Step.Blk W2 W.heap.size (row 4096 fun _ => 0) 5 := by
    have := (alloc_out (W.setCell ⟨fb, k, none⟩ (.slice (some ⟨W.heap.size, 0, none⟩) 4096 4096)) (row 4096 fun _ => 0) 5)
    rw [hsz] at this
    rw [hW2]; exact ⟨this.out⟩
  have d2 := ((B0.out.one m1 hne).cell 2)
  have dk := bf.cell k
  rw [Array.getElem?_setIfInBounds_self_of_lt (Nat.le_of_ble_eq_true HK2.out)] at dk
  simp only [List.getElem?_toArray, List.getElem?_cons_zero, List.getElem?_cons_succ] at d2
  have M1 := Lib.hid m1
  have BF := Lib.hid bf
  have BG := Lib.hid bg
  have HJ := Lib.hid (show Nat.blt j (row 4096 fun _ => 0).size = true by rw [row_size]; exact Nat.ble_eq_true_of_le hjn)
  have lf := Lib.hid lt1
  rw [← hW2]
  clear hW2 m1 bf bg al hsz hHeld hne2 hne3 c0 c1 ck' HMK fz fz3 hkeep
  go_wp2_with (first
    | ((with_reducible refine Step.gate_store (t := 5) rfl ?_); refine Step.store BG.out rfl rfl rfl rfl rfl pl_u8 rfl HJ.out ?_; intro w1 n2 m; have N2 := Lib.hid n2; have M := Lib.hid m; clear n2 m))
  go_end0
  have lf' := lf.out
  refine ⟨rfl, W.heap.size, ?_, BF.out.one M.out (by omega), Nat.le_refl _, M1.out.trans_new M.out fun i hi e => by obtain rfl : i = W.heap.size := e; omega⟩
  have nb : Step.Blk w1 W.heap.size ((row 4096 fun _ => 0).setIfInBounds j (.int .u8 v)) 5 := N2.out
  rwa [row_set] at nb
end Go.Proofs.YtidiojhefjhojaaGreat.Ref
end
section
namespace Go.Proofs.YtidiojhefjhojaaGreat.Ref
open Go Go.RowKit Go.Proofs.YtidiojhefjhojaaGreat.Step Go.Proofs.YtidiojhefjhojaaGreat.Mem
set_option linter.unusedVariables false
set_option linter.unusedSimpArgs false
set_option maxRecDepth 100000
structure MemIn (W : World) (h fb : Nat) (cs : Array Value) (fs : Nat → Option (Nat × Nat)) (base : Int) (n : Nat) (mem : Nat → Int) (F : Nat → Prop) : Prop where
  hdr : Blk W h #[.int .u64 base, .int .i64 n, .slice (some ⟨fb, 0, none⟩) n n] 135
  row : Blk W fb cs 23
  csz : cs.size = n
  n_lo : 1 ≤ n
  n_hi : n ≤ 1024
  b_lo : 0 ≤ base
  b_hi : base ≤ 4503599627370496
  at_ : ∀ k, k < n → cs[k]? = some (sl (fs k))
  frame : ∀ k g c, k < n → fs k = some (g, c) → F g ∧ ∃ bs, Blk W g bs 5 ∧ 4096 ≤ bs.size ∧ ∀ j, j < 4096 → bs[j]? = some (.int .u8 (mem (k * 4096 + j)))
  none_ : ∀ k, k < n → fs k = none → ∀ j, j < 4096 → mem (k * 4096 + j) = 0
  inj : ∀ k k' g c c', k < n → k' < n → fs k = some (g, c) → fs k' = some (g, c') → k = k'
  foot_h : F h
  foot_fb : F fb
  bound : ∀ k, F k → k < W.heap.size
  byte : ∀ i, i < n * 4096 → 0 ≤ mem i ∧ mem i < 256
def Mem (W : World) (h : Nat) (base : Int) (n : Nat) (mem : Nat → Int) (F : Nat → Prop) : Prop := ∃ fb cs fs, MemIn W h fb cs fs base n mem F
theorem Mem.mod {W W' : World} {h n : Nat} {base : Int} {mem : Nat → Int} {F S : Nat → Prop} (r : Mem W h base n mem F) (m : Mod S W W') (hs : ∀ k, F k → ¬ S k) : Mem W' h base n mem F := by
  obtain ⟨fb, cs, fs, r⟩ := r
  exact ⟨fb, cs, fs, { r with hdr := r.hdr.mod m (hs _ r.foot_h), row := r.row.mod m (hs _ r.foot_fb), frame := fun k g c hk hf => (by
    obtain ⟨hF, bs, hb, h2⟩ := r.frame k g c hk hf
    exact ⟨hF, bs, hb.mod m (hs _ hF), h2⟩), bound := fun k hk => Nat.lt_of_lt_of_le (r.bound k hk) m.size }⟩
theorem Mem.below {W W' : World} {h n : Nat} {base : Int} {mem : Nat → Int} {F : Nat → Prop} (r : Mem W h base n mem F) (m : Below W.heap.size W W') : Mem W' h base n mem F := r.mod (Mod.of_below m Nil) fun _ _ h => h
theorem Mem.drawn {W W' : World} {h n : Nat} {base : Int} {mem : Nat → Int} {F : Nat → Prop} (r : Mem W h base n mem F) (hw : ∃ k, W' = W.drewN k) : Mem W' h base n mem F := r.below (below_drawn hw)
theorem Mem.bound {W : World} {h n : Nat} {base : Int} {mem : Nat → Int} {F : Nat → Prop} (r : Mem W h base n mem F) : ∀ k, F k → k < W.heap.size := by obtain ⟨fb, cs, fs, r⟩ := r; exact r.bound
theorem Mem.size {W : World} {h n : Nat} {base : Int} {mem : Nat → Int} {F : Nat → Prop} (r : Mem W h base n mem F) : 1 ≤ n ∧ n ≤ 1024 ∧ 0 ≤ base ∧ base ≤ 4503599627370496 := by obtain ⟨fb, cs, fs, r⟩ := r; exact ⟨r.n_lo, r.n_hi, r.b_lo, r.b_hi⟩
theorem Mem.byte {W : World} {h n : Nat} {base : Int} {mem : Nat → Int} {F : Nat → Prop} (r : Mem W h base n mem F) {i : Nat} (hi : i < n * 4096) : 0 ≤ mem i ∧ mem i < 256 := by obtain ⟨fb, cs, fs, r⟩ := r; exact r.byte i hi
theorem Mem.more {W : World} {h n : Nat} {base : Int} {mem : Nat → Int} {F F' : Nat → Prop} (r : Mem W h base n mem F) (hF : ∀ k, F k → F' k) (hb : ∀ k, F' k → k < W.heap.size) : Mem W h base n mem F' := by
  obtain ⟨fb, cs, fs, r⟩ := r
  exact ⟨fb, cs, fs, { r with frame := fun k g c hk hf => ⟨hF _ (r.frame k g c hk hf).1, (r.frame k g c hk hf).2⟩, foot_h := hF _ r.foot_h, foot_fb := hF _ r.foot_fb, bound := hb }⟩
theorem Mem.grow {W W1 W2 : World} {h n : Nat} {base : Int} {mem : Nat → Int} {F : Nat → Prop} (r : Mem W2 h base n mem (Grow (Grow F W W1) W1 W2)) (hF : ∀ k, F k → k < W.heap.size) (h1 : W.heap.size ≤ W1.heap.size) (h2 : W1.heap.size ≤ W2.heap.size) : Mem W2 h base n mem (Grow F W W2) :=
  r.more (Grow.grow h1 h2) (Grow.bound hF (Nat.le_trans h1 h2))
theorem Mem.cells {W : World} {h n : Nat} {base : Int} {mem : Nat → Int} {F : Nat → Prop} (r : Mem W h base n mem F) : ∃ fb : Nat, W.cell? ⟨h, 0, none⟩ = some (.int .u64 base) ∧ W.cell? ⟨h, 1, none⟩ = some (.int .i64 n) ∧ W.cell? ⟨h, 2, none⟩ = some (.slice (some ⟨fb, 0, none⟩) n n) := by
  obtain ⟨fb, cs, fs, r⟩ := r
  have c0 := r.hdr.cell 0
  have c1 := r.hdr.cell 1
  have c2 := r.hdr.cell 2
  simp only [List.getElem?_toArray, List.getElem?_cons_zero, List.getElem?_cons_succ] at c0 c1 c2
  exact ⟨fb, c0, c1, c2⟩
theorem put {W : World} {h n : Nat} {base : Int} {mem : Nat → Int} {F : Nat → Prop} (r : Mem W h base n mem F) (addr v : Int) (ha : base ≤ addr) (hb : addr < base + n * 4096) (hv : 0 ≤ v ∧ v < 256) :
    Calls Tryz.prog 52 #[.pointer (some ⟨h, 0, none⟩), .int .u64 addr, .int .u8 v] W fun e W' => e = .returned (.tuple #[]) ∧ Mem W' h base n (upd mem (addr - base).toNat v) (Grow F W W') ∧ Mod F W W' := by
  obtain ⟨fb, cs, fs, r⟩ := r
  obtain ⟨k, j, hk, hj, hj4, hkn, ho⟩ := offs ha hb
  have := r.n_hi
  have := r.b_hi
  have hne : h ≠ fb := fun e => by subst e; have := (r.hdr.inj r.row).2; revert this; decide
  have hbyte : ∀ i, i < n * 4096 → 0 ≤ upd mem (k * 4096 + j) v i ∧ upd mem (k * 4096 + j) v i < 256 := fun i hi => by
    unfold upd; split
    · exact hv
    · exact r.byte i hi
  rw [ho]
  cases hf : fs k with
  | some p =>
    obtain ⟨g, c⟩ := p
    obtain ⟨hF, bs, hb, hsz, hbs⟩ := r.frame k g c hkn hf
    have ck := r.at_ k hkn
    rw [hf] at ck
    refine (put_old W h fb n g c base addr v cs bs k j r.b_lo ha (by omega) hk hj hj4 hkn r.n_hi r.hdr r.row ck hb hsz).mono ?_
    rintro e W' ⟨rfl, hb', m⟩
    have gh : h ≠ g := fun e => by subst e; have := (r.hdr.inj hb).2; revert this; decide
    have gf : fb ≠ g := fun e => by subst e; have := (r.row.inj hb).2; revert this; decide
    refine ⟨rfl, ⟨fb, cs, fs, ?_⟩, m.mono fun i _ e => by obtain rfl : i = g := e; exact hF⟩
    refine { hdr := r.hdr.one m gh, row := r.row.one m gf, csz := r.csz, n_lo := r.n_lo, n_hi := r.n_hi, b_lo := r.b_lo, b_hi := r.b_hi, at_ := r.at_, frame := fun k' g' c' hk' hf' => ?_, none_ := fun k' hk' hf' j' hj' => ?_, inj := r.inj, foot_h := .inl r.foot_h, foot_fb := .inl r.foot_fb, bound := Grow.bound r.bound m.size, byte := hbyte }
    · obtain ⟨hF', bs', hb2, hsz', hbs'⟩ := r.frame k' g' c' hk' hf'
      refine ⟨.inl hF', ?_⟩
      by_cases e : g' = g
      · subst e
        obtain rfl := r.inj k' k g' c' c hk' hkn hf' hf
        refine ⟨_, hb', by simpa using hsz, fun j' hj' => ?_⟩
        unfold upd
        by_cases ej : j = j'
        · subst ej; rw [if_pos rfl]; simp [show j < bs.size by omega]
        · rw [if_neg (by omega), Array.getElem?_setIfInBounds_ne ej]; exact hbs j' hj'
      · refine ⟨bs', hb2.one m e, hsz', fun j' hj' => ?_⟩
        have : k' ≠ k := fun ek => e (by subst ek; rw [hf] at hf'; exact (congrArg Prod.fst (Option.some.inj hf')).symm)
        unfold upd
        rw [if_neg (by omega)]; exact hbs' j' hj'
    · have : k' ≠ k := fun ek => by subst ek; rw [hf] at hf'; cases hf'
      unfold upd
      rw [if_neg (by omega)]; exact r.none_ k' hk' hf' j' hj'
  | none =>
    have ck := r.at_ k hkn
    rw [hf] at ck
    refine (put_new W h fb n base addr v cs k j r.b_lo ha (by omega) hk hj hj4 hkn r.n_hi r.hdr r.row r.csz hne ck).mono ?_
    rintro e W' ⟨rfl, g, hg, hfb, hnew, m⟩
    refine ⟨rfl, ⟨fb, cs.setIfInBounds k (.slice (some ⟨g, 0, none⟩) 4096 4096), fun i => if i = k then some (g, 4096) else fs i, ?_⟩, m.mono fun i _ e => by obtain rfl : i = fb := e; exact r.foot_fb⟩
    refine { hdr := r.hdr.one m hne, row := hfb, csz := by simpa using r.csz, n_lo := r.n_lo, n_hi := r.n_hi, b_lo := r.b_lo, b_hi := r.b_hi, at_ := fun k' hk' => ?_, frame := fun k' g' c' hk' hf' => ?_, none_ := fun k' hk' hf' j' hj' => ?_, inj := fun a b g' c c' ha hb h1 h2 => ?_, foot_h := .inl r.foot_h, foot_fb := .inl r.foot_fb, bound := Grow.bound r.bound m.size, byte := hbyte }
    · by_cases e : k = k'
      · subst e; simp [r.csz, hkn, sl]
      · rw [Array.getElem?_setIfInBounds_ne e]; simp only [if_neg (Ne.symm e)]; exact r.at_ k' hk'
    · by_cases e : k' = k
      · subst e
        simp only [if_true, Option.some.injEq, Prod.mk.injEq] at hf'
        obtain ⟨rfl, rfl⟩ := hf'
        refine ⟨.inr ⟨hnew, hg.lt⟩, _, hg, by rw [row_size]; exact Nat.le_refl _, fun j' hj' => ?_⟩
        rw [row_at _ _ hj']
        unfold upd
        by_cases ej : j = j'
        · subst ej; rw [if_pos rfl, if_pos rfl]
        · rw [if_neg (Ne.symm ej), if_neg (by omega), r.none_ k' hk' hf j' hj']
      · simp only [if_neg e] at hf'
        obtain ⟨hF', bs', hb2, hsz', hbs'⟩ := r.frame k' g' c' hk' hf'
        have : g' ≠ fb := fun eg => by subst eg; have := (hb2.inj r.row).2; revert this; decide
        refine ⟨.inl hF', bs', hb2.one m this, hsz', fun j' hj' => ?_⟩
        unfold upd
        rw [if_neg (by omega)]; exact hbs' j' hj'
    · by_cases e : k' = k
      · simp [e] at hf'
      · simp only [if_neg e] at hf'
        unfold upd
        rw [if_neg (by omega)]; exact r.none_ k' hk' hf' j' hj'
    · have old : ∀ d c, d < n → fs d ≠ some (g, c) := fun d c hd hcg => by
        have := r.bound g (r.frame d g c hd hcg).1
        omega
      by_cases ea : a = k <;> by_cases eb : b = k
      · rw [ea, eb]
      · simp only [if_pos ea, if_neg eb, Option.some.injEq, Prod.mk.injEq] at h1 h2; obtain ⟨rfl, _⟩ := h1; exact absurd h2 (old b _ hb)
      · simp only [if_neg ea, if_pos eb, Option.some.injEq, Prod.mk.injEq] at h1 h2; obtain ⟨rfl, _⟩ := h2; exact absurd h1 (old a _ ha)
      · simp only [if_neg ea, if_neg eb] at h1 h2; exact r.inj a b g' c c' ha hb h1 h2
theorem right_any (s : Int) (w : World) : Calls Tryz.prog 93 #[.int .i64 s] w fun e w' => e = .returned (.bool (wholeB s)) ∧ w = w' := by
  by_cases h1 : s = 1
  · subst h1; go_enter Tryz.func93, Tryz.ntmps93; go_wp2; go_ret; exact ⟨rfl, rfl⟩
  by_cases h2 : s = 2
  · subst h2; go_enter Tryz.func93, Tryz.ntmps93; go_wp2; go_ret; exact ⟨rfl, rfl⟩
  by_cases h3 : s = 4
  · subst h3; go_enter Tryz.func93, Tryz.ntmps93; go_wp2; go_ret; exact ⟨rfl, rfl⟩
  by_cases h4 : s = 8
  · subst h4; go_enter Tryz.func93, Tryz.ntmps93; go_wp2; go_ret; exact ⟨rfl, rfl⟩
  have E := Lib.hid (show wholeB s = false from decide_eq_false (by omega))
  have d1 : (s == 1) = false := by simpa using h1
  have d2 : (s == 2) = false := by simpa using h2
  have d3 : (s == 4) = false := by simpa using h3
  have d4 : (s == 8) = false := by simpa using h4
  go_enter Tryz.func93, Tryz.ntmps93; go_wp2; go_ret; exact ⟨by rw [E.out]; rfl, rfl⟩
set_option maxHeartbeats 1000000 in
theorem has_any {W : World} {h n : Nat} {base : Int} {mem : Nat → Int} {F : Nat → Prop} (r : Mem W h base n mem F) (addr size : Int) (ha : 0 ≤ addr ∧ addr < 18446744073709551616) (hs : size < 9223372036854775808) :
    Calls Tryz.prog 51 #[.pointer (some ⟨h, 0, none⟩), .int .u64 addr, .int .i64 size] W fun e W' => e = .returned (.bool (hasB base n addr size)) ∧ W = W' := by
  obtain ⟨fb, c0, c1, c2⟩ := r.cells
  obtain ⟨n1, n2, b1, b2⟩ := r.size
  obtain ⟨ha1, ha2⟩ := ha
  clear r
  have hsz := Lib.hid hs
  clear hs
  by_cases h1 : size < 0
  · have E := Lib.hid (show hasB base n addr size = false from decide_eq_false (by omega))
    go_enter Tryz.func51, Tryz.ntmps51
    go_wp2
    go_ret
    exact ⟨by rw [E.out]; rfl, rfl⟩
  · have d1 : decide (size < 0) = false := by simpa using h1
    have h1' : 0 ≤ size := by omega
    clear h1
    by_cases h2 : addr < base
    · have E := Lib.hid (show hasB base n addr size = false from decide_eq_false (by omega))
      go_enter Tryz.func51, Tryz.ntmps51
      go_wp2
      go_ret
      exact ⟨by rw [E.out]; rfl, rfl⟩
    · have d2 : decide (addr < base) = false := by simpa using h2
      have h2' : base ≤ addr := by omega
      clear h2
      have hs : IntKind.u64.wrap (addr - base) = addr - base := IntWalk.u64_in _ (by omega)
      have hs0 : IntKind.u64.wrap size = size := IntWalk.u64_in _ (by have := hsz.out; omega)
      by_cases h3 : addr - base ≤ (n : Int) * 4096
      · have hs2 : IntKind.u64.wrap ((n : Int) * 4096 - (addr - base)) = (n : Int) * 4096 - (addr - base) := IntWalk.u64_in _ (by omega)
        have E := Lib.hid (show hasB base n addr size = decide (size ≤ (n : Int) * 4096 - (addr - base)) from decide_eq_decide.2 (by omega))
        go_enter Tryz.func51, Tryz.ntmps51
        go_wp2
        go_ret
        exact ⟨by rw [E.out]; rfl, rfl⟩
      · have d3 : decide (addr - base ≤ (n : Int) * 4096) = false := by simpa using h3
        have h3' : (n : Int) * 4096 < addr - base := by omega
        clear h3
        have E := Lib.hid (show hasB base n addr size = false from decide_eq_false (by omega))
        go_enter Tryz.func51, Tryz.ntmps51
        go_wp2
        go_ret
        exact ⟨by rw [E.out]; rfl, rfl⟩
end Go.Proofs.YtidiojhefjhojaaGreat.Ref
end
section
namespace Go.Proofs.YtidiojhefjhojaaGreat.Ref
open Go Go.RowKit Go.Proofs.YtidiojhefjhojaaGreat.Step Go.Proofs.YtidiojhefjhojaaGreat.Mem
set_option linter.unusedVariables false
set_option linter.unusedSimpArgs false
set_option maxRecDepth 100000
theorem mod_grow' {F : Nat → Prop} {W W1 W2 : World} (h : Mod F W W1) (k : Mod (Grow F W W1) W1 W2) : Mod F W W2 := Mem.mod_grow h k
set_option maxHeartbeats 1000000 in
theorem write_yes {W : World} {h n : Nat} {base : Int} {mem : Nat → Int} {F : Nat → Prop} (r : Mem W h base n mem F) (addr v : Int) (s : Nat) (ha : 0 ≤ addr ∧ addr < 18446744073709551616) (hv : 0 ≤ v ∧ v < 18446744073709551616) (h1 : wholeB s = true) (h2 : hasB base n addr s = true) :
    Calls Tryz.prog 49 #[.pointer (some ⟨h, 0, none⟩), .int .u64 addr, .int .i64 s, .int .u64 v] W fun e W' => e = .returned (.bool true) ∧ Mem W' h base n (wr mem (addr - base).toNat s v) (Grow F W W') ∧ Mod F W W' := by
  have hs : s ≤ 8 := by have := of_decide_eq_true h1; omega
  obtain ⟨hh1, hh2, hh3⟩ := of_decide_eq_true h2
  have T1 := Lib.hid (fun w => (right_any s w).mono fun e w' h => (by rw [h1] at h; exact h : e = .returned (.bool true) ∧ w = w'))
  have hs9 : (s : Int) < 9223372036854775808 := by omega
  have T2 := Lib.hid ((has_any r addr s ha hs9).mono fun e w' h => (by rw [h2] at h; exact h : e = .returned (.bool true) ∧ W = w'))
  have R := Lib.hid r
  obtain ⟨ha1, ha2⟩ := ha
  obtain ⟨n1, n2, b1, b2⟩ := r.size
  have HV := Lib.hid hv
  clear h1 h2 r hs9 hv
  go_enter Tryz.func49, Tryz.ntmps49
  go_wp2_with (first
    | (go_at_call 93; refine (T1.out _).mono ?_; rintro e w1 ⟨rfl, rfl⟩)
    | (go_at_call 51; refine (T2.out).mono ?_; rintro e w1 ⟨rfl, rfl⟩))
  go_loopw [3, 9] (fun x i W1 => ∃ k : Nat, k ≤ s ∧ i = .int .i64 k ∧ x = .int .u64 (v / 256 ^ k) ∧ Mem W1 h base n (wr mem (addr - base).toNat k v) (Grow F W W1) ∧ Mod F W W1) (fun _ i _ => (s - intOf i).toNat)
  case atStart =>
    refine ⟨0, Nat.zero_le _, rfl, by rw [Int.pow_zero, Int.ediv_one], ?_, Mod.refl _ _⟩
    rw [wr_zero]; exact R.out.more (fun k hk => .inl hk) (Grow.bound R.out.bound (Nat.le_refl _))
  case round =>
    obtain ⟨k, hk, rfl, rfl, hR, hM⟩ := hrel
    have hv0 : 0 ≤ v / 256 ^ k := Int.ediv_nonneg HV.out.1 (Int.pow_nonneg (by decide))
    have hv1 : v / 256 ^ k < 18446744073709551616 := Int.lt_of_le_of_lt (Int.ediv_le_self _ HV.out.1) HV.out.2
    by_cases hlt : k < s
    · have T3 := Lib.hid (put hR (addr + k) (v / 256 ^ k % 256) (by omega) (by omega) (by omega))
      have hsz := Lib.hid hM.size
      have HM := Lib.hid hM
      have w2 : IntKind.u8.wrap (v / 256 ^ k % 256) = v / 256 ^ k % 256 := IntWalk.u8_in _ (by omega)
      clear hR hM
      go_wp2_with (go_at_call 52; refine (T3.out).mono ?_; rintro e w2 ⟨rfl, hR, hM⟩; have HR2 := Lib.hid hR; have HM2 := Lib.hid hM; clear hR hM)
      refine ⟨⟨k + 1, by omega, by go_num, ?_, ?_, mod_grow' HM.out HM2.out⟩, by simp [intOf]; omega⟩
      · rw [Int.pow_succ, ← Int.ediv_ediv_of_nonneg (Int.pow_nonneg (by decide))]
      · have := (HR2.out.grow R.out.bound hsz.out HM2.out.size)
        rw [show (addr + (k : Int) - base).toNat = (addr - base).toNat + k by omega, wr_succ] at this
        exact this
    · obtain rfl : k = s := by omega
      have HR := Lib.hid hR
      have HM := Lib.hid hM
      clear hR hM
      go_wp2
      go_ret
      exact ⟨rfl, HR.out, HM.out⟩
end Go.Proofs.YtidiojhefjhojaaGreat.Ref
end
section
namespace Go.Proofs.YtidiojhefjhojaaGreat.Ref
open Go Go.RowKit Go.Proofs.YtidiojhefjhojaaGreat.Step Go.Proofs.YtidiojhefjhojaaGreat.Mem
set_option linter.unusedVariables false
set_option linter.unusedSimpArgs false
set_option maxRecDepth 100000
theorem mk_rows : (Tryz.prog.info? 23).map (fun i => (i.size, i.bytes, i.zero)) = some (1, 24, some (.slice none 0 0)) := by kernel_rfl
set_option maxHeartbeats 1000000 in
theorem new_yes (W : World) (base : Int) (n : Nat) (hb : 0 ≤ base ∧ base < 18446744073709551616) (h : newB base n = true) :
    Calls Tryz.prog 30 #[.int .u64 base, .int .i64 n] W fun e W' => ∃ h, e = .returned (.tuple #[.pointer (some ⟨h, 0, none⟩), .int .i64 0]) ∧ Mem W' h base n (fun _ => 0) (Grow Nil W W') ∧ Mod Nil W W' := by
  obtain ⟨h1, h2, h3, h4⟩ := of_decide_eq_true h
  obtain ⟨b1, b2⟩ := hb
  clear h
  have d1 : decide ((n : Int) < 1) = false := by simpa using h1
  have d2 : decide (1024 < (n : Int)) = false := by simpa using h2
  have d4 : decide (4503599627370496 < base) = false := by simpa using h4
  have HN := Lib.hid (show 24 * n ≤ 281474976710656 by omega)
  have HN2 := Lib.hid (show n ≤ 9223372036854775807 by omega)
  have HB := Lib.hid (⟨h1, h2, h4, b1⟩ : (1 ≤ (n : Int)) ∧ (n : Int) ≤ 1024 ∧ base ≤ 4503599627370496 ∧ 0 ≤ base)
  have hu66 := Tryz.underlying135
  clear h1 h2 h4 b2
  go_enter Tryz.func30, Tryz.ntmps30
  go_wp2_with (first
    | (refine Step.make (t := 133) rfl rfl rfl rfl Tryz.underlying133 mk_rows rfl HN.out HN2.out ?_; intro g w1 b hg hb; have B1 := Lib.hid b; have HG := Lib.hid hg; have HM := Lib.hid hb; clear b hg hb)
    | ((with_reducible refine Step.gate_box (t := 135) rfl ?_); refine Step.fresh (cs := #[.int .u64 base, .int .i64 n, .slice (some ⟨g, 0, none⟩) n n]) (T := 135) rfl ?hr ?_; (case hr => first | (go_simp; done)); intro g2 w2 b hg hb; have B2 := Lib.hid b; have B3 := Lib.hid (B1.out.below hb); have HG2 := Lib.hid hg; have HM2 := Lib.hid hb; clear b hg hb))
  refine bodyPost_ret (results_tmp2 rfl _ _ _) rfl ⟨g2, rfl, ?_, Mod.of_below (below_below HM.out (HM2.out)) Nil⟩
  obtain ⟨hn1, hn2, hb1, hb2⟩ := HB.out
  have s1 := HG.out
  have s2 := HG2.out
  have l1 := B1.out.lt
  have l2 := B2.out.lt
  have l3 := B3.out.lt
  refine ⟨g, Array.replicate n (.slice none 0 0), fun _ => none, ?_⟩
  exact { hdr := B2.out, row := B3.out, csz := by simp, n_lo := by omega, n_hi := by omega, b_lo := hb2, b_hi := hb1, at_ := fun k hk => by simp [hk, sl], frame := fun k g c hk hf => (by cases hf), none_ := fun k hk hf j hj => rfl, inj := fun k k' g c c' hk hk' h1 h2 => (by cases h1), foot_h := .inr ⟨by omega, l2⟩, foot_fb := .inr ⟨s1, l3⟩, bound := fun k hk => hk.elim (fun h => h.elim) (fun h => h.2), byte := fun i hi => by decide }
set_option maxHeartbeats 1000000 in
theorem fill_yes {W : World} {h n : Nat} {base : Int} {mem : Nat → Int} {F G : Nat → Prop} (r : Mem W h base n mem F) (addr : Int) {A : Option Addr} {s c : Nat} {f : Nat → Int} (rb : Rd W A s f G) (hG : ∀ k, G k → ¬ F k ∧ k < W.heap.size) (ha : 0 ≤ addr ∧ addr < 18446744073709551616) (h2 : hasB base n addr s = true) :
    Calls Tryz.prog 34 #[.pointer (some ⟨h, 0, none⟩), .int .u64 addr, .slice A s c] W fun e W' => e = .returned (.bool true) ∧ Mem W' h base n (fl mem (addr - base).toNat s f) (Grow F W W') ∧ Mod F W W' := by
  obtain ⟨hh1, hh2, hh3⟩ := of_decide_eq_true h2
  obtain ⟨n1, n2, b1, b2⟩ := r.size
  have hs9 : (s : Int) < 9223372036854775808 := by omega
  have T2 := Lib.hid ((has_any r addr s ha hs9).mono fun e w' h => (by rw [h2] at h; exact h : e = .returned (.bool true) ∧ W = w'))
  have R := Lib.hid r
  have RB := Lib.hid rb
  have HG := Lib.hid hG
  obtain ⟨ha1, ha2⟩ := ha
  have s1 : s ≤ 4194304 := by omega
  clear h2 r hs9 rb hG
  go_enter Tryz.func34, Tryz.ntmps34
  go_wp2_with (first
    | (go_at_call 51; refine (T2.out).mono ?_; rintro e w1 ⟨rfl, rfl⟩))
  go_loopw [7] (fun i W1 => ∃ k : Nat, k ≤ s ∧ i = .int .i64 k ∧ Mem W1 h base n (fl mem (addr - base).toNat k f) (Grow F W W1) ∧ Mod F W W1) (fun i _ => (s - intOf i).toNat)
  case atStart =>
    refine ⟨0, Nat.zero_le _, rfl, ?_, Mod.refl _ _⟩
    rw [fl_zero]; exact R.out.more (fun k hk => .inl hk) (Grow.bound R.out.bound (Nat.le_refl _))
  case round =>
    obtain ⟨k, hk, rfl, hR, hM⟩ := hrel
    by_cases hlt : k < s
    · obtain ⟨ad, rfl, _, hc, hf⟩ := (RB.out.mod hM (fun i hi => (HG.out i hi).1) (fun i hi => (HG.out i hi).2)) k hlt
      have T3 := Lib.hid (put hR (addr + k) (f k) (by omega) (by omega) hf)
      have hsz := Lib.hid hM.size
      have HM := Lib.hid hM
      clear hR hM hf
      go_wp2_with (go_at_call 52; refine (T3.out).mono ?_; rintro e w2 ⟨rfl, hR, hM⟩; have HR2 := Lib.hid hR; have HM2 := Lib.hid hM; clear hR hM)
      refine ⟨⟨k + 1, by omega, by go_num, ?_, mod_grow' HM.out HM2.out⟩, by simp [intOf]; omega⟩
      have := (HR2.out.grow R.out.bound hsz.out HM2.out.size)
      rw [show (addr + (k : Int) - base).toNat = (addr - base).toNat + k by omega, fl_succ] at this
      exact this
    · obtain rfl : k = s := by omega
      have HR := Lib.hid hR
      have HM := Lib.hid hM
      clear hR hM
      go_wp2
      go_ret
      exact ⟨rfl, HR.out, HM.out⟩
end Go.Proofs.YtidiojhefjhojaaGreat.Ref
end
section
namespace Go.Proofs.YtidiojhefjhojaaGreat
open Go Go.RowKit Go.ChangeShapes Go.WideShapes Go.ChangeAt
set_option linter.unusedVariables false
/-- A slice's numbers, in blocks of G. -/
def RdI (k : IntKind) (W : World) (A : Option Addr) (n : Nat) (f : Nat → Int) (G : Nat → Prop) : Prop := ∀ i, i < n → ∃ ad, A = some ad ∧ G ad.block ∧ W.cell? (ad.add i) = some (.int k (f i)) ∧ (Lit.int k (f i)).wf = true
theorem open_rd {H : Type} {enc : TypeId × Value → H} {P : Program} {W : World} {base : Nat} {sp : Nat → Bool} {held : Bool} {t e : TypeId} {k : IntKind} {A : Option Addr} {n c : Nat} {d : DataW H} {ps : List MemPlace}
    (ht : P.underlying t = some (.slice e)) (he : P.underlying e = some (.int k)) (hc : P.cellsOf e = 1) (h : DataW.Trod enc P W base sp held t (.slice A n c) d ps) : ∃ f, RdI k W A n f (· < W.heap.size) ∧ n ≤ 9223372036854775807 := by
  obtain ⟨fuel, hf⟩ := h
  rcases open_ints ht he hc hf with ⟨hcs, _⟩ | ⟨x, l, c', zs, hcs, _, hl, hm, hz, _, hcell, hwz⟩
  · simp [Value.cells] at hcs
    obtain ⟨rfl, rfl, rfl⟩ := hcs
    exact ⟨fun _ => 0, fun i hi => by omega, by omega⟩
  · simp [Value.cells] at hcs
    obtain ⟨rfl, rfl, rfl⟩ := hcs
    have hln : n ≤ zs.length := by rw [hz]; split <;> omega
    refine ⟨fun i => zs.getD i 0, fun i hi => ⟨x, rfl, ?_, hcell i (by omega), hwz _ ?_⟩, ?_⟩
    · have := World.block_lt_of_cell? W _ (hcell i (by omega))
      have hb : (x.add i).block = x.block := by unfold Addr.add; split <;> rfl
      rwa [hb] at this
    · show zs.getD i 0 ∈ zs
      rw [List.getD_eq_getElem?_getD, List.getElem?_eq_getElem (by omega)]; exact List.getElem_mem _
    · unfold maxLen at hm; omega
end Go.Proofs.YtidiojhefjhojaaGreat
end
section
namespace Go.Proofs.YtidiojhefjhojaaGreat.Duo
open Go Go.RowKit Go.Proofs.YtidiojhefjhojaaGreat.Step Go.Proofs.YtidiojhefjhojaaGreat.Mem
set_option linter.unusedVariables false
set_option linter.unusedSimpArgs false
set_option maxRecDepth 100000
/-- A memory and the document's, of one content, in blocks newer than W. -/
structure Duo (W w : World) (h1 h2 : Nat) (base : Int) (n : Nat) (mem : Nat → Int) (F1 F2 : Nat → Prop) : Prop where
  one : Ram w h1 base n mem F1
  two : Ref.Mem w h2 base n mem F2
  apart : ∀ k, F1 k → ¬ F2 k
  new : ∀ k, F1 k ∨ F2 k → W.heap.size ≤ k
  mod : Mod Nil W w
section
variable {W w w' : World} {h1 h2 n : Nat} {base : Int} {mem mem' : Nat → Int} {F1 F2 S : Nat → Prop}
theorem Duo.below (d : Duo W w h1 h2 base n mem F1 F2) (b : Below w.heap.size w w') : Duo W w' h1 h2 base n mem F1 F2 :=
  ⟨d.one.below b, d.two.below b, d.apart, d.new, d.mod.trans (Mod.of_below b Nil)⟩
theorem Duo.drawn (d : Duo W w h1 h2 base n mem F1 F2) (b : ∃ k, w' = w.drewN k) : Duo W w' h1 h2 base n mem F1 F2 := d.below (below_drawn b)
theorem Duo.out (d : Duo W w h1 h2 base n mem F1 F2) : Below W.heap.size W w := d.mod.below
/-- Something newer beside them is turned. -/
theorem Duo.other (d : Duo W w h1 h2 base n mem F1 F2) (m : Mod S w w') (hs : ∀ k, F1 k ∨ F2 k → ¬ S k) (hn : ∀ k, S k → W.heap.size ≤ k) : Duo W w' h1 h2 base n mem F1 F2 :=
  ⟨d.one.mod m fun k h => hs k (.inl h), d.two.mod m fun k h => hs k (.inr h), d.apart, d.new, d.mod.trans_new m fun i hi h => by have := hn i h; omega⟩
theorem Duo.bound (d : Duo W w h1 h2 base n mem F1 F2) : ∀ k, F1 k ∨ F2 k → k < w.heap.size := fun k h => h.elim (d.one.bound k) (d.two.bound k)
theorem Duo.made {w1 w2 : World} (m0 : Mod Nil W w) (r1 : Ram w1 h1 base n mem (Grow Nil w w1)) (m1 : Mod Nil w w1) (r2 : Ref.Mem w2 h2 base n mem (Grow Nil w1 w2)) (m2 : Mod Nil w1 w2) : Duo W w2 h1 h2 base n mem (Grow Nil w w1) (Grow Nil w1 w2) :=
  ⟨r1.mod m2 (fun _ _ h => h), r2, fun k h1 h2 => by
      have := r1.bound k h1
      rcases h2 with h2 | h2
      · exact h2
      · omega, fun k h => by
      have := m0.size
      have := m1.size
      rcases h with (h | h) | (h | h)
      · exact h.elim
      · omega
      · exact h.elim
      · omega, (m0.trans m1).trans m2⟩
/-- The first is turned, then the second. -/
theorem Duo.step {w1 w2 : World} (d : Duo W w h1 h2 base n mem F1 F2) (r1 : Ram w1 h1 base n mem' (Grow F1 w w1)) (m1 : Mod F1 w w1) (r2 : Ref.Mem w2 h2 base n mem' (Grow F2 w1 w2)) (m2 : Mod F2 w1 w2) : Duo W w2 h1 h2 base n mem' (Grow F1 w w1) (Grow F2 w1 w2) :=
  ⟨r1.mod m2 (fun k a b => by
      have := d.two.bound k b
      rcases a with a | a
      · exact d.apart k a b
      · omega), r2, fun k a b => by
      have hb := r1.bound k a
      rcases a with a | a <;> rcases b with b | b
      · exact d.apart k a b
      · omega
      · have := d.two.bound k b; omega
      · omega, fun k h => by
      have := d.mod.size
      have := m1.size
      rcases h with (h | h) | (h | h)
      · exact d.new k (.inl h)
      · omega
      · exact d.new k (.inr h)
      · omega, (d.mod.trans_new m1 fun i hi h => by have := d.new i (.inl h); omega).trans_new m2 fun i hi h => by have := d.new i (.inr h); omega⟩
end
theorem write_z {W : World} {h n : Nat} {base : Int} {mem : Nat → Int} {F : Nat → Prop} (r : Ram W h base n mem F) (addr v z : Int) (s : Nat) (hz : z = s) (ha : 0 ≤ addr ∧ addr < 18446744073709551616) (hv : 0 ≤ v ∧ v < 18446744073709551616) (h1 : wholeB s = true) (h2 : hasB base n addr s = true) :
    Calls Tryz.prog 48 #[.pointer (some ⟨h, 0, none⟩), .int .u64 addr, .int .i64 z, .int .u64 v] W fun e W' => e = .returned (.bool true) ∧ Ram W' h base n (wr mem (addr - base).toNat s v) (Grow F W W') ∧ Mod F W W' := by subst hz; exact write_yes r addr v s ha hv h1 h2
theorem rwrite_z {W : World} {h n : Nat} {base : Int} {mem : Nat → Int} {F : Nat → Prop} (r : Ref.Mem W h base n mem F) (addr v z : Int) (s : Nat) (hz : z = s) (ha : 0 ≤ addr ∧ addr < 18446744073709551616) (hv : 0 ≤ v ∧ v < 18446744073709551616) (h1 : wholeB s = true) (h2 : hasB base n addr s = true) :
    Calls Tryz.prog 49 #[.pointer (some ⟨h, 0, none⟩), .int .u64 addr, .int .i64 z, .int .u64 v] W fun e W' => e = .returned (.bool true) ∧ Ref.Mem W' h base n (wr mem (addr - base).toNat s v) (Grow F W W') ∧ Mod F W W' := by subst hz; exact Ref.write_yes r addr v s ha hv h1 h2
set_option maxHeartbeats 1000000 in
theorem wboth {W w : World} {h1 h2 n : Nat} {base : Int} {mem : Nat → Int} {F1 F2 : Nat → Prop} (d : Duo W w h1 h2 base n mem F1 F2) (addr v : Int) (ha : 0 ≤ addr ∧ addr < 18446744073709551616) (hv : 0 ≤ v ∧ v < 18446744073709551616) (hh : hasB base n addr 8 = true) :
    Calls Tryz.prog 31 #[.agg #[.pointer (some ⟨h1, 0, none⟩), .pointer (some ⟨h2, 0, none⟩)], .int .u64 addr, .int .i64 8, .int .u64 v] w fun e w' => e = .returned (.tuple #[]) ∧ ∃ F1' F2', Duo W w' h1 h2 base n (wr mem (addr - base).toNat 8 v) F1' F2' ∧ (∀ k, k < w.heap.size → F1' k → F1 k) ∧ (∀ k, k < w.heap.size → F2' k → F2 k) ∧ Mod (fun k => F1 k ∨ F2 k) w w' := by
  have D := Lib.hid d
  have P1 := Lib.hid (fun (w1 : World) (r : Ram w1 h1 base n mem F1) => write_z r addr v 8 8 rfl ha hv (by decide) hh)
  have P2 := Lib.hid (fun (w1 : World) (r : Ref.Mem w1 h2 base n mem F2) => rwrite_z r addr v 8 8 rfl ha hv (by decide) hh)
  have hu := Tryz.underlying33
  clear d ha hv hh
  go_enter Tryz.func31, Tryz.ntmps31
  go_wp2_with (first
    | ((with_reducible refine Step.gate_box (t := 33) rfl ?_); refine Step.fresh (cs := #[.pointer (some ⟨h1, 0, none⟩), .pointer (some ⟨h2, 0, none⟩)]) (T := 33) rfl ?hr ?_; (case hr => first | (go_simp; done)); intro g w2 b hg hb; have c0 := b.cell 0; have B := Lib.hid b; have D2 := Lib.hid (D.out.below hb); have HB := Lib.hid hb; have HG := Lib.hid hg; simp only [List.getElem?_toArray, List.getElem?_cons_zero] at c0; clear b hg hb)
    | (go_at_call 48; refine (P1.out _ D2.out.one).mono ?_; rintro e w3 ⟨rfl, r, m⟩; have R1 := Lib.hid r; have M1 := Lib.hid m; have c1 := (((B.out.mod m (fun hf => by have := D.out.bound g (.inl hf); have := HG.out; omega)).cell 1)); have r2 := Lib.hid (D2.out.two.mod m (fun k h2 h1 => D.out.apart k h1 h2)); simp only [List.getElem?_toArray, List.getElem?_cons_zero, List.getElem?_cons_succ] at c1; clear r m)
    | (go_at_call 49; refine (P2.out _ r2.out).mono ?_; rintro e w4 ⟨rfl, r, m⟩; have R2 := Lib.hid r; have M2 := Lib.hid m; clear r m))
  go_end0
  have dd := D2.out.step R1.out M1.out R2.out M2.out
  have hs := HB.out.size
  refine ⟨rfl, _, _, dd, fun k hk h => h.elim id fun h => by omega, fun k hk h => h.elim id fun h => by have := M1.out.size; omega, ?_⟩
  refine ((Mod.of_below HB.out _).trans (M1.out.mono fun k _ h => .inl h)).trans (M2.out.mono fun k _ h => .inr h)
end Go.Proofs.YtidiojhefjhojaaGreat.Duo
end
section
namespace Go.Proofs.YtidiojhefjhojaaGreat.Duo
open Go Go.RowKit Go.Proofs.YtidiojhefjhojaaGreat.Step Go.Proofs.YtidiojhefjhojaaGreat.Mem
set_option linter.unusedVariables false
set_option linter.unusedSimpArgs false
set_option maxRecDepth 100000
/-- A slice's cells: the place and the number of each. -/
def RdC (W : World) (A : Option Addr) (n : Nat) (f : Nat → Int × Int) (G : Nat → Prop) : Prop :=
  ∀ i, i < n → ∃ ad, A = some ad ∧ G ad.block ∧ W.cell? (ad.add (i * 2)) = some (.int .i64 (f i).1) ∧ W.cell? (ad.add (i * 2 + 1)) = some (.int .u64 (f i).2) ∧ (-9223372036854775808 ≤ (f i).1 ∧ (f i).1 < 9223372036854775808) ∧ (0 ≤ (f i).2 ∧ (f i).2 < 18446744073709551616)
/-- What a memory of so many frames holds when cells have been written into it. -/
def cm (n : Nat) (f : Nat → Int × Int) : Nat → Nat → Int
  | 0 => fun _ => 0
  | k + 1 => wr (cm n f k) (8 * ((f k).1 % ((512 * n : Nat) : Int))).toNat 8 (f k).2
theorem block_add (a : Addr) (k : Nat) : (a.add k).block = a.block := by unfold Addr.add; split <;> rfl
theorem addr_snd (a : Addr) (m : Nat) : (⟨(a.add m).block, (a.add m).off + 1, none⟩ : Addr) = a.add (m + 1) := by
  unfold Addr.add
  by_cases h : m = 0 <;> simp [h, Nat.add_assoc]
theorem RdC.mod {W W' : World} {A : Option Addr} {n : Nat} {f : Nat → Int × Int} {G S : Nat → Prop} (r : RdC W A n f G) (m : Mod S W W') (hs : ∀ k, G k → ¬ S k) (hG : ∀ k, G k → k < W.heap.size) : RdC W' A n f G := fun i hi => by
  obtain ⟨ad, e, g, h0, h1, h2⟩ := r i hi
  exact ⟨ad, e, g, (World.cell?_of_block (m.block _ (by rw [block_add]; exact hG _ g) (by rw [block_add]; exact hs _ g))).trans h0, (World.cell?_of_block (m.block _ (by rw [block_add]; exact hG _ g) (by rw [block_add]; exact hs _ g))).trans h1, h2⟩
theorem RdC.wide {W : World} {A : Option Addr} {n : Nat} {f : Nat → Int × Int} {G G' : Nat → Prop} (r : RdC W A n f G) (h : ∀ k, G k → G' k) : RdC W A n f G' := fun i hi => by
  obtain ⟨ad, e, g, h2⟩ := r i hi
  exact ⟨ad, e, h _ g, h2⟩
/-- The eight bytes of a number, written. -/
def wr_ (mem : Nat → Int) (o : Nat) (v : Int) : Nat → Int := wr mem o 8 v
theorem results_row_tmp {P : Program} {fn : Func} {p u : Tmp} {ty : TypeId} (h : fn.results = #[.cell p ty, .tmp u]) (tmps : Array Value) (w : World) (g : Nat) (t : TypeId) (cs : Array Value) (d : TypeDesc)
    (hp : tmps.getD p undef = .pointer (some ⟨g, 0, none⟩)) (hg : Blk w g cs t) (hu : P.underlying ty = some d) (hd : (match d with | .struct _ | .array _ _ => true | _ => false) = true) (hi : (P.info? ty).map (·.size) = some cs.size) :
    (results fn tmps).run P w = .ok (.tuple #[.agg cs, tmps.getD u undef]) w := by
  rw [results_cell_tmp h, hp]
  have h2 := run_loadVar_row (P := P) w g t ty cs (0, 0) d hg.out hu hd hi
  simp [asAddr, Result.andThen, h2]
theorem zero_two : (Tryz.prog.info? 33).bind (·.zero) = some (.agg #[.pointer none, .pointer none]) := by kernel_rfl
theorem alloc_agg {t : TypeId} {cs : Array Value} (h : (Tryz.prog.info? t).bind (·.zero) = some (.agg cs)) (W : World) : (Instr.alloc t true (.tuple #[])).run Tryz.prog W = .ok (.pointer (some ⟨W.heap.size, 0, none⟩)) (W.alloc (.cells cs t (0, 0))) := by
  cases hi : Tryz.prog.info? t with
  | none => rw [hi] at h; cases h
  | some i =>
    rw [hi] at h
    have hz : i.zero = some (.agg cs) := h
    simp [Instr.alloc, zeroValue, typeInfo, hi, hz, newVar, newRow, newObj, Result.andThen, Value.cells, go_sem]
    rfl
theorem new_z (w : World) (base z : Int) (n : Nat) (hz : z = n) (hb : 0 ≤ base ∧ base < 18446744073709551616) (h : newB base n = true) :
    Calls Tryz.prog 29 #[.int .u64 base, .int .i64 z] w fun e W' => ∃ h, e = .returned (.tuple #[.pointer (some ⟨h, 0, none⟩), .int .i64 0]) ∧ Ram W' h base n (fun _ => 0) (Grow Nil w W') ∧ Mod Nil w W' := by subst hz; exact new_yes w base n hb h
theorem rnew_z (w : World) (base z : Int) (n : Nat) (hz : z = n) (hb : 0 ≤ base ∧ base < 18446744073709551616) (h : newB base n = true) :
    Calls Tryz.prog 30 #[.int .u64 base, .int .i64 z] w fun e W' => ∃ h, e = .returned (.tuple #[.pointer (some ⟨h, 0, none⟩), .int .i64 0]) ∧ Ref.Mem W' h base n (fun _ => 0) (Grow Nil w W') ∧ Mod Nil w W' := by subst hz; exact Ref.new_yes w base n hb h
theorem size_two : (Tryz.prog.info? 33).map (·.size) = some 2 := by kernel_rfl
set_option maxHeartbeats 4000000 in
theorem memory_any (W : World) (base z : Int) (n : Nat) (hz : z = n) (hb : 0 ≤ base ∧ base < 18446744073709551616) (hn : newB base n = true) (A : Option Addr) (len cap : Nat) (f : Nat → Int × Int) (r : RdC W A len f (· < W.heap.size)) (hl : len ≤ 9223372036854775807) :
    Calls Tryz.prog 14 #[.int .u64 base, .int .i64 z, .slice A len cap] W fun e w' => ∃ h1 h2 F1 F2, e = .returned (.tuple #[.agg #[.pointer (some ⟨h1, 0, none⟩), .pointer (some ⟨h2, 0, none⟩)], .bool true]) ∧ Duo W w' h1 h2 base n (cm n f len) F1 F2 := by
  obtain ⟨n1, n2, nb, b2⟩ := of_decide_eq_true hn
  obtain ⟨b0, b1⟩ := hb
  have T1 := Lib.hid (fun w => new_z w base z n hz ⟨b0, b1⟩ hn)
  have T2 := Lib.hid (fun w => rnew_z w base z n hz ⟨b0, b1⟩ hn)
  have R := Lib.hid r
  have Z := Lib.hid hz
  have HL := Lib.hid hl
  have hu := Tryz.underlying33
  have w512 : IntKind.i64.wrap (512 * z) = 512 * n := by rw [hz]; exact IntWalk.i64_in _ (by omega)
  clear r hn hl hz nb
  go_enter Tryz.func14, Tryz.ntmps14
  go_wp2_with (first
    | ((with_reducible refine Step.gate_alloc (t := 33) rfl ?_); refine Step.freshAlloc rfl rfl (alloc_agg zero_two) ?_; (first
        | (have this := Lib.hid D0; intro g12 w4 b hg hb; have B12 := Lib.hid b; have B6c := Lib.hid (B6.out.below hb); have D1 := Lib.hid (D0.out.below hb); have HG12 := Lib.hid hg; clear b hg hb this)
        | (intro g6 w1 b hg hb; have B6a := Lib.hid b; have HB6 := Lib.hid hb; have HG6 := Lib.hid hg; clear b hg hb)))
    | (go_at_call 29; refine (T1.out _).mono ?_; rintro e w2 ⟨h1, rfl, r, m⟩; have R1 := Lib.hid r; have M1 := Lib.hid m; have B6b := Lib.hid (B6a.out.mod m (fun h => h)); clear r m)
    | (go_at_call 30; refine (T2.out _).mono ?_; rintro e w3 ⟨h2, rfl, r, m⟩; have D0 := Lib.hid (Duo.made (Mod.of_below HB6.out Nil) R1.out M1.out r m); have B6 := Lib.hid (B6b.out.mod m (fun h => h)); have L6 := Lib.hid (show ∀ k, Grow Nil w1 w2 k ∨ Grow Nil w2 w3 k → k ≠ g6 from fun k h e => by subst e; have := B6a.out.lt; have := M1.out.size; rcases h with (h | h) | (h | h) <;> first | exact h | omega); clear r m)
    | ((with_reducible refine Step.gate_store (t := 33) rfl ?_); refine Step.storeAll (vs := #[.pointer (some ⟨h1, 0, none⟩), .pointer (some ⟨h2, 0, none⟩)]) B12.out rfl rfl rfl rfl rfl size_two rfl rfl ?_; intro w5 nb m; have N12 := Lib.hid nb; have N6 := Lib.hid (B6c.out.one m (by have := B6.out.lt; have := HG12.out; omega)); have D2 := Lib.hid (D1.out.other m (fun k h e => by obtain rfl : k = g12 := e; have := D0.out.bound k h; have := HG12.out; omega) (fun k e => by obtain rfl : k = g12 := e; have := HG12.out; have := D0.out.mod.size; omega)); have L12 := Lib.hid (show ∀ k, Grow Nil w1 w2 k ∨ Grow Nil w2 w3 k → k ≠ g12 from fun k h e => by subst e; have := D0.out.bound k h; have := HG12.out; omega); clear nb m))
  have G12 := Lib.hid (show W.heap.size ≤ g12 from by have := HG12.out; have := D0.out.mod.size; omega)
  have NE := Lib.hid (show g6 ≠ g12 from by have := B6.out.lt; have := HG12.out; omega)
  obtain ⟨F1, F2, hD, hL6, hL12⟩ : ∃ F1 F2, Duo W w5 h1 h2 base n (cm n f 0) F1 F2 ∧ (∀ k, F1 k ∨ F2 k → k ≠ g6) ∧ (∀ k, F1 k ∨ F2 k → k ≠ g12) := ⟨_, _, D2.out, L6.out, L12.out⟩
  have DD := Lib.hid hD
  have LL6 := Lib.hid hL6
  have LL12 := Lib.hid hL12
  clear hD hL6 hL12 D0 D1 D2 L6 L12 R1 M1 B6 B6a B6b B6c B12 HG12 HB6
  go_loopw [13] (fun i w => ∃ k : Nat, k ≤ len ∧ i = .int .i64 k ∧ Blk w g12 #[.pointer (some ⟨h1, 0, none⟩), .pointer (some ⟨h2, 0, none⟩)] 33 ∧ Blk w g6 #[.pointer none, .pointer none] 33 ∧ ∃ F1 F2, Duo W w h1 h2 base n (cm n f k) F1 F2 ∧ (∀ k, F1 k ∨ F2 k → k ≠ g6) ∧ (∀ k, F1 k ∨ F2 k → k ≠ g12)) (fun i _ => (len - intOf i).toNat)
  case atStart => exact ⟨0, Nat.zero_le _, rfl, N12.out, N6.out, F1, F2, DD.out, LL6.out, LL12.out⟩
  case round =>
    clear DD LL6 LL12 N12 N6 F1 F2
    obtain ⟨k, hk, rfl, hB12, hB6, F1, F2, hD, hL6, hL12⟩ := hrel
    have DK := Lib.hid hD
    have K12 := Lib.hid hB12
    have K6 := Lib.hid hB6
    have LK6 := Lib.hid hL6
    have LK12 := Lib.hid hL12
    clear hD hB12 hB6 hL6 hL12
    by_cases hlt : k < len
    · obtain ⟨ad, rfl, hab, hc0, hc1, hv0, hv1⟩ := (R.out.mod DK.out.mod (fun k hk h => h) (fun k hk => hk)) k hlt
      obtain ⟨q, hq⟩ := Int.eq_ofNat_of_zero_le (show 0 ≤ (f k).1 % ((512 * n : Nat) : Int) from Int.emod_nonneg _ (by omega))
      have hq2 : (q : Int) < 512 * n := by have := Int.emod_lt_of_pos (f k).1 (show (0 : Int) < ((512 * n : Nat) : Int) by omega); omega
      have TP := Lib.hid (fun w => (place_any (f k).1 (512 * n) (by omega) hv0 (by omega) w).mono fun e w' h => (by rw [show (512 * n : Int) = ((512 * n : Nat) : Int) by omega, hq] at h; exact h : e = .returned (.int .i64 q) ∧ w = w'))
      have q1 : IntKind.u64.wrap (q : Int) = q := IntWalk.u64_in _ (by omega)
      have q2 : IntKind.u64.wrap (8 * (q : Int)) = 8 * q := IntWalk.u64_in _ (by omega)
      have q3 : IntKind.u64.wrap (base + 8 * (q : Int)) = base + 8 * q := IntWalk.u64_in _ (by omega)
      have TW := Lib.hid (fun w (hw : Below wr.heap.size wr w) => wboth (DK.out.below hw) (base + 8 * q) (f k).2 (by omega) hv1 (decide_eq_true (by omega)))
      have CM := Lib.hid (show cm n f (k + 1) = wr_ (cm n f k) (base + 8 * q - base).toNat (f k).2 from by show Mem.wr (cm n f k) (8 * ((f k).1 % ((512 * n : Nat) : Int))).toNat 8 (f k).2 = _; rw [hq]; unfold wr_; congr 1; omega)
      have LB := Lib.hid (show ad.block < wr.heap.size from by have := DK.out.mod.size; omega)
      have NA := Lib.hid (show ¬ (F1 ad.block ∨ F2 ad.block) from fun h => by have := DK.out.new _ h; omega)
      generalize (f k).1 = v0 at hc0 TP hq
      generalize (f k).2 = v1 at hc1 TW CM
      have e1 : ad.add (k * 2) = (ad.add (k * 2)) := rfl
      rw [← addr_snd] at hc1
      have cB := K12.out.cell 0
      have cC := K12.out.cell 1
      simp only [List.getElem?_toArray, List.getElem?_cons_zero, List.getElem?_cons_succ] at cB cC
      clear hv0 hv1 hq hq2 e1
      go_wp2
      go_region_held3 (fun w' => w'.cell? ⟨g12, 0, none⟩ = some (.pointer (some ⟨h1, 0, none⟩)) ∧ w'.cell? ⟨g12, 1, none⟩ = some (.pointer (some ⟨h2, 0, none⟩)) ∧ w'.cell? (ad.add (k * 2)) = some (.int .i64 v0) ∧ w'.cell? ⟨(ad.add (k * 2)).block, (ad.add (k * 2)).off + 1, none⟩ = some (.int .u64 v1))
        (first
          | exact ⟨cB, cC, hc0, hc1⟩
          | exact ⟨(World.cell?_of_block (w := wr) (hm.block g12 K12.out.lt (fun h => LK12.out _ h rfl))).trans cB, (World.cell?_of_block (w := wr) (hm.block g12 K12.out.lt (fun h => LK12.out _ h rfl))).trans cC, (World.cell?_of_block (w := wr) (hm.block _ (by rw [block_add]; exact LB.out) (by rw [block_add]; exact NA.out))).trans hc0, (show w9.cell? ⟨(ad.add (k * 2)).block, (ad.add (k * 2)).off + 1, none⟩ = wr.cell? ⟨(ad.add (k * 2)).block, (ad.add (k * 2)).off + 1, none⟩ from World.cell?_of_block (hm.block (ad.add (k * 2)).block (by rw [block_add]; exact LB.out) (by rw [block_add]; exact NA.out))).trans hc1⟩)
        (first
          | ((with_reducible refine (TP.out _).mono ?_); rintro e w8 ⟨rfl, rfl⟩)
          | ((with_reducible refine (TW.out _ (Below.drew (Below.refl _ _))).mono ?_); rintro e w9 ⟨rfl, F1', F2', hd, hf1, hf2, hm⟩))
      rename_i hHeld
      have HM := Lib.hid (show Mod (fun k => F1 k ∨ F2 k) wr w9 from ⟨hm.os, hm.tape, hm.output, hm.size, hm.block⟩)
      have HD := Lib.hid hd
      have HF1 := Lib.hid hf1
      have HF2 := Lib.hid hf2
      clear hHeld hm hd hf1 hf2 cB cC hc0 hc1
      have hlen := HL.out
      go_wp2
      refine ⟨⟨k + 1, by omega, by go_num, K12.out.mod HM.out (fun h => LK12.out _ h rfl), K6.out.mod HM.out (fun h => LK6.out _ h rfl), F1', F2', CM.out ▸ HD.out, fun j h e => ?_, fun j h e => ?_⟩, by simp [intOf]; omega⟩
      · subst e
        exact LK6.out j (h.elim (fun h => .inl (HF1.out j K6.out.lt h)) fun h => .inr (HF2.out j K6.out.lt h)) rfl
      · subst e
        exact LK12.out j (h.elim (fun h => .inl (HF1.out j K12.out.lt h)) fun h => .inr (HF2.out j K12.out.lt h)) rfl
    · obtain rfl : k = len := by omega
      have cB := K12.out.cell 0
      have cC := K12.out.cell 1
      simp only [List.getElem?_toArray, List.getElem?_cons_zero, List.getElem?_cons_succ] at cB cC
      go_wp2_with (first
        | ((with_reducible refine Step.gate_store (t := 33) rfl ?_); refine Step.storeAll (vs := #[.pointer (some ⟨h1, 0, none⟩), .pointer (some ⟨h2, 0, none⟩)]) K6.out rfl rfl rfl rfl rfl size_two rfl rfl ?_; intro w7 nb m; have N6 := Lib.hid nb; have D7 := Lib.hid (DK.out.other m (fun k h e => LK6.out _ h e) (fun k e => by obtain rfl : k = g6 := e; exact HG6.out)); clear nb m))
      refine bodyPost_ret (results_row_tmp rfl _ _ g6 _ _ _ rfl N6.out hu rfl size_two) rfl ⟨h1, h2, F1, F2, rfl, D7.out⟩
end Go.Proofs.YtidiojhefjhojaaGreat.Duo
end
section
namespace Go.Proofs.YtidiojhefjhojaaGreat.Mem
open Go Go.RowKit Go.Proofs.YtidiojhefjhojaaGreat.Step
set_option linter.unusedVariables false
set_option linter.unusedSimpArgs false
set_option maxRecDepth 100000
/-- The bytes as a list of cells. -/
def lst (n : Nat) (f : Nat → Int) : List Value := (List.range n).map fun k => .int .u8 (f k)
theorem lst_len (n : Nat) (f : Nat → Int) : (lst n f).length = n := by simp [lst]
theorem lst_at (n : Nat) (f : Nat → Int) {k : Nat} (h : k < n) : (lst n f)[k]? = some (.int .u8 (f k)) := by simp [lst, h]
theorem lst_one (n : Nat) (f : Nat → Int) : ∀ u ∈ lst n f, u.oneCell' = true := by
  intro u hu
  obtain ⟨k, _, rfl⟩ := List.mem_map.1 hu
  rfl
theorem info_u8 : ∃ i, Tryz.prog.info? 5 = some i ∧ i.size = 1 ∧ i.bytes = 1 ∧ i.zero = some (.int .u8 0) := by
  have h := mk_u8
  cases hi : Tryz.prog.info? 5 with
  | none => rw [hi] at h; cases h
  | some i =>
    rw [hi] at h
    simp only [Option.map_some, Option.some.injEq, Prod.mk.injEq] at h
    exact ⟨i, rfl, h⟩
/-- An argument's bytes, nil or not. -/
structure Arg (W : World) (A : Option Addr) (n c : Nat) (f : Nat → Int) (G : Nat → Prop) : Prop where
  rd : Rd W A n f G
  nil_ : A = none → n = 0 ∧ c = 0
set_option maxHeartbeats 1000000 in
theorem copyBytes_any {W : World} {A : Option Addr} {n c : Nat} {f : Nat → Int} {G : Nat → Prop} (r : Arg W A n c f G) (hn : n ≤ 140737488355328) :
    Calls Tryz.prog 33 #[.slice A n c] W fun e W' => ∃ v, e = .returned v ∧ W'.ownsRow W.heap.size 5 1 v n (lst n f) ∧ Below W.heap.size W W' := by
  obtain ⟨i, hi, hs, hb, hz⟩ := info_u8
  have R := Lib.hid r
  have HI := Lib.hid hi
  have HS := Lib.hid hs
  have HB := Lib.hid hb
  have HZ := Lib.hid hz
  clear hi hs hb hz r
  cases A with
  | none =>
    obtain ⟨rfl, rfl⟩ := R.out.nil_ rfl
    go_enter Tryz.func33, Tryz.ntmps33
    go_wp2
    go_ret
    exact ⟨_, rfl, World.ownsRow_nil _ _ _ _, Below.refl _ _⟩
  | some ad =>
    go_enter Tryz.func33, Tryz.ntmps33
    go_wp2_with ((with_reducible refine wpList_append_own (w := W) rfl _ _ 23 rfl W.heap.size 5 i _ 1 1 Tryz.underlying23 HI.out HZ.out HS.out HB.out rfl (by omega) (.slice none 0 0) 0 [] rfl (World.ownsRow_nil _ _ _ _) ad n c (lst n f) rfl ?h1 ?h2 (lst_one _ _) ?h3 ?h4 (Nat.le_refl _) ?_); rotate_right; intro v' w' own' grow' hv; have OW := Lib.hid own'; have GR := Lib.hid grow'; clear own' grow' hv)
    case h1 => rw [lst_len, Nat.mul_one]
    case h2 =>
      intro j u hu
      have hj : j < n := by have := (List.getElem?_eq_some_iff.1 hu).1; rwa [lst_len] at this
      rw [lst_at n f hj] at hu
      obtain ⟨ad', e, _, hc, _⟩ := R.out.rd j hj
      obtain rfl := Option.some.inj e
      rw [hc]; exact hu
    case h3 => unfold maxLen; omega
    case h4 => omega
    go_ret
    refine ⟨_, rfl, ?_, (Below.refl _ _).grown GR.out (Nat.le_refl _) (fun k hk => by cases hk)⟩
    have := OW.out
    rwa [Nat.zero_add, List.nil_append] at this
end Go.Proofs.YtidiojhefjhojaaGreat.Mem
end
section
namespace Go.Proofs.YtidiojhefjhojaaGreat.Hart
open Go Go.RowKit Go.Proofs.YtidiojhefjhojaaGreat.Step Go.Proofs.YtidiojhefjhojaaGreat.Enc Go.Proofs.YtidiojhefjhojaaGreat.Kn
open Go.Proofs.YtidiojhefjhojaaGreat.Mem (Ram Grow hasB wholeB num wr Rd fl Arg lst)
open Go.Proofs.YtidiojhefjhojaaGreat.Duo (Duo)
set_option linter.unusedVariables false
set_option linter.unusedSimpArgs false
set_option maxRecDepth 100000
theorem pl_pr3 : Step.plainT Tryz.prog 31 = true := by kernel_rfl
theorem own_rd {w : World} {b m : Nat} {v : Value} {f : Nat → Int} (h : w.ownsRow b 5 1 v m (lst m f)) (hf : ∀ k, k < m → 0 ≤ f k ∧ f k < 256) : ∃ A cap, v = .slice A m cap ∧ Rd w A m f (fun k => b ≤ k ∧ k < w.heap.size) := by
  obtain ⟨_, ⟨rfl, rfl⟩ | ⟨g, cap, cur, rfl, hb, ho, hn, hc, hs, ht⟩⟩ := h
  · exact ⟨none, 0, rfl, fun k hk => absurd hk (Nat.not_lt_zero k)⟩
  · refine ⟨some ⟨g, 0, none⟩, cap, rfl, fun k hk => ⟨_, rfl, ⟨hb, (Array.getElem?_eq_some_iff.1 ho).1⟩, ?_, hf k hk⟩⟩
    have h1 := Mem.lst_at m f hk
    rw [← ht, List.getElem?_take, if_pos (by omega)] at h1
    have e : (⟨g, 0, none⟩ : Addr).add k = ⟨g, k, none⟩ := by unfold Addr.add; split <;> simp_all
    rw [e]
    exact ((⟨ho⟩ : Blk w g cur 5).cell k).trans (by simpa using h1)
set_option maxHeartbeats 2000000 in
theorem fboth {W w : World} {h1 h2 n s c : Nat} {base : Int} {mem : Nat → Int} {F1 F2 G : Nat → Prop} {A : Option Addr} {f : Nat → Int} (d : Duo W w h1 h2 base n mem F1 F2) (r : Arg w A s c f G) (hG : ∀ k, G k → ¬ F1 k ∧ ¬ F2 k ∧ k < w.heap.size) (hs : s ≤ 140737488355328) (hf : ∀ k, k < s → 0 ≤ f k ∧ f k < 256) (addr : Int) (ha : 0 ≤ addr ∧ addr < 18446744073709551616) (hh : hasB base n addr s = true) :
    Calls Tryz.prog 16 #[.agg #[.pointer (some ⟨h1, 0, none⟩), .pointer (some ⟨h2, 0, none⟩)], .int .u64 addr, .slice A s c] w fun e w' => e = .returned (.tuple #[]) ∧ ∃ F1' F2', Duo W w' h1 h2 base n (fl mem (addr - base).toNat s f) F1' F2' ∧ (∀ k, k < w.heap.size → F1' k → F1 k) ∧ (∀ k, k < w.heap.size → F2' k → F2 k) ∧ Mod (fun k => F1 k ∨ F2 k) w w' := by
  have TC1 := Lib.hid (fun (X : World) (b : Below w.heap.size w X) => (Mem.copyBytes_any (W := X) (A := A) (n := s) (c := c) (f := f) (G := G) ⟨r.rd.below b fun k hk => (hG k hk).2.2, r.nil_⟩ hs).mono fun e w' h => (by
    obtain ⟨v, e, own, bl⟩ := h
    obtain ⟨B, cap, rfl, rd⟩ := own_rd own hf
    exact ⟨B, cap, e, rd, bl⟩ : ∃ B cap, e = .returned (.slice B s cap) ∧ Rd w' B s f (fun k => X.heap.size ≤ k ∧ k < w'.heap.size) ∧ Below X.heap.size X w'))
  have TR := Lib.hid (fun (X Y : World) (b : Below w.heap.size w X) (b2 : Below X.heap.size X Y) (B : Option Addr) (cap : Nat) (rd : Rd Y B s f (fun k => X.heap.size ≤ k ∧ k < Y.heap.size)) =>
    Mem.fill_yes (c := cap) ((d.one.below b).below b2) addr rd (fun k hk => ⟨fun h => by have := d.bound k (.inl h); have := b.size; omega, hk.2⟩) ha hh)
  have TS := Lib.hid (fun (X Y : World) (b : Below w.heap.size w X) (m : Mod F1 X Y) => Ref.fill_yes (c := c) ((d.two.below b).mod m fun k h2 h1 => d.apart k h1 h2) addr ((r.rd.below b fun k hk => (hG k hk).2.2).mod m (fun k hk => (hG k hk).1) fun k hk => Nat.lt_of_lt_of_le (hG k hk).2.2 b.size) (fun k hk => ⟨(hG k hk).2.1, by have := (hG k hk).2.2; have := b.size; have := m.size; omega⟩) ha hh)
  have D := Lib.hid d
  clear d r hG hs hf ha hh
  go_enter Tryz.func16, Tryz.ntmps16
  have ST := Lib.hid (Kn.nil (S := Step.Nil) (W := w))
  go_wp2_with (((with_reducible refine Step.gate_box (t := 33) rfl ?_); refine Step.fresh (cs := #[.pointer (some ⟨h1, 0, none⟩), .pointer (some ⟨h2, 0, none⟩)]) (T := 33) rfl ?hr ?_; (case hr => first | (go_simp; done)); intro g1 w1 b hg hb; replace ST := Lib.hid (ST.out.made b hg hb); clear b hb; have HG := Lib.hid hg; clear hg))
  have c0 := ST.out.at0.cell 0
  simp only [List.getElem?_toArray, List.getElem?_cons_zero] at c0
  go_region_held3 (fun w' => w'.cell? ⟨g1, 0, none⟩ = some (.pointer (some ⟨h1, 0, none⟩))) (first | (go_keep; done) | exact G1.out.cell 0 | exact ST.out.at0.cell 0)
    ((first
    | (go_at_call 33; (with_reducible refine (TC1.out _ (ST.out.call (Below.drew (Below.refl _ _))).below).mono ?_); rintro e wc ⟨B, cap, rfl, rd, hb⟩; have S0 := Lib.hid (ST.out.call (Below.drew (Below.refl _ _))).below; have RD := Lib.hid rd; have CB := Lib.hid hb; replace ST := Lib.hid ((ST.out.call (Below.drew (Below.refl _ _))).call hb); clear rd hb)
    | (go_at_call 32; (with_reducible refine (TR.out _ _ S0.out CB.out _ _ RD.out).mono ?_); rintro e w3 ⟨rfl, r, m⟩; have R1 := Lib.hid r; have M1 := Lib.hid m; have G1 := Lib.hid (ST.out.at0.mod m fun h => by have := D.out.bound _ (.inl h); have := HG.out; omega); clear r m)))
  go_wp2_with (first
    | ((with_reducible refine Step.gate_load (t := 31) rfl ?_); refine Step.load G1.out rfl rfl rfl pl_pr3 rfl ?_)
    | (go_at_call 34; (with_reducible refine (TS.out _ _ ST.out.below M1.out).mono ?_); rintro e w4 ⟨rfl, r, m⟩; have R2 := Lib.hid r; have M2 := Lib.hid m; clear r m))
  go_end0
  have dd := (D.out.below ST.out.below).step R1.out M1.out R2.out M2.out
  have hs := ST.out.below.size
  refine ⟨rfl, _, _, dd, fun k hk h => h.elim id fun h => by omega, fun k hk h => h.elim id fun h => by have := M1.out.size; omega, ?_⟩
  refine ((Mod.of_below ST.out.below _).trans (M1.out.mono fun k _ h => .inl h)).trans (M2.out.mono fun k _ h => .inr h)
end Go.Proofs.YtidiojhefjhojaaGreat.Hart
end
section
namespace Go.Proofs.YtidiojhefjhojaaGreat.Hart
open Go Go.RowKit Go.Proofs.YtidiojhefjhojaaGreat.Step Go.Proofs.YtidiojhefjhojaaGreat.Enc Go.Proofs.YtidiojhefjhojaaGreat.Kn
open Go.Proofs.YtidiojhefjhojaaGreat.Mem (Ram Grow hasB wholeB num wr Rd fl Arg lst)
open Go.Proofs.YtidiojhefjhojaaGreat.Duo (Duo)
set_option linter.unusedVariables false
set_option linter.unusedSimpArgs false
abbrev Blks : Type := List (Nat × Array Value × TypeId)
/-- From W to w: a memory, the document's, and the listed blocks, all of them new and apart. -/
structure DK (W w : World) (h1 h2 : Nat) (base : Int) (n : Nat) (m1 m2 : Nat → Int) (F1 F2 : Nat → Prop) (L : Blks) : Prop where
  one : Ram w h1 base n m1 F1
  two : Ref.Mem w h2 base n m2 F2
  apart : ∀ k, F1 k → ¬ F2 k
  new : ∀ k, F1 k ∨ F2 k → W.heap.size ≤ k
  kn : Kn Step.Nil W w L
  ap : ∀ k, F1 k ∨ F2 k → ∀ p ∈ L, p.1 ≠ k
section
variable {W w w' : World} {h1 h2 n g : Nat} {base : Int} {m1 m2 mem mem' m1' : Nat → Int} {F1 F2 F1' F2' : Nat → Prop} {L L' : Blks} {c c' : Array Value} {T T' : TypeId}
theorem DK.bound (d : DK W w h1 h2 base n m1 m2 F1 F2 L) : ∀ k, F1 k ∨ F2 k → k < w.heap.size := fun k h => h.elim (d.one.bound k) (d.two.bound k)
theorem DK.of (d : Duo W w h1 h2 base n mem F1 F2) (k : Kn Step.Nil W w L) (a : ∀ k, F1 k ∨ F2 k → ∀ p ∈ L, p.1 ≠ k) : DK W w h1 h2 base n mem mem F1 F2 L := ⟨d.one, d.two, d.apart, d.new, k, a⟩
theorem DK.duo (d : DK W w h1 h2 base n mem mem F1 F2 L) : Duo W w h1 h2 base n mem F1 F2 := ⟨d.one, d.two, d.apart, d.new, d.kn.mod⟩
theorem DK.size (d : DK W w h1 h2 base n m1 m2 F1 F2 L) : W.heap.size ≤ w.heap.size := d.kn.mod.size
theorem DK.below (d : DK W w h1 h2 base n m1 m2 F1 F2 L) : Below W.heap.size W w := d.kn.below
theorem DK.call (d : DK W w h1 h2 base n m1 m2 F1 F2 L) (b : Below w.heap.size w w') : DK W w' h1 h2 base n m1 m2 F1 F2 L := ⟨d.one.below b, d.two.below b, d.apart, d.new, d.kn.call b, d.ap⟩
theorem DK.made (d : DK W w h1 h2 base n m1 m2 F1 F2 L) (b : Blk w' g c T) (hg : w.heap.size ≤ g) (hb : Below w.heap.size w w') : DK W w' h1 h2 base n m1 m2 F1 F2 ((g, c, T) :: L) :=
  ⟨d.one.below hb, d.two.below hb, d.apart, d.new, d.kn.made b hg hb, fun k hk p hp => by
    rcases List.mem_cons.1 hp with rfl | hp
    · have := d.bound k hk
      show g ≠ k
      omega
    · exact d.ap k hk p hp⟩
/-- A listed block is turned. -/
theorem DK.set (d : DK W w h1 h2 base n m1 m2 F1 F2 L) (k : Kn Step.Nil W w' L') (m : Mod (One g) w w') (hg : ∃ p ∈ L, p.1 = g) (hL : L'.map (·.1) = L.map (·.1)) : DK W w' h1 h2 base n m1 m2 F1 F2 L' := by
  obtain ⟨p, hp, rfl⟩ := hg
  refine ⟨d.one.mod m fun k hk e => d.ap k (.inl hk) p hp (e : k = p.1).symm, d.two.mod m fun k hk e => d.ap k (.inr hk) p hp (e : k = p.1).symm, d.apart, d.new, k, fun k hk q hq => ?_⟩
  have : q.1 ∈ L'.map (·.1) := List.mem_map.2 ⟨q, hq, rfl⟩
  rw [hL] at this
  obtain ⟨r, hr, e⟩ := List.mem_map.1 this
  rw [← e]
  exact d.ap k hk r hr
/-- Both memories are turned. -/
theorem DK.turn (d : DK W w h1 h2 base n m1 m2 F1 F2 L) (r1 : Ram w' h1 base n m1' F1') (r2 : Ref.Mem w' h2 base n mem' F2') (ha : ∀ k, F1' k → ¬ F2' k) (f1 : ∀ k, k < w.heap.size → F1' k → F1 k) (f2 : ∀ k, k < w.heap.size → F2' k → F2 k) (m : Mod (fun k => F1 k ∨ F2 k) w w') :
    DK W w' h1 h2 base n m1' mem' F1' F2' L := by
  have hf : ∀ k, F1' k ∨ F2' k → k < w.heap.size → F1 k ∨ F2 k := fun k hk hl => hk.imp (f1 k hl) (f2 k hl)
  refine ⟨r1, r2, ha, fun k hk => ?_, d.kn.turn m (fun p hp e => d.ap _ e p hp rfl) fun i hi e => absurd (d.new i e) (by omega), fun k hk p hp e => ?_⟩
  · have := d.size
    by_cases hl : k < w.heap.size
    · exact d.new k (hf k hk hl)
    · omega
  · have := (d.kn.blk p hp).lt
    exact d.ap k (hf k hk (by omega)) p hp e
theorem DK.duoTurn (d : DK W w h1 h2 base n m1 m2 F1 F2 L) (u : Duo W w' h1 h2 base n mem' F1' F2') (f1 : ∀ k, k < w.heap.size → F1' k → F1 k) (f2 : ∀ k, k < w.heap.size → F2' k → F2 k) (m : Mod (fun k => F1 k ∨ F2 k) w w') : DK W w' h1 h2 base n mem' mem' F1' F2' L :=
  d.turn u.one u.two u.apart f1 f2 m
theorem DK.blk (d : DK W w h1 h2 base n m1 m2 F1 F2 L) {p : Nat × Array Value × TypeId} (hp : p ∈ L) : Blk w p.1 p.2.1 p.2.2 := d.kn.blk p hp
theorem DK.drop {p : Nat × Array Value × TypeId} (d : DK W w h1 h2 base n m1 m2 F1 F2 (p :: L)) : DK W w h1 h2 base n m1 m2 F1 F2 L := ⟨d.one, d.two, d.apart, d.new, d.kn.drop, fun k hk q hq => d.ap k hk q (List.mem_cons_of_mem _ hq)⟩
theorem Duo_ahead {V : World} (d : Duo V w h1 h2 base n mem F1 F2) (b : Below W.heap.size W V) : Duo W w h1 h2 base n mem F1 F2 :=
  ⟨d.one, d.two, d.apart, fun k h => Nat.le_trans b.size (d.new k h), (Mod.of_below b Step.Nil).trans d.mod⟩
/-- A call laid two memories. -/
theorem DK.begin {V : World} (k : Kn Step.Nil W V L) (d : Duo V w h1 h2 base n mem F1 F2) : DK W w h1 h2 base n mem mem F1 F2 L :=
  DK.of (Duo_ahead d k.below) (k.call d.out) fun i hi p hp e => by
    have := (k.blk p hp).lt
    have := d.new i hi
    omega
end
end Go.Proofs.YtidiojhefjhojaaGreat.Hart
end
section
namespace Go.Proofs.YtidiojhefjhojaaGreat.Hart
open Go Go.RowKit Go.Proofs.YtidiojhefjhojaaGreat.Step Go.Proofs.YtidiojhefjhojaaGreat.Enc Go.Proofs.YtidiojhefjhojaaGreat.Kn
open Go.Proofs.YtidiojhefjhojaaGreat.Mem (Ram Grow hasB wholeB num wr Rd fl Arg lst newB place_any)
open Go.Proofs.YtidiojhefjhojaaGreat.Duo (Duo RdC cm memory_any size_two)
set_option linter.unusedVariables false
set_option linter.unusedSimpArgs false
set_option maxRecDepth 100000
/-- A case, as an argument. -/
def cs15 (b fr : Int) (A : Option Addr) (s c : Nat) (A2 : Option Addr) (len cap : Nat) (root : Int) (h : Hrt) : Array Value := #[.int .u64 b, .int .i64 fr, .slice A s c, .slice A2 len cap, .int .u64 root, .int .u64 (h.x 0), .int .u64 (h.x 1), .int .u64 (h.x 2), .int .u64 (h.x 3), .int .u64 (h.x 4), .int .u64 (h.x 5), .int .u64 (h.x 6), .int .u64 (h.x 7), .int .u64 (h.x 8), .int .u64 (h.x 9), .int .u64 (h.x 10), .int .u64 (h.x 11), .int .u64 (h.x 12), .int .u64 (h.x 13), .int .u64 (h.x 14), .int .u64 (h.x 15), .int .u64 (h.x 16), .int .u64 (h.x 17), .int .u64 (h.x 18), .int .u64 (h.x 19), .int .u64 (h.x 20), .int .u64 (h.x 21), .int .u64 (h.x 22), .int .u64 (h.x 23), .int .u64 (h.x 24), .int .u64 (h.x 25), .int .u64 (h.x 26), .int .u64 (h.x 27), .int .u64 (h.x 28), .int .u64 (h.x 29), .int .u64 (h.x 30), .int .u64 (h.x 31), .int .u64 h.pc, .bool h.user, .bool h.on, .bool h.spie, .bool h.spp, .bool h.sum, .bool h.mxr, .bool h.rsv, .int .u64 h.stvec, .int .u64 h.sscr, .int .u64 h.sepc, .int .u64 h.scause, .int .u64 h.stval, .int .u64 h.sie, .int .u64 h.sip, .int .u64 h.satp, .int .u64 h.resv]
theorem pl_sb : Step.plainT Tryz.prog 23 = true := by kernel_rfl
section
variable {b fr : Int} {A A2 : Option Addr} {s c len cap : Nat} {root : Int} {h : Hrt}
theorem cs15_0 : (cs15 b fr A s c A2 len cap root h)[0]? = some (.int .u64 b) := rfl
theorem cs15_1 : (cs15 b fr A s c A2 len cap root h)[1]? = some (.int .i64 fr) := rfl
theorem cs15_2 : (cs15 b fr A s c A2 len cap root h)[2]? = some (.slice A s c) := rfl
theorem cs15_3 : (cs15 b fr A s c A2 len cap root h)[3]? = some (.slice A2 len cap) := rfl
theorem cs15_list : (cs15 b fr A s c A2 len cap root h).toList = [.int .u64 b, .int .i64 fr, .slice A s c, .slice A2 len cap, .int .u64 root] ++ (hc h).toList := rfl
theorem row_cs : Row (cs15 b fr A s c A2 len cap root h) 5 (hc h) := by
  intro j v hv
  rw [← Array.getElem?_toList, cs15_list, List.getElem?_append_right (by show 5 ≤ 5 + j; omega)]
  simpa using hv
end
theorem size_case15 {b fr : Int} {A A2 : Option Addr} {s c len cap : Nat} {root : Int} {h : Hrt} : (Tryz.prog.info? 29).map (·.size) = some (cs15 b fr A s c A2 len cap root h).size := (by kernel_rfl : (Tryz.prog.info? 29).map (·.size) = some 54)
section
variable {W w2 wm : World} {g5 g1 h1 h2 n : Nat} {c5 c1 : Array Value} {T5 T1 : TypeId} {base : Int} {mem : Nat → Int} {F1 F2 : Nat → Prop}
theorem both_a (ST : Kn Step.Nil W w2 [(g5, c5, T5), (g1, c1, T1)]) (d : Duo (w2.alloc (.cells #[.pointer none, .pointer none] 33)).drew wm h1 h2 base n mem F1 F2) :
    Blk wm w2.heap.size #[.pointer none, .pointer none] 33 ∧ Kn Step.Nil W ((wm.setCell ⟨w2.heap.size, 0, none⟩ (.pointer (some ⟨h1, 0, none⟩))).setCell ⟨w2.heap.size, 1, none⟩ (.pointer (some ⟨h2, 0, none⟩))) [(w2.heap.size, #[.pointer (some ⟨h1, 0, none⟩), .pointer (some ⟨h2, 0, none⟩)], 33), (g5, c5, T5), (g1, c1, T1)] ∧ Duo W ((wm.setCell ⟨w2.heap.size, 0, none⟩ (.pointer (some ⟨h1, 0, none⟩))).setCell ⟨w2.heap.size, 1, none⟩ (.pointer (some ⟨h2, 0, none⟩))) h1 h2 base n mem F1 F2 ∧ ∀ k, F1 k ∨ F2 k → ∀ p ∈ ([(w2.heap.size, #[.pointer (some ⟨h1, 0, none⟩), .pointer (some ⟨h2, 0, none⟩)], 33), (g5, c5, T5), (g1, c1, T1)] : Blks), p.1 ≠ k := by
  have KA := ((ST.made (alloc_out w2 #[.pointer none, .pointer none] 33) (Nat.le_refl _) (alloc_below _ _)).call (Below.drew (Below.refl _ _))).call d.out
  have KB := KA.set0 (setCell_out _ _ 0 (.pointer (some ⟨h1, 0, none⟩)) _ _ KA.at0) (setCell_mod _ _ _ _)
  have KC := KB.set0 (setCell_out _ _ 1 (.pointer (some ⟨h2, 0, none⟩)) _ _ KB.at0) (setCell_mod _ _ _ _)
  have DW := Duo_ahead d ((ST.call (alloc_below w2 (.cells #[.pointer none, .pointer none] 33))).call (Below.drew (Below.refl _ _))).below
  have hN : W.heap.size ≤ w2.heap.size := ST.below.size
  have hX : w2.heap.size < (w2.alloc (.cells #[.pointer none, .pointer none] 33)).heap.size := (alloc_out w2 _ _).lt
  have l5 := ST.at0.lt
  have l1 := ST.at1.lt
  have hnew : ∀ k, F1 k ∨ F2 k → (w2.alloc (.cells #[.pointer none, .pointer none] 33)).heap.size ≤ k := fun k hk => d.new k hk
  have nN : ∀ k, F1 k ∨ F2 k → ¬ One w2.heap.size k := fun k hk e => by
    have e' : k = w2.heap.size := e
    have := hnew k hk
    omega
  refine ⟨KA.at0, KC, (DW.other (setCell_mod wm w2.heap.size 0 (.pointer (some ⟨h1, 0, none⟩))) nN fun k e => ?_).other (setCell_mod _ w2.heap.size 1 (.pointer (some ⟨h2, 0, none⟩))) nN fun k e => ?_, fun k hk p hp => ?_⟩
  · have e' : k = w2.heap.size := e
    omega
  · have e' : k = w2.heap.size := e
    omega
  · have := hnew k hk
    simp only [List.mem_cons, List.not_mem_nil, or_false] at hp
    rcases hp with rfl | rfl | rfl
    · show w2.heap.size ≠ k; omega
    · show g5 ≠ k; omega
    · show g1 ≠ k; omega
theorem both_b (ST : Kn Step.Nil W w2 [(g5, c5, T5), (g1, c1, T1)]) (d : Duo w2.drew wm h1 h2 base n mem F1 F2) :
    Kn Step.Nil W (wm.alloc (.cells #[.pointer (some ⟨h1, 0, none⟩), .pointer (some ⟨h2, 0, none⟩)] 33)) [(wm.heap.size, #[.pointer (some ⟨h1, 0, none⟩), .pointer (some ⟨h2, 0, none⟩)], 33), (g5, c5, T5), (g1, c1, T1)] ∧ Duo W (wm.alloc (.cells #[.pointer (some ⟨h1, 0, none⟩), .pointer (some ⟨h2, 0, none⟩)] 33)) h1 h2 base n mem F1 F2 ∧ ∀ k, F1 k ∨ F2 k → ∀ p ∈ ([(wm.heap.size, #[.pointer (some ⟨h1, 0, none⟩), .pointer (some ⟨h2, 0, none⟩)], 33), (g5, c5, T5), (g1, c1, T1)] : Blks), p.1 ≠ k := by
  have KC := (ST.call (Below.drew (Below.refl _ _))).call d.out
  have DW := Duo_ahead d (ST.call (Below.drew (Below.refl _ _))).below
  have l5 := ST.at0.lt
  have l1 := ST.at1.lt
  refine ⟨KC.made (alloc_out wm _ _) (Nat.le_refl _) (alloc_below _ _), DW.below (alloc_below _ _), fun k hk p hp => ?_⟩
  have : w2.heap.size ≤ k := d.new k hk
  have := DW.bound k hk
  simp only [List.mem_cons, List.not_mem_nil, or_false] at hp
  rcases hp with rfl | rfl | rfl
  · show wm.heap.size ≠ k; omega
  · show g5 ≠ k; omega
  · show g1 ≠ k; omega
end
set_option maxHeartbeats 8000000 in
theorem casem_le (W : World) (b fr : Int) (hfr : -9223372036854775808 ≤ fr ∧ fr < 9223372036854775808) (hb0 : 0 ≤ b ∧ b < 18446744073709551616) (base : Int) (hbase : b % 1099511627776 / 4096 * 4096 = base) (n : Nat) (hn : 1 + fr % 8 = n) (A : Option Addr) (s c s2 : Nat) (hcut : s = s2) (f : Nat → Int) (hA : Arg W A s2 c f (· < W.heap.size)) (hs : s2 ≤ 4096) (hf : ∀ k, k < s2 → 0 ≤ f k ∧ f k < 256)
    (A2 : Option Addr) (len cap : Nat) (f2 : Nat → Int × Int) (hA2 : RdC W A2 len f2 (· < W.heap.size)) (hl : len ≤ 9223372036854775807) (root : Int) (h : Hrt) :
    Calls Tryz.prog 4 #[.agg (cs15 b fr A s c A2 len cap root h)] W fun e w' => ∃ h1 h2 F1 F2, e = .returned (.tuple #[.agg #[.pointer (some ⟨h1, 0, none⟩), .pointer (some ⟨h2, 0, none⟩)], .bool true]) ∧ Duo W w' h1 h2 base n (fl (cm n f2 len) 0 s2 f) F1 F2 := by
  have e0 : 0 ≤ base ∧ base < 1099511627776 := by omega
  have en : 1 ≤ n ∧ n ≤ 8 := by omega
  have hnew : newB base n = true := decide_eq_true (by refine ⟨?_, ?_, ?_, ?_⟩ <;> omega)
  have w1 : IntKind.u64.wrap (IntKind.u64.wrap ((b.tmod 1099511627776).tdiv 4096) * 4096) = base := by
    rw [Int.tmod_eq_emod_of_nonneg hb0.1, Int.tdiv_eq_ediv_of_nonneg (by omega), IntWalk.u64_in (b % 1099511627776 / 4096) (by omega), hbase]; exact IntWalk.u64_in _ (by omega)
  have w2 : IntKind.i64.wrap (1 + fr % 8) = n := by rw [hn]; exact IntWalk.i64_in _ (by omega)
  have HHB := Lib.hid (show hasB base n base (s2 : Nat) = true by simp only [hasB, decide_eq_true_eq]; omega)
  have TP := Lib.hid (fun w => place_any fr 8 (by decide) hfr (by decide) w)
  have TM := Lib.hid (fun (X : World) (bl : Below W.heap.size W X) => memory_any X base n n rfl (by omega) hnew A2 len cap f2 ((hA2.mod (Mod.of_below bl Step.Nil) (fun _ _ h => h) fun _ h => h).wide fun k hk => Nat.lt_of_lt_of_le hk bl.size) hl)
  have RA := Lib.hid hA
  have HS := Lib.hid hs
  have HC := Lib.hid hcut
  have HF := Lib.hid hf
  have HE0 := Lib.hid e0
  clear hA hA2 hs hl hf hnew e0 en hb0 hfr hbase hn hcut
  go_enter Tryz.func4, Tryz.ntmps4
  have ST := Lib.hid (Kn.nil (S := Step.Nil) (W := W))
  go_wp2_with (first
    | ((with_reducible refine Step.gate_box (t := 29) rfl ?_); refine Step.fresh (cs := cs15 b fr A s c A2 len cap root h) (T := 29) rfl ?hr ?_; (case hr => first | (go_simp; done)); intro g1 w1 b hg hb; replace ST := Lib.hid (ST.out.made b hg hb); clear b hb; clear hg)
    | ((with_reducible refine Step.gate_alloc (t := 33) rfl ?_); refine Step.freshAlloc rfl rfl (Duo.alloc_agg Duo.zero_two) ?_; intro g5 w2 b hg hb; replace ST := Lib.hid (ST.out.made b hg hb); clear b hb; clear hg)
    | ((with_reducible refine Step.gate_load (t := 22) rfl ?_); refine Step.load ST.out.at1 rfl rfl rfl pl_u64 cs15_0 ?_))
  have c1 := (ST.out.at1.cell 1).trans cs15_1
  have c3 := (ST.out.at1.cell 3).trans cs15_3
  have hu := Tryz.underlying33
  have hz := size_two
  go_region_held3 (fun w' => w'.cell? ⟨g1, 1, none⟩ = some (.int .i64 fr) ∧ w'.cell? ⟨g1, 3, none⟩ = some (.slice A2 len cap))
    (first | (go_keep; done) | exact ⟨(K8.out.at2.cell 1).trans cs15_1, (K8.out.at2.cell 3).trans cs15_3⟩ | exact ⟨(((ST.out.call (Below.drew (Below.refl _ _))).call d.out).at1.cell 1).trans cs15_1, (((ST.out.call (Below.drew (Below.refl _ _))).call d.out).at1.cell 3).trans cs15_3⟩ | exact ⟨((((ST.out.call (alloc_below _ _)).call (Below.drew (Below.refl _ _))).call d.out).at1.cell 1).trans cs15_1, ((((ST.out.call (alloc_below _ _)).call (Below.drew (Below.refl _ _))).call d.out).at1.cell 3).trans cs15_3⟩)
    ((first
      | (go_at_call 15; (with_reducible refine (TP.out _).mono ?_); rintro e w' ⟨rfl, rfl⟩)
      | (go_at_call 14; (with_reducible refine (TM.out _ (by first | exact (ST.out.call (Below.drew (Below.refl _ _))).below | exact ((ST.out.call (alloc_below _ _)).call (Below.drew (Below.refl _ _))).below)).mono ?_); rintro e wm ⟨h1, h2, F1, F2, rfl, d⟩; (first | (have VA := both_a ST.out d; have n0 := VA.1.cell 0; have n1 := VA.1.cell 1; have f0 := VA.1.frozen 0; have f1 := VA.1.frozen 1; simp only [List.getElem?_toArray, List.getElem?_cons_zero, List.getElem?_cons_succ] at n0 n1; have K8 := Lib.hid VA.2.1; have D8 := Lib.hid VA.2.2.1; have NF8 := Lib.hid VA.2.2.2; clear VA; obtain ⟨gN, hgN⟩ : ∃ x, x = w2.heap.size := ⟨_, rfl⟩) | (have VB := both_b ST.out d; have K8 := Lib.hid VB.1; have D8 := Lib.hid VB.2.1; have NF8 := Lib.hid VB.2.2; clear VB; obtain ⟨gN, hgN⟩ : ∃ x, x = wm.heap.size := ⟨_, rfl⟩)))))
  all_goals
    rename_i hHeld
    clear hHeld
    have ST' := Lib.hid (DK.of D8.out K8.out NF8.out)
    replace ST := ST'
    clear ST' D8 K8 NF8 d
    rw [← hgN] at ST ⊢
    clear hgN
    have hsd : decide ((4096 : Int) < (s : Int)) = false := by have := HS.out; have := HC.out; exact decide_eq_false (by omega)
    have hsd2 : ((s : Int) > 4096) = False := eq_false (by have := HS.out; have := HC.out; omega)
    obtain rfl := HC.out
    go_wp2_with (first
      | ((with_reducible refine Step.gate_load (t := 23) rfl ?_); refine Step.load ST.out.kn.at2 rfl rfl rfl pl_sb cs15_2 ?_)
      | ((with_reducible refine Step.gate_load (t := 33) rfl ?_); refine Step.loadAll ST.out.kn.at0 rfl rfl rfl Tryz.underlying33 rfl size_two ?_)
      | ((with_reducible refine Step.gate_store (t := 33) rfl ?_); refine Step.storeAll ST.out.kn.at1 rfl rfl rfl rfl rfl size_two rfl rfl ?_; intro w3 nb m; replace ST := Lib.hid (ST.out.set (ST.out.kn.set1 nb m) m ⟨_, List.mem_of_getElem? (i := 1) rfl, rfl⟩ rfl); clear nb m)
      | (go_at_call 16; (with_reducible refine (fboth ST.out.duo (⟨RA.out.rd.below ST.out.below (fun k h => h), RA.out.nil_⟩ : Arg _ A _ c f (fun x => x < W.heap.size)) (fun k hk => by have hk' : k < W.heap.size := hk; have hz := ST.out.size; exact ⟨fun h => by have := ST.out.new k (.inl h); omega, fun h => by have := ST.out.new k (.inr h); omega, by omega⟩) (by have := HS.out; omega) HF.out base (by have := HE0.out; omega) HHB.out).mono ?_); rintro e w9 ⟨rfl, F1', F2', hd, f1, f2, m⟩; rw [show (base - base).toNat = 0 by omega] at hd; replace ST := Lib.hid (ST.out.duoTurn hd f1 f2 m); clear hd f1 f2 m))
    refine bodyPost_ret (results_row_tmp rfl _ _ _ _ _ _ rfl ST.out.kn.at1 Tryz.underlying33 rfl size_two) rfl ?_
    exact ⟨h1, h2, _, _, rfl, ST.out.duo⟩
set_option maxHeartbeats 8000000 in
theorem casem_gt (W : World) (b fr : Int) (hfr : -9223372036854775808 ≤ fr ∧ fr < 9223372036854775808) (hb0 : 0 ≤ b ∧ b < 18446744073709551616) (base : Int) (hbase : b % 1099511627776 / 4096 * 4096 = base) (n : Nat) (hn : 1 + fr % 8 = n) (A : Option Addr) (s c s2 : Nat) (hcut : 4096 < s ∧ s2 = 4096 ∧ s ≤ c) (f : Nat → Int) (hA : Arg W A s2 c f (· < W.heap.size)) (hs : s2 ≤ 4096) (hf : ∀ k, k < s2 → 0 ≤ f k ∧ f k < 256)
    (A2 : Option Addr) (len cap : Nat) (f2 : Nat → Int × Int) (hA2 : RdC W A2 len f2 (· < W.heap.size)) (hl : len ≤ 9223372036854775807) (root : Int) (h : Hrt) :
    Calls Tryz.prog 4 #[.agg (cs15 b fr A s c A2 len cap root h)] W fun e w' => ∃ h1 h2 F1 F2, e = .returned (.tuple #[.agg #[.pointer (some ⟨h1, 0, none⟩), .pointer (some ⟨h2, 0, none⟩)], .bool true]) ∧ Duo W w' h1 h2 base n (fl (cm n f2 len) 0 s2 f) F1 F2 := by
  have e0 : 0 ≤ base ∧ base < 1099511627776 := by omega
  have en : 1 ≤ n ∧ n ≤ 8 := by omega
  have hnew : newB base n = true := decide_eq_true (by refine ⟨?_, ?_, ?_, ?_⟩ <;> omega)
  have w1 : IntKind.u64.wrap (IntKind.u64.wrap ((b.tmod 1099511627776).tdiv 4096) * 4096) = base := by
    rw [Int.tmod_eq_emod_of_nonneg hb0.1, Int.tdiv_eq_ediv_of_nonneg (by omega), IntWalk.u64_in (b % 1099511627776 / 4096) (by omega), hbase]; exact IntWalk.u64_in _ (by omega)
  have w2 : IntKind.i64.wrap (1 + fr % 8) = n := by rw [hn]; exact IntWalk.i64_in _ (by omega)
  have HHB := Lib.hid (show hasB base n base (s2 : Nat) = true by simp only [hasB, decide_eq_true_eq]; omega)
  have TP := Lib.hid (fun w => place_any fr 8 (by decide) hfr (by decide) w)
  have TM := Lib.hid (fun (X : World) (bl : Below W.heap.size W X) => memory_any X base n n rfl (by omega) hnew A2 len cap f2 ((hA2.mod (Mod.of_below bl Step.Nil) (fun _ _ h => h) fun _ h => h).wide fun k hk => Nat.lt_of_lt_of_le hk bl.size) hl)
  have RA := Lib.hid hA
  have HS := Lib.hid hs
  have HC := Lib.hid hcut
  have HF := Lib.hid hf
  have HE0 := Lib.hid e0
  clear hA hA2 hs hl hf hnew e0 en hb0 hfr hbase hn hcut
  go_enter Tryz.func4, Tryz.ntmps4
  have ST := Lib.hid (Kn.nil (S := Step.Nil) (W := W))
  go_wp2_with (first
    | ((with_reducible refine Step.gate_box (t := 29) rfl ?_); refine Step.fresh (cs := cs15 b fr A s c A2 len cap root h) (T := 29) rfl ?hr ?_; (case hr => first | (go_simp; done)); intro g1 w1 b hg hb; replace ST := Lib.hid (ST.out.made b hg hb); clear b hb; clear hg)
    | ((with_reducible refine Step.gate_alloc (t := 33) rfl ?_); refine Step.freshAlloc rfl rfl (Duo.alloc_agg Duo.zero_two) ?_; intro g5 w2 b hg hb; replace ST := Lib.hid (ST.out.made b hg hb); clear b hb; clear hg)
    | ((with_reducible refine Step.gate_load (t := 22) rfl ?_); refine Step.load ST.out.at1 rfl rfl rfl pl_u64 cs15_0 ?_))
  have c1 := (ST.out.at1.cell 1).trans cs15_1
  have c3 := (ST.out.at1.cell 3).trans cs15_3
  have hu := Tryz.underlying33
  have hz := size_two
  go_region_held3 (fun w' => w'.cell? ⟨g1, 1, none⟩ = some (.int .i64 fr) ∧ w'.cell? ⟨g1, 3, none⟩ = some (.slice A2 len cap))
    (first | (go_keep; done) | exact ⟨(K8.out.at2.cell 1).trans cs15_1, (K8.out.at2.cell 3).trans cs15_3⟩ | exact ⟨(((ST.out.call (Below.drew (Below.refl _ _))).call d.out).at1.cell 1).trans cs15_1, (((ST.out.call (Below.drew (Below.refl _ _))).call d.out).at1.cell 3).trans cs15_3⟩ | exact ⟨((((ST.out.call (alloc_below _ _)).call (Below.drew (Below.refl _ _))).call d.out).at1.cell 1).trans cs15_1, ((((ST.out.call (alloc_below _ _)).call (Below.drew (Below.refl _ _))).call d.out).at1.cell 3).trans cs15_3⟩)
    ((first
      | (go_at_call 15; (with_reducible refine (TP.out _).mono ?_); rintro e w' ⟨rfl, rfl⟩)
      | (go_at_call 14; (with_reducible refine (TM.out _ (by first | exact (ST.out.call (Below.drew (Below.refl _ _))).below | exact ((ST.out.call (alloc_below _ _)).call (Below.drew (Below.refl _ _))).below)).mono ?_); rintro e wm ⟨h1, h2, F1, F2, rfl, d⟩; (first | (have VA := both_a ST.out d; have n0 := VA.1.cell 0; have n1 := VA.1.cell 1; have f0 := VA.1.frozen 0; have f1 := VA.1.frozen 1; simp only [List.getElem?_toArray, List.getElem?_cons_zero, List.getElem?_cons_succ] at n0 n1; have K8 := Lib.hid VA.2.1; have D8 := Lib.hid VA.2.2.1; have NF8 := Lib.hid VA.2.2.2; clear VA; obtain ⟨gN, hgN⟩ : ∃ x, x = w2.heap.size := ⟨_, rfl⟩) | (have VB := both_b ST.out d; have K8 := Lib.hid VB.1; have D8 := Lib.hid VB.2.1; have NF8 := Lib.hid VB.2.2; clear VB; obtain ⟨gN, hgN⟩ : ∃ x, x = wm.heap.size := ⟨_, rfl⟩)))))
  all_goals
    rename_i hHeld
    clear hHeld
    have ST' := Lib.hid (DK.of D8.out K8.out NF8.out)
    replace ST := ST'
    clear ST' D8 K8 NF8 d
    rw [← hgN] at ST ⊢
    clear hgN
    have hsd : decide ((4096 : Int) < (s : Int)) = true := by have := HC.out; exact decide_eq_true (by omega)
    have hsd2 : ((s : Int) > 4096) = True := eq_true (by have := HC.out; omega)
    have hsd3 : ((4096 : Int) ≤ (c : Int)) = True := eq_true (by have := HC.out; omega)
    have hsd4 : ((c : Int) < 4096) = False := eq_false (by have := HC.out; omega)
    have hsd5 : (4096 ≤ c) = True := eq_true (by have := HC.out; omega)
    obtain rfl := HC.out.2.1
    go_wp2_with (first
      | ((with_reducible refine Step.gate_load (t := 23) rfl ?_); refine Step.load ST.out.kn.at2 rfl rfl rfl pl_sb cs15_2 ?_)
      | ((with_reducible refine Step.gate_load (t := 33) rfl ?_); refine Step.loadAll ST.out.kn.at0 rfl rfl rfl Tryz.underlying33 rfl size_two ?_)
      | ((with_reducible refine Step.gate_store (t := 33) rfl ?_); refine Step.storeAll ST.out.kn.at1 rfl rfl rfl rfl rfl size_two rfl rfl ?_; intro w3 nb m; replace ST := Lib.hid (ST.out.set (ST.out.kn.set1 nb m) m ⟨_, List.mem_of_getElem? (i := 1) rfl, rfl⟩ rfl); clear nb m)
      | (go_at_call 16; (with_reducible refine (fboth ST.out.duo (⟨RA.out.rd.below ST.out.below (fun k h => h), RA.out.nil_⟩ : Arg _ A _ c f (fun x => x < W.heap.size)) (fun k hk => by have hk' : k < W.heap.size := hk; have hz := ST.out.size; exact ⟨fun h => by have := ST.out.new k (.inl h); omega, fun h => by have := ST.out.new k (.inr h); omega, by omega⟩) (by have := HS.out; omega) HF.out base (by have := HE0.out; omega) HHB.out).mono ?_); rintro e w9 ⟨rfl, F1', F2', hd, f1, f2, m⟩; rw [show (base - base).toNat = 0 by omega] at hd; replace ST := Lib.hid (ST.out.duoTurn hd f1 f2 m); clear hd f1 f2 m))
    refine bodyPost_ret (results_row_tmp rfl _ _ _ _ _ _ rfl ST.out.kn.at1 Tryz.underlying33 rfl size_two) rfl ?_
    exact ⟨h1, h2, _, _, rfl, ST.out.duo⟩
/-- A case and what it hands in. -/
structure C15 where
  b : Int
  fr : Int
  A : Option Addr
  s : Nat
  c : Nat
  f : Nat → Int
  A2 : Option Addr
  len : Nat
  cap : Nat
  f2 : Nat → Int × Int
  root : Int
  h : Hrt
def C15.cells (k : C15) : Array Value := cs15 k.b k.fr k.A k.s k.c k.A2 k.len k.cap k.root k.h
structure C15.Ok (W : World) (k : C15) : Prop where
  b : U64 k.b
  fr : -9223372036854775808 ≤ k.fr ∧ k.fr < 9223372036854775808
  arg : Arg W k.A k.s k.c k.f (· < W.heap.size)
  le : k.s ≤ k.c
  rd : RdC W k.A2 k.len k.f2 (· < W.heap.size)
  len : k.len ≤ 9223372036854775807
  root : U64 k.root
  h : Fit k.h
theorem casem_any (W : World) (k : C15) (q : k.Ok W) : Calls Tryz.prog 4 #[.agg k.cells] W fun e w' => ∃ h1 h2 base n mem F1 F2, e = .returned (.tuple #[.agg #[.pointer (some ⟨h1, 0, none⟩), .pointer (some ⟨h2, 0, none⟩)], .bool true]) ∧ Duo W w' h1 h2 base n mem F1 F2 := by
  obtain ⟨b, fr, A, s, c, f, A2, len, cap, f2, root, h⟩ := k
  obtain ⟨hb, hfr, hA, hsc, hA2, hl, hr, hf⟩ := q
  dsimp only at *
  obtain ⟨n, hn⟩ := Int.eq_ofNat_of_zero_le (show 0 ≤ 1 + fr % 8 by omega)
  have hby : ∀ m, m ≤ s → ∀ k, k < m → 0 ≤ f k ∧ f k < 256 := fun m hm k hk => by
    obtain ⟨_, _, _, _, h0, h1⟩ := hA.rd k (by omega)
    exact ⟨h0, h1⟩
  by_cases h4 : s ≤ 4096
  · exact (casem_le W b fr hfr hb.out _ rfl n hn A s c s rfl f hA h4 (hby s (by omega)) A2 len cap f2 hA2 hl root h).mono fun e w' ⟨h1, h2, F1, F2, he, d⟩ => ⟨h1, h2, _, _, _, F1, F2, he, d⟩
  · exact (casem_gt W b fr hfr hb.out _ rfl n hn A s c 4096 ⟨by omega, rfl, hsc⟩ f ⟨fun k hk => hA.rd k (by omega), fun e => by have := (hA.nil_ e).1; omega⟩ (by omega) (hby 4096 (by omega)) A2 len cap f2 hA2 hl root h).mono fun e w' ⟨h1, h2, F1, F2, he, d⟩ => ⟨h1, h2, _, _, _, F1, F2, he, d⟩
end Go.Proofs.YtidiojhefjhojaaGreat.Hart
end
section
namespace Go.Proofs.YtidiojhefjhojaaGreat.Hart
open Go Go.RowKit Go.Proofs.YtidiojhefjhojaaGreat.Step Go.Proofs.YtidiojhefjhojaaGreat.Enc Go.Proofs.YtidiojhefjhojaaGreat.Kn
set_option linter.unusedVariables false
set_option linter.unusedSimpArgs false
set_option maxRecDepth 100000
section
variable {b fr : Int} {A A2 : Option Addr} {s c len cap : Nat} {root : Int} {h : Hrt}
theorem set_cs_root (v : Int) : (cs15 b fr A s c A2 len cap root h).setIfInBounds 4 (.int .u64 v) = cs15 b fr A s c A2 len cap v h := rfl
theorem set_cs_satp (v : Int) : (cs15 b fr A s c A2 len cap root h).setIfInBounds 52 (.int .u64 v) = cs15 b fr A s c A2 len cap root { h with satp := v } := rfl
end
/-- The case of MmioLoads: no second stage, no tables, nothing let. -/
def C15.off (k : C15) : C15 := { k with root := 0, h := { { k.h with satp := 0 } with sie := 0 } }
theorem u_zero : U64 0 := ⟨by decide, by decide⟩
theorem C15.Ok.off {W : World} {k : C15} (q : k.Ok W) : k.off.Ok W :=
  { b := q.b, fr := q.fr, arg := q.arg, le := q.le, rd := q.rd, len := q.len, root := u_zero,
    h := { q.h with satp := u_zero, sie := u_zero } }
end Go.Proofs.YtidiojhefjhojaaGreat.Hart
end
section
namespace Go.Proofs.YtidiojhefjhojaaGreat
open Go Go.RowKit Go.ChangeShapes Go.WideShapes Go.ChangeAt
set_option linter.unusedVariables false
theorem open_cap {H : Type} {enc : TypeId × Value → H} {P : Program} {W : World} {base : Nat} {sp : Nat → Bool} {held : Bool} {t e : TypeId} {k : IntKind} {A : Option Addr} {n c : Nat} {d : DataW H} {ps : List MemPlace}
    (ht : P.underlying t = some (.slice e)) (he : P.underlying e = some (.int k)) (hc : P.cellsOf e = 1) (h : DataW.Trod enc P W base sp held t (.slice A n c) d ps) : (A = none → n = 0 ∧ c = 0) ∧ n ≤ c := by
  obtain ⟨fuel, hf⟩ := h
  rcases open_ints ht he hc hf with ⟨hcs, _⟩ | ⟨x, l, c', zs, hcs, _, hl, hm, hz, _, hcell, hwz⟩
  · simp [Value.cells] at hcs
    obtain ⟨rfl, rfl, rfl⟩ := hcs
    exact ⟨fun _ => ⟨rfl, rfl⟩, Nat.le_refl _⟩
  · simp [Value.cells] at hcs
    obtain ⟨rfl, rfl, rfl⟩ := hcs
    exact ⟨fun h => (by cases h), hl⟩
end Go.Proofs.YtidiojhefjhojaaGreat
end
