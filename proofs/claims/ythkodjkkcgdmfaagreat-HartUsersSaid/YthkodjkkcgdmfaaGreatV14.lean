/- Parts of the walks and laws for the claim: New, Dk, Both, RunB, DecF; no conditions beyond the theorems' own. -/
import Derived.Deep.RegionHeld3
import Derived.Test.YthkodjkkcgdmfaaGreatV9
import Derived.Test.YthkodjkkcgdmfaaGreatV11
import Derived.Test.YthkodjkkcgdmfaaGreatV12
import Derived.Test.YthkodjkkcgdmfaaGreatV13
section
namespace Go.Proofs.YthkodjkkcgdmfaaGreat.Hart
open Go Go.RowKit Go.Proofs.YthkodjkkcgdmfaaGreat.Step Go.Proofs.YthkodjkkcgdmfaaGreat.Enc Go.Proofs.YthkodjkkcgdmfaaGreat.Kn
open Go.Proofs.YthkodjkkcgdmfaaGreat.Mem (Ram Grow hasB wholeB num wr Rd fl Arg lst)
open Go.Proofs.YthkodjkkcgdmfaaGreat.Duo (Duo)
set_option linter.unusedVariables false
set_option linter.unusedSimpArgs false
set_option maxRecDepth 100000
set_option maxHeartbeats 1000000 in
theorem tlb_new1 (W : World) : Calls Tryz.prog 36 #[.int .i64 1] W fun e w' => ∃ g, e = .returned (.tuple #[.pointer (some ⟨g, 0, none⟩), .int .i64 0]) ∧ W.heap.size ≤ g ∧ Blk w' g #[.int .i64 1, .slice none 0 0] 115 ∧ Below W.heap.size W w' := by
  go_enter Tryz.func36, Tryz.ntmps36
  have ST := Lib.hid (Kn.nil (S := Step.Nil) (W := W))
  go_wp2_with (((with_reducible refine Step.gate_box (t := 115) rfl ?_); refine Step.fresh (cs := #[.int .i64 1, .slice none 0 0]) (T := 115) rfl ?hr ?_; (case hr => first | (go_simp; done) | (go_simp; rfl)); intro g1 w1 b hg hb; replace ST := Lib.hid (ST.out.made b hg hb); clear b hb; have HG := Lib.hid hg; clear hg))
  refine bodyPost_ret (results_tmp2 rfl _ _ _) rfl ?_
  exact ⟨g1, rfl, HG.out, ST.out.at0, ST.out.below⟩
set_option maxHeartbeats 1000000 in
theorem tlb_new8 (W : World) : Calls Tryz.prog 36 #[.int .i64 8] W fun e w' => ∃ g, e = .returned (.tuple #[.pointer (some ⟨g, 0, none⟩), .int .i64 0]) ∧ W.heap.size ≤ g ∧ Blk w' g #[.int .i64 8, .slice none 0 0] 115 ∧ Below W.heap.size W w' := by
  go_enter Tryz.func36, Tryz.ntmps36
  have ST := Lib.hid (Kn.nil (S := Step.Nil) (W := W))
  go_wp2_with (((with_reducible refine Step.gate_box (t := 115) rfl ?_); refine Step.fresh (cs := #[.int .i64 8, .slice none 0 0]) (T := 115) rfl ?hr ?_; (case hr => first | (go_simp; done) | (go_simp; rfl)); intro g1 w1 b hg hb; replace ST := Lib.hid (ST.out.made b hg hb); clear b hb; have HG := Lib.hid hg; clear hg))
  refine bodyPost_ret (results_tmp2 rfl _ _ _) rfl ?_
  exact ⟨g1, rfl, HG.out, ST.out.at0, ST.out.below⟩
set_option maxHeartbeats 1000000 in
theorem rtlb_new8 (W : World) : Calls Tryz.prog 50 #[.int .i64 8] W fun e w' => ∃ g, e = .returned (.tuple #[.pointer (some ⟨g, 0, none⟩), .int .i64 0]) ∧ W.heap.size ≤ g ∧ Blk w' g #[.int .i64 8, .slice none 0 0] 145 ∧ Below W.heap.size W w' := by
  go_enter Tryz.func50, Tryz.ntmps50
  have ST := Lib.hid (Kn.nil (S := Step.Nil) (W := W))
  go_wp2_with (((with_reducible refine Step.gate_box (t := 145) rfl ?_); refine Step.fresh (cs := #[.int .i64 8, .slice none 0 0]) (T := 145) rfl ?hr ?_; (case hr => first | (go_simp; done) | (go_simp; rfl)); intro g1 w1 b hg hb; replace ST := Lib.hid (ST.out.made b hg hb); clear b hb; have HG := Lib.hid hg; clear hg))
  refine bodyPost_ret (results_tmp2 rfl _ _ _) rfl ?_
  exact ⟨g1, rfl, HG.out, ST.out.at0, ST.out.below⟩
set_option maxHeartbeats 1000000 in
theorem core_new (W : World) (gm gt : Nat) : Calls Tryz.prog 37 #[.pointer (some ⟨gm, 0, none⟩), .pointer (some ⟨gt, 0, none⟩)] W fun e w' => ∃ g, e = .returned (.pointer (some ⟨g, 0, none⟩)) ∧ W.heap.size ≤ g ∧ Blk w' g (ccg gm (.pointer (some ⟨gt, 0, none⟩)) 0 0 0 0 (.map none)) TC ∧ Below W.heap.size W w' := by
  go_enter Tryz.func37, Tryz.ntmps37
  have ST := Lib.hid (Kn.nil (S := Step.Nil) (W := W))
  go_wp2_with (((with_reducible refine Step.gate_box (t := 129) rfl ?_); refine Step.fresh (cs := ccg gm (.pointer (some ⟨gt, 0, none⟩)) 0 0 0 0 (.map none)) (T := 129) rfl ?hr ?_; (case hr => first | (go_simp; done) | (go_simp; rfl)); intro g1 w1 b hg hb; replace ST := Lib.hid (ST.out.made b hg hb); clear b hb; have HG := Lib.hid hg; clear hg))
  go_ret
  exact ⟨g1, rfl, HG.out, ST.out.at0, ST.out.below⟩
set_option maxHeartbeats 1000000 in
theorem enter_any {W : World} {g gm : Nat} {tv km : Value} {r0 v0 done st : Int} (hb : Blk W g (ccg gm tv r0 v0 done st km) TC) (root vmid : Int) : Calls Tryz.prog 54 #[.pointer (some ⟨g, 0, none⟩), .int .u64 root, .int .i64 vmid] W fun e w' => e = .returned (.tuple #[]) ∧ Blk w' g (ccg gm tv root vmid done st km) TC ∧ Mod (One g) W w' := by
  go_enter Tryz.func54, Tryz.ntmps54
  have ST := Lib.hid (Kn.start (S := One g) hb rfl)
  clear hb
  go_wp2_with (first
    | ((with_reducible refine Step.gate_store (t := 22) rfl ?_); refine Step.store ST.out.at0 rfl rfl rfl rfl rfl pl_u64 rfl rfl ?_; intro w3 nb m; replace ST := Lib.hid (ST.out.set0 nb m); clear nb m)
    | ((with_reducible refine Step.gate_store (t := 3) rfl ?_); refine Step.store ST.out.at0 rfl rfl rfl rfl rfl pl_int rfl rfl ?_; intro w3 nb m; replace ST := Lib.hid (ST.out.set0 nb m); clear nb m))
  all_goals (first | go_ret | go_end0 | refine bodyPost_ret (results_none rfl _ _ _) rfl ?_)
  exact ⟨rfl, ST.out.at0, ST.out.mod⟩
theorem pl_pr3 : Step.plainT Tryz.prog 38 = true := by kernel_rfl
theorem own_rd {w : World} {b m : Nat} {v : Value} {f : Nat → Int} (h : w.ownsRow b 5 1 v m (lst m f)) (hf : ∀ k, k < m → 0 ≤ f k ∧ f k < 256) : ∃ A cap, v = .slice A m cap ∧ Rd w A m f (fun k => b ≤ k ∧ k < w.heap.size) := by
  obtain ⟨_, ⟨rfl, rfl⟩ | ⟨g, cap, cur, rfl, hb, ho, hn, hc, hs, ht⟩⟩ := h
  · exact ⟨none, 0, rfl, fun k hk => absurd hk (Nat.not_lt_zero k)⟩
  · refine ⟨some ⟨g, 0, none⟩, cap, rfl, fun k hk => ⟨_, rfl, ⟨hb, (Array.getElem?_eq_some_iff.1 ho).1⟩, ?_, hf k hk⟩⟩
    have h1 := Mem.lst_at m f hk
    rw [← ht, List.getElem?_take, if_pos (by omega)] at h1
    have e : (⟨g, 0, none⟩ : Addr).add k = ⟨g, k, none⟩ := by unfold Addr.add; split <;> simp_all
    rw [e]
    exact ((⟨ho⟩ : Blk w g cur 5).cell k).trans (by simpa using h1)
set_option maxHeartbeats 2000000 in
theorem fboth {W w : World} {h1 h2 n s c : Nat} {base : Int} {mem : Nat → Int} {F1 F2 G : Nat → Prop} {A : Option Addr} {f : Nat → Int} (d : Duo W w h1 h2 base n mem F1 F2) (r : Arg w A s c f G) (hG : ∀ k, G k → ¬ F1 k ∧ ¬ F2 k ∧ k < w.heap.size) (hs : s ≤ 140737488355328) (hf : ∀ k, k < s → 0 ≤ f k ∧ f k < 256) (addr : Int) (ha : 0 ≤ addr ∧ addr < 18446744073709551616) (hh : hasB base n addr s = true) :
    Calls Tryz.prog 51 #[.agg #[.pointer (some ⟨h1, 0, none⟩), .pointer (some ⟨h2, 0, none⟩)], .int .u64 addr, .slice A s c] w fun e w' => e = .returned (.tuple #[]) ∧ ∃ F1' F2', Duo W w' h1 h2 base n (fl mem (addr - base).toNat s f) F1' F2' ∧ (∀ k, k < w.heap.size → F1' k → F1 k) ∧ (∀ k, k < w.heap.size → F2' k → F2 k) ∧ Mod (fun k => F1 k ∨ F2 k) w w' := by
  have TC1 := Lib.hid (fun (X : World) (b : Below w.heap.size w X) => (Mem.copyBytes_any (W := X) (A := A) (n := s) (c := c) (f := f) (G := G) ⟨r.rd.below b fun k hk => (hG k hk).2.2, r.nil_⟩ hs).mono fun e w' h => (by
    obtain ⟨v, e, own, bl⟩ := h
    obtain ⟨B, cap, rfl, rd⟩ := own_rd own hf
    exact ⟨B, cap, e, rd, bl⟩ : ∃ B cap, e = .returned (.slice B s cap) ∧ Rd w' B s f (fun k => X.heap.size ≤ k ∧ k < w'.heap.size) ∧ Below X.heap.size X w'))
  have TR := Lib.hid (fun (X Y : World) (b : Below w.heap.size w X) (b2 : Below X.heap.size X Y) (B : Option Addr) (cap : Nat) (rd : Rd Y B s f (fun k => X.heap.size ≤ k ∧ k < Y.heap.size)) =>
    Mem.fill_yes (c := cap) ((d.one.below b).below b2) addr rd (fun k hk => ⟨fun h => by have := d.bound k (.inl h); have := b.size; omega, hk.2⟩) ha hh)
  have TS := Lib.hid (fun (X Y : World) (b : Below w.heap.size w X) (m : Mod F1 X Y) => Ref.fill_yes (c := c) ((d.two.below b).mod m fun k h2 h1 => d.apart k h1 h2) addr ((r.rd.below b fun k hk => (hG k hk).2.2).mod m (fun k hk => (hG k hk).1) fun k hk => Nat.lt_of_lt_of_le (hG k hk).2.2 b.size) (fun k hk => ⟨(hG k hk).2.1, by have := (hG k hk).2.2; have := b.size; have := m.size; omega⟩) ha hh)
  have D := Lib.hid d
  clear d r hG hs hf ha hh
  go_enter Tryz.func51, Tryz.ntmps51
  have ST := Lib.hid (Kn.nil (S := Step.Nil) (W := w))
  go_wp2_with (((with_reducible refine Step.gate_box (t := 40) rfl ?_); refine Step.fresh (cs := #[.pointer (some ⟨h1, 0, none⟩), .pointer (some ⟨h2, 0, none⟩)]) (T := 40) rfl ?hr ?_; (case hr => first | (go_simp; done) | (go_simp; rfl)); intro g1 w1 b hg hb; replace ST := Lib.hid (ST.out.made b hg hb); clear b hb; have HG := Lib.hid hg; clear hg))
  have c0 := ST.out.at0.cell 0
  simp only [List.getElem?_toArray, List.getElem?_cons_zero] at c0
  go_region_held3 (fun w' => w'.cell? ⟨g1, 0, none⟩ = some (.pointer (some ⟨h1, 0, none⟩))) (first | (go_keep; done) | exact G1.out.cell 0 | exact ST.out.at0.cell 0)
    ((first
    | (go_at_call 81; (with_reducible refine (TC1.out _ (ST.out.call (Below.drew (Below.refl _ _))).below).mono ?_); rintro e wc ⟨B, cap, rfl, rd, hb⟩; have S0 := Lib.hid (ST.out.call (Below.drew (Below.refl _ _))).below; have RD := Lib.hid rd; have CB := Lib.hid hb; replace ST := Lib.hid ((ST.out.call (Below.drew (Below.refl _ _))).call hb); clear rd hb)
    | (go_at_call 80; (with_reducible refine (TR.out _ _ S0.out CB.out _ _ RD.out).mono ?_); rintro e w3 ⟨rfl, r, m⟩; have R1 := Lib.hid r; have M1 := Lib.hid m; have G1 := Lib.hid (ST.out.at0.mod m fun h => by have := D.out.bound _ (.inl h); have := HG.out; omega); clear r m)))
  go_wp2_with (first
    | ((with_reducible refine Step.gate_load (t := 38) rfl ?_); refine Step.load G1.out rfl rfl rfl pl_pr3 rfl ?_)
    | (go_at_call 82; (with_reducible refine (TS.out _ _ ST.out.below M1.out).mono ?_); rintro e w4 ⟨rfl, r, m⟩; have R2 := Lib.hid r; have M2 := Lib.hid m; clear r m))
  go_end0
  have dd := (D.out.below ST.out.below).step R1.out M1.out R2.out M2.out
  have hs := ST.out.below.size
  refine ⟨rfl, _, _, dd, fun k hk h => h.elim id fun h => by omega, fun k hk h => h.elim id fun h => by have := M1.out.size; omega, ?_⟩
  refine ((Mod.of_below ST.out.below _).trans (M1.out.mono fun k _ h => .inl h)).trans (M2.out.mono fun k _ h => .inr h)
end Go.Proofs.YthkodjkkcgdmfaaGreat.Hart
end
section
namespace Go.Proofs.YthkodjkkcgdmfaaGreat.Hart
open Go Go.RowKit Go.Proofs.YthkodjkkcgdmfaaGreat.Step Go.Proofs.YthkodjkkcgdmfaaGreat.Enc Go.Proofs.YthkodjkkcgdmfaaGreat.Kn
open Go.Proofs.YthkodjkkcgdmfaaGreat.Mem (Ram Grow hasB wholeB num wr Rd fl Arg lst)
open Go.Proofs.YthkodjkkcgdmfaaGreat.Duo (Duo)
set_option linter.unusedVariables false
set_option linter.unusedSimpArgs false
abbrev Blks : Type := List (Nat × Array Value × TypeId)
/-- From W to w: a memory, the document's, and the listed blocks, all of them new and apart. -/
structure DK (W w : World) (h1 h2 : Nat) (base : Int) (n : Nat) (m1 m2 : Nat → Int) (F1 F2 : Nat → Prop) (L : Blks) : Prop where
  one : Ram w h1 base n m1 F1
  two : Ref.Mem w h2 base n m2 F2
  apart : ∀ k, F1 k → ¬ F2 k
  new : ∀ k, F1 k ∨ F2 k → W.heap.size ≤ k
  kn : Kn Step.Nil W w L
  ap : ∀ k, F1 k ∨ F2 k → ∀ p ∈ L, p.1 ≠ k
section
variable {W w w' : World} {h1 h2 n g : Nat} {base : Int} {m1 m2 mem mem' m1' : Nat → Int} {F1 F2 F1' F2' : Nat → Prop} {L L' : Blks} {c c' : Array Value} {T T' : TypeId}
theorem DK.bound (d : DK W w h1 h2 base n m1 m2 F1 F2 L) : ∀ k, F1 k ∨ F2 k → k < w.heap.size := fun k h => h.elim (d.one.bound k) (d.two.bound k)
theorem DK.of (d : Duo W w h1 h2 base n mem F1 F2) (k : Kn Step.Nil W w L) (a : ∀ k, F1 k ∨ F2 k → ∀ p ∈ L, p.1 ≠ k) : DK W w h1 h2 base n mem mem F1 F2 L := ⟨d.one, d.two, d.apart, d.new, k, a⟩
theorem DK.duo (d : DK W w h1 h2 base n mem mem F1 F2 L) : Duo W w h1 h2 base n mem F1 F2 := ⟨d.one, d.two, d.apart, d.new, d.kn.mod⟩
theorem DK.size (d : DK W w h1 h2 base n m1 m2 F1 F2 L) : W.heap.size ≤ w.heap.size := d.kn.mod.size
theorem DK.below (d : DK W w h1 h2 base n m1 m2 F1 F2 L) : Below W.heap.size W w := d.kn.below
theorem DK.call (d : DK W w h1 h2 base n m1 m2 F1 F2 L) (b : Below w.heap.size w w') : DK W w' h1 h2 base n m1 m2 F1 F2 L := ⟨d.one.below b, d.two.below b, d.apart, d.new, d.kn.call b, d.ap⟩
theorem DK.made (d : DK W w h1 h2 base n m1 m2 F1 F2 L) (b : Blk w' g c T) (hg : w.heap.size ≤ g) (hb : Below w.heap.size w w') : DK W w' h1 h2 base n m1 m2 F1 F2 ((g, c, T) :: L) :=
  ⟨d.one.below hb, d.two.below hb, d.apart, d.new, d.kn.made b hg hb, fun k hk p hp => by
    rcases List.mem_cons.1 hp with rfl | hp
    · have := d.bound k hk
      show g ≠ k
      omega
    · exact d.ap k hk p hp⟩
/-- A listed block is turned. -/
theorem DK.set (d : DK W w h1 h2 base n m1 m2 F1 F2 L) (k : Kn Step.Nil W w' L') (m : Mod (One g) w w') (hg : ∃ p ∈ L, p.1 = g) (hL : L'.map (·.1) = L.map (·.1)) : DK W w' h1 h2 base n m1 m2 F1 F2 L' := by
  obtain ⟨p, hp, rfl⟩ := hg
  refine ⟨d.one.mod m fun k hk e => d.ap k (.inl hk) p hp (e : k = p.1).symm, d.two.mod m fun k hk e => d.ap k (.inr hk) p hp (e : k = p.1).symm, d.apart, d.new, k, fun k hk q hq => ?_⟩
  have : q.1 ∈ L'.map (·.1) := List.mem_map.2 ⟨q, hq, rfl⟩
  rw [hL] at this
  obtain ⟨r, hr, e⟩ := List.mem_map.1 this
  rw [← e]
  exact d.ap k hk r hr
/-- Both memories are turned. -/
theorem DK.turn (d : DK W w h1 h2 base n m1 m2 F1 F2 L) (r1 : Ram w' h1 base n m1' F1') (r2 : Ref.Mem w' h2 base n mem' F2') (ha : ∀ k, F1' k → ¬ F2' k) (f1 : ∀ k, k < w.heap.size → F1' k → F1 k) (f2 : ∀ k, k < w.heap.size → F2' k → F2 k) (m : Mod (fun k => F1 k ∨ F2 k) w w') :
    DK W w' h1 h2 base n m1' mem' F1' F2' L := by
  have hf : ∀ k, F1' k ∨ F2' k → k < w.heap.size → F1 k ∨ F2 k := fun k hk hl => hk.imp (f1 k hl) (f2 k hl)
  refine ⟨r1, r2, ha, fun k hk => ?_, d.kn.turn m (fun p hp e => d.ap _ e p hp rfl) fun i hi e => absurd (d.new i e) (by omega), fun k hk p hp e => ?_⟩
  · have := d.size
    by_cases hl : k < w.heap.size
    · exact d.new k (hf k hk hl)
    · omega
  · have := (d.kn.blk p hp).lt
    exact d.ap k (hf k hk (by omega)) p hp e
theorem DK.duoTurn (d : DK W w h1 h2 base n m1 m2 F1 F2 L) (u : Duo W w' h1 h2 base n mem' F1' F2') (f1 : ∀ k, k < w.heap.size → F1' k → F1 k) (f2 : ∀ k, k < w.heap.size → F2' k → F2 k) (m : Mod (fun k => F1 k ∨ F2 k) w w') : DK W w' h1 h2 base n mem' mem' F1' F2' L :=
  d.turn u.one u.two u.apart f1 f2 m
theorem DK.blk (d : DK W w h1 h2 base n m1 m2 F1 F2 L) {p : Nat × Array Value × TypeId} (hp : p ∈ L) : Blk w p.1 p.2.1 p.2.2 := d.kn.blk p hp
theorem DK.drop {p : Nat × Array Value × TypeId} (d : DK W w h1 h2 base n m1 m2 F1 F2 (p :: L)) : DK W w h1 h2 base n m1 m2 F1 F2 L := ⟨d.one, d.two, d.apart, d.new, d.kn.drop, fun k hk q hq => d.ap k hk q (List.mem_cons_of_mem _ hq)⟩
/-- A step of a core of it. -/
theorem DK.core {tv : Value} {vmid : Int} {done st : Int} {km : Value} (d : DK W w h1 h2 base n m1 m2 F1 F2 ((g, ccg h1 tv 0 vmid 0 0 km, TC) :: L)) : Kor w g h1 tv vmid base n m1 F1 := ⟨.inl ⟨km, d.kn.at0⟩, d.one, fun hf => d.ap g (.inl hf) _ (List.mem_cons_self ..) rfl⟩
end
end Go.Proofs.YthkodjkkcgdmfaaGreat.Hart
end
section
namespace Go.Proofs.YthkodjkkcgdmfaaGreat.Hart
open Go Go.RowKit Go.Proofs.YthkodjkkcgdmfaaGreat.Step Go.Proofs.YthkodjkkcgdmfaaGreat.Enc Go.Proofs.YthkodjkkcgdmfaaGreat.Kn
open Go.Proofs.YthkodjkkcgdmfaaGreat.Mem (Ram Grow hasB wholeB num wr Rd fl Arg lst newB place_any)
open Go.Proofs.YthkodjkkcgdmfaaGreat.Duo (Duo RdC cm memory_any size_two)
set_option linter.unusedVariables false
set_option linter.unusedSimpArgs false
set_option maxRecDepth 100000
/-- A case, as an argument; nothing in its TLB. -/
def cs6 (b fr : Int) (A : Option Addr) (s c : Nat) (A2 : Option Addr) (len cap : Nat) (root vmid : Int) (h : Hrt) (now : Int) : Array Value := #[.int .u64 b, .int .i64 fr, .slice A s c, .slice A2 len cap, .int .u64 root, .int .i64 vmid, .slice none 0 0, .int .u64 (h.x 0), .int .u64 (h.x 1), .int .u64 (h.x 2), .int .u64 (h.x 3), .int .u64 (h.x 4), .int .u64 (h.x 5), .int .u64 (h.x 6), .int .u64 (h.x 7), .int .u64 (h.x 8), .int .u64 (h.x 9), .int .u64 (h.x 10), .int .u64 (h.x 11), .int .u64 (h.x 12), .int .u64 (h.x 13), .int .u64 (h.x 14), .int .u64 (h.x 15), .int .u64 (h.x 16), .int .u64 (h.x 17), .int .u64 (h.x 18), .int .u64 (h.x 19), .int .u64 (h.x 20), .int .u64 (h.x 21), .int .u64 (h.x 22), .int .u64 (h.x 23), .int .u64 (h.x 24), .int .u64 (h.x 25), .int .u64 (h.x 26), .int .u64 (h.x 27), .int .u64 (h.x 28), .int .u64 (h.x 29), .int .u64 (h.x 30), .int .u64 (h.x 31), .int .u64 h.pc, .bool h.user, .bool h.on, .bool h.spie, .bool h.spp, .bool h.sum, .bool h.mxr, .bool h.rsv, .int .u64 h.stvec, .int .u64 h.sscr, .int .u64 h.sepc, .int .u64 h.scause, .int .u64 h.stval, .int .u64 h.sie, .int .u64 h.sip, .int .u64 h.satp, .int .u64 h.resv, .int .u64 now]
abbrev CT : TypeId := 109
theorem pl_sb : Step.plainT Tryz.prog 66 = true := by kernel_rfl
theorem pl_st : Step.plainT Tryz.prog 67 = true := by kernel_rfl
theorem results5 {P : Program} {fn : Func} {a b c p d : Tmp} {ty : TypeId} (h : fn.results = #[.tmp a, .tmp b, .tmp c, .cell p ty, .tmp d]) (tmps : Array Value) (w : World) (g : Nat) (t : TypeId) (cs : Array Value) (de : TypeDesc)
    (hp : tmps.getD p undef = .pointer (some ⟨g, 0, none⟩)) (hg : Blk w g cs t) (hu : P.underlying ty = some de) (hd : (match de with | .struct _ | .array _ _ => true | _ => false) = true) (hi : (P.info? ty).map (·.size) = some cs.size) :
    (results fn tmps).run P w = .ok (.tuple #[tmps.getD a undef, tmps.getD b undef, tmps.getD c undef, .agg cs, tmps.getD d undef]) w := by
  have h2 := run_loadVar_row (P := P) w g t ty cs (0, 0) de hg.out hu hd hi
  have e : (results fn tmps).run P w = ((asAddr (tmps.getD p undef)).run P w).andThen fun ad w₁ => ((loadVar ty ad).run P w₁).andThen fun v w₂ => .ok (.tuple #[tmps.getD a undef, tmps.getD b undef, tmps.getD c undef, v, tmps.getD d undef]) w₂ := by
    simp only [results, h]
    simp [Sem.run_bind, Result.andThen]
  rw [e, hp]
  simp only [asAddr, Sem.run_pure, Result.andThen_ok, h2]
section
variable {b fr : Int} {A A2 : Option Addr} {s c len cap : Nat} {root vmid now : Int} {h : Hrt}
theorem cs6_0 : (cs6 b fr A s c A2 len cap root vmid h now)[0]? = some (.int .u64 b) := rfl
theorem cs6_1 : (cs6 b fr A s c A2 len cap root vmid h now)[1]? = some (.int .i64 fr) := rfl
theorem cs6_2 : (cs6 b fr A s c A2 len cap root vmid h now)[2]? = some (.slice A s c) := rfl
theorem cs6_3 : (cs6 b fr A s c A2 len cap root vmid h now)[3]? = some (.slice A2 len cap) := rfl
theorem cs6_4 : (cs6 b fr A s c A2 len cap root vmid h now)[4]? = some (.int .u64 root) := rfl
theorem cs6_5 : (cs6 b fr A s c A2 len cap root vmid h now)[5]? = some (.int .i64 vmid) := rfl
theorem cs6_6 : (cs6 b fr A s c A2 len cap root vmid h now)[6]? = some (.slice none 0 0) := rfl
end
theorem _root_.Go.Proofs.YthkodjkkcgdmfaaGreat.Duo.Duo.ahead {V W w : World} {h1 h2 n : Nat} {base : Int} {mem : Nat → Int} {F1 F2 : Nat → Prop} (d : Duo V w h1 h2 base n mem F1 F2) (b : Below W.heap.size W V) : Duo W w h1 h2 base n mem F1 F2 :=
  ⟨d.one, d.two, d.apart, fun k h => Nat.le_trans b.size (d.new k h), (Mod.of_below b Step.Nil).trans d.mod⟩
section
variable {W w2 wm : World} {g5 g1 h1 h2 n : Nat} {c5 c1 : Array Value} {T5 T1 : TypeId} {base : Int} {mem : Nat → Int} {F1 F2 : Nat → Prop}
theorem both_a (ST : Kn Step.Nil W w2 [(g5, c5, T5), (g1, c1, T1)]) (d : Duo (w2.alloc (.cells #[.pointer none, .pointer none] 40)).drew wm h1 h2 base n mem F1 F2) :
    Blk wm w2.heap.size #[.pointer none, .pointer none] 40 ∧ Kn Step.Nil W ((wm.setCell ⟨w2.heap.size, 0, none⟩ (.pointer (some ⟨h1, 0, none⟩))).setCell ⟨w2.heap.size, 1, none⟩ (.pointer (some ⟨h2, 0, none⟩))) [(w2.heap.size, #[.pointer (some ⟨h1, 0, none⟩), .pointer (some ⟨h2, 0, none⟩)], 40), (g5, c5, T5), (g1, c1, T1)] ∧ Duo W ((wm.setCell ⟨w2.heap.size, 0, none⟩ (.pointer (some ⟨h1, 0, none⟩))).setCell ⟨w2.heap.size, 1, none⟩ (.pointer (some ⟨h2, 0, none⟩))) h1 h2 base n mem F1 F2 ∧ ∀ k, F1 k ∨ F2 k → ∀ p ∈ ([(w2.heap.size, #[.pointer (some ⟨h1, 0, none⟩), .pointer (some ⟨h2, 0, none⟩)], 40), (g5, c5, T5), (g1, c1, T1)] : Blks), p.1 ≠ k := by
  have KA := ((ST.made (alloc_out w2 #[.pointer none, .pointer none] 40) (Nat.le_refl _) (alloc_below _ _)).call (Below.drew (Below.refl _ _))).call d.out
  have KB := KA.set0 (setCell_out _ _ 0 (.pointer (some ⟨h1, 0, none⟩)) _ _ KA.at0) (setCell_mod _ _ _ _)
  have KC := KB.set0 (setCell_out _ _ 1 (.pointer (some ⟨h2, 0, none⟩)) _ _ KB.at0) (setCell_mod _ _ _ _)
  have DW := d.ahead ((ST.call (alloc_below w2 (.cells #[.pointer none, .pointer none] 40))).call (Below.drew (Below.refl _ _))).below
  have hN : W.heap.size ≤ w2.heap.size := ST.below.size
  have hX : w2.heap.size < (w2.alloc (.cells #[.pointer none, .pointer none] 40)).heap.size := (alloc_out w2 _ _).lt
  have l5 := ST.at0.lt
  have l1 := ST.at1.lt
  have hnew : ∀ k, F1 k ∨ F2 k → (w2.alloc (.cells #[.pointer none, .pointer none] 40)).heap.size ≤ k := fun k hk => d.new k hk
  have nN : ∀ k, F1 k ∨ F2 k → ¬ One w2.heap.size k := fun k hk e => by
    have e' : k = w2.heap.size := e
    have := hnew k hk
    omega
  refine ⟨KA.at0, KC, (DW.other (setCell_mod wm w2.heap.size 0 (.pointer (some ⟨h1, 0, none⟩))) nN fun k e => ?_).other (setCell_mod _ w2.heap.size 1 (.pointer (some ⟨h2, 0, none⟩))) nN fun k e => ?_, fun k hk p hp => ?_⟩
  · have e' : k = w2.heap.size := e
    omega
  · have e' : k = w2.heap.size := e
    omega
  · have := hnew k hk
    simp only [List.mem_cons, List.not_mem_nil, or_false] at hp
    rcases hp with rfl | rfl | rfl
    · show w2.heap.size ≠ k; omega
    · show g5 ≠ k; omega
    · show g1 ≠ k; omega
theorem both_b (ST : Kn Step.Nil W w2 [(g5, c5, T5), (g1, c1, T1)]) (d : Duo w2.drew wm h1 h2 base n mem F1 F2) :
    Kn Step.Nil W (wm.alloc (.cells #[.pointer (some ⟨h1, 0, none⟩), .pointer (some ⟨h2, 0, none⟩)] 40)) [(wm.heap.size, #[.pointer (some ⟨h1, 0, none⟩), .pointer (some ⟨h2, 0, none⟩)], 40), (g5, c5, T5), (g1, c1, T1)] ∧ Duo W (wm.alloc (.cells #[.pointer (some ⟨h1, 0, none⟩), .pointer (some ⟨h2, 0, none⟩)] 40)) h1 h2 base n mem F1 F2 ∧ ∀ k, F1 k ∨ F2 k → ∀ p ∈ ([(wm.heap.size, #[.pointer (some ⟨h1, 0, none⟩), .pointer (some ⟨h2, 0, none⟩)], 40), (g5, c5, T5), (g1, c1, T1)] : Blks), p.1 ≠ k := by
  have KC := (ST.call (Below.drew (Below.refl _ _))).call d.out
  have DW := d.ahead (ST.call (Below.drew (Below.refl _ _))).below
  have l5 := ST.at0.lt
  have l1 := ST.at1.lt
  refine ⟨KC.made (alloc_out wm _ _) (Nat.le_refl _) (alloc_below _ _), DW.below (alloc_below _ _), fun k hk p hp => ?_⟩
  have : w2.heap.size ≤ k := d.new k hk
  have := DW.bound k hk
  simp only [List.mem_cons, List.not_mem_nil, or_false] at hp
  rcases hp with rfl | rfl | rfl
  · show wm.heap.size ≠ k; omega
  · show g5 ≠ k; omega
  · show g1 ≠ k; omega
end
section
variable {W wE : World} {gN g5 g1 gc gtr gt h1 h2 n : Nat} {cN c1 cc ctr ct : Array Value} {T1 Tc Ttr Tt : TypeId} {base : Int} {m1 m2 : Nat → Int} {F1 F2 : Nat → Prop}
theorem both_c (C : Array Value) (ST : DK W wE h1 h2 base n m1 m2 F1 F2 [(gc, cc, Tc), (gtr, ctr, Ttr), (gt, ct, Tt), (gN, cN, 40), (g5, #[.pointer none, .pointer none], 40), (g1, c1, T1)]) :
    DK W ((wE.alloc (.cells C CT)).drew) h1 h2 base n m1 m2 F1 F2 [(wE.heap.size, C, CT), (gc, cc, Tc), (gtr, ctr, Ttr), (gt, ct, Tt), (gN, cN, 40), (g5, #[.pointer none, .pointer none], 40), (g1, c1, T1)] ∧ DK W ((((wE.setCell ⟨g5, 0, none⟩ (.pointer (some ⟨h1, 0, none⟩))).setCell ⟨g5, 1, none⟩ (.pointer (some ⟨h2, 0, none⟩))).alloc (.cells C CT)).drew) h1 h2 base n m1 m2 F1 F2 [(wE.heap.size, C, CT), (gc, cc, Tc), (gtr, ctr, Ttr), (gt, ct, Tt), (gN, cN, 40), (g5, #[.pointer (some ⟨h1, 0, none⟩), .pointer (some ⟨h2, 0, none⟩)], 40), (g1, c1, T1)] := by
  have D := (ST.made (alloc_out wE C CT) (Nat.le_refl _) (alloc_below _ _)).call (Below.drew (Below.refl _ _))
  have E1 := ST.set (ST.kn.set4 (setCell_out _ _ 0 (.pointer (some ⟨h1, 0, none⟩)) _ _ ST.kn.at4) (setCell_mod _ _ _ _)) (setCell_mod _ _ _ _) ⟨_, List.mem_of_getElem? (i := 4) rfl, rfl⟩ rfl
  have E2 := E1.set (E1.kn.set4 (setCell_out _ _ 1 (.pointer (some ⟨h2, 0, none⟩)) _ _ E1.kn.at4) (setCell_mod _ _ _ _)) (setCell_mod _ _ _ _) ⟨_, List.mem_of_getElem? (i := 4) rfl, rfl⟩ rfl
  have e : ((wE.setCell ⟨g5, 0, none⟩ (.pointer (some ⟨h1, 0, none⟩))).setCell ⟨g5, 1, none⟩ (.pointer (some ⟨h2, 0, none⟩))).heap.size = wE.heap.size := by simp [World.setCell]
  have D2 := (E2.made (alloc_out ((wE.setCell ⟨g5, 0, none⟩ (.pointer (some ⟨h1, 0, none⟩))).setCell ⟨g5, 1, none⟩ (.pointer (some ⟨h2, 0, none⟩))) C CT) (Nat.le_refl _) (alloc_below _ _)).call (Below.drew (Below.refl _ _))
  rw [e] at D2
  exact ⟨D, D2⟩
end
set_option maxHeartbeats 8000000 in
theorem both_any (W : World) (b fr : Int) (hfr : -9223372036854775808 ≤ fr ∧ fr < 9223372036854775808) (hb0 : 0 ≤ b ∧ b < 18446744073709551616) (base : Int) (hbase : b % 1099511627776 / 4096 * 4096 = base) (n : Nat) (hn : 1 + fr % 8 = n) (A : Option Addr) (s c : Nat) (f : Nat → Int) (hA : Arg W A s c f (· < W.heap.size)) (hs : s ≤ 4096) (hf : ∀ k, k < s → 0 ≤ f k ∧ f k < 256)
    (A2 : Option Addr) (len cap : Nat) (f2 : Nat → Int × Int) (hA2 : RdC W A2 len f2 (· < W.heap.size)) (hl : len ≤ 9223372036854775807) (root vmid : Int) (h : Hrt) (now : Int) :
    Calls Tryz.prog 32 #[.agg (cs6 b fr A s c A2 len cap root vmid h now)] W fun e w' => ∃ gc gcr gt gtr h1 h2 F1 F2 L, e = .returned (.tuple #[.pointer (some ⟨gc, 0, none⟩), .pointer (some ⟨gcr, 0, none⟩), .pointer (some ⟨gt, 0, none⟩), .agg #[.pointer (some ⟨h1, 0, none⟩), .pointer (some ⟨h2, 0, none⟩)], .bool true]) ∧ DK W w' h1 h2 base n (fl (cm n f2 len) 0 s f) (fl (cm n f2 len) 0 s f) F1 F2 ((gcr, #[.pointer (some ⟨h2, 0, none⟩), .pointer (some ⟨gtr, 0, none⟩), .int .u64 root, .int .i64 vmid, .bool false], CT) :: (gc, ccg h1 (.pointer (some ⟨gt, 0, none⟩)) root vmid 0 0 (.map none), TC) :: (gtr, #[.int .i64 8, .slice none 0 0], 145) :: (gt, #[.int .i64 8, .slice none 0 0], 115) :: L) := by
  have e0 : 0 ≤ base ∧ base < 1099511627776 := by omega
  have en : 1 ≤ n ∧ n ≤ 8 := by omega
  have hnew : newB base n = true := decide_eq_true (by refine ⟨?_, ?_, ?_, ?_⟩ <;> omega)
  have w1 : IntKind.u64.wrap (IntKind.u64.wrap ((b.tmod 1099511627776).tdiv 4096) * 4096) = base := by
    rw [Int.tmod_eq_emod_of_nonneg hb0.1, Int.tdiv_eq_ediv_of_nonneg (by omega), IntWalk.u64_in (b % 1099511627776 / 4096) (by omega), hbase]; exact IntWalk.u64_in _ (by omega)
  have w2 : IntKind.i64.wrap (1 + fr % 8) = n := by rw [hn]; exact IntWalk.i64_in _ (by omega)
  have HHB := Lib.hid (show hasB base n base (s : Nat) = true by simp only [hasB, decide_eq_true_eq]; omega)
  have TP := Lib.hid (fun w => place_any fr 8 (by decide) hfr (by decide) w)
  have TM := Lib.hid (fun (X : World) (bl : Below W.heap.size W X) => memory_any X base n n rfl (by omega) hnew A2 len cap f2 ((hA2.mod (Mod.of_below bl Step.Nil) (fun _ _ h => h) fun _ h => h).wide fun k hk => Nat.lt_of_lt_of_le hk bl.size) hl)
  have RA := Lib.hid hA
  have HS := Lib.hid hs
  have HF := Lib.hid hf
  have HN := Lib.hid hnew
  have HE0 := Lib.hid e0
  have HEN := Lib.hid en
  clear hA hA2 hs hl hf hnew e0 en hb0 hfr hbase hn
  go_enter Tryz.func32, Tryz.ntmps32
  have ST := Lib.hid (Kn.nil (S := Step.Nil) (W := W))
  go_wp2_with (first
    | ((with_reducible refine Step.gate_box (t := 69) rfl ?_); refine Step.fresh (cs := cs6 b fr A s c A2 len cap root vmid h now) (T := 69) rfl ?hr ?_; (case hr => first | (go_simp; done) | (go_simp; rfl)); intro g1 w1 b hg hb; replace ST := Lib.hid (ST.out.made b hg hb); clear b hb; clear hg)
    | ((with_reducible refine Step.gate_alloc (t := 40) rfl ?_); refine Step.freshAlloc rfl rfl (Duo.alloc_agg Duo.zero_two) ?_; intro g5 w2 b hg hb; replace ST := Lib.hid (ST.out.made b hg hb); clear b hb; clear hg)
    | ((with_reducible refine Step.gate_load (t := 22) rfl ?_); refine Step.load ST.out.at1 rfl rfl rfl pl_u64 cs6_0 ?_))
  have c1 := (ST.out.at1.cell 1).trans cs6_1
  have c3 := (ST.out.at1.cell 3).trans cs6_3
  have hu := Tryz.underlying40
  have hz := size_two
  go_region_held3 (fun w' => w'.cell? ⟨g1, 1, none⟩ = some (.int .i64 fr) ∧ w'.cell? ⟨g1, 3, none⟩ = some (.slice A2 len cap))
    (first | (go_keep; done) | ((refine ⟨?_, ?_⟩ <;> go_keep); done) | exact ⟨(K8.out.at2.cell 1).trans cs6_1, (K8.out.at2.cell 3).trans cs6_3⟩ | exact ⟨((((ST.out.call (Below.drew (Below.refl _ _))).call d.out).call (alloc_below _ _)).at1.cell 1).trans cs6_1, ((((ST.out.call (Below.drew (Below.refl _ _))).call d.out).call (alloc_below _ _)).at1.cell 3).trans cs6_3⟩ | exact ⟨(((ST.out.call (Below.drew (Below.refl _ _))).call d.out).at1.cell 1).trans cs6_1, (((ST.out.call (Below.drew (Below.refl _ _))).call d.out).at1.cell 3).trans cs6_3⟩ | exact ⟨((((ST.out.call (alloc_below _ _)).call (Below.drew (Below.refl _ _))).call d.out).at1.cell 1).trans cs6_1, ((((ST.out.call (alloc_below _ _)).call (Below.drew (Below.refl _ _))).call d.out).at1.cell 3).trans cs6_3⟩)
    ((first
      | (go_at_call 25; (with_reducible refine (TP.out _).mono ?_); rintro e w' ⟨rfl, rfl⟩)
      | (go_at_call 35; (with_reducible refine (TM.out _ (by first | exact (ST.out.call (Below.drew (Below.refl _ _))).below | exact ((ST.out.call (alloc_below _ _)).call (Below.drew (Below.refl _ _))).below)).mono ?_); rintro e wm ⟨h1, h2, F1, F2, rfl, d⟩; (first | (have VA := both_a ST.out d; have n0 := VA.1.cell 0; have n1 := VA.1.cell 1; have f0 := VA.1.frozen 0; have f1 := VA.1.frozen 1; simp only [List.getElem?_toArray, List.getElem?_cons_zero, List.getElem?_cons_succ] at n0 n1; have K8 := Lib.hid VA.2.1; have D8 := Lib.hid VA.2.2.1; have NF8 := Lib.hid VA.2.2.2; clear VA; obtain ⟨gN, hgN⟩ : ∃ x, x = w2.heap.size := ⟨_, rfl⟩) | (have VB := both_b ST.out d; have K8 := Lib.hid VB.1; have D8 := Lib.hid VB.2.1; have NF8 := Lib.hid VB.2.2; clear VB; obtain ⟨gN, hgN⟩ : ∃ x, x = wm.heap.size := ⟨_, rfl⟩)))))
  all_goals
    rename_i hHeld
    clear hHeld
    have ST' := Lib.hid (DK.of D8.out K8.out NF8.out)
    replace ST := ST'
    clear ST' D8 K8 NF8 d
    rw [← hgN] at ST ⊢
    clear hgN
    have hsd : decide ((4096 : Int) < (s : Int)) = false := by have := HS.out; exact decide_eq_false (by omega)
    go_wp2_with (first
      | (go_at_call 36; (with_reducible refine (tlb_new8 _).mono ?_); rintro e w' ⟨gt, rfl, hg, b, hb⟩; replace ST := Lib.hid (ST.out.made b hg hb); clear hg b hb)
      | (go_at_call 50; (with_reducible refine (rtlb_new8 _).mono ?_); rintro e w' ⟨gtr, rfl, hg, b, hb⟩; replace ST := Lib.hid (ST.out.made b hg hb); clear hg b hb)
      | ((with_reducible refine Step.gate_load (t := 66) rfl ?_); refine Step.load ST.out.kn.at4 rfl rfl rfl pl_sb cs6_2 ?_)
      | ((with_reducible refine Step.gate_load (t := 40) rfl ?_); refine Step.loadAll ST.out.kn.at2 rfl rfl rfl Tryz.underlying40 rfl size_two ?_)
      | (go_at_call 51; (with_reducible refine (fboth ST.out.duo (⟨RA.out.rd.below ST.out.below (fun k h => h), RA.out.nil_⟩ : Arg _ A s c f (fun x => x < W.heap.size)) (fun k hk => by have hk' : k < W.heap.size := hk; have hz := ST.out.size; exact ⟨fun h => by have := ST.out.new k (.inl h); omega, fun h => by have := ST.out.new k (.inr h); omega, by omega⟩) (by have := HS.out; omega) HF.out base (by have := HE0.out; omega) HHB.out).mono ?_); rintro e w9 ⟨rfl, F1', F2', hd, f1, f2, m⟩; rw [show (base - base).toNat = 0 by omega] at hd; replace ST := Lib.hid (ST.out.duoTurn hd f1 f2 m); clear hd f1 f2 m))
    go_loopw [15] (fun i w => i = .int .i64 0 ∧ w = w9) (fun _ _ => 0)
    case atStart => exact ⟨rfl, rfl⟩
    case round =>
      obtain ⟨rfl, rfl⟩ := hrel
      go_wp2_with (first
        | ((with_reducible refine Step.gate_load (t := 67) rfl ?_); refine Step.load ST.out.kn.at4 rfl rfl rfl pl_st cs6_6 ?_)
        | ((with_reducible refine Step.gate_load (t := 37) rfl ?_); refine Step.load ST.out.kn.at2 rfl rfl rfl pl_pm rfl ?_)
        | (go_at_call 37; (with_reducible refine (core_new _ _ _).mono ?_); rintro e w' ⟨gc, rfl, hg, b, hb⟩; replace ST := Lib.hid (ST.out.made b hg hb); clear hg b hb)
        | ((with_reducible refine Step.gate_load (t := 22) rfl ?_); refine Step.load ST.out.kn.at5 rfl rfl rfl pl_u64 cs6_4 ?_)
        | ((with_reducible refine Step.gate_load (t := 3) rfl ?_); refine Step.load ST.out.kn.at5 rfl rfl rfl pl_int cs6_5 ?_)
        | (go_at_call 54; (with_reducible refine (enter_any ST.out.kn.at0 _ _).mono ?_); rintro e wE ⟨rfl, nb, m⟩; replace ST := Lib.hid (ST.out.set (ST.out.kn.set0 nb m) m ⟨_, List.mem_cons_self .., rfl⟩ rfl); clear nb m))
      have VC := both_c #[.pointer (some ⟨h2, 0, none⟩), .pointer (some ⟨gtr, 0, none⟩), .int .u64 root, .int .i64 vmid, .bool false] ST.out
      have n0 := VC.1.kn.at5.cell 0
      have n1 := VC.1.kn.at5.cell 1
      have f0 := VC.1.kn.at5.frozen 0
      have f1 := VC.1.kn.at5.frozen 1
      have a0 := VC.1.kn.at4.cell 0
      have a1 := VC.1.kn.at4.cell 1
      have a4 := (VC.1.kn.at6.cell 4).trans cs6_4
      have a5 := (VC.1.kn.at6.cell 5).trans cs6_5
      have b0 := VC.2.kn.at4.cell 0
      have b1 := VC.2.kn.at4.cell 1
      have b4 := (VC.2.kn.at6.cell 4).trans cs6_4
      have b5 := (VC.2.kn.at6.cell 5).trans cs6_5
      have i0 := (ST.out.call (Below.drew (Below.refl _ _))).kn.at3.cell 0
      have i1 := (ST.out.call (Below.drew (Below.refl _ _))).kn.at3.cell 1
      have i4 := ((ST.out.call (Below.drew (Below.refl _ _))).kn.at5.cell 4).trans cs6_4
      have i5 := ((ST.out.call (Below.drew (Below.refl _ _))).kn.at5.cell 5).trans cs6_5
      simp only [List.getElem?_toArray, List.getElem?_cons_zero, List.getElem?_cons_succ] at n0 n1 a0 a1 b0 b1 i0 i1
      have VM := (ST.out.made (alloc_out wE #[.pointer (some ⟨h2, 0, none⟩), .pointer (some ⟨gtr, 0, none⟩), .int .u64 root, .int .i64 vmid, .bool false] CT) (Nat.le_refl _) (alloc_below _ _)).kn
      have e0 := ST.out.kn.at4.cell 0
      have e1 := ST.out.kn.at4.cell 1
      have q0 := ST.out.kn.at4.frozen 0
      have q1 := ST.out.kn.at4.frozen 1
      have p0 := VM.at5.cell 0
      have p1 := VM.at5.cell 1
      have r0 := VM.at5.frozen 0
      have r1 := VM.at5.frozen 1
      have l5 := ST.out.kn.at4.lt
      have ne5 : ¬ g5 = wE.heap.size := by omega
      simp only [List.getElem?_toArray, List.getElem?_cons_zero, List.getElem?_cons_succ] at e0 e1 p0 p1
      clear VM
      replace VC := Lib.hid VC.2
      go_region_held3 (fun w' => w'.cell? ⟨gN, 0, none⟩ = some (.pointer (some ⟨h1, 0, none⟩)) ∧ w'.cell? ⟨gN, 1, none⟩ = some (.pointer (some ⟨h2, 0, none⟩)) ∧ w'.cell? ⟨g1, 4, none⟩ = some (.int .u64 root) ∧ w'.cell? ⟨g1, 5, none⟩ = some (.int .i64 vmid))
        (first | exact ⟨i0, i1, i4, i5⟩ | exact ⟨a0, a1, a4, a5⟩ | exact ⟨b0, b1, b4, b5⟩ | (go_keep; done)) (fail)
      go_wp2
      refine bodyPost_ret (results5 rfl _ _ g5 _ _ _ rfl VC.out.kn.at5 Tryz.underlying40 rfl size_two) rfl ?_
      exact ⟨gc, wE.heap.size, gt, gtr, h1, h2, _, _, _, rfl, VC.out⟩
end Go.Proofs.YthkodjkkcgdmfaaGreat.Hart
end
section
namespace Go.Proofs.YthkodjkkcgdmfaaGreat.Hart
open Go Go.RowKit Go.Proofs.YthkodjkkcgdmfaaGreat.Step Go.Proofs.YthkodjkkcgdmfaaGreat.Enc Go.Proofs.YthkodjkkcgdmfaaGreat.Kn
open Go.Proofs.YthkodjkkcgdmfaaGreat.Mem (Ram Grow hasB wholeB num wr)
set_option linter.unusedVariables false
set_option linter.unusedSimpArgs false
set_option maxRecDepth 100000
set_option maxHeartbeats 8000000 in
theorem run_aluImm {W : World} {gs gm n r : Nat} {s s2 : Stp} {tv : Value} {vmid base : Int} {mem mem2 : Nat → Int} {F G : Nat → Prop} {T : World → Prop} (h : Sy W gs s gm tv 0 vmid (.map (some r)) base n mem F G (KT r T)) (hs : s.was.satp / 1152921504606846976 = 0) (hs0 : U64 s.was.satp) (hsie : s.was.sie = 0) (hpc : 0 ≤ s.was.pc ∧ s.was.pc + 2 < 18446744073709551616) (h1 : hasB base n s.was.pc 2 = true) (h2 : hasB base n (s.was.pc + 2) 2 = true) (lo hi : Int) (elo : num mem (s.was.pc - base).toNat 2 = lo) (ehi : num mem (s.was.pc + 2 - base).toNat 2 = hi) (hlo : 0 ≤ lo ∧ lo < 65536) (hhi : 0 ≤ hi ∧ hi < 65536) (h4 : lo % 4 = 3) 
    (fn rd rs1 rs2 imm sz : Int) (sg : Bool) (hd : dec (hi * 65536 + lo) = some ⟨9, fn, rd, rs1, rs2, imm, sz, sg⟩) (TD : Hid (∀ w, Calls Tryz.prog 63 #[.int .u32 (hi * 65536 + lo)] w fun e w' => e = .returned (told (dec (hi * 65536 + lo))) ∧ Below w.heap.size w w')) (HK : ∀ (W' : World) (F' : Nat → Prop), Sy W' gs (decP s (hi * 65536 + lo) ⟨9, fn, rd, rs1, rs2, imm, sz, sg⟩) gm tv 0 vmid (.map (some r)) base n mem F' G (KT r T) → Calls Tryz.prog 95 #[.pointer (some ⟨gs, 0, none⟩)] W' fun e w' => e = .returned (.tuple #[]) ∧ Out W' w' gs s2 gm tv 0 vmid (.map (some r)) base n mem2 F' G (KT r T)) :
    Calls Tryz.prog 39 #[.pointer (some ⟨gs, 0, none⟩)] W fun e w' => e = .returned (.tuple #[]) ∧ Out W w' gs (zeroX s2) gm tv 0 vmid (.map (some r)) base n mem2 F G (KT r T) := by
  have TP := Lib.hid (fun (W' : World) (hb : Blk W' gs (sc s) TS) => pending_no hb hsie)
  have TF := Lib.hid (fun (W' : World) (ho : Out W W' gs s gm tv 0 vmid (.map (some r)) base n mem F G (KT r T)) => by
    obtain ⟨F1, y, m, c⟩ := ho
    exact (fetch_4 y hs hs0 hpc h1 h2 lo hi elo ehi hlo hhi h4).mono fun e w' q => (⟨q.1, Out.set ⟨F1, y, m, c⟩ q.2.1 q.2.2 rfl⟩ : _ ∧ Out W w' gs { s with bits := hi * 65536 + lo, long := 4 } gm tv 0 vmid (.map (some r)) base n mem F G (KT r T)))
  rw [hd] at TD
  simp only [told, Ins.cells] at TD
  have TK := Lib.hid (fun (W' : World) (ho : Out W W' gs (decP s (hi * 65536 + lo) ⟨9, fn, rd, rs1, rs2, imm, sz, sg⟩) gm tv 0 vmid (.map (some r)) base n mem F G (KT r T)) => by
    obtain ⟨F1, y, m, c⟩ := ho
    exact (HK W' F1 y).mono fun e w' q => (⟨q.1, Out.then m c q.2⟩ : _ ∧ Out W w' gs s2 gm tv 0 vmid (.map (some r)) base n mem2 F G (KT r T)))
  have e1 : IntKind.u64.wrap (s.was.pc + 4) = addW s.was.pc 4 := rfl
  have HO := Lib.hid h.out
  clear h hs hs0 hsie hpc h1 h2 elo ehi hlo hhi h4 hd HK
  go_enter Tryz.func39, Tryz.ntmps39
  go_wp2_with (first
    | (go_at_call 60; (with_reducible refine (TP.out _ HO.out.step).mono ?_); rintro e w' ⟨rfl, hb⟩; replace HO := Lib.hid (HO.out.below hb); clear hb)
    | (go_at_call 62; (with_reducible refine (TF.out _ HO.out).mono ?_); rintro e w' ⟨rfl, ho⟩; replace HO := Lib.hid ho; clear ho)
    | (go_at_call 63; (with_reducible refine (TD.out _).mono ?_); rintro e w' ⟨rfl, hb⟩; replace HO := Lib.hid (HO.out.below hb); clear hb)
    | ((with_reducible refine Step.gate_store (t := 44) rfl ?_); refine Step.storeMid HO.out.step rfl rfl rfl rfl rfl size_inst rfl rfl ?_; intro w3 nb m; rw [lays_i] at nb; replace HO := Lib.hid (HO.out.set (s' := _) nb m rfl); clear nb m)
    | ((with_reducible refine Sq.region (id := 9) (I := fun X => Out W X gs _ gm tv 0 vmid _ base n _ F _ _) ?hm15 11 HO.out.drew ?hp15 ?hs15); (case hm15 => rfl); (case hp15 => kernel_rfl); intro ops K hops hK; clear hops; dsimp only [List.take]; (repeat (first | (refine Sq.seq_move rfl rfl ?_; simp only [Act.put, Act.eval, Array.getD_eq_getD_getElem?, List.getElem?_toArray, List.getElem?_cons_zero, List.getElem?_cons_succ, Option.getD_some, List.setIfInBounds_toArray, List.set_cons_zero, List.set_cons_succ, e1]) | (refine Sq.seq_check rfl rfl rfl ?_; simp only [Act.put, Act.eval, Array.getD_eq_getD_getElem?, List.getElem?_toArray, List.getElem?_cons_zero, List.getElem?_cons_succ, Option.getD_some, List.setIfInBounds_toArray, List.set_cons_zero, List.set_cons_succ, e1]) | (refine Sq.seq_load (t := 22) (fun X hX => hX.step) (Sq.wanted_none rfl) rfl rfl pl_u64 (sv_ok _ (by decide)) ?_; simp only [Act.put, Act.eval, Array.getD_eq_getD_getElem?, List.getElem?_toArray, List.getElem?_cons_zero, List.getElem?_cons_succ, Option.getD_some, List.setIfInBounds_toArray, List.set_cons_zero, List.set_cons_succ, sv_dry, sv_now, sv_k, sv_fn, sv_rd, sv_rs1, sv_rs2, sv_imm, sv_sz, sv_sg, sv_long, sv_bits, sv_ek, sv_ea, sv_eva, sv_egpa, sv_ewalk, sv_ewrote, sv_was_pc, sv_was_user, sv_was_on, sv_was_spie, sv_was_spp, sv_was_sum, sv_was_mxr, sv_was_rsv, sv_was_stvec, sv_was_sscr, sv_was_sepc, sv_was_scause, sv_was_stval, sv_was_sie, sv_was_sip, sv_was_satp, sv_was_resv, sv_h_pc, sv_h_user, sv_h_on, sv_h_spie, sv_h_spp, sv_h_sum, sv_h_mxr, sv_h_rsv, sv_h_stvec, sv_h_sscr, sv_h_sepc, sv_h_scause, sv_h_stval, sv_h_sie, sv_h_sip, sv_h_satp, sv_h_resv, sv_c, e1]) | (refine Sq.seq_load (t := 3) (fun X hX => hX.step) (Sq.wanted_none rfl) rfl rfl pl_int (sv_ok _ (by decide)) ?_; simp only [Act.put, Act.eval, Array.getD_eq_getD_getElem?, List.getElem?_toArray, List.getElem?_cons_zero, List.getElem?_cons_succ, Option.getD_some, List.setIfInBounds_toArray, List.set_cons_zero, List.set_cons_succ, sv_dry, sv_now, sv_k, sv_fn, sv_rd, sv_rs1, sv_rs2, sv_imm, sv_sz, sv_sg, sv_long, sv_bits, sv_ek, sv_ea, sv_eva, sv_egpa, sv_ewalk, sv_ewrote, sv_was_pc, sv_was_user, sv_was_on, sv_was_spie, sv_was_spp, sv_was_sum, sv_was_mxr, sv_was_rsv, sv_was_stvec, sv_was_sscr, sv_was_sepc, sv_was_scause, sv_was_stval, sv_was_sie, sv_was_sip, sv_was_satp, sv_was_resv, sv_h_pc, sv_h_user, sv_h_on, sv_h_spie, sv_h_spp, sv_h_sum, sv_h_mxr, sv_h_rsv, sv_h_stvec, sv_h_sscr, sv_h_sepc, sv_h_scause, sv_h_stval, sv_h_sie, sv_h_sip, sv_h_satp, sv_h_resv, sv_c, e1]) | (refine Sq.seq_load (t := 4) (fun X hX => hX.step) (Sq.wanted_none rfl) rfl rfl pl_bool (sv_ok _ (by decide)) ?_; simp only [Act.put, Act.eval, Array.getD_eq_getD_getElem?, List.getElem?_toArray, List.getElem?_cons_zero, List.getElem?_cons_succ, Option.getD_some, List.setIfInBounds_toArray, List.set_cons_zero, List.set_cons_succ, sv_dry, sv_now, sv_k, sv_fn, sv_rd, sv_rs1, sv_rs2, sv_imm, sv_sz, sv_sg, sv_long, sv_bits, sv_ek, sv_ea, sv_eva, sv_egpa, sv_ewalk, sv_ewrote, sv_was_pc, sv_was_user, sv_was_on, sv_was_spie, sv_was_spp, sv_was_sum, sv_was_mxr, sv_was_rsv, sv_was_stvec, sv_was_sscr, sv_was_sepc, sv_was_scause, sv_was_stval, sv_was_sie, sv_was_sip, sv_was_satp, sv_was_resv, sv_h_pc, sv_h_user, sv_h_on, sv_h_spie, sv_h_spp, sv_h_sum, sv_h_mxr, sv_h_rsv, sv_h_stvec, sv_h_sscr, sv_h_sepc, sv_h_scause, sv_h_stval, sv_h_sie, sv_h_sip, sv_h_satp, sv_h_resv, sv_c, e1]) | (refine Sq.seq_load (t := 36) (fun X hX => hX.step) (Sq.wanted_none rfl) rfl rfl pl_pc (sv_ok _ (by decide)) ?_; simp only [Act.put, Act.eval, Array.getD_eq_getD_getElem?, List.getElem?_toArray, List.getElem?_cons_zero, List.getElem?_cons_succ, Option.getD_some, List.setIfInBounds_toArray, List.set_cons_zero, List.set_cons_succ, sv_c]) | (refine Sq.seq_load (t := 127) (fun X hX => hX.core) (Sq.wanted_none rfl) rfl rfl pl_km cc_kinds ?_; simp only [Act.put, Act.eval, Array.getD_eq_getD_getElem?, List.getElem?_toArray, List.getElem?_cons_zero, List.getElem?_cons_succ, Option.getD_some, List.setIfInBounds_toArray, List.set_cons_zero, List.set_cons_succ]) | (refine' Sq.seq_pure rfl (fun X => _) _; rotate_left; (first | (go_simp; done) | (go_simp; rfl)); simp only [Act.put, Act.eval, Array.getD_eq_getD_getElem?, List.getElem?_toArray, List.getElem?_cons_zero, List.getElem?_cons_succ, Option.getD_some, List.setIfInBounds_toArray, List.set_cons_zero, List.set_cons_succ, e1]))); refine Sq.seq_nil ?_; refine hK.out _ fun w1 hk => ?_; clear hK; replace HO := Lib.hid hk; clear hk; dsimp only [List.drop])
    | ((with_reducible refine Sq.region (id := 10) (I := fun X => Out W X gs _ gm tv 0 vmid _ base n _ F _ _) ?hm16 14 HO.out.drew ?hp16 ?hs16); (case hm16 => rfl); (case hp16 => kernel_rfl); intro ops K hops hK; clear hops; dsimp only [List.take]; (repeat (first | (refine Sq.seq_move rfl rfl ?_; simp only [Act.put, Act.eval, Array.getD_eq_getD_getElem?, List.getElem?_toArray, List.getElem?_cons_zero, List.getElem?_cons_succ, Option.getD_some, List.setIfInBounds_toArray, List.set_cons_zero, List.set_cons_succ]) | (refine Sq.seq_check rfl rfl rfl ?_; simp only [Act.put, Act.eval, Array.getD_eq_getD_getElem?, List.getElem?_toArray, List.getElem?_cons_zero, List.getElem?_cons_succ, Option.getD_some, List.setIfInBounds_toArray, List.set_cons_zero, List.set_cons_succ]) | (refine Sq.seq_load (t := 22) (fun X hX => hX.step) (Sq.wanted_none rfl) rfl rfl pl_u64 (sv_ok _ (by decide)) ?_; simp only [Act.put, Act.eval, Array.getD_eq_getD_getElem?, List.getElem?_toArray, List.getElem?_cons_zero, List.getElem?_cons_succ, Option.getD_some, List.setIfInBounds_toArray, List.set_cons_zero, List.set_cons_succ, sv_dry, sv_now, sv_k, sv_fn, sv_rd, sv_rs1, sv_rs2, sv_imm, sv_sz, sv_sg, sv_long, sv_bits, sv_ek, sv_ea, sv_eva, sv_egpa, sv_ewalk, sv_ewrote, sv_was_pc, sv_was_user, sv_was_on, sv_was_spie, sv_was_spp, sv_was_sum, sv_was_mxr, sv_was_rsv, sv_was_stvec, sv_was_sscr, sv_was_sepc, sv_was_scause, sv_was_stval, sv_was_sie, sv_was_sip, sv_was_satp, sv_was_resv, sv_h_pc, sv_h_user, sv_h_on, sv_h_spie, sv_h_spp, sv_h_sum, sv_h_mxr, sv_h_rsv, sv_h_stvec, sv_h_sscr, sv_h_sepc, sv_h_scause, sv_h_stval, sv_h_sie, sv_h_sip, sv_h_satp, sv_h_resv, sv_c]) | (refine Sq.seq_load (t := 3) (fun X hX => hX.step) (Sq.wanted_none rfl) rfl rfl pl_int (sv_ok _ (by decide)) ?_; simp only [Act.put, Act.eval, Array.getD_eq_getD_getElem?, List.getElem?_toArray, List.getElem?_cons_zero, List.getElem?_cons_succ, Option.getD_some, List.setIfInBounds_toArray, List.set_cons_zero, List.set_cons_succ, sv_dry, sv_now, sv_k, sv_fn, sv_rd, sv_rs1, sv_rs2, sv_imm, sv_sz, sv_sg, sv_long, sv_bits, sv_ek, sv_ea, sv_eva, sv_egpa, sv_ewalk, sv_ewrote, sv_was_pc, sv_was_user, sv_was_on, sv_was_spie, sv_was_spp, sv_was_sum, sv_was_mxr, sv_was_rsv, sv_was_stvec, sv_was_sscr, sv_was_sepc, sv_was_scause, sv_was_stval, sv_was_sie, sv_was_sip, sv_was_satp, sv_was_resv, sv_h_pc, sv_h_user, sv_h_on, sv_h_spie, sv_h_spp, sv_h_sum, sv_h_mxr, sv_h_rsv, sv_h_stvec, sv_h_sscr, sv_h_sepc, sv_h_scause, sv_h_stval, sv_h_sie, sv_h_sip, sv_h_satp, sv_h_resv, sv_c]) | (refine Sq.seq_load (t := 4) (fun X hX => hX.step) (Sq.wanted_none rfl) rfl rfl pl_bool (sv_ok _ (by decide)) ?_; simp only [Act.put, Act.eval, Array.getD_eq_getD_getElem?, List.getElem?_toArray, List.getElem?_cons_zero, List.getElem?_cons_succ, Option.getD_some, List.setIfInBounds_toArray, List.set_cons_zero, List.set_cons_succ, sv_dry, sv_now, sv_k, sv_fn, sv_rd, sv_rs1, sv_rs2, sv_imm, sv_sz, sv_sg, sv_long, sv_bits, sv_ek, sv_ea, sv_eva, sv_egpa, sv_ewalk, sv_ewrote, sv_was_pc, sv_was_user, sv_was_on, sv_was_spie, sv_was_spp, sv_was_sum, sv_was_mxr, sv_was_rsv, sv_was_stvec, sv_was_sscr, sv_was_sepc, sv_was_scause, sv_was_stval, sv_was_sie, sv_was_sip, sv_was_satp, sv_was_resv, sv_h_pc, sv_h_user, sv_h_on, sv_h_spie, sv_h_spp, sv_h_sum, sv_h_mxr, sv_h_rsv, sv_h_stvec, sv_h_sscr, sv_h_sepc, sv_h_scause, sv_h_stval, sv_h_sie, sv_h_sip, sv_h_satp, sv_h_resv, sv_c]) | (refine Sq.seq_load (t := 36) (fun X hX => hX.step) (Sq.wanted_none rfl) rfl rfl pl_pc (sv_ok _ (by decide)) ?_; simp only [Act.put, Act.eval, Array.getD_eq_getD_getElem?, List.getElem?_toArray, List.getElem?_cons_zero, List.getElem?_cons_succ, Option.getD_some, List.setIfInBounds_toArray, List.set_cons_zero, List.set_cons_succ, sv_c]) | (refine Sq.seq_load (t := 127) (fun X hX => hX.core) (Sq.wanted_none rfl) rfl rfl pl_km cc_kinds ?_; simp only [Act.put, Act.eval, Array.getD_eq_getD_getElem?, List.getElem?_toArray, List.getElem?_cons_zero, List.getElem?_cons_succ, Option.getD_some, List.setIfInBounds_toArray, List.set_cons_zero, List.set_cons_succ]) | (refine seq_look (fun X hX => hX.tlb.1) rfl rfl rfl rfl Tryz.underlying127 Tryz.underlying3 (v := .func (.func 95) #[] #[]) (i := 8) rfl ?_; simp only [Act.put, Act.eval, Array.getD_eq_getD_getElem?, List.getElem?_toArray, List.getElem?_cons_zero, List.getElem?_cons_succ, Option.getD_some, List.setIfInBounds_toArray, List.set_cons_zero, List.set_cons_succ]) | (refine' Sq.seq_pure rfl (fun X => _) _; rotate_left; (first | (go_simp; done) | (go_simp; rfl)); simp only [Act.put, Act.eval, Array.getD_eq_getD_getElem?, List.getElem?_toArray, List.getElem?_cons_zero, List.getElem?_cons_succ, Option.getD_some, List.setIfInBounds_toArray, List.set_cons_zero, List.set_cons_succ]))); refine Sq.seq_nil ?_; refine hK.out _ fun w1 hk => ?_; clear hK; replace HO := Lib.hid hk; clear hk; dsimp only [List.drop])
    | (go_at_call 95; (with_reducible refine (TK.out _ HO.out).mono ?_); rintro e w' ⟨rfl, ho⟩; replace HO := Lib.hid ho; clear ho)
    | ((with_reducible refine Step.gate_store (t := 22) rfl ?_); refine Step.store HO.out.step rfl rfl rfl rfl rfl pl_u64 rfl rfl ?_; intro w3 nb m; simp [go_sem, sst_dry, sst_now, sst_k, sst_fn, sst_rd, sst_rs1, sst_rs2, sst_imm, sst_sz, sst_sg, sst_long, sst_bits, sst_ek, sst_ea, sst_eva, sst_egpa, sst_ewalk, sst_ewrote, sst_h_pc, sst_h_user, sst_h_on, sst_h_spie, sst_h_spp, sst_h_sum, sst_h_mxr, sst_h_rsv, sst_h_stvec, sst_h_sscr, sst_h_sepc, sst_h_scause, sst_h_stval, sst_h_sie, sst_h_sip, sst_h_satp, sst_h_resv, sst_h_x0] at nb; replace HO := Lib.hid (HO.out.set (s' := _) nb m rfl); clear nb m)
    | ((with_reducible refine Step.gate_store (t := 3) rfl ?_); refine Step.store HO.out.step rfl rfl rfl rfl rfl pl_int rfl rfl ?_; intro w3 nb m; simp [go_sem, sst_dry, sst_now, sst_k, sst_fn, sst_rd, sst_rs1, sst_rs2, sst_imm, sst_sz, sst_sg, sst_long, sst_bits, sst_ek, sst_ea, sst_eva, sst_egpa, sst_ewalk, sst_ewrote, sst_h_pc, sst_h_user, sst_h_on, sst_h_spie, sst_h_spp, sst_h_sum, sst_h_mxr, sst_h_rsv, sst_h_stvec, sst_h_sscr, sst_h_sepc, sst_h_scause, sst_h_stval, sst_h_sie, sst_h_sip, sst_h_satp, sst_h_resv, sst_h_x0] at nb; replace HO := Lib.hid (HO.out.set (s' := _) nb m rfl); clear nb m)
    | ((with_reducible refine Step.gate_store (t := 4) rfl ?_); refine Step.store HO.out.step rfl rfl rfl rfl rfl pl_bool rfl rfl ?_; intro w3 nb m; simp [go_sem, sst_dry, sst_now, sst_k, sst_fn, sst_rd, sst_rs1, sst_rs2, sst_imm, sst_sz, sst_sg, sst_long, sst_bits, sst_ek, sst_ea, sst_eva, sst_egpa, sst_ewalk, sst_ewrote, sst_h_pc, sst_h_user, sst_h_on, sst_h_spie, sst_h_spp, sst_h_sum, sst_h_mxr, sst_h_rsv, sst_h_stvec, sst_h_sscr, sst_h_sepc, sst_h_scause, sst_h_stval, sst_h_sie, sst_h_sip, sst_h_satp, sst_h_resv, sst_h_x0] at nb; replace HO := Lib.hid (HO.out.set (s' := _) nb m rfl); clear nb m)
    | ((with_reducible refine Step.gate_load (t := 22) rfl ?_); refine Step.load HO.out.step rfl rfl rfl pl_u64 (sv_ok _ (by decide)) ?_; simp only [sv_dry, sv_now, sv_k, sv_fn, sv_rd, sv_rs1, sv_rs2, sv_imm, sv_sz, sv_sg, sv_long, sv_bits, sv_ek, sv_ea, sv_eva, sv_egpa, sv_ewalk, sv_ewrote, sv_was_pc, sv_was_user, sv_was_on, sv_was_spie, sv_was_spp, sv_was_sum, sv_was_mxr, sv_was_rsv, sv_was_stvec, sv_was_sscr, sv_was_sepc, sv_was_scause, sv_was_stval, sv_was_sie, sv_was_sip, sv_was_satp, sv_was_resv, sv_h_pc, sv_h_user, sv_h_on, sv_h_spie, sv_h_spp, sv_h_sum, sv_h_mxr, sv_h_rsv, sv_h_stvec, sv_h_sscr, sv_h_sepc, sv_h_scause, sv_h_stval, sv_h_sie, sv_h_sip, sv_h_satp, sv_h_resv, sv_c, e1])
    | ((with_reducible refine Step.gate_load (t := 3) rfl ?_); refine Step.load HO.out.step rfl rfl rfl pl_int (sv_ok _ (by decide)) ?_; simp only [sv_dry, sv_now, sv_k, sv_fn, sv_rd, sv_rs1, sv_rs2, sv_imm, sv_sz, sv_sg, sv_long, sv_bits, sv_ek, sv_ea, sv_eva, sv_egpa, sv_ewalk, sv_ewrote, sv_was_pc, sv_was_user, sv_was_on, sv_was_spie, sv_was_spp, sv_was_sum, sv_was_mxr, sv_was_rsv, sv_was_stvec, sv_was_sscr, sv_was_sepc, sv_was_scause, sv_was_stval, sv_was_sie, sv_was_sip, sv_was_satp, sv_was_resv, sv_h_pc, sv_h_user, sv_h_on, sv_h_spie, sv_h_spp, sv_h_sum, sv_h_mxr, sv_h_rsv, sv_h_stvec, sv_h_sscr, sv_h_sepc, sv_h_scause, sv_h_stval, sv_h_sie, sv_h_sip, sv_h_satp, sv_h_resv, sv_c, e1])
    | ((with_reducible refine Step.gate_load (t := 4) rfl ?_); refine Step.load HO.out.step rfl rfl rfl pl_bool (sv_ok _ (by decide)) ?_; simp only [sv_dry, sv_now, sv_k, sv_fn, sv_rd, sv_rs1, sv_rs2, sv_imm, sv_sz, sv_sg, sv_long, sv_bits, sv_ek, sv_ea, sv_eva, sv_egpa, sv_ewalk, sv_ewrote, sv_was_pc, sv_was_user, sv_was_on, sv_was_spie, sv_was_spp, sv_was_sum, sv_was_mxr, sv_was_rsv, sv_was_stvec, sv_was_sscr, sv_was_sepc, sv_was_scause, sv_was_stval, sv_was_sie, sv_was_sip, sv_was_satp, sv_was_resv, sv_h_pc, sv_h_user, sv_h_on, sv_h_spie, sv_h_spp, sv_h_sum, sv_h_mxr, sv_h_rsv, sv_h_stvec, sv_h_sscr, sv_h_sepc, sv_h_scause, sv_h_stval, sv_h_sie, sv_h_sip, sv_h_satp, sv_h_resv, sv_c, e1]))
  all_goals (first | go_ret | go_end0 | refine bodyPost_ret (results_none rfl _ _ _) rfl ?_)
  exact ⟨rfl, HO.out⟩
end Go.Proofs.YthkodjkkcgdmfaaGreat.Hart
end
section
namespace Go.Proofs.YthkodjkkcgdmfaaGreat.Enc
open Go Go.RowKit Go.Proofs.YthkodjkkcgdmfaaGreat.Step
set_option linter.unusedVariables false
set_option linter.unusedSimpArgs false
set_option maxRecDepth 100000
theorem Decode_of (a : Int) (T0 : Hid (∀ w, Calls Tryz.prog 110 #[.int .u32 a] w fun e w' => Says (dec a) e ∧ Below w.heap.size w w')) (w : World) : Calls Tryz.prog 63 #[.int .u32 a] w fun e w' => e = .returned (told (dec a)) ∧ Below w.heap.size w w' := by
  generalize dec a = d at *
  go_enter Tryz.func63, Tryz.ntmps63
  go_wp2_with (first
    | (go_at_call 110; (with_reducible refine (T0.out _).mono ?_); rintro e w' ⟨⟨j, ok, rfl, hd⟩, hb⟩; have st_ := Lib.hid (ST.out.call hb); clear ST hb; have ST := st_; cases j; rename_i r1 r2 r3 r4 r5 r6 r7 r8; simp only [Ins.cells]; cases ok <;> simp only [Bool.false_eq_true, if_false, if_true] at hd <;> subst hd)
    | ((with_reducible refine Step.gate_alloc (t := 44) rfl ?_); refine Step.freshAlloc rfl rfl (alloc_agg zero_inst) ?_; intro g2 w2 b hg hb; have st_ := Lib.hid (ST.out.more b hg hb); clear ST b hg hb; have ST := st_)
    | ((with_reducible refine Step.gate_alloc (t := 44) rfl ?_); refine Step.freshAlloc rfl rfl (alloc_agg zero_inst) ?_; intro g1 w1 b hg hb; have ST := Lib.hid (S1.made b hg hb); clear b hg hb)
    | ((with_reducible refine Step.gate_store (t := 3) rfl ?_); refine Step.store ST.out.one rfl rfl rfl rfl rfl pl_int rfl rfl ?_; intro w3 nb m; have st_ := Lib.hid (ST.out.set1 nb m); clear ST nb m; have ST := st_)
    | ((with_reducible refine Step.gate_store (t := 4) rfl ?_); refine Step.store ST.out.one rfl rfl rfl rfl rfl pl_bool rfl rfl ?_; intro w3 nb m; have st_ := Lib.hid (ST.out.set1 nb m); clear ST nb m; have ST := st_)
    | ((with_reducible refine Step.gate_store (t := 44) rfl ?_); refine Step.storeAll ST.out.one rfl rfl rfl rfl rfl size_inst rfl rfl ?_; intro w3 nb m; have st_ := Lib.hid (ST.out.set1 nb m); clear ST nb m; have ST := st_)
    | ((with_reducible refine Step.gate_load (t := 3) rfl ?_); refine Step.load ST.out.one rfl rfl rfl pl_int rfl ?_)
    | ((with_reducible refine Step.gate_load (t := 4) rfl ?_); refine Step.load ST.out.one rfl rfl rfl pl_bool rfl ?_)
    | ((with_reducible refine Step.gate_load (t := 44) rfl ?_); refine Step.loadAll ST.out.one rfl rfl rfl Tryz.underlying44 rfl size_inst ?_)
    | ((with_reducible refine Step.gate_store (t := 3) rfl ?_); refine Step.store ST.out.two rfl rfl rfl rfl rfl pl_int rfl rfl ?_; intro w3 nb m; have st_ := Lib.hid (ST.out.set2 nb m); clear ST nb m; have ST := st_)
    | ((with_reducible refine Step.gate_store (t := 4) rfl ?_); refine Step.store ST.out.two rfl rfl rfl rfl rfl pl_bool rfl rfl ?_; intro w3 nb m; have st_ := Lib.hid (ST.out.set2 nb m); clear ST nb m; have ST := st_)
    | ((with_reducible refine Step.gate_store (t := 44) rfl ?_); refine Step.storeAll ST.out.two rfl rfl rfl rfl rfl size_inst rfl rfl ?_; intro w3 nb m; have st_ := Lib.hid (ST.out.set2 nb m); clear ST nb m; have ST := st_)
    | ((with_reducible refine Step.gate_load (t := 3) rfl ?_); refine Step.load ST.out.two rfl rfl rfl pl_int rfl ?_)
    | ((with_reducible refine Step.gate_load (t := 4) rfl ?_); refine Step.load ST.out.two rfl rfl rfl pl_bool rfl ?_)
    | ((with_reducible refine Step.gate_load (t := 44) rfl ?_); refine Step.loadAll ST.out.two rfl rfl rfl Tryz.underlying44 rfl size_inst ?_))
  all_goals refine bodyPost_ret (results_row_tmp rfl _ _ g1 _ _ _ rfl ST.out.one Tryz.underlying44 rfl size_inst) rfl ⟨rfl, ST.out.below⟩
theorem Dec_19 (a : Int) (ha : W32 a) (h : fd a 6 0 = 19) (w : World) : Calls Tryz.prog 63 #[.int .u32 a] w fun e w' => e = .returned (told (dec a)) ∧ Below w.heap.size w w' := by
  refine Decode_of a (Lib.hid fun w => ?_) w
  have T2 := Lib.hid (fun w => calls_below (rd_any a ha w))
  have T3 := Lib.hid (fun w => calls_below (rs1_any a ha w))
  have T4 := Lib.hid (fun w => calls_below (rs2_any a ha w))
  have TO := fun w => calls_below (op_any a ha w)
  unfold dec
  have C := decode_19 a (immI a) (fd a 11 7) (fd a 19 15) (fd a 24 20) _ _ _ _ _ _ _ _ _ (Lib.hid (fun w => by have := TO w; rw [h] at this; exact this)) (Lib.hid (fun w => calls_below (i_any a ha w))) T2 T3 T4 (Lib.hid (fun w => plain9_13 a (fd a 11 7) (fd a 19 15) (immI a) ha h w)) w
  rw [h]
  refine C.mono fun e w' k => ⟨⟨⟨9, (im13 (fd a 31 26) (fd a 14 12) (fd a 25 20) (immI a)).1, (fd a 11 7), (fd a 19 15), 0, (im13 (fd a 31 26) (fd a 14 12) (fd a 25 20) (immI a)).2.1, 0, false⟩, (im13 (fd a 31 26) (fd a 14 12) (fd a 25 20) (immI a)).2.2, k.1, ?_⟩, k.2⟩
  simp [decOp]
theorem Dec_115_of (a : Int) (ha : W32 a) (h : fd a 6 0 = 115) (r1 r2 r3 r4 r5 r6 r7 : Int) (r8 r9 : Bool) (hc : ∀ w, Calls Tryz.prog 138 #[.int .u32 a] w fun e w' => e = .returned (.tuple #[.agg #[.int .i64 r1, .int .i64 r2, .int .i64 r3, .int .i64 r4, .int .i64 r5, .int .i64 r6, .int .i64 r7, .bool r8], .bool r9]) ∧ Below w.heap.size w w') (hs : sysD a = (if r9 then some ⟨r1, r2, r3, r4, r5, r6, r7, r8⟩ else none)) (w : World) : Calls Tryz.prog 63 #[.int .u32 a] w fun e w' => e = .returned (told (dec a)) ∧ Below w.heap.size w w' := by
  refine Decode_of a (Lib.hid fun w => ?_) w
  have TO := fun w => calls_below (op_any a ha w)
  unfold dec
  have C := decode_115 a r1 r2 r3 r4 r5 r6 r7 r8 r9 (Lib.hid (fun w => by have := TO w; rw [h] at this; exact this)) (Lib.hid hc) w
  refine C.mono fun e w' k => ⟨⟨⟨r1, r2, r3, r4, r5, r6, r7, r8⟩, r9, k.1, ?_⟩, k.2⟩
  rw [h, ← hs]
  simp [decOp]
theorem Dec_115_18 (w : World) : Calls Tryz.prog 63 #[.int .u32 270532723] w fun e w' => e = .returned (told (dec 270532723)) ∧ Below w.heap.size w w' :=
  Dec_115_of 270532723 ⟨by decide, by decide⟩ (by kernel_rfl) _ _ _ _ _ _ _ _ _ (fun w => system_18 w) (by simp [sysD]) w
theorem Dec_115_19 (w : World) : Calls Tryz.prog 63 #[.int .u32 273678451] w fun e w' => e = .returned (told (dec 273678451)) ∧ Below w.heap.size w w' :=
  Dec_115_of 273678451 ⟨by decide, by decide⟩ (by kernel_rfl) _ _ _ _ _ _ _ _ _ (fun w => system_19 w) (by simp [sysD]) w
theorem Dec_115_f0 (a : Int) (ha : W32 a) (h : fd a 6 0 = 115) (n0 : a ≠ 115) (n1 : a ≠ 1048691) (n2 : a ≠ 270532723) (n3 : a ≠ 273678451) (h0 : fd a 14 12 = 0) (w : World) : Calls Tryz.prog 63 #[.int .u32 a] w fun e w' => e = .returned (told (dec a)) ∧ Below w.heap.size w w' :=
  Dec_115_of a ha h _ _ _ _ _ _ _ _ _ (fun w => system_f0 a ha n0 n1 n2 n3 h0 w) (by simp [sysD, n0, n1, n2, n3, h0]) w
theorem Dec_115_csr (a : Int) (ha : W32 a) (h : fd a 6 0 = 115) (n0 : a ≠ 115) (n1 : a ≠ 1048691) (n2 : a ≠ 270532723) (n3 : a ≠ 273678451) (h0 : ¬ fd a 14 12 = 0) (w : World) : Calls Tryz.prog 63 #[.int .u32 a] w fun e w' => e = .returned (told (dec a)) ∧ Below w.heap.size w w' :=
  Dec_115_of a ha h _ _ _ _ _ _ _ _ _ (fun w => system_csr a ha n0 n1 n2 n3 h0 w) (by rcases Classical.em (pk ([0, 1, 2, 3, 0, 1, 2, 3] : List Int) (fd a 14 12) = 0) with hp | hp <;> simp [sysD, n0, n1, n2, n3, h0, csL, hp]) w
end Go.Proofs.YthkodjkkcgdmfaaGreat.Enc
end
