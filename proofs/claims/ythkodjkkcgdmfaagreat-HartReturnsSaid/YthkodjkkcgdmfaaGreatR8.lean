/- Parts of the walks and laws for the claim: Dk, Both, RunB, DecF, Awk, EncA, One, EncB, Fits, Sum, Key, Alu; no conditions beyond the theorems' own. -/
import Derived.Test.YthkodjkkcgdmfaaGreatR6
import Derived.Test.YthkodjkkcgdmfaaGreatR7
section
namespace Go.Proofs.YthkodjkkcgdmfaaGreat.Hart
open Go Go.RowKit Go.Proofs.YthkodjkkcgdmfaaGreat.Step Go.Proofs.YthkodjkkcgdmfaaGreat.Enc Go.Proofs.YthkodjkkcgdmfaaGreat.Kn
open Go.Proofs.YthkodjkkcgdmfaaGreat.Mem (Ram Grow hasB wholeB num wr Rd fl Arg lst)
open Go.Proofs.YthkodjkkcgdmfaaGreat.Duo (Duo)
set_option linter.unusedVariables false
set_option linter.unusedSimpArgs false
abbrev Blks : Type := List (Nat × Array Value × TypeId)
/-- From W to w: a memory, the document's, and the listed blocks, all of them new and apart. -/
structure DK (W w : World) (h1 h2 : Nat) (base : Int) (n : Nat) (m1 m2 : Nat → Int) (F1 F2 : Nat → Prop) (L : Blks) : Prop where
  one : Ram w h1 base n m1 F1
  two : Ref.Mem w h2 base n m2 F2
  apart : ∀ k, F1 k → ¬ F2 k
  new : ∀ k, F1 k ∨ F2 k → W.heap.size ≤ k
  kn : Kn Step.Nil W w L
  ap : ∀ k, F1 k ∨ F2 k → ∀ p ∈ L, p.1 ≠ k
section
variable {W w w' : World} {h1 h2 n g : Nat} {base : Int} {m1 m2 mem mem' m1' : Nat → Int} {F1 F2 F1' F2' : Nat → Prop} {L L' : Blks} {c c' : Array Value} {T T' : TypeId}
theorem DK.bound (d : DK W w h1 h2 base n m1 m2 F1 F2 L) : ∀ k, F1 k ∨ F2 k → k < w.heap.size := fun k h => h.elim (d.one.bound k) (d.two.bound k)
theorem DK.of (d : Duo W w h1 h2 base n mem F1 F2) (k : Kn Step.Nil W w L) (a : ∀ k, F1 k ∨ F2 k → ∀ p ∈ L, p.1 ≠ k) : DK W w h1 h2 base n mem mem F1 F2 L := ⟨d.one, d.two, d.apart, d.new, k, a⟩
theorem DK.duo (d : DK W w h1 h2 base n mem mem F1 F2 L) : Duo W w h1 h2 base n mem F1 F2 := ⟨d.one, d.two, d.apart, d.new, d.kn.mod⟩
theorem DK.size (d : DK W w h1 h2 base n m1 m2 F1 F2 L) : W.heap.size ≤ w.heap.size := d.kn.mod.size
theorem DK.below (d : DK W w h1 h2 base n m1 m2 F1 F2 L) : Below W.heap.size W w := d.kn.below
theorem DK.call (d : DK W w h1 h2 base n m1 m2 F1 F2 L) (b : Below w.heap.size w w') : DK W w' h1 h2 base n m1 m2 F1 F2 L := ⟨d.one.below b, d.two.below b, d.apart, d.new, d.kn.call b, d.ap⟩
theorem DK.made (d : DK W w h1 h2 base n m1 m2 F1 F2 L) (b : Blk w' g c T) (hg : w.heap.size ≤ g) (hb : Below w.heap.size w w') : DK W w' h1 h2 base n m1 m2 F1 F2 ((g, c, T) :: L) :=
  ⟨d.one.below hb, d.two.below hb, d.apart, d.new, d.kn.made b hg hb, fun k hk p hp => by
    rcases List.mem_cons.1 hp with rfl | hp
    · have := d.bound k hk
      show g ≠ k
      omega
    · exact d.ap k hk p hp⟩
/-- A listed block is turned. -/
theorem DK.set (d : DK W w h1 h2 base n m1 m2 F1 F2 L) (k : Kn Step.Nil W w' L') (m : Mod (One g) w w') (hg : ∃ p ∈ L, p.1 = g) (hL : L'.map (·.1) = L.map (·.1)) : DK W w' h1 h2 base n m1 m2 F1 F2 L' := by
  obtain ⟨p, hp, rfl⟩ := hg
  refine ⟨d.one.mod m fun k hk e => d.ap k (.inl hk) p hp (e : k = p.1).symm, d.two.mod m fun k hk e => d.ap k (.inr hk) p hp (e : k = p.1).symm, d.apart, d.new, k, fun k hk q hq => ?_⟩
  have : q.1 ∈ L'.map (·.1) := List.mem_map.2 ⟨q, hq, rfl⟩
  rw [hL] at this
  obtain ⟨r, hr, e⟩ := List.mem_map.1 this
  rw [← e]
  exact d.ap k hk r hr
/-- Both memories are turned. -/
theorem DK.turn (d : DK W w h1 h2 base n m1 m2 F1 F2 L) (r1 : Ram w' h1 base n m1' F1') (r2 : Ref.Mem w' h2 base n mem' F2') (ha : ∀ k, F1' k → ¬ F2' k) (f1 : ∀ k, k < w.heap.size → F1' k → F1 k) (f2 : ∀ k, k < w.heap.size → F2' k → F2 k) (m : Mod (fun k => F1 k ∨ F2 k) w w') :
    DK W w' h1 h2 base n m1' mem' F1' F2' L := by
  have hf : ∀ k, F1' k ∨ F2' k → k < w.heap.size → F1 k ∨ F2 k := fun k hk hl => hk.imp (f1 k hl) (f2 k hl)
  refine ⟨r1, r2, ha, fun k hk => ?_, d.kn.turn m (fun p hp e => d.ap _ e p hp rfl) fun i hi e => absurd (d.new i e) (by omega), fun k hk p hp e => ?_⟩
  · have := d.size
    by_cases hl : k < w.heap.size
    · exact d.new k (hf k hk hl)
    · omega
  · have := (d.kn.blk p hp).lt
    exact d.ap k (hf k hk (by omega)) p hp e
theorem DK.duoTurn (d : DK W w h1 h2 base n m1 m2 F1 F2 L) (u : Duo W w' h1 h2 base n mem' F1' F2') (f1 : ∀ k, k < w.heap.size → F1' k → F1 k) (f2 : ∀ k, k < w.heap.size → F2' k → F2 k) (m : Mod (fun k => F1 k ∨ F2 k) w w') : DK W w' h1 h2 base n mem' mem' F1' F2' L :=
  d.turn u.one u.two u.apart f1 f2 m
theorem DK.blk (d : DK W w h1 h2 base n m1 m2 F1 F2 L) {p : Nat × Array Value × TypeId} (hp : p ∈ L) : Blk w p.1 p.2.1 p.2.2 := d.kn.blk p hp
theorem DK.drop {p : Nat × Array Value × TypeId} (d : DK W w h1 h2 base n m1 m2 F1 F2 (p :: L)) : DK W w h1 h2 base n m1 m2 F1 F2 L := ⟨d.one, d.two, d.apart, d.new, d.kn.drop, fun k hk q hq => d.ap k hk q (List.mem_cons_of_mem _ hq)⟩
/-- A step of a core of it. -/
theorem DK.core {tv : Value} {vmid : Int} {done st : Int} {km : Value} (d : DK W w h1 h2 base n m1 m2 F1 F2 ((g, ccg h1 tv 0 vmid 0 0 km, TC) :: L)) : Kor w g h1 tv vmid base n m1 F1 := ⟨.inl ⟨km, d.kn.at0⟩, d.one, fun hf => d.ap g (.inl hf) _ (List.mem_cons_self ..) rfl⟩
end
end Go.Proofs.YthkodjkkcgdmfaaGreat.Hart
end
section
namespace Go.Proofs.YthkodjkkcgdmfaaGreat.Hart
open Go Go.RowKit Go.Proofs.YthkodjkkcgdmfaaGreat.Step Go.Proofs.YthkodjkkcgdmfaaGreat.Enc Go.Proofs.YthkodjkkcgdmfaaGreat.Kn
open Go.Proofs.YthkodjkkcgdmfaaGreat.Mem (Ram Grow hasB wholeB num wr Rd fl Arg lst newB place_any)
open Go.Proofs.YthkodjkkcgdmfaaGreat.Duo (Duo RdC cm memory_any size_two)
set_option linter.unusedVariables false
set_option linter.unusedSimpArgs false
set_option maxRecDepth 100000
/-- A case, as an argument; nothing in its TLB. -/
def cs6 (b fr : Int) (A : Option Addr) (s c : Nat) (A2 : Option Addr) (len cap : Nat) (root vmid : Int) (h : Hrt) (now : Int) : Array Value := #[.int .u64 b, .int .i64 fr, .slice A s c, .slice A2 len cap, .int .u64 root, .int .i64 vmid, .slice none 0 0, .int .u64 (h.x 0), .int .u64 (h.x 1), .int .u64 (h.x 2), .int .u64 (h.x 3), .int .u64 (h.x 4), .int .u64 (h.x 5), .int .u64 (h.x 6), .int .u64 (h.x 7), .int .u64 (h.x 8), .int .u64 (h.x 9), .int .u64 (h.x 10), .int .u64 (h.x 11), .int .u64 (h.x 12), .int .u64 (h.x 13), .int .u64 (h.x 14), .int .u64 (h.x 15), .int .u64 (h.x 16), .int .u64 (h.x 17), .int .u64 (h.x 18), .int .u64 (h.x 19), .int .u64 (h.x 20), .int .u64 (h.x 21), .int .u64 (h.x 22), .int .u64 (h.x 23), .int .u64 (h.x 24), .int .u64 (h.x 25), .int .u64 (h.x 26), .int .u64 (h.x 27), .int .u64 (h.x 28), .int .u64 (h.x 29), .int .u64 (h.x 30), .int .u64 (h.x 31), .int .u64 h.pc, .bool h.user, .bool h.on, .bool h.spie, .bool h.spp, .bool h.sum, .bool h.mxr, .bool h.rsv, .int .u64 h.stvec, .int .u64 h.sscr, .int .u64 h.sepc, .int .u64 h.scause, .int .u64 h.stval, .int .u64 h.sie, .int .u64 h.sip, .int .u64 h.satp, .int .u64 h.resv, .int .u64 now]
abbrev CT : TypeId := 109
theorem pl_sb : Step.plainT Tryz.prog 66 = true := by kernel_rfl
theorem pl_st : Step.plainT Tryz.prog 67 = true := by kernel_rfl
theorem results5 {P : Program} {fn : Func} {a b c p d : Tmp} {ty : TypeId} (h : fn.results = #[.tmp a, .tmp b, .tmp c, .cell p ty, .tmp d]) (tmps : Array Value) (w : World) (g : Nat) (t : TypeId) (cs : Array Value) (de : TypeDesc)
    (hp : tmps.getD p undef = .pointer (some ⟨g, 0, none⟩)) (hg : Blk w g cs t) (hu : P.underlying ty = some de) (hd : (match de with | .struct _ | .array _ _ => true | _ => false) = true) (hi : (P.info? ty).map (·.size) = some cs.size) :
    (results fn tmps).run P w = .ok (.tuple #[tmps.getD a undef, tmps.getD b undef, tmps.getD c undef, .agg cs, tmps.getD d undef]) w := by
  have h2 := run_loadVar_row (P := P) w g t ty cs (0, 0) de hg.out hu hd hi
  have e : (results fn tmps).run P w = ((asAddr (tmps.getD p undef)).run P w).andThen fun ad w₁ => ((loadVar ty ad).run P w₁).andThen fun v w₂ => .ok (.tuple #[tmps.getD a undef, tmps.getD b undef, tmps.getD c undef, v, tmps.getD d undef]) w₂ := by
    simp only [results, h]
    simp [Sem.run_bind, Result.andThen]
  rw [e, hp]
  simp only [asAddr, Sem.run_pure, Result.andThen_ok, h2]
section
variable {b fr : Int} {A A2 : Option Addr} {s c len cap : Nat} {root vmid now : Int} {h : Hrt}
theorem cs6_0 : (cs6 b fr A s c A2 len cap root vmid h now)[0]? = some (.int .u64 b) := rfl
theorem cs6_1 : (cs6 b fr A s c A2 len cap root vmid h now)[1]? = some (.int .i64 fr) := rfl
theorem cs6_2 : (cs6 b fr A s c A2 len cap root vmid h now)[2]? = some (.slice A s c) := rfl
theorem cs6_3 : (cs6 b fr A s c A2 len cap root vmid h now)[3]? = some (.slice A2 len cap) := rfl
theorem cs6_4 : (cs6 b fr A s c A2 len cap root vmid h now)[4]? = some (.int .u64 root) := rfl
theorem cs6_5 : (cs6 b fr A s c A2 len cap root vmid h now)[5]? = some (.int .i64 vmid) := rfl
theorem cs6_6 : (cs6 b fr A s c A2 len cap root vmid h now)[6]? = some (.slice none 0 0) := rfl
end
theorem _root_.Go.Proofs.YthkodjkkcgdmfaaGreat.Duo.Duo.ahead {V W w : World} {h1 h2 n : Nat} {base : Int} {mem : Nat → Int} {F1 F2 : Nat → Prop} (d : Duo V w h1 h2 base n mem F1 F2) (b : Below W.heap.size W V) : Duo W w h1 h2 base n mem F1 F2 :=
  ⟨d.one, d.two, d.apart, fun k h => Nat.le_trans b.size (d.new k h), (Mod.of_below b Step.Nil).trans d.mod⟩
section
variable {W w2 wm : World} {g5 g1 h1 h2 n : Nat} {c5 c1 : Array Value} {T5 T1 : TypeId} {base : Int} {mem : Nat → Int} {F1 F2 : Nat → Prop}
theorem both_a (ST : Kn Step.Nil W w2 [(g5, c5, T5), (g1, c1, T1)]) (d : Duo (w2.alloc (.cells #[.pointer none, .pointer none] 40)).drew wm h1 h2 base n mem F1 F2) :
    Blk wm w2.heap.size #[.pointer none, .pointer none] 40 ∧ Kn Step.Nil W ((wm.setCell ⟨w2.heap.size, 0, none⟩ (.pointer (some ⟨h1, 0, none⟩))).setCell ⟨w2.heap.size, 1, none⟩ (.pointer (some ⟨h2, 0, none⟩))) [(w2.heap.size, #[.pointer (some ⟨h1, 0, none⟩), .pointer (some ⟨h2, 0, none⟩)], 40), (g5, c5, T5), (g1, c1, T1)] ∧ Duo W ((wm.setCell ⟨w2.heap.size, 0, none⟩ (.pointer (some ⟨h1, 0, none⟩))).setCell ⟨w2.heap.size, 1, none⟩ (.pointer (some ⟨h2, 0, none⟩))) h1 h2 base n mem F1 F2 ∧ ∀ k, F1 k ∨ F2 k → ∀ p ∈ ([(w2.heap.size, #[.pointer (some ⟨h1, 0, none⟩), .pointer (some ⟨h2, 0, none⟩)], 40), (g5, c5, T5), (g1, c1, T1)] : Blks), p.1 ≠ k := by
  have KA := ((ST.made (alloc_out w2 #[.pointer none, .pointer none] 40) (Nat.le_refl _) (alloc_below _ _)).call (Below.drew (Below.refl _ _))).call d.out
  have KB := KA.set0 (setCell_out _ _ 0 (.pointer (some ⟨h1, 0, none⟩)) _ _ KA.at0) (setCell_mod _ _ _ _)
  have KC := KB.set0 (setCell_out _ _ 1 (.pointer (some ⟨h2, 0, none⟩)) _ _ KB.at0) (setCell_mod _ _ _ _)
  have DW := d.ahead ((ST.call (alloc_below w2 (.cells #[.pointer none, .pointer none] 40))).call (Below.drew (Below.refl _ _))).below
  have hN : W.heap.size ≤ w2.heap.size := ST.below.size
  have hX : w2.heap.size < (w2.alloc (.cells #[.pointer none, .pointer none] 40)).heap.size := (alloc_out w2 _ _).lt
  have l5 := ST.at0.lt
  have l1 := ST.at1.lt
  have hnew : ∀ k, F1 k ∨ F2 k → (w2.alloc (.cells #[.pointer none, .pointer none] 40)).heap.size ≤ k := fun k hk => d.new k hk
  have nN : ∀ k, F1 k ∨ F2 k → ¬ One w2.heap.size k := fun k hk e => by
    have e' : k = w2.heap.size := e
    have := hnew k hk
    omega
  refine ⟨KA.at0, KC, (DW.other (setCell_mod wm w2.heap.size 0 (.pointer (some ⟨h1, 0, none⟩))) nN fun k e => ?_).other (setCell_mod _ w2.heap.size 1 (.pointer (some ⟨h2, 0, none⟩))) nN fun k e => ?_, fun k hk p hp => ?_⟩
  · have e' : k = w2.heap.size := e
    omega
  · have e' : k = w2.heap.size := e
    omega
  · have := hnew k hk
    simp only [List.mem_cons, List.not_mem_nil, or_false] at hp
    rcases hp with rfl | rfl | rfl
    · show w2.heap.size ≠ k; omega
    · show g5 ≠ k; omega
    · show g1 ≠ k; omega
theorem both_b (ST : Kn Step.Nil W w2 [(g5, c5, T5), (g1, c1, T1)]) (d : Duo w2.drew wm h1 h2 base n mem F1 F2) :
    Kn Step.Nil W (wm.alloc (.cells #[.pointer (some ⟨h1, 0, none⟩), .pointer (some ⟨h2, 0, none⟩)] 40)) [(wm.heap.size, #[.pointer (some ⟨h1, 0, none⟩), .pointer (some ⟨h2, 0, none⟩)], 40), (g5, c5, T5), (g1, c1, T1)] ∧ Duo W (wm.alloc (.cells #[.pointer (some ⟨h1, 0, none⟩), .pointer (some ⟨h2, 0, none⟩)] 40)) h1 h2 base n mem F1 F2 ∧ ∀ k, F1 k ∨ F2 k → ∀ p ∈ ([(wm.heap.size, #[.pointer (some ⟨h1, 0, none⟩), .pointer (some ⟨h2, 0, none⟩)], 40), (g5, c5, T5), (g1, c1, T1)] : Blks), p.1 ≠ k := by
  have KC := (ST.call (Below.drew (Below.refl _ _))).call d.out
  have DW := d.ahead (ST.call (Below.drew (Below.refl _ _))).below
  have l5 := ST.at0.lt
  have l1 := ST.at1.lt
  refine ⟨KC.made (alloc_out wm _ _) (Nat.le_refl _) (alloc_below _ _), DW.below (alloc_below _ _), fun k hk p hp => ?_⟩
  have : w2.heap.size ≤ k := d.new k hk
  have := DW.bound k hk
  simp only [List.mem_cons, List.not_mem_nil, or_false] at hp
  rcases hp with rfl | rfl | rfl
  · show wm.heap.size ≠ k; omega
  · show g5 ≠ k; omega
  · show g1 ≠ k; omega
end
section
variable {W wE : World} {gN g5 g1 gc gtr gt h1 h2 n : Nat} {cN c1 cc ctr ct : Array Value} {T1 Tc Ttr Tt : TypeId} {base : Int} {m1 m2 : Nat → Int} {F1 F2 : Nat → Prop}
theorem both_c (C : Array Value) (ST : DK W wE h1 h2 base n m1 m2 F1 F2 [(gc, cc, Tc), (gtr, ctr, Ttr), (gt, ct, Tt), (gN, cN, 40), (g5, #[.pointer none, .pointer none], 40), (g1, c1, T1)]) :
    DK W ((wE.alloc (.cells C CT)).drew) h1 h2 base n m1 m2 F1 F2 [(wE.heap.size, C, CT), (gc, cc, Tc), (gtr, ctr, Ttr), (gt, ct, Tt), (gN, cN, 40), (g5, #[.pointer none, .pointer none], 40), (g1, c1, T1)] ∧ DK W ((((wE.setCell ⟨g5, 0, none⟩ (.pointer (some ⟨h1, 0, none⟩))).setCell ⟨g5, 1, none⟩ (.pointer (some ⟨h2, 0, none⟩))).alloc (.cells C CT)).drew) h1 h2 base n m1 m2 F1 F2 [(wE.heap.size, C, CT), (gc, cc, Tc), (gtr, ctr, Ttr), (gt, ct, Tt), (gN, cN, 40), (g5, #[.pointer (some ⟨h1, 0, none⟩), .pointer (some ⟨h2, 0, none⟩)], 40), (g1, c1, T1)] := by
  have D := (ST.made (alloc_out wE C CT) (Nat.le_refl _) (alloc_below _ _)).call (Below.drew (Below.refl _ _))
  have E1 := ST.set (ST.kn.set4 (setCell_out _ _ 0 (.pointer (some ⟨h1, 0, none⟩)) _ _ ST.kn.at4) (setCell_mod _ _ _ _)) (setCell_mod _ _ _ _) ⟨_, List.mem_of_getElem? (i := 4) rfl, rfl⟩ rfl
  have E2 := E1.set (E1.kn.set4 (setCell_out _ _ 1 (.pointer (some ⟨h2, 0, none⟩)) _ _ E1.kn.at4) (setCell_mod _ _ _ _)) (setCell_mod _ _ _ _) ⟨_, List.mem_of_getElem? (i := 4) rfl, rfl⟩ rfl
  have e : ((wE.setCell ⟨g5, 0, none⟩ (.pointer (some ⟨h1, 0, none⟩))).setCell ⟨g5, 1, none⟩ (.pointer (some ⟨h2, 0, none⟩))).heap.size = wE.heap.size := by simp [World.setCell]
  have D2 := (E2.made (alloc_out ((wE.setCell ⟨g5, 0, none⟩ (.pointer (some ⟨h1, 0, none⟩))).setCell ⟨g5, 1, none⟩ (.pointer (some ⟨h2, 0, none⟩))) C CT) (Nat.le_refl _) (alloc_below _ _)).call (Below.drew (Below.refl _ _))
  rw [e] at D2
  exact ⟨D, D2⟩
end
set_option maxHeartbeats 8000000 in
theorem both_any (W : World) (b fr : Int) (hfr : -9223372036854775808 ≤ fr ∧ fr < 9223372036854775808) (hb0 : 0 ≤ b ∧ b < 18446744073709551616) (base : Int) (hbase : b % 1099511627776 / 4096 * 4096 = base) (n : Nat) (hn : 1 + fr % 8 = n) (A : Option Addr) (s c : Nat) (f : Nat → Int) (hA : Arg W A s c f (· < W.heap.size)) (hs : s ≤ 4096) (hf : ∀ k, k < s → 0 ≤ f k ∧ f k < 256)
    (A2 : Option Addr) (len cap : Nat) (f2 : Nat → Int × Int) (hA2 : RdC W A2 len f2 (· < W.heap.size)) (hl : len ≤ 9223372036854775807) (root vmid : Int) (h : Hrt) (now : Int) :
    Calls Tryz.prog 32 #[.agg (cs6 b fr A s c A2 len cap root vmid h now)] W fun e w' => ∃ gc gcr gt gtr h1 h2 F1 F2 L, e = .returned (.tuple #[.pointer (some ⟨gc, 0, none⟩), .pointer (some ⟨gcr, 0, none⟩), .pointer (some ⟨gt, 0, none⟩), .agg #[.pointer (some ⟨h1, 0, none⟩), .pointer (some ⟨h2, 0, none⟩)], .bool true]) ∧ DK W w' h1 h2 base n (fl (cm n f2 len) 0 s f) (fl (cm n f2 len) 0 s f) F1 F2 ((gcr, #[.pointer (some ⟨h2, 0, none⟩), .pointer (some ⟨gtr, 0, none⟩), .int .u64 root, .int .i64 vmid, .bool false], CT) :: (gc, ccg h1 (.pointer (some ⟨gt, 0, none⟩)) root vmid 0 0 (.map none), TC) :: (gtr, #[.int .i64 8, .slice none 0 0], 145) :: (gt, #[.int .i64 8, .slice none 0 0], 115) :: L) := by
  have e0 : 0 ≤ base ∧ base < 1099511627776 := by omega
  have en : 1 ≤ n ∧ n ≤ 8 := by omega
  have hnew : newB base n = true := decide_eq_true (by refine ⟨?_, ?_, ?_, ?_⟩ <;> omega)
  have w1 : IntKind.u64.wrap (IntKind.u64.wrap ((b.tmod 1099511627776).tdiv 4096) * 4096) = base := by
    rw [Int.tmod_eq_emod_of_nonneg hb0.1, Int.tdiv_eq_ediv_of_nonneg (by omega), IntWalk.u64_in (b % 1099511627776 / 4096) (by omega), hbase]; exact IntWalk.u64_in _ (by omega)
  have w2 : IntKind.i64.wrap (1 + fr % 8) = n := by rw [hn]; exact IntWalk.i64_in _ (by omega)
  have HHB := Lib.hid (show hasB base n base (s : Nat) = true by simp only [hasB, decide_eq_true_eq]; omega)
  have TP := Lib.hid (fun w => place_any fr 8 (by decide) hfr (by decide) w)
  have TM := Lib.hid (fun (X : World) (bl : Below W.heap.size W X) => memory_any X base n n rfl (by omega) hnew A2 len cap f2 ((hA2.mod (Mod.of_below bl Step.Nil) (fun _ _ h => h) fun _ h => h).wide fun k hk => Nat.lt_of_lt_of_le hk bl.size) hl)
  have RA := Lib.hid hA
  have HS := Lib.hid hs
  have HF := Lib.hid hf
  have HN := Lib.hid hnew
  have HE0 := Lib.hid e0
  have HEN := Lib.hid en
  clear hA hA2 hs hl hf hnew e0 en hb0 hfr hbase hn
  go_enter Tryz.func32, Tryz.ntmps32
  have ST := Lib.hid (Kn.nil (S := Step.Nil) (W := W))
  go_wp2_with (first
    | ((with_reducible refine Step.gate_box (t := 69) rfl ?_); refine Step.fresh (cs := cs6 b fr A s c A2 len cap root vmid h now) (T := 69) rfl ?hr ?_; (case hr => first | (go_simp; done) | (go_simp; rfl)); intro g1 w1 b hg hb; replace ST := Lib.hid (ST.out.made b hg hb); clear b hb; clear hg)
    | ((with_reducible refine Step.gate_alloc (t := 40) rfl ?_); refine Step.freshAlloc rfl rfl (Duo.alloc_agg Duo.zero_two) ?_; intro g5 w2 b hg hb; replace ST := Lib.hid (ST.out.made b hg hb); clear b hb; clear hg)
    | ((with_reducible refine Step.gate_load (t := 22) rfl ?_); refine Step.load ST.out.at1 rfl rfl rfl pl_u64 cs6_0 ?_))
  have c1 := (ST.out.at1.cell 1).trans cs6_1
  have c3 := (ST.out.at1.cell 3).trans cs6_3
  have hu := Tryz.underlying40
  have hz := size_two
  go_region_held3 (fun w' => w'.cell? ⟨g1, 1, none⟩ = some (.int .i64 fr) ∧ w'.cell? ⟨g1, 3, none⟩ = some (.slice A2 len cap))
    (first | (go_keep; done) | ((refine ⟨?_, ?_⟩ <;> go_keep); done) | exact ⟨(K8.out.at2.cell 1).trans cs6_1, (K8.out.at2.cell 3).trans cs6_3⟩ | exact ⟨((((ST.out.call (Below.drew (Below.refl _ _))).call d.out).call (alloc_below _ _)).at1.cell 1).trans cs6_1, ((((ST.out.call (Below.drew (Below.refl _ _))).call d.out).call (alloc_below _ _)).at1.cell 3).trans cs6_3⟩ | exact ⟨(((ST.out.call (Below.drew (Below.refl _ _))).call d.out).at1.cell 1).trans cs6_1, (((ST.out.call (Below.drew (Below.refl _ _))).call d.out).at1.cell 3).trans cs6_3⟩ | exact ⟨((((ST.out.call (alloc_below _ _)).call (Below.drew (Below.refl _ _))).call d.out).at1.cell 1).trans cs6_1, ((((ST.out.call (alloc_below _ _)).call (Below.drew (Below.refl _ _))).call d.out).at1.cell 3).trans cs6_3⟩)
    ((first
      | (go_at_call 25; (with_reducible refine (TP.out _).mono ?_); rintro e w' ⟨rfl, rfl⟩)
      | (go_at_call 35; (with_reducible refine (TM.out _ (by first | exact (ST.out.call (Below.drew (Below.refl _ _))).below | exact ((ST.out.call (alloc_below _ _)).call (Below.drew (Below.refl _ _))).below)).mono ?_); rintro e wm ⟨h1, h2, F1, F2, rfl, d⟩; (first | (have VA := both_a ST.out d; have n0 := VA.1.cell 0; have n1 := VA.1.cell 1; have f0 := VA.1.frozen 0; have f1 := VA.1.frozen 1; simp only [List.getElem?_toArray, List.getElem?_cons_zero, List.getElem?_cons_succ] at n0 n1; have K8 := Lib.hid VA.2.1; have D8 := Lib.hid VA.2.2.1; have NF8 := Lib.hid VA.2.2.2; clear VA; obtain ⟨gN, hgN⟩ : ∃ x, x = w2.heap.size := ⟨_, rfl⟩) | (have VB := both_b ST.out d; have K8 := Lib.hid VB.1; have D8 := Lib.hid VB.2.1; have NF8 := Lib.hid VB.2.2; clear VB; obtain ⟨gN, hgN⟩ : ∃ x, x = wm.heap.size := ⟨_, rfl⟩)))))
  all_goals
    rename_i hHeld
    clear hHeld
    have ST' := Lib.hid (DK.of D8.out K8.out NF8.out)
    replace ST := ST'
    clear ST' D8 K8 NF8 d
    rw [← hgN] at ST ⊢
    clear hgN
    have hsd : decide ((4096 : Int) < (s : Int)) = false := by have := HS.out; exact decide_eq_false (by omega)
    go_wp2_with (first
      | (go_at_call 36; (with_reducible refine (tlb_new8 _).mono ?_); rintro e w' ⟨gt, rfl, hg, b, hb⟩; replace ST := Lib.hid (ST.out.made b hg hb); clear hg b hb)
      | (go_at_call 50; (with_reducible refine (rtlb_new8 _).mono ?_); rintro e w' ⟨gtr, rfl, hg, b, hb⟩; replace ST := Lib.hid (ST.out.made b hg hb); clear hg b hb)
      | ((with_reducible refine Step.gate_load (t := 66) rfl ?_); refine Step.load ST.out.kn.at4 rfl rfl rfl pl_sb cs6_2 ?_)
      | ((with_reducible refine Step.gate_load (t := 40) rfl ?_); refine Step.loadAll ST.out.kn.at2 rfl rfl rfl Tryz.underlying40 rfl size_two ?_)
      | (go_at_call 51; (with_reducible refine (fboth ST.out.duo (⟨RA.out.rd.below ST.out.below (fun k h => h), RA.out.nil_⟩ : Arg _ A s c f (fun x => x < W.heap.size)) (fun k hk => by have hk' : k < W.heap.size := hk; have hz := ST.out.size; exact ⟨fun h => by have := ST.out.new k (.inl h); omega, fun h => by have := ST.out.new k (.inr h); omega, by omega⟩) (by have := HS.out; omega) HF.out base (by have := HE0.out; omega) HHB.out).mono ?_); rintro e w9 ⟨rfl, F1', F2', hd, f1, f2, m⟩; rw [show (base - base).toNat = 0 by omega] at hd; replace ST := Lib.hid (ST.out.duoTurn hd f1 f2 m); clear hd f1 f2 m))
    go_loopw [15] (fun i w => i = .int .i64 0 ∧ w = w9) (fun _ _ => 0)
    case atStart => exact ⟨rfl, rfl⟩
    case round =>
      obtain ⟨rfl, rfl⟩ := hrel
      go_wp2_with (first
        | ((with_reducible refine Step.gate_load (t := 67) rfl ?_); refine Step.load ST.out.kn.at4 rfl rfl rfl pl_st cs6_6 ?_)
        | ((with_reducible refine Step.gate_load (t := 37) rfl ?_); refine Step.load ST.out.kn.at2 rfl rfl rfl pl_pm rfl ?_)
        | (go_at_call 37; (with_reducible refine (core_new _ _ _).mono ?_); rintro e w' ⟨gc, rfl, hg, b, hb⟩; replace ST := Lib.hid (ST.out.made b hg hb); clear hg b hb)
        | ((with_reducible refine Step.gate_load (t := 22) rfl ?_); refine Step.load ST.out.kn.at5 rfl rfl rfl pl_u64 cs6_4 ?_)
        | ((with_reducible refine Step.gate_load (t := 3) rfl ?_); refine Step.load ST.out.kn.at5 rfl rfl rfl pl_int cs6_5 ?_)
        | (go_at_call 54; (with_reducible refine (enter_any ST.out.kn.at0 _ _).mono ?_); rintro e wE ⟨rfl, nb, m⟩; replace ST := Lib.hid (ST.out.set (ST.out.kn.set0 nb m) m ⟨_, List.mem_cons_self .., rfl⟩ rfl); clear nb m))
      have VC := both_c #[.pointer (some ⟨h2, 0, none⟩), .pointer (some ⟨gtr, 0, none⟩), .int .u64 root, .int .i64 vmid, .bool false] ST.out
      have n0 := VC.1.kn.at5.cell 0
      have n1 := VC.1.kn.at5.cell 1
      have f0 := VC.1.kn.at5.frozen 0
      have f1 := VC.1.kn.at5.frozen 1
      have a0 := VC.1.kn.at4.cell 0
      have a1 := VC.1.kn.at4.cell 1
      have a4 := (VC.1.kn.at6.cell 4).trans cs6_4
      have a5 := (VC.1.kn.at6.cell 5).trans cs6_5
      have b0 := VC.2.kn.at4.cell 0
      have b1 := VC.2.kn.at4.cell 1
      have b4 := (VC.2.kn.at6.cell 4).trans cs6_4
      have b5 := (VC.2.kn.at6.cell 5).trans cs6_5
      have i0 := (ST.out.call (Below.drew (Below.refl _ _))).kn.at3.cell 0
      have i1 := (ST.out.call (Below.drew (Below.refl _ _))).kn.at3.cell 1
      have i4 := ((ST.out.call (Below.drew (Below.refl _ _))).kn.at5.cell 4).trans cs6_4
      have i5 := ((ST.out.call (Below.drew (Below.refl _ _))).kn.at5.cell 5).trans cs6_5
      simp only [List.getElem?_toArray, List.getElem?_cons_zero, List.getElem?_cons_succ] at n0 n1 a0 a1 b0 b1 i0 i1
      have VM := (ST.out.made (alloc_out wE #[.pointer (some ⟨h2, 0, none⟩), .pointer (some ⟨gtr, 0, none⟩), .int .u64 root, .int .i64 vmid, .bool false] CT) (Nat.le_refl _) (alloc_below _ _)).kn
      have e0 := ST.out.kn.at4.cell 0
      have e1 := ST.out.kn.at4.cell 1
      have q0 := ST.out.kn.at4.frozen 0
      have q1 := ST.out.kn.at4.frozen 1
      have p0 := VM.at5.cell 0
      have p1 := VM.at5.cell 1
      have r0 := VM.at5.frozen 0
      have r1 := VM.at5.frozen 1
      have l5 := ST.out.kn.at4.lt
      have ne5 : ¬ g5 = wE.heap.size := by omega
      simp only [List.getElem?_toArray, List.getElem?_cons_zero, List.getElem?_cons_succ] at e0 e1 p0 p1
      clear VM
      replace VC := Lib.hid VC.2
      go_region_held3 (fun w' => w'.cell? ⟨gN, 0, none⟩ = some (.pointer (some ⟨h1, 0, none⟩)) ∧ w'.cell? ⟨gN, 1, none⟩ = some (.pointer (some ⟨h2, 0, none⟩)) ∧ w'.cell? ⟨g1, 4, none⟩ = some (.int .u64 root) ∧ w'.cell? ⟨g1, 5, none⟩ = some (.int .i64 vmid))
        (first | exact ⟨i0, i1, i4, i5⟩ | exact ⟨a0, a1, a4, a5⟩ | exact ⟨b0, b1, b4, b5⟩ | (go_keep; done)) (fail)
      go_wp2
      refine bodyPost_ret (results5 rfl _ _ g5 _ _ _ rfl VC.out.kn.at5 Tryz.underlying40 rfl size_two) rfl ?_
      exact ⟨gc, wE.heap.size, gt, gtr, h1, h2, _, _, _, rfl, VC.out⟩
end Go.Proofs.YthkodjkkcgdmfaaGreat.Hart
end
section
namespace Go.Proofs.YthkodjkkcgdmfaaGreat.Hart
open Go Go.RowKit Go.Proofs.YthkodjkkcgdmfaaGreat.Step Go.Proofs.YthkodjkkcgdmfaaGreat.Enc Go.Proofs.YthkodjkkcgdmfaaGreat.Kn
open Go.Proofs.YthkodjkkcgdmfaaGreat.Mem (Ram Grow hasB wholeB num wr)
set_option linter.unusedVariables false
set_option linter.unusedSimpArgs false
set_option maxRecDepth 100000
set_option maxHeartbeats 8000000 in
theorem run_aluImm {W : World} {gs gm n r : Nat} {s s2 : Stp} {tv : Value} {vmid base : Int} {mem mem2 : Nat → Int} {F G : Nat → Prop} {T : World → Prop} (h : Sy W gs s gm tv 0 vmid (.map (some r)) base n mem F G (KT r T)) (hs : s.was.satp / 1152921504606846976 = 0) (hs0 : U64 s.was.satp) (hsie : s.was.sie = 0) (hpc : 0 ≤ s.was.pc ∧ s.was.pc + 2 < 18446744073709551616) (h1 : hasB base n s.was.pc 2 = true) (h2 : hasB base n (s.was.pc + 2) 2 = true) (lo hi : Int) (elo : num mem (s.was.pc - base).toNat 2 = lo) (ehi : num mem (s.was.pc + 2 - base).toNat 2 = hi) (hlo : 0 ≤ lo ∧ lo < 65536) (hhi : 0 ≤ hi ∧ hi < 65536) (h4 : lo % 4 = 3) 
    (fn rd rs1 rs2 imm sz : Int) (sg : Bool) (hd : dec (hi * 65536 + lo) = some ⟨9, fn, rd, rs1, rs2, imm, sz, sg⟩) (TD : Hid (∀ w, Calls Tryz.prog 63 #[.int .u32 (hi * 65536 + lo)] w fun e w' => e = .returned (told (dec (hi * 65536 + lo))) ∧ Below w.heap.size w w')) (HK : ∀ (W' : World) (F' : Nat → Prop), Sy W' gs (decP s (hi * 65536 + lo) ⟨9, fn, rd, rs1, rs2, imm, sz, sg⟩) gm tv 0 vmid (.map (some r)) base n mem F' G (KT r T) → Calls Tryz.prog 95 #[.pointer (some ⟨gs, 0, none⟩)] W' fun e w' => e = .returned (.tuple #[]) ∧ Out W' w' gs s2 gm tv 0 vmid (.map (some r)) base n mem2 F' G (KT r T)) :
    Calls Tryz.prog 39 #[.pointer (some ⟨gs, 0, none⟩)] W fun e w' => e = .returned (.tuple #[]) ∧ Out W w' gs (zeroX s2) gm tv 0 vmid (.map (some r)) base n mem2 F G (KT r T) := by
  have TP := Lib.hid (fun (W' : World) (hb : Blk W' gs (sc s) TS) => pending_no hb hsie)
  have TF := Lib.hid (fun (W' : World) (ho : Out W W' gs s gm tv 0 vmid (.map (some r)) base n mem F G (KT r T)) => by
    obtain ⟨F1, y, m, c⟩ := ho
    exact (fetch_4 y hs hs0 hpc h1 h2 lo hi elo ehi hlo hhi h4).mono fun e w' q => (⟨q.1, Out.set ⟨F1, y, m, c⟩ q.2.1 q.2.2 rfl⟩ : _ ∧ Out W w' gs { s with bits := hi * 65536 + lo, long := 4 } gm tv 0 vmid (.map (some r)) base n mem F G (KT r T)))
  rw [hd] at TD
  simp only [told, Ins.cells] at TD
  have TK := Lib.hid (fun (W' : World) (ho : Out W W' gs (decP s (hi * 65536 + lo) ⟨9, fn, rd, rs1, rs2, imm, sz, sg⟩) gm tv 0 vmid (.map (some r)) base n mem F G (KT r T)) => by
    obtain ⟨F1, y, m, c⟩ := ho
    exact (HK W' F1 y).mono fun e w' q => (⟨q.1, Out.then m c q.2⟩ : _ ∧ Out W w' gs s2 gm tv 0 vmid (.map (some r)) base n mem2 F G (KT r T)))
  have e1 : IntKind.u64.wrap (s.was.pc + 4) = addW s.was.pc 4 := rfl
  have HO := Lib.hid h.out
  clear h hs hs0 hsie hpc h1 h2 elo ehi hlo hhi h4 hd HK
  go_enter Tryz.func39, Tryz.ntmps39
  go_wp2_with (first
    | (go_at_call 60; (with_reducible refine (TP.out _ HO.out.step).mono ?_); rintro e w' ⟨rfl, hb⟩; replace HO := Lib.hid (HO.out.below hb); clear hb)
    | (go_at_call 62; (with_reducible refine (TF.out _ HO.out).mono ?_); rintro e w' ⟨rfl, ho⟩; replace HO := Lib.hid ho; clear ho)
    | (go_at_call 63; (with_reducible refine (TD.out _).mono ?_); rintro e w' ⟨rfl, hb⟩; replace HO := Lib.hid (HO.out.below hb); clear hb)
    | ((with_reducible refine Step.gate_store (t := 44) rfl ?_); refine Step.storeMid HO.out.step rfl rfl rfl rfl rfl size_inst rfl rfl ?_; intro w3 nb m; rw [lays_i] at nb; replace HO := Lib.hid (HO.out.set (s' := _) nb m rfl); clear nb m)
    | ((with_reducible refine Sq.region (id := 9) (I := fun X => Out W X gs _ gm tv 0 vmid _ base n _ F _ _) ?hm15 11 HO.out.drew ?hp15 ?hs15); (case hm15 => rfl); (case hp15 => kernel_rfl); intro ops K hops hK; clear hops; dsimp only [List.take]; (repeat (first | (refine Sq.seq_move rfl rfl ?_; simp only [Act.put, Act.eval, Array.getD_eq_getD_getElem?, List.getElem?_toArray, List.getElem?_cons_zero, List.getElem?_cons_succ, Option.getD_some, List.setIfInBounds_toArray, List.set_cons_zero, List.set_cons_succ, e1]) | (refine Sq.seq_check rfl rfl rfl ?_; simp only [Act.put, Act.eval, Array.getD_eq_getD_getElem?, List.getElem?_toArray, List.getElem?_cons_zero, List.getElem?_cons_succ, Option.getD_some, List.setIfInBounds_toArray, List.set_cons_zero, List.set_cons_succ, e1]) | (refine Sq.seq_load (t := 22) (fun X hX => hX.step) (Sq.wanted_none rfl) rfl rfl pl_u64 (sv_ok _ (by decide)) ?_; simp only [Act.put, Act.eval, Array.getD_eq_getD_getElem?, List.getElem?_toArray, List.getElem?_cons_zero, List.getElem?_cons_succ, Option.getD_some, List.setIfInBounds_toArray, List.set_cons_zero, List.set_cons_succ, sv_dry, sv_now, sv_k, sv_fn, sv_rd, sv_rs1, sv_rs2, sv_imm, sv_sz, sv_sg, sv_long, sv_bits, sv_ek, sv_ea, sv_eva, sv_egpa, sv_ewalk, sv_ewrote, sv_was_pc, sv_was_user, sv_was_on, sv_was_spie, sv_was_spp, sv_was_sum, sv_was_mxr, sv_was_rsv, sv_was_stvec, sv_was_sscr, sv_was_sepc, sv_was_scause, sv_was_stval, sv_was_sie, sv_was_sip, sv_was_satp, sv_was_resv, sv_h_pc, sv_h_user, sv_h_on, sv_h_spie, sv_h_spp, sv_h_sum, sv_h_mxr, sv_h_rsv, sv_h_stvec, sv_h_sscr, sv_h_sepc, sv_h_scause, sv_h_stval, sv_h_sie, sv_h_sip, sv_h_satp, sv_h_resv, sv_c, e1]) | (refine Sq.seq_load (t := 3) (fun X hX => hX.step) (Sq.wanted_none rfl) rfl rfl pl_int (sv_ok _ (by decide)) ?_; simp only [Act.put, Act.eval, Array.getD_eq_getD_getElem?, List.getElem?_toArray, List.getElem?_cons_zero, List.getElem?_cons_succ, Option.getD_some, List.setIfInBounds_toArray, List.set_cons_zero, List.set_cons_succ, sv_dry, sv_now, sv_k, sv_fn, sv_rd, sv_rs1, sv_rs2, sv_imm, sv_sz, sv_sg, sv_long, sv_bits, sv_ek, sv_ea, sv_eva, sv_egpa, sv_ewalk, sv_ewrote, sv_was_pc, sv_was_user, sv_was_on, sv_was_spie, sv_was_spp, sv_was_sum, sv_was_mxr, sv_was_rsv, sv_was_stvec, sv_was_sscr, sv_was_sepc, sv_was_scause, sv_was_stval, sv_was_sie, sv_was_sip, sv_was_satp, sv_was_resv, sv_h_pc, sv_h_user, sv_h_on, sv_h_spie, sv_h_spp, sv_h_sum, sv_h_mxr, sv_h_rsv, sv_h_stvec, sv_h_sscr, sv_h_sepc, sv_h_scause, sv_h_stval, sv_h_sie, sv_h_sip, sv_h_satp, sv_h_resv, sv_c, e1]) | (refine Sq.seq_load (t := 4) (fun X hX => hX.step) (Sq.wanted_none rfl) rfl rfl pl_bool (sv_ok _ (by decide)) ?_; simp only [Act.put, Act.eval, Array.getD_eq_getD_getElem?, List.getElem?_toArray, List.getElem?_cons_zero, List.getElem?_cons_succ, Option.getD_some, List.setIfInBounds_toArray, List.set_cons_zero, List.set_cons_succ, sv_dry, sv_now, sv_k, sv_fn, sv_rd, sv_rs1, sv_rs2, sv_imm, sv_sz, sv_sg, sv_long, sv_bits, sv_ek, sv_ea, sv_eva, sv_egpa, sv_ewalk, sv_ewrote, sv_was_pc, sv_was_user, sv_was_on, sv_was_spie, sv_was_spp, sv_was_sum, sv_was_mxr, sv_was_rsv, sv_was_stvec, sv_was_sscr, sv_was_sepc, sv_was_scause, sv_was_stval, sv_was_sie, sv_was_sip, sv_was_satp, sv_was_resv, sv_h_pc, sv_h_user, sv_h_on, sv_h_spie, sv_h_spp, sv_h_sum, sv_h_mxr, sv_h_rsv, sv_h_stvec, sv_h_sscr, sv_h_sepc, sv_h_scause, sv_h_stval, sv_h_sie, sv_h_sip, sv_h_satp, sv_h_resv, sv_c, e1]) | (refine Sq.seq_load (t := 36) (fun X hX => hX.step) (Sq.wanted_none rfl) rfl rfl pl_pc (sv_ok _ (by decide)) ?_; simp only [Act.put, Act.eval, Array.getD_eq_getD_getElem?, List.getElem?_toArray, List.getElem?_cons_zero, List.getElem?_cons_succ, Option.getD_some, List.setIfInBounds_toArray, List.set_cons_zero, List.set_cons_succ, sv_c]) | (refine Sq.seq_load (t := 127) (fun X hX => hX.core) (Sq.wanted_none rfl) rfl rfl pl_km cc_kinds ?_; simp only [Act.put, Act.eval, Array.getD_eq_getD_getElem?, List.getElem?_toArray, List.getElem?_cons_zero, List.getElem?_cons_succ, Option.getD_some, List.setIfInBounds_toArray, List.set_cons_zero, List.set_cons_succ]) | (refine' Sq.seq_pure rfl (fun X => _) _; rotate_left; (first | (go_simp; done) | (go_simp; rfl)); simp only [Act.put, Act.eval, Array.getD_eq_getD_getElem?, List.getElem?_toArray, List.getElem?_cons_zero, List.getElem?_cons_succ, Option.getD_some, List.setIfInBounds_toArray, List.set_cons_zero, List.set_cons_succ, e1]))); refine Sq.seq_nil ?_; refine hK.out _ fun w1 hk => ?_; clear hK; replace HO := Lib.hid hk; clear hk; dsimp only [List.drop])
    | ((with_reducible refine Sq.region (id := 10) (I := fun X => Out W X gs _ gm tv 0 vmid _ base n _ F _ _) ?hm16 14 HO.out.drew ?hp16 ?hs16); (case hm16 => rfl); (case hp16 => kernel_rfl); intro ops K hops hK; clear hops; dsimp only [List.take]; (repeat (first | (refine Sq.seq_move rfl rfl ?_; simp only [Act.put, Act.eval, Array.getD_eq_getD_getElem?, List.getElem?_toArray, List.getElem?_cons_zero, List.getElem?_cons_succ, Option.getD_some, List.setIfInBounds_toArray, List.set_cons_zero, List.set_cons_succ]) | (refine Sq.seq_check rfl rfl rfl ?_; simp only [Act.put, Act.eval, Array.getD_eq_getD_getElem?, List.getElem?_toArray, List.getElem?_cons_zero, List.getElem?_cons_succ, Option.getD_some, List.setIfInBounds_toArray, List.set_cons_zero, List.set_cons_succ]) | (refine Sq.seq_load (t := 22) (fun X hX => hX.step) (Sq.wanted_none rfl) rfl rfl pl_u64 (sv_ok _ (by decide)) ?_; simp only [Act.put, Act.eval, Array.getD_eq_getD_getElem?, List.getElem?_toArray, List.getElem?_cons_zero, List.getElem?_cons_succ, Option.getD_some, List.setIfInBounds_toArray, List.set_cons_zero, List.set_cons_succ, sv_dry, sv_now, sv_k, sv_fn, sv_rd, sv_rs1, sv_rs2, sv_imm, sv_sz, sv_sg, sv_long, sv_bits, sv_ek, sv_ea, sv_eva, sv_egpa, sv_ewalk, sv_ewrote, sv_was_pc, sv_was_user, sv_was_on, sv_was_spie, sv_was_spp, sv_was_sum, sv_was_mxr, sv_was_rsv, sv_was_stvec, sv_was_sscr, sv_was_sepc, sv_was_scause, sv_was_stval, sv_was_sie, sv_was_sip, sv_was_satp, sv_was_resv, sv_h_pc, sv_h_user, sv_h_on, sv_h_spie, sv_h_spp, sv_h_sum, sv_h_mxr, sv_h_rsv, sv_h_stvec, sv_h_sscr, sv_h_sepc, sv_h_scause, sv_h_stval, sv_h_sie, sv_h_sip, sv_h_satp, sv_h_resv, sv_c]) | (refine Sq.seq_load (t := 3) (fun X hX => hX.step) (Sq.wanted_none rfl) rfl rfl pl_int (sv_ok _ (by decide)) ?_; simp only [Act.put, Act.eval, Array.getD_eq_getD_getElem?, List.getElem?_toArray, List.getElem?_cons_zero, List.getElem?_cons_succ, Option.getD_some, List.setIfInBounds_toArray, List.set_cons_zero, List.set_cons_succ, sv_dry, sv_now, sv_k, sv_fn, sv_rd, sv_rs1, sv_rs2, sv_imm, sv_sz, sv_sg, sv_long, sv_bits, sv_ek, sv_ea, sv_eva, sv_egpa, sv_ewalk, sv_ewrote, sv_was_pc, sv_was_user, sv_was_on, sv_was_spie, sv_was_spp, sv_was_sum, sv_was_mxr, sv_was_rsv, sv_was_stvec, sv_was_sscr, sv_was_sepc, sv_was_scause, sv_was_stval, sv_was_sie, sv_was_sip, sv_was_satp, sv_was_resv, sv_h_pc, sv_h_user, sv_h_on, sv_h_spie, sv_h_spp, sv_h_sum, sv_h_mxr, sv_h_rsv, sv_h_stvec, sv_h_sscr, sv_h_sepc, sv_h_scause, sv_h_stval, sv_h_sie, sv_h_sip, sv_h_satp, sv_h_resv, sv_c]) | (refine Sq.seq_load (t := 4) (fun X hX => hX.step) (Sq.wanted_none rfl) rfl rfl pl_bool (sv_ok _ (by decide)) ?_; simp only [Act.put, Act.eval, Array.getD_eq_getD_getElem?, List.getElem?_toArray, List.getElem?_cons_zero, List.getElem?_cons_succ, Option.getD_some, List.setIfInBounds_toArray, List.set_cons_zero, List.set_cons_succ, sv_dry, sv_now, sv_k, sv_fn, sv_rd, sv_rs1, sv_rs2, sv_imm, sv_sz, sv_sg, sv_long, sv_bits, sv_ek, sv_ea, sv_eva, sv_egpa, sv_ewalk, sv_ewrote, sv_was_pc, sv_was_user, sv_was_on, sv_was_spie, sv_was_spp, sv_was_sum, sv_was_mxr, sv_was_rsv, sv_was_stvec, sv_was_sscr, sv_was_sepc, sv_was_scause, sv_was_stval, sv_was_sie, sv_was_sip, sv_was_satp, sv_was_resv, sv_h_pc, sv_h_user, sv_h_on, sv_h_spie, sv_h_spp, sv_h_sum, sv_h_mxr, sv_h_rsv, sv_h_stvec, sv_h_sscr, sv_h_sepc, sv_h_scause, sv_h_stval, sv_h_sie, sv_h_sip, sv_h_satp, sv_h_resv, sv_c]) | (refine Sq.seq_load (t := 36) (fun X hX => hX.step) (Sq.wanted_none rfl) rfl rfl pl_pc (sv_ok _ (by decide)) ?_; simp only [Act.put, Act.eval, Array.getD_eq_getD_getElem?, List.getElem?_toArray, List.getElem?_cons_zero, List.getElem?_cons_succ, Option.getD_some, List.setIfInBounds_toArray, List.set_cons_zero, List.set_cons_succ, sv_c]) | (refine Sq.seq_load (t := 127) (fun X hX => hX.core) (Sq.wanted_none rfl) rfl rfl pl_km cc_kinds ?_; simp only [Act.put, Act.eval, Array.getD_eq_getD_getElem?, List.getElem?_toArray, List.getElem?_cons_zero, List.getElem?_cons_succ, Option.getD_some, List.setIfInBounds_toArray, List.set_cons_zero, List.set_cons_succ]) | (refine seq_look (fun X hX => hX.tlb.1) rfl rfl rfl rfl Tryz.underlying127 Tryz.underlying3 (v := .func (.func 95) #[] #[]) (i := 8) rfl ?_; simp only [Act.put, Act.eval, Array.getD_eq_getD_getElem?, List.getElem?_toArray, List.getElem?_cons_zero, List.getElem?_cons_succ, Option.getD_some, List.setIfInBounds_toArray, List.set_cons_zero, List.set_cons_succ]) | (refine' Sq.seq_pure rfl (fun X => _) _; rotate_left; (first | (go_simp; done) | (go_simp; rfl)); simp only [Act.put, Act.eval, Array.getD_eq_getD_getElem?, List.getElem?_toArray, List.getElem?_cons_zero, List.getElem?_cons_succ, Option.getD_some, List.setIfInBounds_toArray, List.set_cons_zero, List.set_cons_succ]))); refine Sq.seq_nil ?_; refine hK.out _ fun w1 hk => ?_; clear hK; replace HO := Lib.hid hk; clear hk; dsimp only [List.drop])
    | (go_at_call 95; (with_reducible refine (TK.out _ HO.out).mono ?_); rintro e w' ⟨rfl, ho⟩; replace HO := Lib.hid ho; clear ho)
    | ((with_reducible refine Step.gate_store (t := 22) rfl ?_); refine Step.store HO.out.step rfl rfl rfl rfl rfl pl_u64 rfl rfl ?_; intro w3 nb m; simp [go_sem, sst_dry, sst_now, sst_k, sst_fn, sst_rd, sst_rs1, sst_rs2, sst_imm, sst_sz, sst_sg, sst_long, sst_bits, sst_ek, sst_ea, sst_eva, sst_egpa, sst_ewalk, sst_ewrote, sst_h_pc, sst_h_user, sst_h_on, sst_h_spie, sst_h_spp, sst_h_sum, sst_h_mxr, sst_h_rsv, sst_h_stvec, sst_h_sscr, sst_h_sepc, sst_h_scause, sst_h_stval, sst_h_sie, sst_h_sip, sst_h_satp, sst_h_resv, sst_h_x0] at nb; replace HO := Lib.hid (HO.out.set (s' := _) nb m rfl); clear nb m)
    | ((with_reducible refine Step.gate_store (t := 3) rfl ?_); refine Step.store HO.out.step rfl rfl rfl rfl rfl pl_int rfl rfl ?_; intro w3 nb m; simp [go_sem, sst_dry, sst_now, sst_k, sst_fn, sst_rd, sst_rs1, sst_rs2, sst_imm, sst_sz, sst_sg, sst_long, sst_bits, sst_ek, sst_ea, sst_eva, sst_egpa, sst_ewalk, sst_ewrote, sst_h_pc, sst_h_user, sst_h_on, sst_h_spie, sst_h_spp, sst_h_sum, sst_h_mxr, sst_h_rsv, sst_h_stvec, sst_h_sscr, sst_h_sepc, sst_h_scause, sst_h_stval, sst_h_sie, sst_h_sip, sst_h_satp, sst_h_resv, sst_h_x0] at nb; replace HO := Lib.hid (HO.out.set (s' := _) nb m rfl); clear nb m)
    | ((with_reducible refine Step.gate_store (t := 4) rfl ?_); refine Step.store HO.out.step rfl rfl rfl rfl rfl pl_bool rfl rfl ?_; intro w3 nb m; simp [go_sem, sst_dry, sst_now, sst_k, sst_fn, sst_rd, sst_rs1, sst_rs2, sst_imm, sst_sz, sst_sg, sst_long, sst_bits, sst_ek, sst_ea, sst_eva, sst_egpa, sst_ewalk, sst_ewrote, sst_h_pc, sst_h_user, sst_h_on, sst_h_spie, sst_h_spp, sst_h_sum, sst_h_mxr, sst_h_rsv, sst_h_stvec, sst_h_sscr, sst_h_sepc, sst_h_scause, sst_h_stval, sst_h_sie, sst_h_sip, sst_h_satp, sst_h_resv, sst_h_x0] at nb; replace HO := Lib.hid (HO.out.set (s' := _) nb m rfl); clear nb m)
    | ((with_reducible refine Step.gate_load (t := 22) rfl ?_); refine Step.load HO.out.step rfl rfl rfl pl_u64 (sv_ok _ (by decide)) ?_; simp only [sv_dry, sv_now, sv_k, sv_fn, sv_rd, sv_rs1, sv_rs2, sv_imm, sv_sz, sv_sg, sv_long, sv_bits, sv_ek, sv_ea, sv_eva, sv_egpa, sv_ewalk, sv_ewrote, sv_was_pc, sv_was_user, sv_was_on, sv_was_spie, sv_was_spp, sv_was_sum, sv_was_mxr, sv_was_rsv, sv_was_stvec, sv_was_sscr, sv_was_sepc, sv_was_scause, sv_was_stval, sv_was_sie, sv_was_sip, sv_was_satp, sv_was_resv, sv_h_pc, sv_h_user, sv_h_on, sv_h_spie, sv_h_spp, sv_h_sum, sv_h_mxr, sv_h_rsv, sv_h_stvec, sv_h_sscr, sv_h_sepc, sv_h_scause, sv_h_stval, sv_h_sie, sv_h_sip, sv_h_satp, sv_h_resv, sv_c, e1])
    | ((with_reducible refine Step.gate_load (t := 3) rfl ?_); refine Step.load HO.out.step rfl rfl rfl pl_int (sv_ok _ (by decide)) ?_; simp only [sv_dry, sv_now, sv_k, sv_fn, sv_rd, sv_rs1, sv_rs2, sv_imm, sv_sz, sv_sg, sv_long, sv_bits, sv_ek, sv_ea, sv_eva, sv_egpa, sv_ewalk, sv_ewrote, sv_was_pc, sv_was_user, sv_was_on, sv_was_spie, sv_was_spp, sv_was_sum, sv_was_mxr, sv_was_rsv, sv_was_stvec, sv_was_sscr, sv_was_sepc, sv_was_scause, sv_was_stval, sv_was_sie, sv_was_sip, sv_was_satp, sv_was_resv, sv_h_pc, sv_h_user, sv_h_on, sv_h_spie, sv_h_spp, sv_h_sum, sv_h_mxr, sv_h_rsv, sv_h_stvec, sv_h_sscr, sv_h_sepc, sv_h_scause, sv_h_stval, sv_h_sie, sv_h_sip, sv_h_satp, sv_h_resv, sv_c, e1])
    | ((with_reducible refine Step.gate_load (t := 4) rfl ?_); refine Step.load HO.out.step rfl rfl rfl pl_bool (sv_ok _ (by decide)) ?_; simp only [sv_dry, sv_now, sv_k, sv_fn, sv_rd, sv_rs1, sv_rs2, sv_imm, sv_sz, sv_sg, sv_long, sv_bits, sv_ek, sv_ea, sv_eva, sv_egpa, sv_ewalk, sv_ewrote, sv_was_pc, sv_was_user, sv_was_on, sv_was_spie, sv_was_spp, sv_was_sum, sv_was_mxr, sv_was_rsv, sv_was_stvec, sv_was_sscr, sv_was_sepc, sv_was_scause, sv_was_stval, sv_was_sie, sv_was_sip, sv_was_satp, sv_was_resv, sv_h_pc, sv_h_user, sv_h_on, sv_h_spie, sv_h_spp, sv_h_sum, sv_h_mxr, sv_h_rsv, sv_h_stvec, sv_h_sscr, sv_h_sepc, sv_h_scause, sv_h_stval, sv_h_sie, sv_h_sip, sv_h_satp, sv_h_resv, sv_c, e1]))
  all_goals (first | go_ret | go_end0 | refine bodyPost_ret (results_none rfl _ _ _) rfl ?_)
  exact ⟨rfl, HO.out⟩
end Go.Proofs.YthkodjkkcgdmfaaGreat.Hart
end
section
namespace Go.Proofs.YthkodjkkcgdmfaaGreat.Enc
open Go Go.RowKit Go.Proofs.YthkodjkkcgdmfaaGreat.Step
set_option linter.unusedVariables false
set_option linter.unusedSimpArgs false
set_option maxRecDepth 100000
theorem Decode_of (a : Int) (T0 : Hid (∀ w, Calls Tryz.prog 110 #[.int .u32 a] w fun e w' => Says (dec a) e ∧ Below w.heap.size w w')) (w : World) : Calls Tryz.prog 63 #[.int .u32 a] w fun e w' => e = .returned (told (dec a)) ∧ Below w.heap.size w w' := by
  generalize dec a = d at *
  go_enter Tryz.func63, Tryz.ntmps63
  go_wp2_with (first
    | (go_at_call 110; (with_reducible refine (T0.out _).mono ?_); rintro e w' ⟨⟨j, ok, rfl, hd⟩, hb⟩; have st_ := Lib.hid (ST.out.call hb); clear ST hb; have ST := st_; cases j; rename_i r1 r2 r3 r4 r5 r6 r7 r8; simp only [Ins.cells]; cases ok <;> simp only [Bool.false_eq_true, if_false, if_true] at hd <;> subst hd)
    | ((with_reducible refine Step.gate_alloc (t := 44) rfl ?_); refine Step.freshAlloc rfl rfl (alloc_agg zero_inst) ?_; intro g2 w2 b hg hb; have st_ := Lib.hid (ST.out.more b hg hb); clear ST b hg hb; have ST := st_)
    | ((with_reducible refine Step.gate_alloc (t := 44) rfl ?_); refine Step.freshAlloc rfl rfl (alloc_agg zero_inst) ?_; intro g1 w1 b hg hb; have ST := Lib.hid (S1.made b hg hb); clear b hg hb)
    | ((with_reducible refine Step.gate_store (t := 3) rfl ?_); refine Step.store ST.out.one rfl rfl rfl rfl rfl pl_int rfl rfl ?_; intro w3 nb m; have st_ := Lib.hid (ST.out.set1 nb m); clear ST nb m; have ST := st_)
    | ((with_reducible refine Step.gate_store (t := 4) rfl ?_); refine Step.store ST.out.one rfl rfl rfl rfl rfl pl_bool rfl rfl ?_; intro w3 nb m; have st_ := Lib.hid (ST.out.set1 nb m); clear ST nb m; have ST := st_)
    | ((with_reducible refine Step.gate_store (t := 44) rfl ?_); refine Step.storeAll ST.out.one rfl rfl rfl rfl rfl size_inst rfl rfl ?_; intro w3 nb m; have st_ := Lib.hid (ST.out.set1 nb m); clear ST nb m; have ST := st_)
    | ((with_reducible refine Step.gate_load (t := 3) rfl ?_); refine Step.load ST.out.one rfl rfl rfl pl_int rfl ?_)
    | ((with_reducible refine Step.gate_load (t := 4) rfl ?_); refine Step.load ST.out.one rfl rfl rfl pl_bool rfl ?_)
    | ((with_reducible refine Step.gate_load (t := 44) rfl ?_); refine Step.loadAll ST.out.one rfl rfl rfl Tryz.underlying44 rfl size_inst ?_)
    | ((with_reducible refine Step.gate_store (t := 3) rfl ?_); refine Step.store ST.out.two rfl rfl rfl rfl rfl pl_int rfl rfl ?_; intro w3 nb m; have st_ := Lib.hid (ST.out.set2 nb m); clear ST nb m; have ST := st_)
    | ((with_reducible refine Step.gate_store (t := 4) rfl ?_); refine Step.store ST.out.two rfl rfl rfl rfl rfl pl_bool rfl rfl ?_; intro w3 nb m; have st_ := Lib.hid (ST.out.set2 nb m); clear ST nb m; have ST := st_)
    | ((with_reducible refine Step.gate_store (t := 44) rfl ?_); refine Step.storeAll ST.out.two rfl rfl rfl rfl rfl size_inst rfl rfl ?_; intro w3 nb m; have st_ := Lib.hid (ST.out.set2 nb m); clear ST nb m; have ST := st_)
    | ((with_reducible refine Step.gate_load (t := 3) rfl ?_); refine Step.load ST.out.two rfl rfl rfl pl_int rfl ?_)
    | ((with_reducible refine Step.gate_load (t := 4) rfl ?_); refine Step.load ST.out.two rfl rfl rfl pl_bool rfl ?_)
    | ((with_reducible refine Step.gate_load (t := 44) rfl ?_); refine Step.loadAll ST.out.two rfl rfl rfl Tryz.underlying44 rfl size_inst ?_))
  all_goals refine bodyPost_ret (results_row_tmp rfl _ _ g1 _ _ _ rfl ST.out.one Tryz.underlying44 rfl size_inst) rfl ⟨rfl, ST.out.below⟩
theorem Dec_19 (a : Int) (ha : W32 a) (h : fd a 6 0 = 19) (w : World) : Calls Tryz.prog 63 #[.int .u32 a] w fun e w' => e = .returned (told (dec a)) ∧ Below w.heap.size w w' := by
  refine Decode_of a (Lib.hid fun w => ?_) w
  have T2 := Lib.hid (fun w => calls_below (rd_any a ha w))
  have T3 := Lib.hid (fun w => calls_below (rs1_any a ha w))
  have T4 := Lib.hid (fun w => calls_below (rs2_any a ha w))
  have TO := fun w => calls_below (op_any a ha w)
  unfold dec
  have C := decode_19 a (immI a) (fd a 11 7) (fd a 19 15) (fd a 24 20) _ _ _ _ _ _ _ _ _ (Lib.hid (fun w => by have := TO w; rw [h] at this; exact this)) (Lib.hid (fun w => calls_below (i_any a ha w))) T2 T3 T4 (Lib.hid (fun w => plain9_13 a (fd a 11 7) (fd a 19 15) (immI a) ha h w)) w
  rw [h]
  refine C.mono fun e w' k => ⟨⟨⟨9, (im13 (fd a 31 26) (fd a 14 12) (fd a 25 20) (immI a)).1, (fd a 11 7), (fd a 19 15), 0, (im13 (fd a 31 26) (fd a 14 12) (fd a 25 20) (immI a)).2.1, 0, false⟩, (im13 (fd a 31 26) (fd a 14 12) (fd a 25 20) (immI a)).2.2, k.1, ?_⟩, k.2⟩
  simp [decOp]
theorem Dec_115_of (a : Int) (ha : W32 a) (h : fd a 6 0 = 115) (r1 r2 r3 r4 r5 r6 r7 : Int) (r8 r9 : Bool) (hc : ∀ w, Calls Tryz.prog 138 #[.int .u32 a] w fun e w' => e = .returned (.tuple #[.agg #[.int .i64 r1, .int .i64 r2, .int .i64 r3, .int .i64 r4, .int .i64 r5, .int .i64 r6, .int .i64 r7, .bool r8], .bool r9]) ∧ Below w.heap.size w w') (hs : sysD a = (if r9 then some ⟨r1, r2, r3, r4, r5, r6, r7, r8⟩ else none)) (w : World) : Calls Tryz.prog 63 #[.int .u32 a] w fun e w' => e = .returned (told (dec a)) ∧ Below w.heap.size w w' := by
  refine Decode_of a (Lib.hid fun w => ?_) w
  have TO := fun w => calls_below (op_any a ha w)
  unfold dec
  have C := decode_115 a r1 r2 r3 r4 r5 r6 r7 r8 r9 (Lib.hid (fun w => by have := TO w; rw [h] at this; exact this)) (Lib.hid hc) w
  refine C.mono fun e w' k => ⟨⟨⟨r1, r2, r3, r4, r5, r6, r7, r8⟩, r9, k.1, ?_⟩, k.2⟩
  rw [h, ← hs]
  simp [decOp]
theorem Dec_115_18 (w : World) : Calls Tryz.prog 63 #[.int .u32 270532723] w fun e w' => e = .returned (told (dec 270532723)) ∧ Below w.heap.size w w' :=
  Dec_115_of 270532723 ⟨by decide, by decide⟩ (by kernel_rfl) _ _ _ _ _ _ _ _ _ (fun w => system_18 w) (by simp [sysD]) w
end Go.Proofs.YthkodjkkcgdmfaaGreat.Enc
end
section
namespace Go.Proofs.YthkodjkkcgdmfaaGreat.Hart
open Go Go.RowKit Go.Proofs.YthkodjkkcgdmfaaGreat.Step Go.Proofs.YthkodjkkcgdmfaaGreat.Enc Go.Proofs.YthkodjkkcgdmfaaGreat.Kn
open Go.Proofs.YthkodjkkcgdmfaaGreat.Mem (Ram Grow hasB wholeB num wr Rd fl Arg lst)
open Go.Proofs.YthkodjkkcgdmfaaGreat.Duo (Duo RdC cm size_two)
set_option linter.unusedVariables false
set_option linter.unusedSimpArgs false
set_option maxRecDepth 100000
theorem set_x10 (h : Hrt) (v : Int) : (hc h).setIfInBounds 10 (.int .u64 v) = hc { h with x := xup h.x 10 v } := set_x h (by decide) v
theorem set_x11 (h : Hrt) (v : Int) : (hc h).setIfInBounds 11 (.int .u64 v) = hc { h with x := xup h.x 11 v } := set_x h (by decide) v
def resetH (pc a0 a1 : Int) : Hrt := { zh with pc := pc / 2 * 2, x := xup (xup zh.x 10 a0) 11 a1 }
def placesH : Array (Nat × Nat) := #[(0, 32), (32, 1), (33, 1), (34, 1), (35, 1), (36, 1), (37, 1), (38, 1), (39, 1), (40, 1), (41, 1), (42, 1), (43, 1), (44, 1), (45, 1), (46, 1), (47, 1), (48, 1)]
theorem placesH_run (W : World) : ∃ fs, Tryz.prog.underlying 25 = some (.struct fs) ∧ (fs.mapM fun f => do pure (f.offset, ← sizeOf f.type) : Sem (Array (Nat × Nat))).run Tryz.prog W = .ok placesH W := by
  refine ⟨_, Tryz.underlying25, ?_⟩
  unfold placesH
  first | (go_simp; done) | (go_simp; rfl)
theorem zero_hartc : (Tryz.prog.info? 25).bind (·.zero) = some (.agg (hc zh)) := by kernel_rfl
theorem build_pc {a : Act} {o : Oper} {x1 : Operand} {pc : Int} (ho : o.op = .build 25 #[(1, x1)]) (h1 : a.eval x1 = .int .u64 pc) (W : World) : (execOp a.eval o).run Tryz.prog W = .ok (.value (.agg (hc { zh with pc := pc }))) W := by
  obtain ⟨fs, hu, hp⟩ := placesH_run W
  have hb := run_build (P := Tryz.prog) (t := 25) (parts := #[(1, .int .u64 pc)]) hu zero_hartc hp (cells := hc { zh with pc := pc }) (by rw [fill_at (off := 32) (size := 1) rfl rfl (Nat.le_of_ble_eq_true rfl)]; rfl)
  simp only [execOp, ho, List.map_toArray, List.map_cons, List.map_nil, h1, Sem.run_bind, hb, Result.andThen_ok, Sem.run_pure]
def zC (b : Int) (A : Option Addr) (s c : Nat) (h : Hrt) : Array Value := cs6 b 0 A s c none 0 0 0 0 h 0
def placesC : Array (Nat × Nat) := #[(0, 1), (1, 1), (2, 1), (3, 1), (4, 1), (5, 1), (6, 1), (7, 49), (56, 1)]
theorem placesC_run (W : World) : ∃ fs, Tryz.prog.underlying 69 = some (.struct fs) ∧ (fs.mapM fun f => do pure (f.offset, ← sizeOf f.type) : Sem (Array (Nat × Nat))).run Tryz.prog W = .ok placesC W := by
  refine ⟨_, Tryz.underlying69, ?_⟩
  unfold placesC
  first | (go_simp; done) | (go_simp; rfl)
theorem zero_case : (Tryz.prog.info? 69).bind (·.zero) = some (.agg (zC 0 none 0 0 zh)) := by kernel_rfl
theorem lays_case (b : Int) (A : Option Addr) (s c : Nat) (h h' : Hrt) : lays (zC b A s c h) 7 (hc h').toList = zC b A s c h' := by
  refine Array.toList_inj.1 ((lays_list _ _ _ (Nat.le_of_ble_eq_true rfl)).trans rfl)
theorem build_case {a : Act} {o : Oper} {x0 x2 x7 : Operand} {b : Int} {A : Option Addr} {s c : Nat} {h : Hrt} (ho : o.op = .build 69 #[(0, x0), (2, x2), (7, x7)]) (h0 : a.eval x0 = .int .u64 b) (h2 : a.eval x2 = .slice A s c) (h7 : a.eval x7 = .agg (hc h)) (W : World) :
    (execOp a.eval o).run Tryz.prog W = .ok (.value (.agg (zC b A s c h))) W := by
  obtain ⟨fs, hu, hp⟩ := placesC_run W
  have hf : Instr.fill (placesC[·]?) (zC 0 none 0 0 zh) [(0, .int .u64 b), (2, .slice A s c), (7, .agg (hc h))] = some (zC b A s c h) := by
    rw [fill_at (off := 0) (size := 1) rfl rfl (Nat.le_of_ble_eq_true rfl), show lays (zC 0 none 0 0 zh) 0 (Value.int .u64 b).cells.toList = zC b none 0 0 zh from rfl]
    rw [fill_at (off := 2) (size := 1) rfl rfl (Nat.le_of_ble_eq_true rfl), show lays (zC b none 0 0 zh) 2 (Value.slice A s c).cells.toList = zC b A s c zh from rfl]
    rw [fill_at (off := 7) (size := 49) rfl rfl (Nat.le_of_ble_eq_true rfl), show (Value.agg (hc h)).cells = hc h from rfl, lays_case]
    rfl
  have hb := run_build (P := Tryz.prog) (t := 69) (parts := #[(0, .int .u64 b), (2, .slice A s c), (7, .agg (hc h))]) hu zero_case hp hf
  simp only [execOp, ho, List.map_toArray, List.map_cons, List.map_nil, h0, h2, h7, Sem.run_bind, hb, Result.andThen_ok, Sem.run_pure]
set_option maxHeartbeats 4000000 in
theorem reset_any (pc a0 a1 : Int) (hpc : U64 pc) (w : World) : Calls Tryz.prog 20 #[.int .u64 pc, .int .u64 a0, .int .u64 a1] w fun e w' => e = .returned (.agg (hc (resetH pc a0 a1))) ∧ Below w.heap.size w w' := by
  have e1 := u_an1 hpc
  clear hpc
  go_enter Tryz.func20, Tryz.ntmps20
  have ST := Lib.hid (Kn.nil (S := Step.Nil) (W := w))
  go_wp2_with (first
    | ((with_reducible refine Step.gate_alloc (t := 25) rfl ?_); refine Step.freshAlloc rfl rfl (alloc_agg zero_hart) ?_; intro g6 w2 b hg hb; replace ST := Lib.hid (ST.out.made b hg hb); clear b hb; have G6 := Lib.hid hg; clear hg)
    | ((with_reducible refine gate_buildS (t := 25) rfl ?_); refine Step.value (v := .agg _) rfl (build_pc rfl rfl _) ?_)
    | ((with_reducible refine Step.gate_store (t := 25) rfl ?_); refine Step.storeAll ST.out.at0 rfl rfl rfl rfl rfl (size_hart _) rfl (hc_all _) ?_; intro w3 nb m; replace ST := Lib.hid (ST.out.set0 nb m); clear nb m)
    | ((with_reducible refine Step.gate_store (t := 25) rfl ?_); refine Step.storeAll ST.out.at1 rfl rfl rfl rfl rfl (size_hart _) rfl (hc_all _) ?_; intro w3 nb m; replace ST := Lib.hid (ST.out.set1 nb m); clear nb m)
    | ((with_reducible refine Step.gate_load (t := 25) rfl ?_); refine Step.loadAll ST.out.at0 rfl rfl rfl Tryz.underlying25 rfl (size_hart _) ?_)
    | ((with_reducible refine Step.gate_store (t := 22) rfl ?_); refine Step.store ST.out.at0 rfl rfl rfl rfl rfl pl_u64 rfl rfl ?_; intro w3 nb m; simp [go_sem, set_x10, set_x11] at nb; replace ST := Lib.hid (ST.out.set0 nb m); clear nb m))
  all_goals ((try simp only [Act.put, List.setIfInBounds_toArray, List.set_cons_zero, List.set_cons_succ]); refine bodyPost_ret (results_row rfl _ _ _ _ _ _ rfl ST.out.at1 Tryz.underlying25 rfl (size_hart _)) rfl ⟨rfl, ST.out.below⟩)
/-- The bytes of the example's instruction. -/
def awB : Nat → Int := fun k => if k = 0 then 147 else if k = 2 then 80 else 0
def awM : Nat → Int := fl (cm 1 (fun _ => (0, 0)) 0) 0 4 awB
theorem awM_0 : num awM 0 2 = 147 := by decide +kernel
theorem awM_2 : num awM 2 2 = 80 := by decide +kernel
theorem aw_dec : dec (80 * 65536 + 147) = some ⟨9, 1, 1, 0, 0, 5, 0, false⟩ := by kernel_rfl
theorem row_case (b : Int) (A : Option Addr) (s c : Nat) (h : Hrt) : Row (zC b A s c h) 7 (hc h) := by
  intro j v hv
  have hj : j < 49 := (List.getElem?_eq_some_iff.1 hv).1
  obtain h1 | h1 | h1 | h1 | h1 | h1 | h1 | h1 | h1 | h1 | h1 | h1 | h1 | h1 | h1 | h1 | h1 | h1 | h1 | h1 | h1 | h1 | h1 | h1 | h1 | h1 | h1 | h1 | h1 | h1 | h1 | h1 | h1 | h1 | h1 | h1 | h1 | h1 | h1 | h1 | h1 | h1 | h1 | h1 | h1 | h1 | h1 | h1 | h1 : j = 0 ∨ j = 1 ∨ j = 2 ∨ j = 3 ∨ j = 4 ∨ j = 5 ∨ j = 6 ∨ j = 7 ∨ j = 8 ∨ j = 9 ∨ j = 10 ∨ j = 11 ∨ j = 12 ∨ j = 13 ∨ j = 14 ∨ j = 15 ∨ j = 16 ∨ j = 17 ∨ j = 18 ∨ j = 19 ∨ j = 20 ∨ j = 21 ∨ j = 22 ∨ j = 23 ∨ j = 24 ∨ j = 25 ∨ j = 26 ∨ j = 27 ∨ j = 28 ∨ j = 29 ∨ j = 30 ∨ j = 31 ∨ j = 32 ∨ j = 33 ∨ j = 34 ∨ j = 35 ∨ j = 36 ∨ j = 37 ∨ j = 38 ∨ j = 39 ∨ j = 40 ∨ j = 41 ∨ j = 42 ∨ j = 43 ∨ j = 44 ∨ j = 45 ∨ j = 46 ∨ j = 47 ∨ j = 48 := by omega
  all_goals (subst h1; exact hv)
theorem case_all (b : Int) (A : Option Addr) (s c : Nat) (h : Hrt) : ((zC b A s c h).toList.all fun x => x.oneCell') = true := rfl
theorem size_case0 : (Tryz.prog.info? 69).map (·.size) = some 57 := by kernel_rfl
theorem size_case (b : Int) (A : Option Addr) (s c : Nat) (h : Hrt) : (Tryz.prog.info? 69).map (·.size) = some (zC b A s c h).size := size_case0
theorem both_aw {W : World} {gs : Nat} (hb : Blk W gs #[.int .u8 147, .int .u8 0, .int .u8 80, .int .u8 0] 5) (h : Hrt) : Calls Tryz.prog 32 #[.agg (zC 2147483648 (some ⟨gs, 0, none⟩) 4 4 h)] W fun e w' => ∃ gc gcr gt gtr h1 h2 F1 F2 L, e = .returned (.tuple #[.pointer (some ⟨gc, 0, none⟩), .pointer (some ⟨gcr, 0, none⟩), .pointer (some ⟨gt, 0, none⟩), .agg #[.pointer (some ⟨h1, 0, none⟩), .pointer (some ⟨h2, 0, none⟩)], .bool true]) ∧ DK W w' h1 h2 2147483648 1 awM awM F1 F2 ((gcr, #[.pointer (some ⟨h2, 0, none⟩), .pointer (some ⟨gtr, 0, none⟩), .int .u64 0, .int .i64 0, .bool false], CT) :: (gc, ccg h1 (.pointer (some ⟨gt, 0, none⟩)) 0 0 0 0 (.map none), TC) :: (gtr, #[.int .i64 8, .slice none 0 0], 145) :: (gt, #[.int .i64 8, .slice none 0 0], 115) :: L) := by
  refine both_any W 2147483648 0 (by decide) (by decide) 2147483648 (by decide) 1 (by decide) (some ⟨gs, 0, none⟩) 4 4 awB ⟨fun k hk => ?_, fun e => nomatch e⟩ (by decide) (fun k hk => ?_) none 0 0 (fun _ => (0, 0)) (fun i hi => absurd hi (Nat.not_lt_zero i)) (by decide) 0 0 h 0
  · have e : (⟨gs, 0, none⟩ : Addr).add k = ⟨gs, k, none⟩ := by unfold Addr.add; split <;> simp_all
    refine ⟨_, rfl, hb.lt, ?_, ?_⟩
    · rw [e, hb.cell k]
      obtain rfl | rfl | rfl | rfl : k = 0 ∨ k = 1 ∨ k = 2 ∨ k = 3 := by omega
      all_goals rfl
    · unfold awB; split; omega; split <;> omega
  · unfold awB; split; omega; split <;> omega
noncomputable def awS (gc : Nat) : Stp := rdP (decP (newS gc 0 (ord (resetH 2147483648 0 0))) (80 * 65536 + 147) ⟨9, 1, 1, 0, 0, 5, 0, false⟩) 1 (aluV (decP (newS gc 0 (ord (resetH 2147483648 0 0))) (80 * 65536 + 147) ⟨9, 1, 1, 0, 0, 5, 0, false⟩).fn ((decP (newS gc 0 (ord (resetH 2147483648 0 0))) (80 * 65536 + 147) ⟨9, 1, 1, 0, 0, 5, 0, false⟩).was.x 0) (immP (decP (newS gc 0 (ord (resetH 2147483648 0 0))) (80 * 65536 + 147) ⟨9, 1, 1, 0, 0, 5, 0, false⟩)))
theorem reset_fit {pc a0 a1 : Int} (h0 : U64 pc) (h1 : U64 a0) (h2 : U64 a1) : Fit (resetH pc a0 a1) := by
  have z : U64 0 := ⟨by decide, by decide⟩
  refine ⟨fun i hi => ?_, ?_, z, z, z, z, z, z, z, z, z⟩
  · show U64 (xup (xup zh.x 10 a0) 11 a1 i)
    unfold xup
    split
    · exact h2
    · split
      · exact h1
      · exact z
  · have := h0.out
    show U64 (pc / 2 * 2)
    exact ⟨by omega, by omega⟩
theorem aw_fit : Fit (resetH 2147483648 0 0) := reset_fit ⟨by decide, by decide⟩ ⟨by decide, by decide⟩ ⟨by decide, by decide⟩
/-- The example's step. -/
theorem step_aw {W : World} {gc gm : Nat} {tv : Value} {F : Nat → Prop} (hk : Kor W gc gm tv 0 2147483648 1 awM F) : Calls Tryz.prog 23 #[.pointer (some ⟨gc, 0, none⟩), .agg (hc (resetH 2147483648 0 0)), .int .u64 0] W fun e w' => e = .returned (.tuple #[.agg (hc (zeroX (awS gc)).h), .agg (ecells (zeroX (awS gc)))]) ∧ ∃ F', Kor w' gc gm tv 0 2147483648 1 awM F' ∧ Mod (fun k => k = gc ∨ F k) W w' ∧ ∀ k, F' k → F k ∨ W.heap.size ≤ k := by
  refine step_any (s2 := zeroX (awS gc)) hk _ aw_fit 0 rfl fun W' gs r y => ?_
  refine run_aluImm y (show (ord (resetH 2147483648 0 0)).satp / 1152921504606846976 = 0 from by decide +kernel) (show U64 (ord (resetH 2147483648 0 0)).satp from ⟨by decide +kernel, by decide +kernel⟩) (show (ord (resetH 2147483648 0 0)).sie = 0 from by decide +kernel) (show 0 ≤ (ord (resetH 2147483648 0 0)).pc ∧ (ord (resetH 2147483648 0 0)).pc + 2 < 18446744073709551616 from by decide +kernel) (show hasB 2147483648 1 (ord (resetH 2147483648 0 0)).pc 2 = true from by decide +kernel) (show hasB 2147483648 1 ((ord (resetH 2147483648 0 0)).pc + 2) 2 = true from by decide +kernel) 147 80 awM_0 awM_2 (by decide) (by decide) (by decide) 1 1 0 0 5 0 false aw_dec (Lib.hid (Dec_19 _ ⟨by decide, by decide⟩ (by kernel_rfl))) fun W'' F' y2 => ?_
  refine (saluImm_any y2.step (n := 1) (n1 := 0) rfl (by decide) rfl (by decide) (fun i hi => ?_)).mono ?_
  · exact (ord_fit aw_fit).x i hi
  · rintro e w' ⟨rfl, nb, m⟩
    exact ⟨rfl, y2.out.set nb m rfl⟩
end Go.Proofs.YthkodjkkcgdmfaaGreat.Hart
end
section
namespace Go.Proofs.YthkodjkkcgdmfaaGreat.Enc
open Go Go.RowKit Go.Proofs.YthkodjkkcgdmfaaGreat.Step
set_option linter.unusedVariables false
set_option linter.unusedSimpArgs false
set_option maxRecDepth 100000
/-- The low n bits of a number, at a place. -/
def pt (v : Int) (n l : Nat) : Int := v % (2 ^ n : Nat) * (2 ^ l : Nat)
theorem pt_bd (v : Int) (n l : Nat) (h : n + l ≤ 32) : 0 ≤ pt v n l ∧ pt v n l < 4294967296 := by
  have hp : (0 : Int) < (2 ^ n : Nat) := by exact_mod_cast Nat.two_pow_pos n
  have hq : (0 : Int) < (2 ^ l : Nat) := by exact_mod_cast Nat.two_pow_pos l
  have h1 := Int.emod_nonneg v (show ((2 ^ n : Nat) : Int) ≠ 0 by omega)
  have h2 := Int.emod_lt_of_pos v hp
  have h3 : 2 ^ n * 2 ^ l ≤ 4294967296 := by rw [← Nat.pow_add]; exact Nat.pow_le_pow_right (n := 2) (j := 32) (by decide) h
  have h4 : ((2 ^ n : Nat) : Int) * ((2 ^ l : Nat) : Int) ≤ 4294967296 := by rw [← Int.natCast_mul]; generalize 2 ^ n * 2 ^ l = q at h3 ⊢; omega
  unfold pt
  refine ⟨Int.mul_nonneg h1 (by omega), ?_⟩
  have h5 : v % ((2 ^ n : Nat) : Int) * ((2 ^ l : Nat) : Int) < ((2 ^ n : Nat) : Int) * ((2 ^ l : Nat) : Int) := Int.mul_lt_mul_of_pos_right h2 hq
  omega
theorem tmod_fix (v p : Int) (hp : 0 < p) : (v.tmod p < 0 → v.tmod p + p = v % p) ∧ (0 ≤ v.tmod p → v.tmod p = v % p) := by
  have h := Int.tmod_eq_emod (a := v) (b := p)
  have h1 := Int.emod_nonneg v (show p ≠ 0 by omega)
  have h2 := Int.emod_lt_of_pos v hp
  split at h <;> omega
theorem at_any (v z1 z2 : Int) (n l : Nat) (hz1 : z1 = n) (hz2 : z2 = l) (hn : 1 ≤ n) (hl : n + l ≤ 32) (w : World) :
    Calls Tryz.prog 67 #[.int .i64 v, .int .i64 z1, .int .i64 z2] w fun e w' => e = .returned (.int .u32 (pt v n l)) ∧ w = w' := by
  subst hz1; subst hz2
  have hw : wrap64 (2 ^ n) = ((2 ^ n : Nat) : Int) := by rw [pow_nat]; exact wrap_pow n (by omega)
  have h0 := Nat.two_pow_pos n
  have hp : 2 ^ n ≤ 4294967296 := Nat.pow_le_pow_right (n := 2) (j := 32) (by decide) (by omega)
  have hne : ¬ wrap64 (2 ^ n) = 0 := by rw [hw]; omega
  have hf := tmod_fix v ((2 ^ n : Nat) : Int) (by omega)
  have hb := pt_bd v n l hl
  have he1 := Int.emod_nonneg v (show ((2 ^ n : Nat) : Int) ≠ 0 by omega)
  have he2 := Int.emod_lt_of_pos v (show (0 : Int) < ((2 ^ n : Nat) : Int) by omega)
  have key : ∀ q : Int, q = v % ((2 ^ n : Nat) : Int) → q % 4294967296 * 2 ^ l % 4294967296 = pt v n l := by
    intro q hq
    rw [show q % 4294967296 = q by omega, pow_nat l, hq]
    exact Int.emod_eq_of_lt hb.1 hb.2
  obtain ⟨t, ht⟩ : ∃ t, v.tmod (wrap64 (2 ^ n)) = t := ⟨_, rfl⟩
  rw [hw] at ht
  rw [ht] at hf
  have ht' : v.tmod (wrap64 (2 ^ n)) = t := by rw [hw]; exact ht
  by_cases hneg : t < 0
  · have hk := key (wrap64 (t + wrap64 (2 ^ n))) (by rw [hw, ← hf.1 hneg]; generalize 2 ^ n = p at *; unfold wrap64; omega)
    clear key hf hb he1 he2 ht hp hw h0
    go_enter Tryz.func67, Tryz.ntmps67
    go_wp2
    go_ret
    exact ⟨by first | rfl | exact congrArg (fun x => Ending.returned (.int .u32 x)) hk, rfl⟩
  · have hk := key t (hf.2 (by omega))
    have hnn : 0 ≤ t := by omega
    clear key hf hb he1 he2 ht hp hw h0
    go_enter Tryz.func67, Tryz.ntmps67
    go_wp2
    go_ret
    exact ⟨by first | rfl | exact congrArg (fun x => Ending.returned (.int .u32 x)) hk, rfl⟩
/-- Where a number stands in a list first; -1: nowhere. -/
def ix (L : List Int) (v : Int) : Int := match L.findIdx? (· == v) with | some i => (i : Int) | none => -1
end Go.Proofs.YthkodjkkcgdmfaaGreat.Enc
end
section
namespace Go.Proofs.YthkodjkkcgdmfaaGreat.Enc
open Go Go.RowKit Go.Proofs.YthkodjkkcgdmfaaGreat.Step
set_option linter.unusedVariables false
set_option linter.unusedSimpArgs false
set_option maxRecDepth 100000
section
variable {P : Program} {ops : Array Oper} {fin : Act} {W : World} {o : Oper} {T : TypeId} {g : Nat} {c : Array Value}
def Stay1 (P : Program) (ops : Array Oper) (fin : Act) (W : World) (T : TypeId) (g : Nat) (c : Array Value) (o : Oper) : Prop :=
  (Region.wanted o (yielded ops fin.tmps) = true ∧ ∀ X, S1 W X T g c → o.wp P fin X (fun a' X' => a' = fin ∧ S1 W X' T g c) (fun _ _ _ => False)) ∨ (Region.wanted o (yielded ops fin.tmps) = false ∧ fin.put o.dst undef = fin)
theorem stay1_slot {t : Nat} (hg : Region.wanted o (yielded ops fin.tmps) = true) (hd : o.dst = some t) (h : ∀ X, (execOp fin.eval o).run P X = .ok (.value (fin.tmps.getD t undef)) X) : Stay1 P ops fin W T g c o :=
  .inl ⟨hg, fun X hX => by unfold Oper.wp; rw [h X]; exact ⟨by rw [hd]; exact put_self fin t, hX⟩⟩
theorem stay1_call {f : FuncId} {args : Array Value} {v : Value} {cc : Call} (_ : o.op = .call cc) (hg : Region.wanted o (yielded ops fin.tmps) = true) (h : ∀ X, (execOp fin.eval o).run P X = .ok (.enter f args) X)
    (hc : ∀ X, Calls P f args X fun e X' => e = .returned v ∧ Below X.heap.size X X') (hp : fin.put o.dst v = fin) : Stay1 P ops fin W T g c o :=
  .inl ⟨hg, fun X hX => by
    unfold Oper.wp; rw [h X]
    refine Calls.mono (hc X) fun e X' he => ?_
    obtain ⟨rfl, hb⟩ := he
    exact ⟨hp, hX.call hb⟩⟩
theorem stay1_load {t : TypeId} {x : Operand} {i : Nat} {v : Value} (hg : Region.wanted o (yielded ops fin.tmps) = true) (ho : o.op = .load t x) (hx : fin.eval x = .pointer (some ⟨g, i, none⟩)) (ht : plainT P t = true) (hv : c[i]? = some v) (hp : fin.put o.dst v = fin) : Stay1 P ops fin W T g c o :=
  .inl ⟨hg, fun X hX => by
    have h := run_load1 (P := P) ht ((hX.one.cell i).trans hv)
    have h2 : (execOp fin.eval o).run P X = .ok (.value v) X := by simp [execOp, ho, hx, h, Result.andThen]
    unfold Oper.wp; rw [h2]; exact ⟨hp, hX⟩⟩
/-- A slice's elements are laid: a block of its own, which no other operation may know but by what is told. -/
theorem one_region {l : List Oper} {id : Nat} {a : Act} {w : World} {Q : Exit → Act → World → Prop} (hS : S1 W w T g c) (hm : P.follows .mixedOrders = true) (vs : List (Tmp × Value))
    (hord : Reg.ordered l.toArray = true) (hin : Reg.within l.toArray vs = true) (hfin : Reg.puts a vs = fin) (hdo : ∀ o ∈ l, Stay1 P l.toArray fin W T g c o)
    (hQ : ∀ w', S1 W w' T g c → Q .normal fin w') : (Code.region id l.toArray true).wp P Q a w := by
  subst hfin
  refine Reg.region hm vs (fun L w => S1 W w T g c) hord hin (hS.call (below_drawn ⟨1, rfl⟩)) (fun i o ho L w hL hLi hdep hI => ?_) (fun L w hL hall hI => hQ w hI)
  have ho' : l[i]? = some o := by simpa using ho
  rcases hdo o (List.mem_of_getElem? ho') with ⟨hg, h⟩ | ⟨hg, hp⟩
  · exact Reg.does_go hg (h w hI)
  · exact Reg.does_not hg hp hI
theorem stay1_nil : ∀ o ∈ ([] : List Oper), Stay1 P ops fin W T g c o := fun _ h => nomatch h
theorem stay1_cons {l : List Oper} (h : Stay1 P ops fin W T g c o) (hl : ∀ o ∈ l, Stay1 P ops fin W T g c o) : ∀ o' ∈ o :: l, Stay1 P ops fin W T g c o' := fun o' ho => by
  rcases List.mem_cons.1 ho with rfl | h'
  · exact h
  · exact hl o' h'
/-- Ahead of the laying: one instruction at g, and so many blocks; behind it, the list stands at that number. -/
def L0 (W : World) (T : TypeId) (g : Nat) (c : Array Value) (n : Nat) (X : World) : Prop := S1 W X T g c ∧ X.heap.size = n
def L1 (W : World) (T : TypeId) (g : Nat) (c : Array Value) (n : Nat) (L : Array Value) (TL : TypeId) (X : World) : Prop := S1 W X T g c ∧ Blk X n L TL
section
variable {n : Nat} {L : Array Value} {TL : TypeId} {kb : Nat}
theorem lays_list {m : Nat} (hr : ∀ X : World, (execOp fin.eval o).run P X = .ok (.value (.slice (some ⟨X.heap.size, 0, none⟩) m m)) (X.alloc (.cells L TL (0, 0)))) (hp : fin.put o.dst (.slice (some ⟨n, 0, none⟩) m m) = fin) :
    ∀ X, L0 W T g c n X → o.wp P fin X (fun a' X' => a' = fin ∧ L1 W T g c n L TL X') (fun _ _ _ => False) := fun X hX => by
  obtain ⟨h1, h2⟩ := hX
  subst h2
  unfold Oper.wp; rw [hr X]
  exact ⟨hp, h1.call (alloc_below _ _), alloc_out _ _ _⟩
end
end
end Go.Proofs.YthkodjkkcgdmfaaGreat.Enc
end
section
namespace Go.Proofs.YthkodjkkcgdmfaaGreat.Enc
open Go Go.RowKit Go.Proofs.YthkodjkkcgdmfaaGreat.Step
set_option linter.unusedVariables false
set_option linter.unusedSimpArgs false
set_option maxRecDepth 100000
def bor (x y : Int) : Int := bits .or .u32 x y
def at2 : List Int := [4, 8]
end Go.Proofs.YthkodjkkcgdmfaaGreat.Enc
end
section
namespace Go.Proofs.YthkodjkkcgdmfaaGreat.Enc
open Go Go.RowKit
set_option linter.unusedVariables false
set_option linter.unusedSimpArgs false
/-- An instruction's fields, within bounds. -/
structure Fits (i : Ins) : Prop where
  rd : 0 ≤ i.rd ∧ i.rd < 32
  rs1 : 0 ≤ i.rs1 ∧ i.rs1 < 32
  rs2 : 0 ≤ i.rs2 ∧ i.rs2 < 32
  k : 1 ≤ i.k ∧ i.k ≤ 20
  sz : i.sz = 0 ∨ i.sz = 1 ∨ i.sz = 2 ∨ i.sz = 4 ∨ i.sz = 8
  u : i.k = 1 ∨ i.k = 2 → i.imm % 4096 = 0 ∧ -2147483648 ≤ i.imm ∧ i.imm < 2147483648
  j : i.k = 3 → i.imm % 2 = 0 ∧ -1048576 ≤ i.imm ∧ i.imm < 1048576
  b : i.k = 5 → i.imm % 2 = 0 ∧ -4096 ≤ i.imm ∧ i.imm < 4096
  o : i.k ≠ 1 → i.k ≠ 2 → i.k ≠ 3 → i.k ≠ 5 → -2048 ≤ i.imm ∧ i.imm < 4096
end Go.Proofs.YthkodjkkcgdmfaaGreat.Enc
end
section
namespace Go.Proofs.YthkodjkkcgdmfaaGreat.Enc
open Go Go.RowKit
set_option linter.unusedVariables false
set_option linter.unusedSimpArgs false
theorem bor_bv (x y : Int) : bor x y = ((BitVec.ofInt 32 x ||| BitVec.ofInt 32 y).toNat : Int) := by
  show IntKind.u32.wrap ((BitVec.ofInt 32 x ||| BitVec.ofInt 32 y).toNat : Int) = _
  have := (BitVec.ofInt 32 x ||| BitVec.ofInt 32 y).isLt
  show (_ : Int) % 4294967296 = _
  omega
theorem ofInt_toNat (z : BitVec 32) : BitVec.ofInt 32 ((z.toNat : Nat) : Int) = z := by
  rw [BitVec.ofInt_natCast, BitVec.ofNat_toNat, BitVec.setWidth_eq]
theorem bor_comm (x y : Int) : bor x y = bor y x := by rw [bor_bv, bor_bv, BitVec.or_comm]
theorem bor_assoc (x y z : Int) : bor (bor x y) z = bor x (bor y z) := by
  rw [bor_bv (bor x y) z, bor_bv x (bor y z), bor_bv x y, bor_bv y z, ofInt_toNat, ofInt_toNat, BitVec.or_assoc]
instance : Std.Associative bor := ⟨bor_assoc⟩
instance : Std.Commutative bor := ⟨bor_comm⟩
theorem pt0 (n l : Nat) : pt 0 n l = 0 := by unfold pt; simp
end Go.Proofs.YthkodjkkcgdmfaaGreat.Enc
end
section
namespace Go.Proofs.YthkodjkkcgdmfaaGreat.Enc
open Go Go.RowKit
set_option linter.unusedVariables false
set_option linter.unusedSimpArgs false
set_option maxRecDepth 100000
/-- The word that an instruction is written as: the one it was read from, without the idle bits. -/
def cn (a : Int) : Int := if fd a 6 0 = 15 then 15 else if fd a 6 0 = 47 then a - fd a 26 25 * 33554432 else a
end Go.Proofs.YthkodjkkcgdmfaaGreat.Enc
end
section
namespace Go.Proofs.YthkodjkkcgdmfaaGreat.Enc
open Go Go.RowKit Go.Proofs.YthkodjkkcgdmfaaGreat.Step
set_option linter.unusedVariables false
set_option linter.unusedSimpArgs false
set_option maxRecDepth 100000
def rbor (x y : Int) : Int := bits .or .u32 x y
def alL : List Int := ([0, 0, 0, 1, 2, 3, 4, 5, 5, 6, 7, 0, 1, 2, 3, 4, 5, 6, 7, 0, 0, 1, 5, 5, 0, 4, 5, 6, 7] : List Int)
def bwL : List Int := ([0, 0, 1, 4, 5, 6, 7] : List Int)
def szL : List Int := ([0, 0, 1, 0, 2, 0, 0, 0, 3] : List Int)
def amW : List Int := ([0, 1, 0, 4, 12, 8, 16, 20, 24, 28] : List Int)
/-- f3 and f7 of an operation. -/
def al1 (fn : Int) : Int := if fn = 2 ∨ fn = 8 ∨ fn = 20 ∨ fn = 23 then rbor (pt (pk alL fn) 3 12) 1073741824 else pt (pk alL fn) 3 12
def al (fn : Int) : Int := if (decide (11 ≤ fn) && decide (fn ≤ 18)) = true then rbor (al1 fn) 33554432 else if (decide (24 ≤ fn) && decide (fn ≤ 28)) = true then rbor (al1 fn) 33554432 else al1 fn
theorem in_any (v l h : Int) (w : World) : Calls Tryz.prog 43 #[.int .i64 v, .int .i64 l, .int .i64 h] w fun e w' => e = .returned (.bool (decide (l ≤ v) && decide (v ≤ h))) ∧ Below w.heap.size w w' := by
  by_cases h1 : l ≤ v
  · rw [decide_eq_true h1, Bool.true_and]
    go_enter Tryz.func43, Tryz.ntmps43
    go_wp2
    go_ret
    exact ⟨rfl, Below.refl _ _⟩
  · rw [decide_eq_false h1, Bool.false_and]
    go_enter Tryz.func43, Tryz.ntmps43
    go_wp2
    go_ret
    exact ⟨rfl, Below.refl _ _⟩
set_option maxHeartbeats 4000000 in
theorem alu_any (fn : Int) (hf : 0 ≤ fn ∧ fn ≤ 28) (w : World) : Calls Tryz.prog 69 #[.int .i64 fn] w fun e w' => e = .returned (.int .u32 (al fn)) ∧ Below w.heap.size w w' := by
  have T0 := Lib.hid (fun w => calls_same (show Calls Tryz.prog 67 #[.int .i64 (pk alL fn), .int .i64 3, .int .i64 12] w fun e w' => e = .returned (.int .u32 (pt (pk alL fn) 3 12)) ∧ w = w' from at_any (pk alL fn) 3 12 3 12 rfl rfl (by decide) (by decide) w))
  have TI := Lib.hid in_any
  have HX := Lib.hid (show -9223372036854775808 ≤ fn ∧ fn < 9223372036854775808 by omega)
  unfold al al1
  obtain ⟨u, hu⟩ : ∃ u, pk alL fn = u := ⟨_, rfl⟩
  rw [hu] at T0 ⊢
  have hu : pk ([0, 0, 0, 1, 2, 3, 4, 5, 5, 6, 7, 0, 1, 2, 3, 4, 5, 6, 7, 0, 0, 1, 5, 5, 0, 4, 5, 6, 7] : List Int) fn = u := hu
  generalize pt (u) 3 12 = p0 at *
  obtain ⟨E_, hEq⟩ : ∃ E_, (if (decide (11 ≤ fn) && decide (fn ≤ 18)) = true then rbor (if fn = 2 ∨ fn = 8 ∨ fn = 20 ∨ fn = 23 then rbor p0 1073741824 else p0) 33554432 else if (decide (24 ≤ fn) && decide (fn ≤ 28)) = true then rbor (if fn = 2 ∨ fn = 8 ∨ fn = 20 ∨ fn = 23 then rbor p0 1073741824 else p0) 33554432 else (if fn = 2 ∨ fn = 8 ∨ fn = 20 ∨ fn = 23 then rbor p0 1073741824 else p0) : Int) = E_ := ⟨_, rfl⟩
  rw [hEq]
  have hd : (fn = 2 ∧ E_ = bits .or .u32 p0 1073741824) ∨ (fn = 8 ∧ E_ = bits .or .u32 p0 1073741824) ∨ (fn = 20 ∧ E_ = bits .or .u32 p0 1073741824) ∨ (fn = 23 ∧ E_ = bits .or .u32 p0 1073741824) ∨ (((fn == 2) = false ∧ (fn == 8) = false ∧ (fn == 20) = false ∧ (fn == 23) = false) ∧ (((decide (11 ≤ fn) && decide (fn ≤ 18)) = true ∧ E_ = bits .or .u32 p0 33554432) ∨ ((decide (11 ≤ fn) && decide (fn ≤ 18)) = false ∧ (decide (24 ≤ fn) && decide (fn ≤ 28)) = true ∧ E_ = bits .or .u32 p0 33554432) ∨ ((decide (11 ≤ fn) && decide (fn ≤ 18)) = false ∧ (decide (24 ≤ fn) && decide (fn ≤ 28)) = false ∧ E_ = p0))) := by
    rw [← hEq]
    by_cases c2 : fn = 2
    · subst c2; exact Or.inl ⟨rfl, rfl⟩
    by_cases c8 : fn = 8
    · subst c8; exact Or.inr (Or.inl ⟨rfl, rfl⟩)
    by_cases c20 : fn = 20
    · subst c20; exact Or.inr (Or.inr (Or.inl ⟨rfl, rfl⟩))
    by_cases c23 : fn = 23
    · subst c23; exact Or.inr (Or.inr (Or.inr (Or.inl ⟨rfl, rfl⟩)))
    refine Or.inr (Or.inr (Or.inr (Or.inr ⟨⟨beq_eq_false_iff_ne.2 c2, beq_eq_false_iff_ne.2 c8, beq_eq_false_iff_ne.2 c20, beq_eq_false_iff_ne.2 c23⟩, ?_⟩)))
    have hn : ¬ (fn = 2 ∨ fn = 8 ∨ fn = 20 ∨ fn = 23) := by omega
    simp only [if_neg hn]
    cases d1 : (decide (11 ≤ fn) && decide (fn ≤ 18)) with
    | true => exact Or.inl ⟨rfl, rfl⟩
    | false =>
      cases d2 : (decide (24 ≤ fn) && decide (fn ≤ 28)) with
      | true => exact Or.inr (Or.inl ⟨rfl, rfl, rfl⟩)
      | false => exact Or.inr (Or.inr ⟨rfl, rfl, rfl⟩)
  clear hEq hf
  rcases hd with ⟨c, hE⟩ | ⟨c, hE⟩ | ⟨c, hE⟩ | ⟨c, hE⟩ | ⟨⟨c, c8, c20, c23⟩, ⟨d1, hE⟩ | ⟨d1, d2, hE⟩ | ⟨d1, d2, hE⟩⟩
  all_goals subst hE
  all_goals (try subst c)
  all_goals (
    go_enter Tryz.func69, Tryz.ntmps69
    have HB := Lib.hid (Below.refl _ _ : Below w.heap.size w w)
    go_wp2_with (first
      | (go_at_call 67; (with_reducible refine (T0.out _).mono ?_); rintro e w' ⟨rfl, hb⟩; (try replace PB := Lib.hid (PB.out.below hb)); replace HB := Lib.hid (below_below HB.out hb); clear hb)
      | (go_at_call 43; (with_reducible refine (TI.out _ _ _ _).mono ?_); rintro e w' ⟨rfl, hb⟩; (try replace PB := Lib.hid (PB.out.below hb)); replace HB := Lib.hid (below_below HB.out hb); clear hb)
      | ((with_reducible refine Step.gate_build (t := 53) rfl ?_); refine Step.freshSlice (cs := #[.int .i64 0, .int .i64 0, .int .i64 0, .int .i64 1, .int .i64 2, .int .i64 3, .int .i64 4, .int .i64 5, .int .i64 5, .int .i64 6, .int .i64 7, .int .i64 0, .int .i64 1, .int .i64 2, .int .i64 3, .int .i64 4, .int .i64 5, .int .i64 6, .int .i64 7, .int .i64 0, .int .i64 0, .int .i64 1, .int .i64 5, .int .i64 5, .int .i64 0, .int .i64 4, .int .i64 5, .int .i64 6, .int .i64 7]) (T := 3) (n := 29) (m := 29) rfl ?hr ?_; (case hr => first | (go_simp; done) | (go_simp; rfl)); intro g1 w1 b hg hb; have PB := Lib.hid (show Blk w1 g1 (Enc.ints ([0, 0, 0, 1, 2, 3, 4, 5, 5, 6, 7, 0, 1, 2, 3, 4, 5, 6, 7, 0, 0, 1, 5, 5, 0, 4, 5, 6, 7] : List Int)) _ from b); have hb_ := Lib.hid (below_below HB.out hb); clear HB b hb hg; have HB := hb_)
      | (go_at_call 68; (with_reducible refine (rpick_any (n := 29) PB.out ([0, 0, 0, 1, 2, 3, 4, 5, 5, 6, 7, 0, 1, 2, 3, 4, 5, 6, 7, 0, 0, 1, 5, 5, 0, 4, 5, 6, 7] : List Int) rfl rfl (by decide) _ (by first | exact HX.out | decide)).mono ?_); rintro e w' ⟨rfl, hb⟩; clear PB; replace HB := Lib.hid (below_below HB.out hb); clear hb; (try rw [hu])))
    go_ret
    exact ⟨rfl, HB.out⟩)
end Go.Proofs.YthkodjkkcgdmfaaGreat.Enc
end
