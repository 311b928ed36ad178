/- Parts of the walks and laws for the claim: Guest, Virt, Translate; no conditions beyond the theorems' own. -/
import Derived.Test.YtchpnbckgofiaaaGreatQ4
import Derived.Test.YtchpnbckgofiaaaGreatQ5
import Derived.Test.YtchpnbckgofiaaaGreatQ7
import Derived.Test.YtchpnbckgofiaaaGreatQ8
section
namespace Go.Proofs.YtchpnbckgofiaaaGreat.Tab
open Go Go.RowKit Go.Proofs.YtchpnbckgofiaaaGreat.Step Go.Proofs.YtchpnbckgofiaaaGreat.Mem
set_option linter.unusedVariables false
set_option linter.unusedSimpArgs false
set_option maxRecDepth 100000
theorem perm_d : ∀ k, k < 256 → k.testBit 7 = true → ((k &&& 14 : Nat) : Int) = (if k.testBit 1 = true then 2 else 0) + (if k.testBit 2 = true ∧ k.testBit 7 = true then 4 else 0) + (if k.testBit 3 = true then 8 else 0) := by decide +kernel
theorem perm_n : ∀ k, k < 256 → k.testBit 7 = false → bits .andNot .i64 ((k &&& 14 : Nat) : Int) 4 = (if k.testBit 1 = true then 2 else 0) + (if k.testBit 2 = true ∧ k.testBit 7 = true then 4 else 0) + (if k.testBit 3 = true then 8 else 0) := by decide +kernel
theorem small14 : ∀ k, k < 256 → (k &&& 14) < 16 := by decide +kernel
theorem and14 {x : Int} (h : U64 x) : bits .and .u64 x 14 = ((lo x &&& 14 : Nat) : Int) := and_lo 14 h (by decide)
theorem has_b' {W : World} {g : Nat} {leaf : Int} (c1 : W.cell? ⟨g, 1, none⟩ = some (.int .u64 leaf)) (h : U64 leaf) (z : Int) (c : Nat) (hz : z = c) (hc : c < 256) {b : Bool} (hb : hasN leaf c = b) :
    Calls Tryz.prog 112 #[.pointer (some ⟨g, 0, none⟩), .int .u64 z] W fun x w' => x = .returned (.bool b) ∧ W = w' := hb ▸ has_z c1 h z c hz hc
theorem reads2 {h n c : Nat} {base : Int} {mem : Nat → Int} {F : Nat → Prop} : Reads2 c (phys base n mem) (fun w => Ram w h base n mem F ∧ w.cell? ⟨c, 0, none⟩ = some (.pointer (some ⟨h, 0, none⟩))) (fun _ _ _ => True) Nil := by
  intro w t i ⟨r, cb⟩ ht hi
  refine (phys_any r cb t i ht hi).mono ?_
  rintro e w' ⟨rfl, hw⟩
  have hb := below_drawn hw
  exact ⟨rfl, Mod.of_below hb _, fun _ => ⟨r.below hb, (World.cell?_of_block (hb.block c (World.block_lt_of_cell? _ _ cb))).trans cb⟩, fun _ => trivial⟩
set_option maxHeartbeats 4000000 in
theorem go2_any {W : World} {g c h n : Nat} {base : Int} {mem : Nat → Int} {F : Nat → Prop} {leaf0 lev0 root : Int}
    (b : Blk W g #[.func (.func 110) #[] #[.pointer (some ⟨c, 0, none⟩)], .int .u64 leaf0, .int .i64 lev0, .int .u64 root] 134)
    (r : Ram W h base n mem F) (cb : W.cell? ⟨c, 0, none⟩ = some (.pointer (some ⟨h, 0, none⟩))) (hF : ¬ F g) (hc : c ≠ g) (hroot : U64 root) (gpa a : Int) (hg : U64 gpa) :
    Calls Tryz.prog 71 #[.pointer (some ⟨g, 0, none⟩), .int .u64 gpa, .int .i64 a] W fun e W' => e = .returned (.tuple #[.int .u64 (guest base n mem root gpa a).1, .int .i64 (guest base n mem root gpa a).2.1, .int .i64 (guest base n mem root gpa a).2.2]) ∧ Mod (One g) W W' := by
  have c3 := b.cell 3
  simp only [List.getElem?_toArray, List.getElem?_cons_zero, List.getElem?_cons_succ] at c3
  have lg := b.lt
  by_cases h0 : root = 0
  · subst h0
    have E := Lib.hid (show guest base n mem 0 gpa a = (gpa, 14, 0) from if_pos rfl)
    clear b r cb hroot hg
    go_enter Tryz.func71, Tryz.ntmps71
    go_wp2
    refine bodyPost_ret (results_tmp3 rfl _ _ _) rfl ⟨by rw [E.out]; rfl, Mod.refl _ _⟩
  have d0 : (root == 0) = false := by simpa using h0
  by_cases h1 : 549755813888 ≤ gpa
  · have d1 : decide (549755813888 ≤ gpa) = true := decide_eq_true h1
    have E := Lib.hid (show guest base n mem root gpa a = (0, 0, 2) by unfold guest; rw [if_neg h0, if_pos h1])
    clear b r cb hroot hg h0 h1
    go_enter Tryz.func71, Tryz.ntmps71
    go_wp2
    refine bodyPost_ret (results_tmp3 rfl _ _ _) rfl ⟨by rw [E.out]; rfl, Mod.refl _ _⟩
  have d1 : decide (549755813888 ≤ gpa) = false := decide_eq_false h1
  have hb0 := r.size
  have hby := fun i (hi : i < n * 4096) => r.byte hi
  have HU := Lib.hid (fun t (l : Nat) => (phys_u (t := t) (i := ix gpa l) hb0.2.2.1 hby).1)
  have HP := Lib.hid (fun t (l : Nat) => (phys_u (t := t) (i := ix gpa l) hb0.2.2.1 hby).2)
  have T := Lib.hid (fun w (hw : Below W.heap.size W w) => down2 (W := w) (t0 := root) (addr := gpa) (Wk.mk (b.below hw) rfl ⟨leaf0, rfl⟩ rfl) (reads2 (h := h) (n := n) (c := c) (base := base) (mem := mem) (F := F)) HU.out ⟨r.below hw, (hw.cell (p := ⟨c, 0, none⟩) (World.block_lt_of_cell? _ _ cb)).trans cb⟩ (fun h => h) (fun w1 w2 hi m => ⟨hi.1.mod m (fun k hk e => hF (by obtain rfl : k = g := e; exact hk)), (World.cell?_of_block (m.block c (World.block_lt_of_cell? _ _ hi.2) (fun e => hc e))).trans hi.2⟩) hroot hg)
  have G : guest base n mem root gpa a = guestOf gpa a (down (phys base n mem) gpa 3 root) := by unfold guest; rw [if_neg h0, if_neg h1]
  have HG := Lib.hid hg
  clear b r cb hF hc hroot hb0 hby h0 h1 hg
  cases hd : down (phys base n mem) gpa 3 root with
  | bus f t i =>
    obtain ⟨f0, f3⟩ := down_bus (P := fun f => f = 3) HP.out 3 _ _ _ _ hd
    subst f3
    rw [hd] at T G
    have E := Lib.hid G
    clear G hd HU HP f0
    go_enter Tryz.func71, Tryz.ntmps71
    go_wp2
    go_region_held3 (fun w' => w'.cell? ⟨g, 3, none⟩ = some (.int .u64 root)) (first | (go_keep; done) | exact ((hbx.cell 3).trans (hlx.2 3 (by decide) (by decide))))
      (((with_reducible refine (T.out _ (Below.drew (Below.refl _ _))).mono ?_); rintro e w9 ⟨rfl, _, hm, csx, hbx, hlx⟩))
    have HM := Lib.hid hm
    clear hm hbx hlx
    go_wp2
    refine bodyPost_ret (results_tmp3 rfl _ _ _) rfl ?_
    exact ⟨by rw [E.out]; rfl, ⟨HM.out.os, HM.out.tape, HM.out.output, HM.out.size, fun k hk hs => HM.out.block k hk (fun e => hs (e.resolve_left (fun h => h)))⟩⟩
  | page =>
    rw [hd] at T G
    have E := Lib.hid G
    clear G hd HU HP
    go_enter Tryz.func71, Tryz.ntmps71
    go_wp2
    go_region_held3 (fun w' => w'.cell? ⟨g, 3, none⟩ = some (.int .u64 root)) (first | (go_keep; done) | exact ((hbx.cell 3).trans (hlx.2 3 (by decide) (by decide))))
      (((with_reducible refine (T.out _ (Below.drew (Below.refl _ _))).mono ?_); rintro e w9 ⟨rfl, _, hm, csx, hbx, hlx⟩))
    have HM := Lib.hid hm
    clear hm hbx hlx
    go_wp2
    refine bodyPost_ret (results_tmp3 rfl _ _ _) rfl ?_
    exact ⟨by rw [E.out]; rfl, ⟨HM.out.os, HM.out.tape, HM.out.output, HM.out.size, fun k hk hs => HM.out.block k hk (fun e => hs (e.resolve_left (fun h => h)))⟩⟩
  | leaf x l =>
    obtain ⟨xu, xl, _, _, xo⟩ := down_leaf (addr := gpa) HU.out 3 _ _ _ hd
    have L2 : l ≤ 2 := by omega
    rw [hd] at T G
    have HXU := Lib.hid xu
    have HXO := Lib.hid xo
    clear hd HU HP xu xl xo
    cases hl : lets2 x a with
    | false =>
      have E := Lib.hid (G.trans (if_neg (by rw [hl]; decide)))
      have hlet := Lib.hid (fun (w : World) (c1 : w.cell? ⟨g, 1, none⟩ = some (.int .u64 x)) => (lets2_any c1 HXU.out a).mono fun e w' h => (by rw [hl] at h; exact h : e = .returned (.bool false) ∧ w = w'))
      clear G hl
      go_enter Tryz.func71, Tryz.ntmps71
      go_wp2
      go_region_held3 (fun w' => w'.cell? ⟨g, 3, none⟩ = some (.int .u64 root)) (first | (go_keep; done) | exact ((hbx.cell 3).trans (hlx.2 3 (by decide) (by decide))))
        (((with_reducible refine (T.out _ (Below.drew (Below.refl _ _))).mono ?_); rintro e w9 ⟨rfl, _, hm, csx, hbx, hlx, k1, _⟩))
      have HM := Lib.hid hm
      have c1 := (hbx.cell 1).trans k1
      clear hm hbx hlx
      go_wp2_with (go_at_call 111; refine (hlet.out _ c1).mono ?_; rintro e w1 ⟨rfl, rfl⟩)
      refine bodyPost_ret (results_tmp3 rfl _ _ _) rfl ?_
      exact ⟨by rw [E.out]; rfl, ⟨HM.out.os, HM.out.tape, HM.out.output, HM.out.size, fun k hk hs => HM.out.block k hk (fun e => hs (e.resolve_left (fun h => h)))⟩⟩
    | true =>
      have E := Lib.hid (G.trans (if_pos hl))
      have hlet := Lib.hid (fun (w : World) (c1 : w.cell? ⟨g, 1, none⟩ = some (.int .u64 x)) => (lets2_any c1 HXU.out a).mono fun e w' h => (by rw [hl] at h; exact h : e = .returned (.bool true) ∧ w = w'))
      have a14 := and14 HXU.out
      have s14 := small14 _ (lo_lt x)
      have w14 : IntKind.i64.wrap (bits .and .u64 x 14) = bits .and .u64 x 14 := IntWalk.i64_in _ (by omega)
      clear G hl s14
      cases h7 : bt x 7 with
      | true =>
        have hhas := Lib.hid (fun (w : World) (c1 : w.cell? ⟨g, 1, none⟩ = some (.int .u64 x)) => has_b' c1 HXU.out 128 128 rfl (by decide) ((has128 x).trans h7))
        have P := Lib.hid (show bits .and .u64 x 14 = perm x by rw [a14]; exact perm_d _ (lo_lt x) h7)
        clear a14 h7
        go_enter Tryz.func71, Tryz.ntmps71
        go_wp2
        go_region_held3 (fun w' => w'.cell? ⟨g, 3, none⟩ = some (.int .u64 root)) (first | (go_keep; done) | exact ((hbx.cell 3).trans (hlx.2 3 (by decide) (by decide))))
          (((with_reducible refine (T.out _ (Below.drew (Below.refl _ _))).mono ?_); rintro e w9 ⟨rfl, _, hm, csx, hbx, hlx, k1, k2⟩))
        have HM := Lib.hid hm
        have c1 := (hbx.cell 1).trans k1
        have c2 := (hbx.cell 2).trans k2
        clear hm hbx hlx
        go_wp2_with (first
 | (go_at_call 111; refine (hlet.out _ c1).mono ?_; rintro e w1 ⟨rfl, rfl⟩)
 | (go_at_call 112; refine (hhas.out _ c1).mono ?_; rintro e w1 ⟨rfl, rfl⟩)
 | (go_at_call 74; refine (place_any L2 c1 c2 HXU.out HG.out HXO.out).mono ?_; rintro e w2 ⟨rfl, hw⟩; have HW := Lib.hid hw; clear hw))
        refine bodyPost_ret (results_tmp3 rfl _ _ _) rfl ?_
        refine ⟨by rw [E.out, ← P.out]; rfl, ?_⟩
        obtain ⟨q, hq⟩ := HW.out
        rw [hq]
        exact ⟨HM.out.os, HM.out.tape, HM.out.output, HM.out.size, fun k hk hs => HM.out.block k hk (fun e => hs (e.resolve_left (fun h => h)))⟩
      | false =>
        have hhas := Lib.hid (fun (w : World) (c1 : w.cell? ⟨g, 1, none⟩ = some (.int .u64 x)) => has_b' c1 HXU.out 128 128 rfl (by decide) ((has128 x).trans h7))
        have P := Lib.hid (show bits .andNot .i64 (bits .and .u64 x 14) 4 = perm x by rw [a14]; exact perm_n _ (lo_lt x) h7)
        clear a14 h7
        go_enter Tryz.func71, Tryz.ntmps71
        go_wp2
        go_region_held3 (fun w' => w'.cell? ⟨g, 3, none⟩ = some (.int .u64 root)) (first | (go_keep; done) | exact ((hbx.cell 3).trans (hlx.2 3 (by decide) (by decide))))
          (((with_reducible refine (T.out _ (Below.drew (Below.refl _ _))).mono ?_); rintro e w9 ⟨rfl, _, hm, csx, hbx, hlx, k1, k2⟩))
        have HM := Lib.hid hm
        have c1 := (hbx.cell 1).trans k1
        have c2 := (hbx.cell 2).trans k2
        clear hm hbx hlx
        go_wp2_with (first
 | (go_at_call 111; refine (hlet.out _ c1).mono ?_; rintro e w1 ⟨rfl, rfl⟩)
 | (go_at_call 112; refine (hhas.out _ c1).mono ?_; rintro e w1 ⟨rfl, rfl⟩)
 | (go_at_call 74; refine (place_any L2 c1 c2 HXU.out HG.out HXO.out).mono ?_; rintro e w2 ⟨rfl, hw⟩; have HW := Lib.hid hw; clear hw))
        refine bodyPost_ret (results_tmp3 rfl _ _ _) rfl ?_
        refine ⟨by rw [E.out, ← P.out]; rfl, ?_⟩
        obtain ⟨q, hq⟩ := HW.out
        rw [hq]
        exact ⟨HM.out.os, HM.out.tape, HM.out.output, HM.out.size, fun k hk hs => HM.out.block k hk (fun e => hs (e.resolve_left (fun h => h)))⟩
theorem entry_any (W : World) (h : Nat) :
    Calls Tryz.prog 70 #[.pointer (some ⟨h, 0, none⟩)] W fun e W' => ∃ c, e = .returned (.func (.func 110) #[] #[.pointer (some ⟨c, 0, none⟩)]) ∧ Blk W' c #[.pointer (some ⟨h, 0, none⟩)] 30 ∧ W.heap.size ≤ c ∧ Below W.heap.size W W' := by
  go_enter Tryz.func70, Tryz.ntmps70
  go_wp2
  go_ret
  exact ⟨_, rfl, alloc_out _ _ _, Nat.le_refl _, alloc_below _ _⟩
theorem guest_any {W : World} {h n : Nat} {base : Int} {mem : Nat → Int} {F : Nat → Prop} (r : Ram W h base n mem F) (root gpa a : Int) (hroot : U64 root) (hg : U64 gpa) :
    Calls Tryz.prog 54 #[.pointer (some ⟨h, 0, none⟩), .int .u64 root, .int .u64 gpa, .int .i64 a] W fun e W' => e = .returned (.tuple #[.int .u64 (guest base n mem root gpa a).1, .int .i64 (guest base n mem root gpa a).2.1, .int .i64 (guest base n mem root gpa a).2.2]) ∧ Below W.heap.size W W' := by
  have R := Lib.hid r
  have HR := Lib.hid hroot
  have HG := Lib.hid hg
  have hu60 := Tryz.underlying134
  have hu58 := Tryz.underlying110
  clear r hroot hg
  go_enter Tryz.func54, Tryz.ntmps54
  go_wp2_with (first
 | (go_at_call 70; refine (entry_any _ _).mono ?_; rintro e w1 ⟨c, rfl, b, hc, hb⟩; have B1 := Lib.hid b; have HC := Lib.hid hc; have HB1 := Lib.hid hb; clear b hc hb)
 | ((with_reducible refine Step.gate_box (t := 134) rfl ?_); refine Step.fresh (cs := #[.func (.func 110) #[] #[.pointer (some ⟨c, 0, none⟩)], .int .u64 0, .int .i64 0, .int .u64 root]) (T := 134) rfl ?hr ?_; (case hr => go_simp); intro g w2 b hg hb; have B2 := Lib.hid b; have HC2 := Lib.hid ((hb.cell (p := ⟨c, 0, none⟩) B1.out.lt).trans (B1.out.cell 0)); have HB2 := Lib.hid (HB1.out.trans (hb.mono HB1.out.size)); have HN := Lib.hid (show c ≠ g from fun e => by have := B1.out.lt; omega); have HF := Lib.hid (show ¬ F g from fun hf => by have := R.out.bound g hf; have := HB1.out.size; omega); have HGW := Lib.hid (show W.heap.size ≤ g from Nat.le_trans HB1.out.size hg); clear b hg hb)
 | (go_at_call 71; refine (go2_any B2.out (R.out.below HB2.out) HC2.out HF.out HN.out HR.out gpa a HG.out).mono ?_; rintro e w3 ⟨rfl, hm⟩; have HM := Lib.hid hm; clear hm))
  refine bodyPost_ret (results_tmp3 rfl _ _ _) rfl ⟨rfl, below_one HB2.out HM.out HGW.out⟩
end Go.Proofs.YtchpnbckgofiaaaGreat.Tab
end
section
namespace Go.Proofs.YtchpnbckgofiaaaGreat.Tab
open Go Go.RowKit Go.Proofs.YtchpnbckgofiaaaGreat.Step Go.Proofs.YtchpnbckgofiaaaGreat.Mem
set_option linter.unusedVariables false
set_option linter.unusedSimpArgs false
set_option maxRecDepth 100000
/-- What stands at a guest-physical address, as an entry. -/
def virtAt (base : Int) (n : Nat) (mem : Nat → Int) (root g : Int) : Int × Int :=
  if (guest base n mem root g 2).2.2 ≠ 0 then (0, (guest base n mem root g 2).2.2)
  else if hasB base n (guest base n mem root g 2).1 8 = true then (num mem ((guest base n mem root g 2).1 - base).toNat 8, 0) else (0, 3)
def vaddr (t i : Int) : Int := IntKind.u64.wrap (IntKind.u64.wrap (t * 4096) + IntKind.u64.wrap (8 * i))
def virtW (base : Int) (n : Nat) (mem : Nat → Int) (root t i : Int) : Int × Int := virtAt base n mem root (vaddr t i)
theorem vaddr_u (t i : Int) : U64 (vaddr t i) := by unfold vaddr; rw [IntKind.wrap_u64]; exact ⟨by omega, by omega⟩
theorem vaddr_in {t i : Int} (ht : 0 ≤ t ∧ t < 17592186044416) (hi : 0 ≤ i ∧ i < 512) : vaddr t i = t * 4096 + 8 * i := by
  unfold vaddr
  rw [IntWalk.u64_in (t * 4096) (by omega), IntWalk.u64_in (8 * i) (by omega)]
  exact IntWalk.u64_in _ (by omega)
theorem virtW_in {base : Int} {n : Nat} {mem : Nat → Int} {root t i : Int} (ht : 0 ≤ t ∧ t < 17592186044416) (hi : 0 ≤ i ∧ i < 512) : virtW base n mem root t i = virt base n mem root t i := by
  unfold virtW
  rw [vaddr_in ht hi]
  rfl
theorem down_congr {rd rd' : Int → Int → Int × Int} (addr : Int) (h : ∀ t l, 0 ≤ t ∧ t < 17592186044416 → rd t (ix addr l) = rd' t (ix addr l)) : ∀ (l : Nat) (t : Int), 0 ≤ t ∧ t < 17592186044416 → down rd addr l t = down rd' addr l t
  | 0, _, _ => rfl
  | l + 1, t, ht => by
    have ih := down_congr addr h l (pn (rd' t (ix addr l)).1) (pn_u _)
    simp only [down, h t l ht, ih]
theorem u0 : U64 0 := ⟨by decide, by decide⟩
theorem guest_u {base : Int} {n : Nat} {mem : Nat → Int} (hb : 0 ≤ base) (hm : ∀ i, i < n * 4096 → 0 ≤ mem i ∧ mem i < 256) {root gpa : Int} (hg : U64 gpa) (a : Int) :
    U64 (guest base n mem root gpa a).1 ∧ ((guest base n mem root gpa a).2.2 = 0 ∨ (guest base n mem root gpa a).2.2 = 2 ∨ (guest base n mem root gpa a).2.2 = 3) := by
  unfold guest
  split
  · exact ⟨hg, .inl rfl⟩
  split
  · exact ⟨u0, .inr (.inl rfl)⟩
  have HU := fun t (l : Nat) => phys_u (base := base) (n := n) (mem := mem) (t := t) (i := ix gpa l) hb hm
  cases hd : down (phys base n mem) gpa 3 root with
  | bus f t i =>
    obtain ⟨_, f3⟩ := down_bus (P := fun f => f = 3) (fun t l => (HU t l).2) 3 _ _ _ _ hd
    exact ⟨u0, .inr (.inr f3)⟩
  | page => exact ⟨u0, .inr (.inl rfl)⟩
  | leaf e l =>
    obtain ⟨_, hl, _⟩ := down_leaf (fun t l => (HU t l).1) 3 _ _ _ hd
    have h := at_u e (l := l) (by omega) gpa
    show U64 (if lets2 e a = true then (at_ e l gpa, perm e, (0 : Int)) else (0, 0, 2)).1 ∧ _
    by_cases hh : lets2 e a = true
    · show U64 (if lets2 e a = true then (at_ e l gpa, perm e, (0 : Int)) else (0, 0, 2)).1 ∧ ((if lets2 e a = true then (at_ e l gpa, perm e, (0 : Int)) else (0, 0, 2)).2.2 = 0 ∨ (if lets2 e a = true then (at_ e l gpa, perm e, (0 : Int)) else (0, 0, 2)).2.2 = 2 ∨ (if lets2 e a = true then (at_ e l gpa, perm e, (0 : Int)) else (0, 0, 2)).2.2 = 3)
      rw [if_pos hh]
      exact ⟨⟨h.1, Int.lt_trans h.2 (by decide)⟩, .inl rfl⟩
    · show U64 (if lets2 e a = true then (at_ e l gpa, perm e, (0 : Int)) else (0, 0, 2)).1 ∧ ((if lets2 e a = true then (at_ e l gpa, perm e, (0 : Int)) else (0, 0, 2)).2.2 = 0 ∨ (if lets2 e a = true then (at_ e l gpa, perm e, (0 : Int)) else (0, 0, 2)).2.2 = 2 ∨ (if lets2 e a = true then (at_ e l gpa, perm e, (0 : Int)) else (0, 0, 2)).2.2 = 3)
      rw [if_neg hh]
      exact ⟨u0, .inr (.inl rfl)⟩
theorem virtAt_u {base : Int} {n : Nat} {mem : Nat → Int} (hb : 0 ≤ base) (hm : ∀ i, i < n * 4096 → 0 ≤ mem i ∧ mem i < 256) {root g : Int} (hg : U64 g) :
    U64 (virtAt base n mem root g).1 ∧ ((virtAt base n mem root g).2 = 0 ∨ (virtAt base n mem root g).2 = 2 ∨ (virtAt base n mem root g).2 = 3) := by
  have h := guest_u hb hm (root := root) hg 2
  unfold virtAt
  split
  · exact ⟨u0, h.2⟩
  split
  · rename_i hh
    have := of_decide_eq_true hh
    exact ⟨num_u64 (s := 0) fun i h1 h2 => hm i (by omega), .inl rfl⟩
  · exact ⟨u0, .inr (.inr rfl)⟩
def placeV (p : Place) : Array Value := #[.int .u64 p.pa, .int .u64 p.gpa, .int .i64 p.fault, .bool p.walk]
theorem size_place : (Tryz.prog.info? 79).map (·.size) = some 4 := by kernel_rfl
theorem zero_place : (Tryz.prog.info? 79).bind (·.zero) = some (.agg #[.int .u64 0, .int .u64 0, .int .i64 0, .bool false]) := by kernel_rfl
/-- What the closure finds while no entry has failed. -/
structure VInv (h q1 q2 q3 : Nat) (base : Int) (n : Nat) (mem : Nat → Int) (F : Nat → Prop) (root : Int) (w : World) : Prop where
  ram : Ram w h base n mem F
  box : w.cell? ⟨q1, 0, none⟩ = some (.pointer (some ⟨h, 0, none⟩))
  env : w.cell? ⟨q2, 1, none⟩ = some (.int .u64 root)
  bad : Blk w q3 #[.int .u64 0, .int .u64 0, .int .i64 0, .bool false] 79
theorem VInv.mod {h q1 q2 q3 n : Nat} {base root : Int} {mem : Nat → Int} {F S : Nat → Prop} {w w' : World} (v : VInv h q1 q2 q3 base n mem F root w) (m : Mod S w w') (hF : ∀ k, F k → ¬ S k) (h1 : ¬ S q1) (h2 : ¬ S q2) (h3 : ¬ S q3) : VInv h q1 q2 q3 base n mem F root w' :=
  ⟨v.ram.mod m hF, (World.cell?_of_block (m.block q1 (World.block_lt_of_cell? _ _ v.box) h1)).trans v.box, (World.cell?_of_block (m.block q2 (World.block_lt_of_cell? _ _ v.env) h2)).trans v.env, v.bad.mod m h3⟩
theorem VInv.below {h q1 q2 q3 n : Nat} {base root : Int} {mem : Nat → Int} {F : Nat → Prop} {w w' : World} (v : VInv h q1 q2 q3 base n mem F root w) (b : Below w.heap.size w w') : VInv h q1 q2 q3 base n mem F root w' := v.mod (Mod.of_below b Nil) (fun _ _ h => h) (fun h => h) (fun h => h) (fun h => h)
def VBad (q3 : Nat) (base : Int) (n : Nat) (mem : Nat → Int) (root t i : Int) (w : World) : Prop := Blk w q3 (placeV ⟨0, vaddr t i, (virtW base n mem root t i).2, true⟩) 79
set_option maxHeartbeats 4000000 in
theorem reads1 {h n q1 q2 q3 : Nat} {base root : Int} {mem : Nat → Int} {F : Nat → Prop} (hr : U64 root) : Reads1 q1 q2 q3 (virtW base n mem root) (VInv h q1 q2 q3 base n mem F root) (VBad q3 base n mem root) (One q3) := by
  intro w t i v ht hi
  have V := Lib.hid v
  have c1 := v.box
  have c2 := v.env
  obtain ⟨n1, n2, b1, b2⟩ := v.ram.size
  have hgu := guest_u (root := root) b1 (fun i hi => v.ram.byte hi) (vaddr_u t i) 2
  have HG := Lib.hid (fun w (hw : VInv h q1 q2 q3 base n mem F root w) => guest_any hw.ram root (vaddr t i) 2 hr (vaddr_u t i))
  have va : IntKind.u64.wrap (IntKind.u64.wrap (t * 4096) + IntKind.u64.wrap (8 * i)) = vaddr t i := rfl
  have VW : virtW base n mem root t i = virtAt base n mem root (vaddr t i) := rfl
  unfold virtAt at VW
  have hu := Tryz.underlying79
  clear v ht hi hr n1 n2
  generalize guest base n mem root (vaddr t i) 2 = G at HG VW hgu
  obtain ⟨pa, pm, q⟩ := G
  simp only at VW hgu HG
  have BD : ∀ w', Blk w' q3 (placeV ⟨0, vaddr t i, (virtW base n mem root t i).2, true⟩) 79 → VBad q3 base n mem root t i w' := fun _ h => h
  have HBD := Lib.hid BD
  clear BD
  generalize vaddr t i = va0 at va HG HBD
  by_cases hq : q = 0
  · subst hq
    rw [if_neg (fun h => h rfl)] at VW
    cases hh : hasB base n pa 8 with
    | true =>
      rw [if_pos hh] at VW
      have E := Lib.hid VW
      have HR := Lib.hid (fun w (hw : VInv h q1 q2 q3 base n mem F root w) => read_z hw.ram pa 8 8 rfl hgu.1 (by decide) hh)
      clear VW hh hgu
      go_enter Tryz.func53, Tryz.ntmps53
      go_wp2_with (first
 | (go_at_call 54; refine (HG.out _ V.out).mono ?_; rintro e w2 ⟨rfl, hb⟩; have V2 := Lib.hid (V.out.below hb); have HB2 := Lib.hid hb; have c1' := (V.out.below hb).box; clear hb c1 c2)
 | (go_at_call 32; refine (HR.out _ V2.out).mono ?_; rintro e w3 ⟨rfl, hw⟩; have HB3 := Lib.hid (below_drawn hw); clear hw))
      refine bodyPost_ret (results_tmp2 rfl _ _ _) rfl ?_
      rw [E.out]
      exact ⟨rfl, (Mod.of_below HB2.out _).trans (Mod.of_below HB3.out _), fun _ => (V2.out.below HB3.out), fun h => absurd rfl h⟩
    | false =>
      rw [if_neg (by rw [hh]; decide)] at VW
      have E := Lib.hid VW
      have HR := Lib.hid (fun w (hw : VInv h q1 q2 q3 base n mem F root w) => read_no hw.ram pa 8 hgu.1 (by omega) (by rw [hh]; rfl))
      clear VW hh hgu
      go_enter Tryz.func53, Tryz.ntmps53
      go_wp2_with (first
 | (go_at_call 54; refine (HG.out _ V.out).mono ?_; rintro e w2 ⟨rfl, hb⟩; have V2 := Lib.hid (V.out.below hb); have HB2 := Lib.hid hb; have c1' := (V.out.below hb).box; clear hb c1 c2)
 | (go_at_call 32; refine (HR.out _ V2.out).mono ?_; rintro e w3 ⟨rfl, hw⟩; have HB3 := Lib.hid (below_drawn hw); have V3 := Lib.hid (V2.out.below (below_drawn hw)); clear hw)
 | (refine Step.storeAll (vs := #[.int .u64 0, .int .u64 va0, .int .i64 3, .bool true]) V3.out.bad rfl rfl rfl rfl rfl size_place rfl rfl ?_; intro w5 nb m; have N3 := Lib.hid nb; have M3 := Lib.hid m; clear nb m))
      refine bodyPost_ret (results_tmp2 rfl _ _ _) rfl ?_
      have hb := HBD.out w5
      rw [E.out] at hb ⊢
      exact ⟨rfl, ((Mod.of_below HB2.out _).trans (Mod.of_below HB3.out _)).trans M3.out, fun h => absurd (h : (3 : Int) = 0) (by decide), fun _ => hb N3.out⟩
  · rw [if_pos hq] at VW
    have E := Lib.hid VW
    have d1 : (q == 0) = false := by simpa using hq
    have d2 : (q != 0) = true := by simpa using hq
    have HQ := Lib.hid hq
    clear VW hgu hq
    go_enter Tryz.func53, Tryz.ntmps53
    go_wp2_with (first
 | (go_at_call 54; refine (HG.out _ V.out).mono ?_; rintro e w2 ⟨rfl, hb⟩; have V2 := Lib.hid (V.out.below hb); have HB2 := Lib.hid hb; clear hb c1 c2)
 | (refine Step.storeAll (vs := #[.int .u64 0, .int .u64 va0, .int .i64 q, .bool true]) V2.out.bad rfl rfl rfl rfl rfl size_place rfl rfl ?_; intro w5 nb m; have N3 := Lib.hid nb; have M3 := Lib.hid m; clear nb m))
    refine bodyPost_ret (results_tmp2 rfl _ _ _) rfl ?_
    have hb := HBD.out w5
    rw [E.out] at hb ⊢
    exact ⟨rfl, (Mod.of_below HB2.out _).trans M3.out, fun h => absurd h HQ.out, fun _ => hb N3.out⟩
end Go.Proofs.YtchpnbckgofiaaaGreat.Tab
end
section
namespace Go.Proofs.YtchpnbckgofiaaaGreat.Tab
open Go Go.RowKit Go.Proofs.YtchpnbckgofiaaaGreat.Step Go.Proofs.YtchpnbckgofiaaaGreat.Mem Go.Proofs.YtchpnbckgofiaaaGreat.Duo
set_option linter.unusedVariables false
set_option linter.unusedSimpArgs false
set_option maxRecDepth 100000
theorem pl_fn : Step.plainT Tryz.prog 108 = true := by kernel_rfl
def envV (satp root : Int) (user sum mxr : Bool) : Array Value := #[.int .u64 satp, .int .u64 root, .bool user, .bool sum, .bool mxr]
theorem size_env : (Tryz.prog.info? 82).map (·.size) = some 5 := by kernel_rfl
theorem fst_congr {rd rd' : Int → Int → Int × Int} (satp : Int) (user sum mxr : Bool) (va a : Int) (h : ∀ t l, 0 ≤ t ∧ t < 17592186044416 → rd t (ix va l) = rd' t (ix va l)) : fst rd satp user sum mxr va a = fst rd' satp user sum mxr va a := by
  unfold fst
  rw [down_congr va h 3 (satp % 17592186044416) (by omega)]
/-- Where both stages come to, by what the first one comes to. -/
def thenP (base : Int) (n : Nat) (mem : Nat → Int) (root a : Int) : Fst → Place
  | .ok g => second base n mem root g a
  | .page => ⟨0, 0, 1, false⟩
  | .bus f t i => ⟨0, t * 4096 + 8 * i, f, true⟩
theorem translate_fst (base : Int) (n : Nat) (mem : Nat → Int) (satp root : Int) (user sum mxr : Bool) (va a : Int) : translate base n mem satp root user sum mxr va a = thenP base n mem root a (fst (virt base n mem root) satp user sum mxr va a) := by
  unfold translate
  rw [first_fst]
  cases fst (virt base n mem root) satp user sum mxr va a <;> rfl
theorem down_busin {rd : Int → Int → Int × Int} {addr : Int} : ∀ (l : Nat) (t0 f t i : Int), 0 ≤ t0 ∧ t0 < 17592186044416 → down rd addr l t0 = .bus f t i → (0 ≤ t ∧ t < 17592186044416) ∧ (0 ≤ i ∧ i < 512) ∧ f = (rd t i).2 ∧ f ≠ 0 := by
  intro l
  induction l with
  | zero => intro t0 f t i _ h; simp [down] at h
  | succ l ih =>
    intro t0 f t i ht h
    simp only [down] at h
    split at h
    · rename_i h1
      cases h
      exact ⟨ht, ix_u _ _, rfl, h1⟩
    · split at h <;> try cases h
      split at h
      · exact ih _ _ _ _ (pn_u _) h
      · split at h <;> cases h
theorem fst_bus {rd : Int → Int → Int × Int} {satp va a f t i : Int} {user sum mxr : Bool} (h : fst rd satp user sum mxr va a = .bus f t i) : (0 ≤ t ∧ t < 17592186044416) ∧ (0 ≤ i ∧ i < 512) ∧ f = (rd t i).2 ∧ f ≠ 0 := by
  unfold fst at h
  split at h <;> try cases h
  split at h <;> try cases h
  split at h <;> try cases h
  generalize hd : down rd va 3 (satp % 17592186044416) = r at h
  cases r with
  | bus f' t' i' => cases h; exact down_busin 3 _ _ _ _ (by omega) hd
  | page => cases h
  | leaf e l =>
    have h2 : (if lets1 user sum mxr e a = true then Fst.ok (at_ e l va) else .page) = .bus f t i := h
    split at h2 <;> cases h2
theorem fst_ok {rd : Int → Int → Int × Int} {satp va a g : Int} {user sum mxr : Bool} (hv : U64 va) (hu : ∀ t l, U64 (rd t (ix va l)).1) (h : fst rd satp user sum mxr va a = .ok g) : U64 g := by
  unfold fst at h
  split at h
  · cases h; exact hv
  split at h <;> try cases h
  split at h <;> try cases h
  generalize hd : down rd va 3 (satp % 17592186044416) = r at h
  cases r with
  | bus f' t' i' => cases h
  | page => cases h
  | leaf e l =>
    have h2 : (if lets1 user sum mxr e a = true then Fst.ok (at_ e l va) else .page) = .ok g := h
    split at h2 <;> try cases h2
    obtain ⟨_, hl, _⟩ := down_leaf hu 3 _ _ _ hd
    have := at_u e (l := l) (by omega) va
    exact ⟨this.1, Int.lt_trans this.2 (by decide)⟩
theorem results_row1 {P : Program} {fn : Func} {p : Tmp} {ty : TypeId} (h : fn.results = #[.cell p ty]) (tmps : Array Value) (w : World) (g : Nat) (t : TypeId) (cs : Array Value) (d : TypeDesc)
    (hp : tmps.getD p undef = .pointer (some ⟨g, 0, none⟩)) (hg : Blk w g cs t) (hu : P.underlying ty = some d) (hd : (match d with | .struct _ | .array _ _ => true | _ => false) = true) (hi : (P.info? ty).map (·.size) = some cs.size) :
    (results fn tmps).run P w = .ok (.agg cs) w := results_cell_row h tmps w g t cs (0, 0) d hp hg.out hu hd hi
set_option maxHeartbeats 8000000 in
theorem translate_any {W : World} {h n : Nat} {base : Int} {mem : Nat → Int} {F : Nat → Prop} (r : Ram W h base n mem F) (satp root va a : Int) (user sum mxr : Bool) (hs : U64 satp) (hr : U64 root) (hv : U64 va) :
    Calls Tryz.prog 31 #[.pointer (some ⟨h, 0, none⟩), .agg (envV satp root user sum mxr), .int .u64 va, .int .i64 a] W fun e W' => e = .returned (.agg (placeV (translate base n mem satp root user sum mxr va a))) ∧ Below W.heap.size W W' := by
  obtain ⟨n1, n2, b1, b2⟩ := r.size
  have hby := fun i (hi : i < n * 4096) => r.byte hi
  have HU := Lib.hid (fun t (l : Nat) => (virtAt_u (root := root) b1 hby (vaddr_u t (ix va l))).1)
  have HF := Lib.hid (fun t (l : Nat) => (virtAt_u (root := root) b1 hby (vaddr_u t (ix va l))).2)
  have TF : translate base n mem satp root user sum mxr va a = thenP base n mem root a (fst (virtW base n mem root) satp user sum mxr va a) := by
    rw [translate_fst, fst_congr satp user sum mxr va a (fun t l ht => virtW_in ht (ix_u va l))]
  have R := Lib.hid r
  have HS := Lib.hid hs
  have HR := Lib.hid hr
  have HV := Lib.hid hv
  have hu := Tryz.underlying79
  have hu2 := Tryz.underlying82
  have hu3 := Tryz.underlying112
  have hu4 := Tryz.underlying110
  have FB := Lib.hid (fun f t i (e : fst (virtW base n mem root) satp user sum mxr va a = .bus f t i) => fst_bus e)
  have FO := Lib.hid (fun g (e : fst (virtW base n mem root) satp user sum mxr va a = .ok g) => fst_ok hv HU.out e)
  have RD := Lib.hid (fun q1 q2 q3 => reads1 (h := h) (n := n) (q1 := q1) (q2 := q2) (q3 := q3) (base := base) (mem := mem) (F := F) hr)
  unfold envV
  clear r hs hr hv hby n1 n2 b1 b2
  cases hf : fst (virtW base n mem root) satp user sum mxr va a with
  | ok ga =>
    have HGU := Lib.hid (FO.out ga hf)
    rw [hf] at TF
    have HFF := Lib.hid hf
    have TF2 : translate base n mem satp root user sum mxr va a = (if (guest base n mem root ga a).2.2 ≠ 0 then ⟨0, ga, (guest base n mem root ga a).2.2, false⟩ else ⟨(guest base n mem root ga a).1, ga, 0, false⟩) := TF
    have HGA := Lib.hid (fun w (v : Ram w h base n mem F) => guest_any v root ga a HR.out HGU.out)
    clear TF hf FB FO
    generalize guest base n mem root ga a = G at TF2 HGA
    obtain ⟨x, pm, q⟩ := G
    simp only at TF2 HGA
    by_cases hq : q = 0
    · subst hq
      rw [if_neg (fun h => h rfl)] at TF2
      have E := Lib.hid TF2
      clear TF2
      go_enter Tryz.func31, Tryz.ntmps31
      go_wp2_with (first
 | ((with_reducible refine Step.gate_box (t := 30) rfl ?_); refine Step.fresh (cs := #[.pointer (some ⟨h, 0, none⟩)]) (T := 30) rfl ?hr ?_; (case hr => go_simp); intro q1 w1 b hg hb; have A1 := Lib.hid b; have HB1 := Lib.hid hb; have S1 := Lib.hid (show W.heap.size ≤ q1 ∧ q1 < w1.heap.size from ⟨hg, b.lt⟩); clear b hg hb)
 | ((with_reducible refine Step.gate_box (t := 82) rfl ?_); refine Step.fresh (cs := #[.int .u64 satp, .int .u64 root, .bool user, .bool sum, .bool mxr]) (T := 82) rfl ?hr ?_; (case hr => go_simp); intro q2 w2 b hg hb; have A2 := Lib.hid b; have A12 := Lib.hid (A1.out.below hb); have HB2 := Lib.hid (HB1.out.trans (hb.mono HB1.out.size)); have S2 := Lib.hid (show w1.heap.size ≤ q2 ∧ q2 < w2.heap.size from ⟨hg, b.lt⟩); clear b hg hb)
 | (refine Step.freshAlloc rfl rfl (alloc_agg zero_place) ?_; (first
            | (have this := Lib.hid A8; intro q3 w4 b hg hb; have A3 := Lib.hid b; have A84 := Lib.hid (A8.out.below hb); have A14 := Lib.hid (A13.out.below hb); have A24 := Lib.hid (A23.out.below hb); have HB4 := Lib.hid (HB3.out.trans (hb.mono HB3.out.size)); have S4 := Lib.hid (show w3.heap.size ≤ q3 ∧ q3 < w4.heap.size from ⟨hg, b.lt⟩); clear b hg hb this)
            | (intro g8 w3 b hg hb; have A8 := Lib.hid b; have A13 := Lib.hid (A12.out.below hb); have A23 := Lib.hid (A2.out.below hb); have HB3 := Lib.hid (HB2.out.trans (hb.mono HB2.out.size)); have S3 := Lib.hid (show w2.heap.size ≤ g8 ∧ g8 < w3.heap.size from ⟨hg, b.lt⟩); clear b hg hb)))
 | (refine Step.loadAll A24.out rfl rfl rfl hu2 rfl size_env ?_)
 | ((with_reducible refine Step.gate_box (t := 112) rfl ?_); refine Step.fresh (cs := #[.nilFunc, .int .u64 0, .int .i64 0, .int .u64 satp, .int .u64 root, .bool user, .bool sum, .bool mxr]) (T := 112) rfl ?hr ?_; (case hr => go_simp); intro g w5 b hg hb; have A5 := Lib.hid b; have A85 := Lib.hid (A84.out.below hb); have A15 := Lib.hid (A14.out.below hb); have A25 := Lib.hid (A24.out.below hb); have A35 := Lib.hid (A3.out.below hb); have HB5 := Lib.hid (HB4.out.trans (hb.mono HB4.out.size)); have S5 := Lib.hid (show w4.heap.size ≤ g ∧ g < w5.heap.size from ⟨hg, b.lt⟩); clear b hg hb)
 | (refine Step.store A5.out rfl rfl rfl rfl rfl pl_fn rfl rfl ?_; intro w6 nb m; have A6 := Lib.hid (show Blk w6 g (fstV q1 q2 q3 0 0 satp root user sum mxr) 112 from nb); have HS6 := Lib.hid (show W.heap.size ≤ q1 ∧ q1 < q2 ∧ q2 < g8 ∧ g8 < q3 ∧ q3 < g from by have := S1.out; have := S2.out; have := S3.out; have := S4.out; have := S5.out; omega); have A86 := Lib.hid (A85.out.one m (by have := HS6.out; omega)); have VI := Lib.hid (show VInv h q1 q2 q3 base n mem F root w6 from ⟨(R.out.below HB5.out).mod m (fun k hk e => by have := R.out.bound k hk; have := HS6.out; obtain rfl : k = g := e; omega), ((A15.out.one m (by have := HS6.out; omega)).cell 0).trans rfl, ((A25.out.one m (by have := HS6.out; omega)).cell 1).trans rfl, A35.out.one m (by have := HS6.out; omega)⟩); have HB6 := Lib.hid (below_mod HB5.out HB5.out.size m (fun k hk e => by obtain rfl : k = g := e; have := HS6.out; omega)); have KV := Lib.hid (show ∀ w w', VInv h q1 q2 q3 base n mem F root w → Mod (One g) w w' → VInv h q1 q2 q3 base n mem F root w' from fun w w' v m => v.mod m (fun k hk e => by have := R.out.bound k hk; have := HS6.out; obtain rfl : k = g := e; omega) (fun e => by obtain rfl : q1 = g := e; have := HS6.out; omega) (fun e => by obtain rfl : q2 = g := e; have := HS6.out; omega) (fun e => by obtain rfl : q3 = g := e; have := HS6.out; omega)); clear nb m A1 A12 A13 A14 A15 A2 A23 A24 A25 A3 A35 A8 A84 A85 A5 HB1 HB2 HB3 HB4 HB5 S1 S2 S3 S4 S5)
 | (go_at_call 55; refine (go1_any A6.out (RD.out q1 q2 q3) HU.out HF.out VI.out (fun e => by have := HS6.out; obtain rfl : g = q3 := e; omega) KV.out HS.out HV.out a).mono ?_; rw [HFF.out]; rintro e w7 ⟨rfl, hi, hm⟩; have A87 := Lib.hid (A86.out.mod hm (fun e => by have := HS6.out; rcases e with e | e; (obtain rfl : g8 = q3 := e; omega); omega)); have HI7 := Lib.hid hi; have HB7 := Lib.hid (below_mod HB6.out HB6.out.size hm (fun k hk e => by have := HS6.out; rcases e with e | e; (obtain rfl : k = q3 := e; omega); omega)); have k2 := hi.bad.cell 2; simp only [List.getElem?_toArray, List.getElem?_cons_zero, List.getElem?_cons_succ] at k2; have v1 := hi.box; have v2 := hi.env; clear hi hm)
 | (go_at_call 54; refine (HGA.out _ HI7.out.ram).mono ?_; rintro e w8 ⟨rfl, hb⟩; have A88 := Lib.hid (A87.out.below hb); have HB8 := Lib.hid (HB7.out.trans (hb.mono HB7.out.size)); clear hb v1 v2 k2)
 | (refine Step.storeAll (vs := #[.int .u64 x, .int .u64 ga, .int .i64 0, .bool false]) A88.out rfl rfl rfl rfl rfl size_place rfl rfl ?_; intro w9 nb m; have N9 := Lib.hid nb; have HB9 := Lib.hid (below_mod HB8.out HB8.out.size m (fun k hk e => by obtain rfl : k = g8 := e; have := HS6.out; omega)); clear nb m))
      refine bodyPost_ret (results_row1 rfl _ _ g8 _ _ _ rfl N9.out hu rfl size_place) rfl ⟨by rw [E.out]; rfl, HB9.out⟩
    · rw [if_pos hq] at TF2
      have E := Lib.hid TF2
      have dq : (q != 0) = true := by simpa using hq
      clear TF2 hq
      go_enter Tryz.func31, Tryz.ntmps31
      go_wp2_with (first
 | ((with_reducible refine Step.gate_box (t := 30) rfl ?_); refine Step.fresh (cs := #[.pointer (some ⟨h, 0, none⟩)]) (T := 30) rfl ?hr ?_; (case hr => go_simp); intro q1 w1 b hg hb; have A1 := Lib.hid b; have HB1 := Lib.hid hb; have S1 := Lib.hid (show W.heap.size ≤ q1 ∧ q1 < w1.heap.size from ⟨hg, b.lt⟩); clear b hg hb)
 | ((with_reducible refine Step.gate_box (t := 82) rfl ?_); refine Step.fresh (cs := #[.int .u64 satp, .int .u64 root, .bool user, .bool sum, .bool mxr]) (T := 82) rfl ?hr ?_; (case hr => go_simp); intro q2 w2 b hg hb; have A2 := Lib.hid b; have A12 := Lib.hid (A1.out.below hb); have HB2 := Lib.hid (HB1.out.trans (hb.mono HB1.out.size)); have S2 := Lib.hid (show w1.heap.size ≤ q2 ∧ q2 < w2.heap.size from ⟨hg, b.lt⟩); clear b hg hb)
 | (refine Step.freshAlloc rfl rfl (alloc_agg zero_place) ?_; (first
            | (have this := Lib.hid A8; intro q3 w4 b hg hb; have A3 := Lib.hid b; have A84 := Lib.hid (A8.out.below hb); have A14 := Lib.hid (A13.out.below hb); have A24 := Lib.hid (A23.out.below hb); have HB4 := Lib.hid (HB3.out.trans (hb.mono HB3.out.size)); have S4 := Lib.hid (show w3.heap.size ≤ q3 ∧ q3 < w4.heap.size from ⟨hg, b.lt⟩); clear b hg hb this)
            | (intro g8 w3 b hg hb; have A8 := Lib.hid b; have A13 := Lib.hid (A12.out.below hb); have A23 := Lib.hid (A2.out.below hb); have HB3 := Lib.hid (HB2.out.trans (hb.mono HB2.out.size)); have S3 := Lib.hid (show w2.heap.size ≤ g8 ∧ g8 < w3.heap.size from ⟨hg, b.lt⟩); clear b hg hb)))
 | (refine Step.loadAll A24.out rfl rfl rfl hu2 rfl size_env ?_)
 | ((with_reducible refine Step.gate_box (t := 112) rfl ?_); refine Step.fresh (cs := #[.nilFunc, .int .u64 0, .int .i64 0, .int .u64 satp, .int .u64 root, .bool user, .bool sum, .bool mxr]) (T := 112) rfl ?hr ?_; (case hr => go_simp); intro g w5 b hg hb; have A5 := Lib.hid b; have A85 := Lib.hid (A84.out.below hb); have A15 := Lib.hid (A14.out.below hb); have A25 := Lib.hid (A24.out.below hb); have A35 := Lib.hid (A3.out.below hb); have HB5 := Lib.hid (HB4.out.trans (hb.mono HB4.out.size)); have S5 := Lib.hid (show w4.heap.size ≤ g ∧ g < w5.heap.size from ⟨hg, b.lt⟩); clear b hg hb)
 | (refine Step.store A5.out rfl rfl rfl rfl rfl pl_fn rfl rfl ?_; intro w6 nb m; have A6 := Lib.hid (show Blk w6 g (fstV q1 q2 q3 0 0 satp root user sum mxr) 112 from nb); have HS6 := Lib.hid (show W.heap.size ≤ q1 ∧ q1 < q2 ∧ q2 < g8 ∧ g8 < q3 ∧ q3 < g from by have := S1.out; have := S2.out; have := S3.out; have := S4.out; have := S5.out; omega); have A86 := Lib.hid (A85.out.one m (by have := HS6.out; omega)); have VI := Lib.hid (show VInv h q1 q2 q3 base n mem F root w6 from ⟨(R.out.below HB5.out).mod m (fun k hk e => by have := R.out.bound k hk; have := HS6.out; obtain rfl : k = g := e; omega), ((A15.out.one m (by have := HS6.out; omega)).cell 0).trans rfl, ((A25.out.one m (by have := HS6.out; omega)).cell 1).trans rfl, A35.out.one m (by have := HS6.out; omega)⟩); have HB6 := Lib.hid (below_mod HB5.out HB5.out.size m (fun k hk e => by obtain rfl : k = g := e; have := HS6.out; omega)); have KV := Lib.hid (show ∀ w w', VInv h q1 q2 q3 base n mem F root w → Mod (One g) w w' → VInv h q1 q2 q3 base n mem F root w' from fun w w' v m => v.mod m (fun k hk e => by have := R.out.bound k hk; have := HS6.out; obtain rfl : k = g := e; omega) (fun e => by obtain rfl : q1 = g := e; have := HS6.out; omega) (fun e => by obtain rfl : q2 = g := e; have := HS6.out; omega) (fun e => by obtain rfl : q3 = g := e; have := HS6.out; omega)); clear nb m A1 A12 A13 A14 A15 A2 A23 A24 A25 A3 A35 A8 A84 A85 A5 HB1 HB2 HB3 HB4 HB5 S1 S2 S3 S4 S5)
 | (go_at_call 55; refine (go1_any A6.out (RD.out q1 q2 q3) HU.out HF.out VI.out (fun e => by have := HS6.out; obtain rfl : g = q3 := e; omega) KV.out HS.out HV.out a).mono ?_; rw [HFF.out]; rintro e w7 ⟨rfl, hi, hm⟩; have A87 := Lib.hid (A86.out.mod hm (fun e => by have := HS6.out; rcases e with e | e; (obtain rfl : g8 = q3 := e; omega); omega)); have HI7 := Lib.hid hi; have HB7 := Lib.hid (below_mod HB6.out HB6.out.size hm (fun k hk e => by have := HS6.out; rcases e with e | e; (obtain rfl : k = q3 := e; omega); omega)); have k2 := hi.bad.cell 2; simp only [List.getElem?_toArray, List.getElem?_cons_zero, List.getElem?_cons_succ] at k2; have v1 := hi.box; have v2 := hi.env; clear hi hm)
 | (go_at_call 54; refine (HGA.out _ HI7.out.ram).mono ?_; rintro e w8 ⟨rfl, hb⟩; have A88 := Lib.hid (A87.out.below hb); have HB8 := Lib.hid (HB7.out.trans (hb.mono HB7.out.size)); clear hb v1 v2 k2)
 | (refine Step.storeAll (vs := #[.int .u64 0, .int .u64 ga, .int .i64 q, .bool false]) A88.out rfl rfl rfl rfl rfl size_place rfl rfl ?_; intro w9 nb m; have N9 := Lib.hid nb; have HB9 := Lib.hid (below_mod HB8.out HB8.out.size m (fun k hk e => by obtain rfl : k = g8 := e; have := HS6.out; omega)); clear nb m))
      refine bodyPost_ret (results_row1 rfl _ _ g8 _ _ _ rfl N9.out hu rfl size_place) rfl ⟨by rw [E.out]; rfl, HB9.out⟩
  | page =>
    rw [hf] at TF
    have E := Lib.hid TF
    have HFF := Lib.hid hf
    clear TF hf FB FO
    go_enter Tryz.func31, Tryz.ntmps31
    go_wp2_with (first
 | ((with_reducible refine Step.gate_box (t := 30) rfl ?_); refine Step.fresh (cs := #[.pointer (some ⟨h, 0, none⟩)]) (T := 30) rfl ?hr ?_; (case hr => go_simp); intro q1 w1 b hg hb; have A1 := Lib.hid b; have HB1 := Lib.hid hb; have S1 := Lib.hid (show W.heap.size ≤ q1 ∧ q1 < w1.heap.size from ⟨hg, b.lt⟩); clear b hg hb)
 | ((with_reducible refine Step.gate_box (t := 82) rfl ?_); refine Step.fresh (cs := #[.int .u64 satp, .int .u64 root, .bool user, .bool sum, .bool mxr]) (T := 82) rfl ?hr ?_; (case hr => go_simp); intro q2 w2 b hg hb; have A2 := Lib.hid b; have A12 := Lib.hid (A1.out.below hb); have HB2 := Lib.hid (HB1.out.trans (hb.mono HB1.out.size)); have S2 := Lib.hid (show w1.heap.size ≤ q2 ∧ q2 < w2.heap.size from ⟨hg, b.lt⟩); clear b hg hb)
 | (refine Step.freshAlloc rfl rfl (alloc_agg zero_place) ?_; (first
          | (have this := Lib.hid A8; intro q3 w4 b hg hb; have A3 := Lib.hid b; have A84 := Lib.hid (A8.out.below hb); have A14 := Lib.hid (A13.out.below hb); have A24 := Lib.hid (A23.out.below hb); have HB4 := Lib.hid (HB3.out.trans (hb.mono HB3.out.size)); have S4 := Lib.hid (show w3.heap.size ≤ q3 ∧ q3 < w4.heap.size from ⟨hg, b.lt⟩); clear b hg hb this)
          | (intro g8 w3 b hg hb; have A8 := Lib.hid b; have A13 := Lib.hid (A12.out.below hb); have A23 := Lib.hid (A2.out.below hb); have HB3 := Lib.hid (HB2.out.trans (hb.mono HB2.out.size)); have S3 := Lib.hid (show w2.heap.size ≤ g8 ∧ g8 < w3.heap.size from ⟨hg, b.lt⟩); clear b hg hb)))
 | (refine Step.loadAll A24.out rfl rfl rfl hu2 rfl size_env ?_)
 | ((with_reducible refine Step.gate_box (t := 112) rfl ?_); refine Step.fresh (cs := #[.nilFunc, .int .u64 0, .int .i64 0, .int .u64 satp, .int .u64 root, .bool user, .bool sum, .bool mxr]) (T := 112) rfl ?hr ?_; (case hr => go_simp); intro g w5 b hg hb; have A5 := Lib.hid b; have A85 := Lib.hid (A84.out.below hb); have A15 := Lib.hid (A14.out.below hb); have A25 := Lib.hid (A24.out.below hb); have A35 := Lib.hid (A3.out.below hb); have HB5 := Lib.hid (HB4.out.trans (hb.mono HB4.out.size)); have S5 := Lib.hid (show w4.heap.size ≤ g ∧ g < w5.heap.size from ⟨hg, b.lt⟩); clear b hg hb)
 | (refine Step.store A5.out rfl rfl rfl rfl rfl pl_fn rfl rfl ?_; intro w6 nb m; have A6 := Lib.hid (show Blk w6 g (fstV q1 q2 q3 0 0 satp root user sum mxr) 112 from nb); have HS6 := Lib.hid (show W.heap.size ≤ q1 ∧ q1 < q2 ∧ q2 < g8 ∧ g8 < q3 ∧ q3 < g from by have := S1.out; have := S2.out; have := S3.out; have := S4.out; have := S5.out; omega); have A86 := Lib.hid (A85.out.one m (by have := HS6.out; omega)); have VI := Lib.hid (show VInv h q1 q2 q3 base n mem F root w6 from ⟨(R.out.below HB5.out).mod m (fun k hk e => by have := R.out.bound k hk; have := HS6.out; obtain rfl : k = g := e; omega), ((A15.out.one m (by have := HS6.out; omega)).cell 0).trans rfl, ((A25.out.one m (by have := HS6.out; omega)).cell 1).trans rfl, A35.out.one m (by have := HS6.out; omega)⟩); have HB6 := Lib.hid (below_mod HB5.out HB5.out.size m (fun k hk e => by obtain rfl : k = g := e; have := HS6.out; omega)); have KV := Lib.hid (show ∀ w w', VInv h q1 q2 q3 base n mem F root w → Mod (One g) w w' → VInv h q1 q2 q3 base n mem F root w' from fun w w' v m => v.mod m (fun k hk e => by have := R.out.bound k hk; have := HS6.out; obtain rfl : k = g := e; omega) (fun e => by obtain rfl : q1 = g := e; have := HS6.out; omega) (fun e => by obtain rfl : q2 = g := e; have := HS6.out; omega) (fun e => by obtain rfl : q3 = g := e; have := HS6.out; omega)); clear nb m A1 A12 A13 A14 A15 A2 A23 A24 A25 A3 A35 A8 A84 A85 A5 HB1 HB2 HB3 HB4 HB5 S1 S2 S3 S4 S5)
 | (go_at_call 55; refine (go1_any A6.out (RD.out q1 q2 q3) HU.out HF.out VI.out (fun e => by have := HS6.out; obtain rfl : g = q3 := e; omega) KV.out HS.out HV.out a).mono ?_; rw [HFF.out]; rintro e w7 ⟨rfl, hi, hm⟩; have A87 := Lib.hid (A86.out.mod hm (fun e => by have := HS6.out; rcases e with e | e; (obtain rfl : g8 = q3 := e; omega); omega)); have HI7 := Lib.hid hi; have HB7 := Lib.hid (below_mod HB6.out HB6.out.size hm (fun k hk e => by have := HS6.out; rcases e with e | e; (obtain rfl : k = q3 := e; omega); omega)); have k2 := hi.bad.cell 2; simp only [List.getElem?_toArray, List.getElem?_cons_zero, List.getElem?_cons_succ] at k2; clear hi hm)
 | (refine Step.storeAll (vs := #[.int .u64 0, .int .u64 0, .int .i64 1, .bool false]) A87.out rfl rfl rfl rfl rfl size_place rfl rfl ?_; intro w9 nb m; have N9 := Lib.hid nb; have HB9 := Lib.hid (below_mod HB7.out HB7.out.size m (fun k hk e => by obtain rfl : k = g8 := e; have := HS6.out; omega)); clear nb m))
    refine bodyPost_ret (results_row1 rfl _ _ g8 _ _ _ rfl N9.out hu rfl size_place) rfl ⟨by rw [E.out]; rfl, HB9.out⟩
  | bus f t i =>
    obtain ⟨ht, hi, hfe, hf0⟩ := FB.out f t i hf
    rw [hf] at TF
    have E := Lib.hid (show translate base n mem satp root user sum mxr va a = ⟨0, vaddr t i, (virtW base n mem root t i).2, true⟩ by rw [TF, vaddr_in ht hi, ← hfe]; rfl)
    have HFF := Lib.hid hf
    have df : ((virtW base n mem root t i).2 != 0) = true := by rw [← hfe]; simpa using hf0
    clear TF hf FB FO ht hi hfe hf0
    go_enter Tryz.func31, Tryz.ntmps31
    go_wp2_with (first
 | ((with_reducible refine Step.gate_box (t := 30) rfl ?_); refine Step.fresh (cs := #[.pointer (some ⟨h, 0, none⟩)]) (T := 30) rfl ?hr ?_; (case hr => go_simp); intro q1 w1 b hg hb; have A1 := Lib.hid b; have HB1 := Lib.hid hb; have S1 := Lib.hid (show W.heap.size ≤ q1 ∧ q1 < w1.heap.size from ⟨hg, b.lt⟩); clear b hg hb)
 | ((with_reducible refine Step.gate_box (t := 82) rfl ?_); refine Step.fresh (cs := #[.int .u64 satp, .int .u64 root, .bool user, .bool sum, .bool mxr]) (T := 82) rfl ?hr ?_; (case hr => go_simp); intro q2 w2 b hg hb; have A2 := Lib.hid b; have A12 := Lib.hid (A1.out.below hb); have HB2 := Lib.hid (HB1.out.trans (hb.mono HB1.out.size)); have S2 := Lib.hid (show w1.heap.size ≤ q2 ∧ q2 < w2.heap.size from ⟨hg, b.lt⟩); clear b hg hb)
 | (refine Step.freshAlloc rfl rfl (alloc_agg zero_place) ?_; (first
          | (have this := Lib.hid A8; intro q3 w4 b hg hb; have A3 := Lib.hid b; have A84 := Lib.hid (A8.out.below hb); have A14 := Lib.hid (A13.out.below hb); have A24 := Lib.hid (A23.out.below hb); have HB4 := Lib.hid (HB3.out.trans (hb.mono HB3.out.size)); have S4 := Lib.hid (show w3.heap.size ≤ q3 ∧ q3 < w4.heap.size from ⟨hg, b.lt⟩); clear b hg hb this)
          | (intro g8 w3 b hg hb; have A8 := Lib.hid b; have A13 := Lib.hid (A12.out.below hb); have A23 := Lib.hid (A2.out.below hb); have HB3 := Lib.hid (HB2.out.trans (hb.mono HB2.out.size)); have S3 := Lib.hid (show w2.heap.size ≤ g8 ∧ g8 < w3.heap.size from ⟨hg, b.lt⟩); clear b hg hb)))
 | (refine Step.loadAll A24.out rfl rfl rfl hu2 rfl size_env ?_)
 | ((with_reducible refine Step.gate_box (t := 112) rfl ?_); refine Step.fresh (cs := #[.nilFunc, .int .u64 0, .int .i64 0, .int .u64 satp, .int .u64 root, .bool user, .bool sum, .bool mxr]) (T := 112) rfl ?hr ?_; (case hr => go_simp); intro g w5 b hg hb; have A5 := Lib.hid b; have A85 := Lib.hid (A84.out.below hb); have A15 := Lib.hid (A14.out.below hb); have A25 := Lib.hid (A24.out.below hb); have A35 := Lib.hid (A3.out.below hb); have HB5 := Lib.hid (HB4.out.trans (hb.mono HB4.out.size)); have S5 := Lib.hid (show w4.heap.size ≤ g ∧ g < w5.heap.size from ⟨hg, b.lt⟩); clear b hg hb)
 | (refine Step.store A5.out rfl rfl rfl rfl rfl pl_fn rfl rfl ?_; intro w6 nb m; have A6 := Lib.hid (show Blk w6 g (fstV q1 q2 q3 0 0 satp root user sum mxr) 112 from nb); have HS6 := Lib.hid (show W.heap.size ≤ q1 ∧ q1 < q2 ∧ q2 < g8 ∧ g8 < q3 ∧ q3 < g from by have := S1.out; have := S2.out; have := S3.out; have := S4.out; have := S5.out; omega); have A86 := Lib.hid (A85.out.one m (by have := HS6.out; omega)); have VI := Lib.hid (show VInv h q1 q2 q3 base n mem F root w6 from ⟨(R.out.below HB5.out).mod m (fun k hk e => by have := R.out.bound k hk; have := HS6.out; obtain rfl : k = g := e; omega), ((A15.out.one m (by have := HS6.out; omega)).cell 0).trans rfl, ((A25.out.one m (by have := HS6.out; omega)).cell 1).trans rfl, A35.out.one m (by have := HS6.out; omega)⟩); have HB6 := Lib.hid (below_mod HB5.out HB5.out.size m (fun k hk e => by obtain rfl : k = g := e; have := HS6.out; omega)); have KV := Lib.hid (show ∀ w w', VInv h q1 q2 q3 base n mem F root w → Mod (One g) w w' → VInv h q1 q2 q3 base n mem F root w' from fun w w' v m => v.mod m (fun k hk e => by have := R.out.bound k hk; have := HS6.out; obtain rfl : k = g := e; omega) (fun e => by obtain rfl : q1 = g := e; have := HS6.out; omega) (fun e => by obtain rfl : q2 = g := e; have := HS6.out; omega) (fun e => by obtain rfl : q3 = g := e; have := HS6.out; omega)); clear nb m A1 A12 A13 A14 A15 A2 A23 A24 A25 A3 A35 A8 A84 A85 A5 HB1 HB2 HB3 HB4 HB5 S1 S2 S3 S4 S5)
 | (go_at_call 55; refine (go1_any A6.out (RD.out q1 q2 q3) HU.out HF.out VI.out (fun e => by have := HS6.out; obtain rfl : g = q3 := e; omega) KV.out HS.out HV.out a).mono ?_; rw [HFF.out]; rintro e w7 ⟨rfl, hi, hm⟩; have A87 := Lib.hid (A86.out.mod hm (fun e => by have := HS6.out; rcases e with e | e; (obtain rfl : g8 = q3 := e; omega); omega)); have HI7 := Lib.hid hi; have HB7 := Lib.hid (below_mod HB6.out HB6.out.size hm (fun k hk e => by have := HS6.out; rcases e with e | e; (obtain rfl : k = q3 := e; omega); omega)); have hi2 : Blk w7 q3 #[.int .u64 0, .int .u64 (vaddr t i), .int .i64 (virtW base n mem root t i).2, .bool true] 79 := hi; have A37 := Lib.hid hi2; have k2 := hi2.cell 2; simp only [List.getElem?_toArray, List.getElem?_cons_zero, List.getElem?_cons_succ] at k2; clear hi2; clear hi hm)
 | (refine Step.loadAll A37.out rfl rfl rfl hu rfl size_place ?_)
 | (refine Step.storeAll (vs := #[.int .u64 0, .int .u64 (vaddr t i), .int .i64 (virtW base n mem root t i).2, .bool true]) A87.out rfl rfl rfl rfl rfl size_place rfl rfl ?_; intro w9 nb m; have N9 := Lib.hid nb; have HB9 := Lib.hid (below_mod HB7.out HB7.out.size m (fun k hk e => by obtain rfl : k = g8 := e; have := HS6.out; omega)); clear nb m))
    refine bodyPost_ret (results_row1 rfl _ _ g8 _ _ _ rfl N9.out hu rfl size_place) rfl ⟨by rw [E.out]; rfl, HB9.out⟩
end Go.Proofs.YtchpnbckgofiaaaGreat.Tab
end
