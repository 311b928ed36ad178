/- The second stage: Second.Go and page.Guest. -/
import Derived.Test.YtfoocpcpljlndaaDownA
import Derived.Test.YtfoocpcpljlndaaPageB
namespace Go.Proofs.Ytfoocpcpljlndaa.Tab
open Go Go.RowKit Go.Proofs.Ytfoocpcpljlndaa.Step Go.Proofs.Ytfoocpcpljlndaa.Mem
set_option linter.unusedVariables false
set_option linter.unusedSimpArgs false
set_option maxRecDepth 100000

theorem perm_d : ∀ k, k < 256 → k.testBit 7 = true → ((k &&& 14 : Nat) : Int) = (if k.testBit 1 = true then 2 else 0) + (if k.testBit 2 = true ∧ k.testBit 7 = true then 4 else 0) + (if k.testBit 3 = true then 8 else 0) := by decide +kernel
theorem perm_n : ∀ k, k < 256 → k.testBit 7 = false → bits .andNot .i64 ((k &&& 14 : Nat) : Int) 4 = (if k.testBit 1 = true then 2 else 0) + (if k.testBit 2 = true ∧ k.testBit 7 = true then 4 else 0) + (if k.testBit 3 = true then 8 else 0) := by decide +kernel
theorem small14 : ∀ k, k < 256 → (k &&& 14) < 16 := by decide +kernel
theorem and14 {x : Int} (h : U64 x) : bits .and .u64 x 14 = ((lo x &&& 14 : Nat) : Int) := and_lo 14 h (by decide)

theorem has_b' {W : World} {g : Nat} {leaf : Int} (c1 : W.cell? ⟨g, 1, none⟩ = some (.int .u64 leaf)) (h : U64 leaf) (z : Int) (c : Nat) (hz : z = c) (hc : c < 256) {b : Bool} (hb : hasN leaf c = b) :
    Calls Try.prog 43 #[.pointer (some ⟨g, 0, none⟩), .int .u64 z] W fun x w' => x = .returned (.bool b) ∧ W = w' := hb ▸ has_z c1 h z c hz hc
theorem reads2 {h n c : Nat} {base : Int} {mem : Nat → Int} {F : Nat → Prop} : Reads2 c (phys base n mem) (fun w => Ram w h base n mem F ∧ w.cell? ⟨c, 0, none⟩ = some (.pointer (some ⟨h, 0, none⟩))) (fun _ _ _ => True) Nil := by
  intro w t i ⟨r, cb⟩ ht hi
  refine (phys_any r cb t i ht hi).mono ?_
  rintro e w' ⟨rfl, hw⟩
  have hb := below_drawn hw
  exact ⟨rfl, Mod.of_below hb _, fun _ => ⟨r.below hb, (World.cell?_of_block (hb.block c (World.block_lt_of_cell? _ _ cb))).trans cb⟩, fun _ => trivial⟩

set_option maxHeartbeats 4000000 in
theorem go2_any {W : World} {g c h n : Nat} {base : Int} {mem : Nat → Int} {F : Nat → Prop} {leaf0 lev0 root : Int}
    (b : Blk W g #[.func (.func 40) #[] #[.pointer (some ⟨c, 0, none⟩)], .int .u64 leaf0, .int .i64 lev0, .int .u64 root] 60)
    (r : Ram W h base n mem F) (cb : W.cell? ⟨c, 0, none⟩ = some (.pointer (some ⟨h, 0, none⟩))) (hF : ¬ F g) (hc : c ≠ g) (hroot : U64 root) (gpa a : Int) (hg : U64 gpa) :
    Calls Try.prog 22 #[.pointer (some ⟨g, 0, none⟩), .int .u64 gpa, .int .i64 a] W fun e W' => e = .returned (.tuple #[.int .u64 (guest base n mem root gpa a).1, .int .i64 (guest base n mem root gpa a).2.1, .int .i64 (guest base n mem root gpa a).2.2]) ∧ Mod (One g) W W' := by
  have c3 := b.cell 3
  simp only [List.getElem?_toArray, List.getElem?_cons_zero, List.getElem?_cons_succ] at c3
  have lg := b.lt
  by_cases h0 : root = 0
  · subst h0
    have E := Lib.hid (show guest base n mem 0 gpa a = (gpa, 14, 0) from if_pos rfl)
    clear b r cb hroot hg
    go_enter Try.func22, Try.ntmps22
    go_wp2
    refine bodyPost_ret (results_tmp3 rfl _ _ _) rfl ⟨by rw [E.out]; rfl, Mod.refl _ _⟩
  have d0 : (root == 0) = false := by simpa using h0
  by_cases h1 : 549755813888 ≤ gpa
  · have d1 : decide (549755813888 ≤ gpa) = true := decide_eq_true h1
    have E := Lib.hid (show guest base n mem root gpa a = (0, 0, 2) by unfold guest; rw [if_neg h0, if_pos h1])
    clear b r cb hroot hg h0 h1
    go_enter Try.func22, Try.ntmps22
    go_wp2
    refine bodyPost_ret (results_tmp3 rfl _ _ _) rfl ⟨by rw [E.out]; rfl, Mod.refl _ _⟩
  have d1 : decide (549755813888 ≤ gpa) = false := decide_eq_false h1
  have hb0 := r.size
  have hby := fun i (hi : i < n * 4096) => r.byte hi
  have HU := Lib.hid (fun t (l : Nat) => (phys_u (t := t) (i := ix gpa l) hb0.2.2.1 hby).1)
  have HP := Lib.hid (fun t (l : Nat) => (phys_u (t := t) (i := ix gpa l) hb0.2.2.1 hby).2)
  have T := Lib.hid (fun w (hw : Below W.heap.size W w) => down2 (W := w) (t0 := root) (addr := gpa) (Wk.mk (b.below hw) rfl ⟨leaf0, rfl⟩ rfl) (reads2 (h := h) (n := n) (c := c) (base := base) (mem := mem) (F := F)) HU.out ⟨r.below hw, (hw.cell (p := ⟨c, 0, none⟩) (World.block_lt_of_cell? _ _ cb)).trans cb⟩ (fun h => h) (fun w1 w2 hi m => ⟨hi.1.mod m (fun k hk e => hF (by obtain rfl : k = g := e; exact hk)), (World.cell?_of_block (m.block c (World.block_lt_of_cell? _ _ hi.2) (fun e => hc e))).trans hi.2⟩) hroot hg)
  have G : guest base n mem root gpa a = guestOf gpa a (down (phys base n mem) gpa 3 root) := by unfold guest; rw [if_neg h0, if_neg h1]
  have HG := Lib.hid hg
  clear b r cb hF hc hroot hb0 hby h0 h1 hg
  cases hd : down (phys base n mem) gpa 3 root with
  | bus f t i =>
    obtain ⟨f0, f3⟩ := down_bus (P := fun f => f = 3) HP.out 3 _ _ _ _ hd
    subst f3
    rw [hd] at T G
    have E := Lib.hid G
    clear G hd HU HP f0
    go_enter Try.func22, Try.ntmps22
    go_wp2
    go_region_held3 (fun w' => w'.cell? ⟨g, 3, none⟩ = some (.int .u64 root)) (first | (go_keep; done) | exact ((hbx.cell 3).trans (hlx.2 3 (by decide) (by decide))))
      (((with_reducible refine (T.out _ (Below.drew (Below.refl _ _))).mono ?_); rintro e w9 ⟨rfl, _, hm, csx, hbx, hlx⟩))
    have HM := Lib.hid hm
    clear hm hbx hlx
    go_wp2
    refine bodyPost_ret (results_tmp3 rfl _ _ _) rfl ?_
    exact ⟨by rw [E.out]; rfl, ⟨HM.out.os, HM.out.tape, HM.out.output, HM.out.size, fun k hk hs => HM.out.block k hk (fun e => hs (e.resolve_left (fun h => h)))⟩⟩
  | page =>
    rw [hd] at T G
    have E := Lib.hid G
    clear G hd HU HP
    go_enter Try.func22, Try.ntmps22
    go_wp2
    go_region_held3 (fun w' => w'.cell? ⟨g, 3, none⟩ = some (.int .u64 root)) (first | (go_keep; done) | exact ((hbx.cell 3).trans (hlx.2 3 (by decide) (by decide))))
      (((with_reducible refine (T.out _ (Below.drew (Below.refl _ _))).mono ?_); rintro e w9 ⟨rfl, _, hm, csx, hbx, hlx⟩))
    have HM := Lib.hid hm
    clear hm hbx hlx
    go_wp2
    refine bodyPost_ret (results_tmp3 rfl _ _ _) rfl ?_
    exact ⟨by rw [E.out]; rfl, ⟨HM.out.os, HM.out.tape, HM.out.output, HM.out.size, fun k hk hs => HM.out.block k hk (fun e => hs (e.resolve_left (fun h => h)))⟩⟩
  | leaf x l =>
    obtain ⟨xu, xl, _, _, xo⟩ := down_leaf (addr := gpa) HU.out 3 _ _ _ hd
    have L2 : l ≤ 2 := by omega
    rw [hd] at T G
    have HXU := Lib.hid xu
    have HXO := Lib.hid xo
    clear hd HU HP xu xl xo
    cases hl : lets2 x a with
    | false =>
      have E := Lib.hid (G.trans (if_neg (by rw [hl]; decide)))
      have hlet := Lib.hid (fun (w : World) (c1 : w.cell? ⟨g, 1, none⟩ = some (.int .u64 x)) => (lets2_any c1 HXU.out a).mono fun e w' h => (by rw [hl] at h; exact h : e = .returned (.bool false) ∧ w = w'))
      clear G hl
      go_enter Try.func22, Try.ntmps22
      go_wp2
      go_region_held3 (fun w' => w'.cell? ⟨g, 3, none⟩ = some (.int .u64 root)) (first | (go_keep; done) | exact ((hbx.cell 3).trans (hlx.2 3 (by decide) (by decide))))
        (((with_reducible refine (T.out _ (Below.drew (Below.refl _ _))).mono ?_); rintro e w9 ⟨rfl, _, hm, csx, hbx, hlx, k1, _⟩))
      have HM := Lib.hid hm
      have c1 := (hbx.cell 1).trans k1
      clear hm hbx hlx
      go_wp2_with (go_at_call 42; refine (hlet.out _ c1).mono ?_; rintro e w1 ⟨rfl, rfl⟩)
      refine bodyPost_ret (results_tmp3 rfl _ _ _) rfl ?_
      exact ⟨by rw [E.out]; rfl, ⟨HM.out.os, HM.out.tape, HM.out.output, HM.out.size, fun k hk hs => HM.out.block k hk (fun e => hs (e.resolve_left (fun h => h)))⟩⟩
    | true =>
      have E := Lib.hid (G.trans (if_pos hl))
      have hlet := Lib.hid (fun (w : World) (c1 : w.cell? ⟨g, 1, none⟩ = some (.int .u64 x)) => (lets2_any c1 HXU.out a).mono fun e w' h => (by rw [hl] at h; exact h : e = .returned (.bool true) ∧ w = w'))
      have a14 := and14 HXU.out
      have s14 := small14 _ (lo_lt x)
      have w14 : IntKind.i64.wrap (bits .and .u64 x 14) = bits .and .u64 x 14 := IntWalk.i64_in _ (by omega)
      clear G hl s14
      cases h7 : bt x 7 with
      | true =>
        have hhas := Lib.hid (fun (w : World) (c1 : w.cell? ⟨g, 1, none⟩ = some (.int .u64 x)) => has_b' c1 HXU.out 128 128 rfl (by decide) ((has128 x).trans h7))
        have P := Lib.hid (show bits .and .u64 x 14 = perm x by rw [a14]; exact perm_d _ (lo_lt x) h7)
        clear a14 h7
        go_enter Try.func22, Try.ntmps22
        go_wp2
        go_region_held3 (fun w' => w'.cell? ⟨g, 3, none⟩ = some (.int .u64 root)) (first | (go_keep; done) | exact ((hbx.cell 3).trans (hlx.2 3 (by decide) (by decide))))
          (((with_reducible refine (T.out _ (Below.drew (Below.refl _ _))).mono ?_); rintro e w9 ⟨rfl, _, hm, csx, hbx, hlx, k1, k2⟩))
        have HM := Lib.hid hm
        have c1 := (hbx.cell 1).trans k1
        have c2 := (hbx.cell 2).trans k2
        clear hm hbx hlx
        go_wp2_with (first
          | (go_at_call 42; refine (hlet.out _ c1).mono ?_; rintro e w1 ⟨rfl, rfl⟩)
          | (go_at_call 43; refine (hhas.out _ c1).mono ?_; rintro e w1 ⟨rfl, rfl⟩)
          | (go_at_call 44; refine (place_any L2 c1 c2 HXU.out HG.out HXO.out).mono ?_; rintro e w2 ⟨rfl, hw⟩; have HW := Lib.hid hw; clear hw))
        refine bodyPost_ret (results_tmp3 rfl _ _ _) rfl ?_
        refine ⟨by rw [E.out, ← P.out]; rfl, ?_⟩
        obtain ⟨q, hq⟩ := HW.out
        rw [hq]
        exact ⟨HM.out.os, HM.out.tape, HM.out.output, HM.out.size, fun k hk hs => HM.out.block k hk (fun e => hs (e.resolve_left (fun h => h)))⟩
      | false =>
        have hhas := Lib.hid (fun (w : World) (c1 : w.cell? ⟨g, 1, none⟩ = some (.int .u64 x)) => has_b' c1 HXU.out 128 128 rfl (by decide) ((has128 x).trans h7))
        have P := Lib.hid (show bits .andNot .i64 (bits .and .u64 x 14) 4 = perm x by rw [a14]; exact perm_n _ (lo_lt x) h7)
        clear a14 h7
        go_enter Try.func22, Try.ntmps22
        go_wp2
        go_region_held3 (fun w' => w'.cell? ⟨g, 3, none⟩ = some (.int .u64 root)) (first | (go_keep; done) | exact ((hbx.cell 3).trans (hlx.2 3 (by decide) (by decide))))
          (((with_reducible refine (T.out _ (Below.drew (Below.refl _ _))).mono ?_); rintro e w9 ⟨rfl, _, hm, csx, hbx, hlx, k1, k2⟩))
        have HM := Lib.hid hm
        have c1 := (hbx.cell 1).trans k1
        have c2 := (hbx.cell 2).trans k2
        clear hm hbx hlx
        go_wp2_with (first
          | (go_at_call 42; refine (hlet.out _ c1).mono ?_; rintro e w1 ⟨rfl, rfl⟩)
          | (go_at_call 43; refine (hhas.out _ c1).mono ?_; rintro e w1 ⟨rfl, rfl⟩)
          | (go_at_call 44; refine (place_any L2 c1 c2 HXU.out HG.out HXO.out).mono ?_; rintro e w2 ⟨rfl, hw⟩; have HW := Lib.hid hw; clear hw))
        refine bodyPost_ret (results_tmp3 rfl _ _ _) rfl ?_
        refine ⟨by rw [E.out, ← P.out]; rfl, ?_⟩
        obtain ⟨q, hq⟩ := HW.out
        rw [hq]
        exact ⟨HM.out.os, HM.out.tape, HM.out.output, HM.out.size, fun k hk hs => HM.out.block k hk (fun e => hs (e.resolve_left (fun h => h)))⟩

theorem entry_any (W : World) (h : Nat) :
    Calls Try.prog 21 #[.pointer (some ⟨h, 0, none⟩)] W fun e W' => ∃ c, e = .returned (.func (.func 40) #[] #[.pointer (some ⟨c, 0, none⟩)]) ∧ Blk W' c #[.pointer (some ⟨h, 0, none⟩)] 28 ∧ W.heap.size ≤ c ∧ Below W.heap.size W W' := by
  go_enter Try.func21, Try.ntmps21
  go_wp2
  go_ret
  exact ⟨_, rfl, alloc_out _ _ _, Nat.le_refl _, alloc_below _ _⟩
theorem guest_any {W : World} {h n : Nat} {base : Int} {mem : Nat → Int} {F : Nat → Prop} (r : Ram W h base n mem F) (root gpa a : Int) (hroot : U64 root) (hg : U64 gpa) :
    Calls Try.prog 12 #[.pointer (some ⟨h, 0, none⟩), .int .u64 root, .int .u64 gpa, .int .i64 a] W fun e W' => e = .returned (.tuple #[.int .u64 (guest base n mem root gpa a).1, .int .i64 (guest base n mem root gpa a).2.1, .int .i64 (guest base n mem root gpa a).2.2]) ∧ Below W.heap.size W W' := by
  have R := Lib.hid r
  have HR := Lib.hid hroot
  have HG := Lib.hid hg
  have hu60 := Try.underlying60
  have hu58 := Try.underlying58
  clear r hroot hg
  go_enter Try.func12, Try.ntmps12
  go_wp2_with (first
    | (go_at_call 21; refine (entry_any _ _).mono ?_; rintro e w1 ⟨c, rfl, b, hc, hb⟩; have B1 := Lib.hid b; have HC := Lib.hid hc; have HB1 := Lib.hid hb; clear b hc hb)
    | ((with_reducible refine Step.gate_box (t := 60) rfl ?_); refine Step.fresh (cs := #[.func (.func 40) #[] #[.pointer (some ⟨c, 0, none⟩)], .int .u64 0, .int .i64 0, .int .u64 root]) (T := 60) rfl ?hr ?_; (case hr => first | (go_simp; done) | (go_simp; rfl)); intro g w2 b hg hb; have B2 := Lib.hid b; have HC2 := Lib.hid ((hb.cell (p := ⟨c, 0, none⟩) B1.out.lt).trans (B1.out.cell 0)); have HB2 := Lib.hid (HB1.out.trans (hb.mono HB1.out.size)); have HN := Lib.hid (show c ≠ g from fun e => by have := B1.out.lt; omega); have HF := Lib.hid (show ¬ F g from fun hf => by have := R.out.bound g hf; have := HB1.out.size; omega); have HGW := Lib.hid (show W.heap.size ≤ g from Nat.le_trans HB1.out.size hg); clear b hg hb)
    | (go_at_call 22; refine (go2_any B2.out (R.out.below HB2.out) HC2.out HF.out HN.out HR.out gpa a HG.out).mono ?_; rintro e w3 ⟨rfl, hm⟩; have HM := Lib.hid hm; clear hm))
  refine bodyPost_ret (results_tmp3 rfl _ _ _) rfl ⟨rfl, below_one HB2.out HM.out HGW.out⟩
end Go.Proofs.Ytfoocpcpljlndaa.Tab
