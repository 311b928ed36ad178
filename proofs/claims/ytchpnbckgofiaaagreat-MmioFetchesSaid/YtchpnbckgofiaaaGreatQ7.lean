/- Parts of the walks and laws for the claim: First; no conditions beyond the theorems' own. -/
import Derived.Test.YtchpnbckgofiaaaGreatQ5
import Derived.Test.YtchpnbckgofiaaaGreatQ6
section
namespace Go.Proofs.YtchpnbckgofiaaaGreat.Tab
open Go Go.RowKit Go.Proofs.YtchpnbckgofiaaaGreat.Step Go.Proofs.YtchpnbckgofiaaaGreat.Mem
set_option linter.unusedVariables false
set_option linter.unusedSimpArgs false
set_option maxRecDepth 100000
/-- What the first stage comes to. -/
inductive Fst where | ok (g : Int) | page | bus (f t i : Int)
def fstOf (user sum mxr : Bool) (va a : Int) : Res → Fst
  | .bus f t i => .bus f t i
  | .page => .page
  | .leaf e l => if lets1 user sum mxr e a = true then .ok (at_ e l va) else .page
def fst (rd : Int → Int → Int × Int) (satp : Int) (user sum mxr : Bool) (va a : Int) : Fst :=
  if satp / 1152921504606846976 = 0 then .ok va else if satp / 1152921504606846976 ≠ 8 then .page
  else if canon va = false then .page else fstOf user sum mxr va a (down rd va 3 (satp % 17592186044416))
def fstP : Fst → Place ⊕ Int
  | .ok g => .inr g
  | .page => .inl ⟨0, 0, 1, false⟩
  | .bus f t i => .inl ⟨0, t * 4096 + 8 * i, f, true⟩
theorem first_fst (rd : Int → Int → Int × Int) (satp : Int) (user sum mxr : Bool) (va a : Int) : first rd satp user sum mxr va a = fstP (fst rd satp user sum mxr va a) := by
  unfold first fst
  split
  · rfl
  split
  · rfl
  split
  · rfl
  cases down rd va 3 (satp % 17592186044416) with
  | bus f t i => rfl
  | page => rfl
  | leaf e l =>
    show (if lets1 user sum mxr e a = true then Sum.inr (at_ e l va) else Sum.inl ⟨0, 0, 1, false⟩) = fstP (if lets1 user sum mxr e a = true then .ok (at_ e l va) else .page)
    split <;> rfl
theorem canon_c {va : Int} (h : U64 va) : (wrap64 (IntKind.u64.wrap (va * 33554432)) / 33554432 != wrap64 va) = !canon va := by
  obtain ⟨h0, h1⟩ := h
  unfold canon wrap64
  rw [IntKind.wrap_u64]
  by_cases g : va < 274877906944
  · rw [decide_eq_true g]; simp; omega
  by_cases g2 : 18446743798831644672 ≤ va
  · rw [decide_eq_true g2]; simp; omega
  rw [decide_eq_false g, decide_eq_false g2]; simp; omega
def PostG (W W' : World) (g : Nat) (Inv : World → Prop) (Bad : Int → Int → World → Prop) (S : Nat → Prop) (e : Ending) : Fst → Prop
  | .ok x => e = .returned (.tuple #[.int .u64 x, .int .i64 0]) ∧ Inv W' ∧ Mod (fun k => S k ∨ k = g) W W'
  | .page => e = .returned (.tuple #[.int .u64 0, .int .i64 1]) ∧ Inv W' ∧ Mod (fun k => S k ∨ k = g) W W'
  | .bus f t i => e = .returned (.tuple #[.int .u64 0, .int .i64 f]) ∧ Bad t i W' ∧ Mod (fun k => S k ∨ k = g) W W'
def fstV (q1 q2 q3 : Nat) (leaf lev satp root : Int) (user sum mxr : Bool) : Array Value := #[.func (.func 53) #[] #[.pointer (some ⟨q1, 0, none⟩), .pointer (some ⟨q2, 0, none⟩), .pointer (some ⟨q3, 0, none⟩)], .int .u64 leaf, .int .i64 lev, .int .u64 satp, .int .u64 root, .bool user, .bool sum, .bool mxr]
set_option maxHeartbeats 8000000 in
theorem go1_any {W : World} {g q1 q2 q3 : Nat} {leaf0 lev0 satp root va : Int} {user sum mxr : Bool} {rd : Int → Int → Int × Int} {Inv : World → Prop} {Bad : Int → Int → World → Prop} {S : Nat → Prop}
    (b : Blk W g (fstV q1 q2 q3 leaf0 lev0 satp root user sum mxr) 112) (hr : Reads1 q1 q2 q3 rd Inv Bad S) (hu : ∀ t l, U64 (rd t (ix va l)).1) (hf : ∀ t l, (rd t (ix va l)).2 = 0 ∨ (rd t (ix va l)).2 = 2 ∨ (rd t (ix va l)).2 = 3) (hi : Inv W) (hg : ¬ S g) (hk : ∀ w w', Inv w → Mod (One g) w w' → Inv w') (hs : U64 satp) (hv : U64 va) (a : Int) :
    Calls Tryz.prog 55 #[.pointer (some ⟨g, 0, none⟩), .int .u64 va, .int .i64 a] W fun e W' => PostG W W' g Inv Bad S e (fst rd satp user sum mxr va a) := by
  have c3 := b.cell 3
  unfold fstV at c3
  simp only [List.getElem?_toArray, List.getElem?_cons_zero, List.getElem?_cons_succ] at c3
  have hi0 : ∀ w, Below W.heap.size W w → Inv w := fun w hb => hk _ _ hi (Mod.of_below hb _)
  have HI := Lib.hid hi
  have hk0 := hk
  have E : fst rd satp user sum mxr va a = (if satp / 1152921504606846976 = 0 then .ok va else if satp / 1152921504606846976 ≠ 8 then .page else if canon va = false then .page else fstOf user sum mxr va a (down rd va 3 (satp % 17592186044416))) := rfl
  by_cases m0 : satp / 1152921504606846976 = 0
  · rw [if_pos m0] at E
    have EE := Lib.hid E
    have d0 : (satp / 1152921504606846976 == 0) = true := by simpa using m0
    clear E b hr hu hf hi hg hk hs hv hi0 m0
    go_enter Tryz.func55, Tryz.ntmps55
    go_wp2
    refine bodyPost_ret (results_tmp2 rfl _ _ _) rfl ?_
    rw [EE.out]
    exact ⟨rfl, HI.out, Mod.refl _ _⟩
  rw [if_neg m0] at E
  have d0 : (satp / 1152921504606846976 == 0) = false := by simpa using m0
  by_cases m8 : satp / 1152921504606846976 ≠ 8
  · rw [if_pos m8] at E
    have EE := Lib.hid E
    have d8 : (satp / 1152921504606846976 == 8) = false := by simpa using m8
    clear E b hr hu hf hi hg hk hs hv hi0 m0 m8
    go_enter Tryz.func55, Tryz.ntmps55
    go_wp2
    refine bodyPost_ret (results_tmp2 rfl _ _ _) rfl ?_
    rw [EE.out]
    exact ⟨rfl, HI.out, Mod.refl _ _⟩
  rw [if_neg m8] at E
  have d8 : (satp / 1152921504606846976 == 8) = true := by simpa using m8
  have cc := canon_c hv
  cases hc : canon va with
  | false =>
    rw [if_pos hc] at E
    rw [hc] at cc
    have EE := Lib.hid E
    clear E b hr hu hf hi hg hk hs hv hi0 m0 m8 hc
    simp only [Bool.not_false] at cc
    go_enter Tryz.func55, Tryz.ntmps55
    go_wp2
    refine bodyPost_ret (results_tmp2 rfl _ _ _) rfl ?_
    rw [EE.out]
    exact ⟨rfl, HI.out, Mod.refl _ _⟩
  | true =>
    rw [if_neg (by rw [hc]; decide)] at E
    rw [hc] at cc
    simp only [Bool.not_true] at cc
    have tb : U64 (satp % 17592186044416) := ⟨by omega, by omega⟩
    have hmask : bits .and .u64 satp 17592186044415 = satp % 17592186044416 := and_mask 44 hs (by decide)
    have HB := Lib.hid b
    have T := Lib.hid (fun w (hw : Below W.heap.size W w) => down1 (W := w) (t0 := satp % 17592186044416) (addr := va) (Wk.mk (b.below hw) rfl ⟨leaf0, rfl⟩ rfl) hr hu (hi0 w hw) hg hk tb hv)
    have HV := Lib.hid hv
    have HU := Lib.hid hu
    have HF := Lib.hid hf
    clear b hr hu hf hi hg hk hs hv hi0 m0 m8 hc tb
    cases hd : down rd va 3 (satp % 17592186044416) with
    | bus f t i =>
      obtain ⟨f0, _⟩ := down_bus (P := fun f => f = 2 ∨ f = 3) HF.out 3 _ _ _ _ hd
      rw [hd] at T E
      have EE := Lib.hid E
      have df : (f != 0) = true := by simpa using f0
      clear E hd HU HF f0
      go_enter Tryz.func55, Tryz.ntmps55
      go_wp2
      go_region_held3 (fun w' => w'.cell? ⟨g, 3, none⟩ = some (.int .u64 satp)) (first | (go_keep; done) | exact ((hbx.cell 3).trans (hlx.2 3 (by decide) (by decide))))
        (((with_reducible refine (T.out _ (Below.drew (Below.refl _ _))).mono ?_); rintro e w9 ⟨rfl, hi, hm, csx, hbx, hlx⟩))
      have HM := Lib.hid (show Mod (fun k => S k ∨ k = g) W w9 from ⟨hm.os, hm.tape, hm.output, hm.size, hm.block⟩)
      have HI9 := Lib.hid hi
      clear hm hbx hlx hi
      go_wp2
      refine bodyPost_ret (results_tmp2 rfl _ _ _) rfl ?_
      rw [EE.out]
      exact ⟨rfl, HI9.out, HM.out⟩
    | page =>
      rw [hd] at T E
      have EE := Lib.hid E
      clear E hd HU HF
      go_enter Tryz.func55, Tryz.ntmps55
      go_wp2
      go_region_held3 (fun w' => w'.cell? ⟨g, 3, none⟩ = some (.int .u64 satp)) (first | (go_keep; done) | exact ((hbx.cell 3).trans (hlx.2 3 (by decide) (by decide))))
        (((with_reducible refine (T.out _ (Below.drew (Below.refl _ _))).mono ?_); rintro e w9 ⟨rfl, hi, hm, csx, hbx, hlx⟩))
      have HM := Lib.hid (show Mod (fun k => S k ∨ k = g) W w9 from ⟨hm.os, hm.tape, hm.output, hm.size, hm.block⟩)
      have HI9 := Lib.hid hi
      clear hm hbx hlx hi
      go_wp2
      refine bodyPost_ret (results_tmp2 rfl _ _ _) rfl ?_
      rw [EE.out]
      exact ⟨rfl, HI9.out, HM.out⟩
    | leaf x l =>
      obtain ⟨xu, xl, _, _, xo⟩ := down_leaf (addr := va) HU.out 3 _ _ _ hd
      have L2 : l ≤ 2 := by omega
      rw [hd] at T E
      have HXU := Lib.hid xu
      have HXO := Lib.hid xo
      have HLT := Lib.hid (fun (b : Bool) (hb : lets1 user sum mxr x a = b) (w : World) (c1 : w.cell? ⟨g, 1, none⟩ = some (.int .u64 x)) (c5 : w.cell? ⟨g, 5, none⟩ = some (.bool user)) (c6 : w.cell? ⟨g, 6, none⟩ = some (.bool sum)) (c7 : w.cell? ⟨g, 7, none⟩ = some (.bool mxr)) => (lets1_any c1 c5 c6 c7 xu a).mono fun e w' h => (by rw [hb] at h; exact h : e = .returned (.bool b) ∧ w = w'))
      clear hd HU HF xu xl xo
      cases hl : lets1 user sum mxr x a with
      | false =>
        have EE := Lib.hid (E.trans (if_neg (by rw [hl]; decide)))
        have HL := Lib.hid (HLT.out false hl)
        clear E hl HLT
        go_enter Tryz.func55, Tryz.ntmps55
        go_wp2
        go_region_held3 (fun w' => w'.cell? ⟨g, 3, none⟩ = some (.int .u64 satp)) (first | (go_keep; done) | exact ((hbx.cell 3).trans (hlx.2 3 (by decide) (by decide))))
          (((with_reducible refine (T.out _ (Below.drew (Below.refl _ _))).mono ?_); rintro e w9 ⟨rfl, hi, hm, csx, hbx, hlx, k1, k2⟩))
        have HM := Lib.hid (show Mod (fun k => S k ∨ k = g) W w9 from ⟨hm.os, hm.tape, hm.output, hm.size, hm.block⟩)
        have HI9 := Lib.hid hi
        have HC := Lib.hid (HL.out w9 ((hbx.cell 1).trans k1) ((hbx.cell 5).trans (hlx.2 5 (by decide) (by decide))) ((hbx.cell 6).trans (hlx.2 6 (by decide) (by decide))) ((hbx.cell 7).trans (hlx.2 7 (by decide) (by decide))))
        clear hm hbx hlx hi k1 k2
        go_wp2_with (go_at_call 73; refine (HC.out).mono ?_; rintro e w1 ⟨rfl, rfl⟩)
        refine bodyPost_ret (results_tmp2 rfl _ _ _) rfl ?_
        rw [EE.out]
        exact ⟨rfl, HI9.out, HM.out⟩
      | true =>
        have EE := Lib.hid (E.trans (if_pos hl))
        have HL := Lib.hid (HLT.out true hl)
        have HK := Lib.hid hk0
        clear E hl HLT
        go_enter Tryz.func55, Tryz.ntmps55
        go_wp2
        go_region_held3 (fun w' => w'.cell? ⟨g, 3, none⟩ = some (.int .u64 satp)) (first | (go_keep; done) | exact ((hbx.cell 3).trans (hlx.2 3 (by decide) (by decide))))
          (((with_reducible refine (T.out _ (Below.drew (Below.refl _ _))).mono ?_); rintro e w9 ⟨rfl, hi, hm, csx, hbx, hlx, k1, k2⟩))
        have HM := Lib.hid (show Mod (fun k => S k ∨ k = g) W w9 from ⟨hm.os, hm.tape, hm.output, hm.size, hm.block⟩)
        have HI9 := Lib.hid hi
        have HC := Lib.hid (HL.out w9 ((hbx.cell 1).trans k1) ((hbx.cell 5).trans (hlx.2 5 (by decide) (by decide))) ((hbx.cell 6).trans (hlx.2 6 (by decide) (by decide))) ((hbx.cell 7).trans (hlx.2 7 (by decide) (by decide))))
        have HP := Lib.hid (place_any L2 ((hbx.cell 1).trans k1) ((hbx.cell 2).trans k2) HXU.out HV.out HXO.out)
        clear hm hbx hlx hi k1 k2
        go_wp2_with (first
 | (go_at_call 73; refine (HC.out).mono ?_; rintro e w1 ⟨rfl, rfl⟩)
 | (go_at_call 74; refine (HP.out).mono ?_; rintro e w2 ⟨rfl, hw⟩; have HW := Lib.hid hw; clear hw))
        refine bodyPost_ret (results_tmp2 rfl _ _ _) rfl ?_
        rw [EE.out]
        exact ⟨rfl, HK.out _ _ HI9.out (Mod.of_below (below_drawn HW.out) _), HM.out.trans (Mod.of_below (below_drawn HW.out) _)⟩
end Go.Proofs.YtchpnbckgofiaaaGreat.Tab
end
