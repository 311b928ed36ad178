/- Parts of the walks and laws for the claim: Alu; no conditions beyond the theorems' own. -/
import Derived.Test.YtchpnbckgofiaaaGreatQ13
section
namespace Go.Proofs.YtchpnbckgofiaaaGreat.Enc
open Go Go.RowKit Go.Proofs.YtchpnbckgofiaaaGreat.Step
set_option linter.unusedVariables false
set_option linter.unusedSimpArgs false
set_option maxRecDepth 100000
def rbor (x y : Int) : Int := bits .or .u32 x y
def alL : List Int := ([0, 0, 0, 1, 2, 3, 4, 5, 5, 6, 7, 0, 1, 2, 3, 4, 5, 6, 7, 0, 0, 1, 5, 5, 0, 4, 5, 6, 7] : List Int)
def bwL : List Int := ([0, 0, 1, 4, 5, 6, 7] : List Int)
def szL : List Int := ([0, 0, 1, 0, 2, 0, 0, 0, 3] : List Int)
def amW : List Int := ([0, 1, 0, 4, 12, 8, 16, 20, 24, 28] : List Int)
/-- f3 and f7 of an operation. -/
def al1 (fn : Int) : Int := if fn = 2 ∨ fn = 8 ∨ fn = 20 ∨ fn = 23 then rbor (pt (pk alL fn) 3 12) 1073741824 else pt (pk alL fn) 3 12
def al (fn : Int) : Int := if (decide (11 ≤ fn) && decide (fn ≤ 18)) = true then rbor (al1 fn) 33554432 else if (decide (24 ≤ fn) && decide (fn ≤ 28)) = true then rbor (al1 fn) 33554432 else al1 fn
theorem in_any (v l h : Int) (w : World) : Calls Tryz.prog 98 #[.int .i64 v, .int .i64 l, .int .i64 h] w fun e w' => e = .returned (.bool (decide (l ≤ v) && decide (v ≤ h))) ∧ Below w.heap.size w w' := by
  by_cases h1 : l ≤ v
  · rw [decide_eq_true h1, Bool.true_and]
    go_enter Tryz.func98, Tryz.ntmps98
    go_wp2
    go_ret
    exact ⟨rfl, Below.refl _ _⟩
  · rw [decide_eq_false h1, Bool.false_and]
    go_enter Tryz.func98, Tryz.ntmps98
    go_wp2
    go_ret
    exact ⟨rfl, Below.refl _ _⟩
set_option maxHeartbeats 4000000 in
theorem alu_any (fn : Int) (hf : 0 ≤ fn ∧ fn ≤ 28) (w : World) : Calls Tryz.prog 118 #[.int .i64 fn] w fun e w' => e = .returned (.int .u32 (al fn)) ∧ Below w.heap.size w w' := by
  have T0 := Lib.hid (fun w => calls_same (show Calls Tryz.prog 117 #[.int .i64 (pk alL fn), .int .i64 3, .int .i64 12] w fun e w' => e = .returned (.int .u32 (pt (pk alL fn) 3 12)) ∧ w = w' from at_any (pk alL fn) 3 12 3 12 rfl rfl (by decide) (by decide) w))
  have TI := Lib.hid in_any
  have HX := Lib.hid (show -9223372036854775808 ≤ fn ∧ fn < 9223372036854775808 by omega)
  unfold al al1
  obtain ⟨u, hu⟩ : ∃ u, pk alL fn = u := ⟨_, rfl⟩
  rw [hu] at T0 ⊢
  have hu : pk ([0, 0, 0, 1, 2, 3, 4, 5, 5, 6, 7, 0, 1, 2, 3, 4, 5, 6, 7, 0, 0, 1, 5, 5, 0, 4, 5, 6, 7] : List Int) fn = u := hu
  generalize pt (u) 3 12 = p0 at *
  obtain ⟨E_, hEq⟩ : ∃ E_, (if (decide (11 ≤ fn) && decide (fn ≤ 18)) = true then rbor (if fn = 2 ∨ fn = 8 ∨ fn = 20 ∨ fn = 23 then rbor p0 1073741824 else p0) 33554432 else if (decide (24 ≤ fn) && decide (fn ≤ 28)) = true then rbor (if fn = 2 ∨ fn = 8 ∨ fn = 20 ∨ fn = 23 then rbor p0 1073741824 else p0) 33554432 else (if fn = 2 ∨ fn = 8 ∨ fn = 20 ∨ fn = 23 then rbor p0 1073741824 else p0) : Int) = E_ := ⟨_, rfl⟩
  rw [hEq]
  have hd : (fn = 2 ∧ E_ = bits .or .u32 p0 1073741824) ∨ (fn = 8 ∧ E_ = bits .or .u32 p0 1073741824) ∨ (fn = 20 ∧ E_ = bits .or .u32 p0 1073741824) ∨ (fn = 23 ∧ E_ = bits .or .u32 p0 1073741824) ∨ (((fn == 2) = false ∧ (fn == 8) = false ∧ (fn == 20) = false ∧ (fn == 23) = false) ∧ (((decide (11 ≤ fn) && decide (fn ≤ 18)) = true ∧ E_ = bits .or .u32 p0 33554432) ∨ ((decide (11 ≤ fn) && decide (fn ≤ 18)) = false ∧ (decide (24 ≤ fn) && decide (fn ≤ 28)) = true ∧ E_ = bits .or .u32 p0 33554432) ∨ ((decide (11 ≤ fn) && decide (fn ≤ 18)) = false ∧ (decide (24 ≤ fn) && decide (fn ≤ 28)) = false ∧ E_ = p0))) := by
    rw [← hEq]
    by_cases c2 : fn = 2
    · subst c2; exact Or.inl ⟨rfl, rfl⟩
    by_cases c8 : fn = 8
    · subst c8; exact Or.inr (Or.inl ⟨rfl, rfl⟩)
    by_cases c20 : fn = 20
    · subst c20; exact Or.inr (Or.inr (Or.inl ⟨rfl, rfl⟩))
    by_cases c23 : fn = 23
    · subst c23; exact Or.inr (Or.inr (Or.inr (Or.inl ⟨rfl, rfl⟩)))
    refine Or.inr (Or.inr (Or.inr (Or.inr ⟨⟨beq_eq_false_iff_ne.2 c2, beq_eq_false_iff_ne.2 c8, beq_eq_false_iff_ne.2 c20, beq_eq_false_iff_ne.2 c23⟩, ?_⟩)))
    have hn : ¬ (fn = 2 ∨ fn = 8 ∨ fn = 20 ∨ fn = 23) := by omega
    simp only [if_neg hn]
    cases d1 : (decide (11 ≤ fn) && decide (fn ≤ 18)) with
    | true => exact Or.inl ⟨rfl, rfl⟩
    | false =>
      cases d2 : (decide (24 ≤ fn) && decide (fn ≤ 28)) with
      | true => exact Or.inr (Or.inl ⟨rfl, rfl, rfl⟩)
      | false => exact Or.inr (Or.inr ⟨rfl, rfl, rfl⟩)
  clear hEq hf
  rcases hd with ⟨c, hE⟩ | ⟨c, hE⟩ | ⟨c, hE⟩ | ⟨c, hE⟩ | ⟨⟨c, c8, c20, c23⟩, ⟨d1, hE⟩ | ⟨d1, d2, hE⟩ | ⟨d1, d2, hE⟩⟩
  all_goals subst hE
  all_goals (try subst c)
  all_goals (
    go_enter Tryz.func118, Tryz.ntmps118
    have HB := Lib.hid (Below.refl _ _ : Below w.heap.size w w)
    go_wp2_with (first
 | (go_at_call 117; (with_reducible refine (T0.out _).mono ?_); rintro e w' ⟨rfl, hb⟩; (try replace PB := Lib.hid (PB.out.below hb)); replace HB := Lib.hid (below_below HB.out hb); clear hb)
 | (go_at_call 98; (with_reducible refine (TI.out _ _ _ _).mono ?_); rintro e w' ⟨rfl, hb⟩; (try replace PB := Lib.hid (PB.out.below hb)); replace HB := Lib.hid (below_below HB.out hb); clear hb)
 | ((with_reducible refine Step.gate_build (t := 124) rfl ?_); refine Step.freshSlice (cs := #[.int .i64 0, .int .i64 0, .int .i64 0, .int .i64 1, .int .i64 2, .int .i64 3, .int .i64 4, .int .i64 5, .int .i64 5, .int .i64 6, .int .i64 7, .int .i64 0, .int .i64 1, .int .i64 2, .int .i64 3, .int .i64 4, .int .i64 5, .int .i64 6, .int .i64 7, .int .i64 0, .int .i64 0, .int .i64 1, .int .i64 5, .int .i64 5, .int .i64 0, .int .i64 4, .int .i64 5, .int .i64 6, .int .i64 7]) (T := 3) (n := 29) (m := 29) rfl ?hr ?_; (case hr => first | (go_simp; done) | (go_simp; rfl)); intro g1 w1 b hg hb; have PB := Lib.hid (show Blk w1 g1 (Enc.ints ([0, 0, 0, 1, 2, 3, 4, 5, 5, 6, 7, 0, 1, 2, 3, 4, 5, 6, 7, 0, 0, 1, 5, 5, 0, 4, 5, 6, 7] : List Int)) _ from b); have hb_ := Lib.hid (below_below HB.out hb); clear HB b hb hg; have HB := hb_)
 | (go_at_call 67; (with_reducible refine (rpick_any (n := 29) PB.out ([0, 0, 0, 1, 2, 3, 4, 5, 5, 6, 7, 0, 1, 2, 3, 4, 5, 6, 7, 0, 0, 1, 5, 5, 0, 4, 5, 6, 7] : List Int) rfl rfl (by decide) _ (by first | exact HX.out | decide)).mono ?_); rintro e w' ⟨rfl, hb⟩; clear PB; replace HB := Lib.hid (below_below HB.out hb); clear hb; (try rw [hu])))
    go_ret
    exact ⟨rfl, HB.out⟩)
end Go.Proofs.YtchpnbckgofiaaaGreat.Enc
end
