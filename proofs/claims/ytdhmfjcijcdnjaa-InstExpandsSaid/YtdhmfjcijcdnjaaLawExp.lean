/- InstExpands, whatever the half. -/
import Derived.Test.YtdhmfjcijcdnjaaRExp
namespace Go.Proofs.Ytdhmfjcijcdnjaa.Enc
open Go Go.RowKit Go.Proofs.Ytdhmfjcijcdnjaa.Step
set_option linter.unusedVariables false
set_option linter.unusedSimpArgs false
set_option maxRecDepth 100000

theorem u16_bdx {v : Int} (h : (Lit.int .u16 v).wf = true) : H16 v := by
  simp only [Lit.wf, IntKind.min, IntKind.max, IntKind.signed, IntKind.bits, Bool.and_eq_true, decide_eq_true_eq] at h
  exact ⟨by simpa using h.1, by have := h.2; simp at this; omega⟩
theorem Xp_xV {d : Option Ins} {v : Value} (h : Xp d v) : v = xV d := by
  cases h with
  | none h => subst h; rfl
  | no i h hn => subst h; simp [xV, eV, eB, hn]
  | yes i h hy => subst h; simp [xV, eV, eB, hy]
theorem rsize_any (c : Int) (h0 : 0 ≤ c ∧ c < 65536) (w : World) : Calls Try.prog 17 #[.int .u16 c] w fun e w' => e = .returned (.int .i64 (if c % 4 = 3 then 4 else 2)) ∧ Below w.heap.size w w' := by
  have hm : c.tmod 4 = c % 4 := Int.tmod_eq_emod_of_nonneg h0.1
  by_cases h : c % 4 = 3
  · rw [if_pos h]
    rw [h] at hm
    go_enter Try.func17, Try.ntmps17
    go_wp2
    go_ret
    exact ⟨rfl, Below.refl _ _⟩
  · rw [if_neg h]
    have hm' : (c.tmod 4 == 3) = false := by rw [hm]; exact beq_eq_false_iff_ne.2 h
    have hm2 : (c % 4 == 3) = false := beq_eq_false_iff_ne.2 h
    clear hm
    go_enter Try.func17, Try.ntmps17
    go_wp2
    go_ret
    exact ⟨rfl, Below.refl _ _⟩
set_option maxHeartbeats 4000000 in
theorem expands_any (c : Int) (w : World) (h0 : (Lit.int .u16 c).wf = true) : Calls Try.prog 5 #[.int .u16 c] w fun e w' => e = .returned (.bool true) ∧ Below w.heap.size w w' := by
  have hc := u16_bdx h0
  have TA := Lib.hid awake_any
  have TE := Lib.hid (fun w => (Expand_any c hc w).mono fun e w' (h : (∃ v, Xp (expD c) v ∧ e = .returned v) ∧ Below w.heap.size w w') => (show e = .returned (xV (expD c)) ∧ Below w.heap.size w w' from ⟨by obtain ⟨v, hx, he⟩ := h.1; rw [he, Xp_xV hx], h.2⟩))
  have TR := Lib.hid (rExpand_any c hc)
  have TS := Lib.hid (size_any c hc.out)
  have TZ := Lib.hid (rsize_any c hc.out)
  have dd : ∃ v b, xV (expD c) = .tuple #[.int .u32 v, .bool b] := by
    cases expD c with
    | none => exact ⟨_, _, rfl⟩
    | some i => exact ⟨_, _, rfl⟩
  obtain ⟨v, ok, hv⟩ := dd
  rw [hv] at TE TR
  generalize (if c % 4 = 3 then (4 : Int) else 2) = z at *
  clear h0 hc hv
  have HB := Lib.hid (Below.refl _ _ : Below w.heap.size w w)
  go_enter Try.func5, Try.ntmps5
  go_wp2_with (first
    | (go_at_call 14; (with_reducible refine (TE.out _).mono ?_); rintro e w' ⟨rfl, hb⟩; (try replace PB := Lib.hid (PB.out.below hb)); replace HB := Lib.hid (below_below HB.out hb); clear hb)
    | (go_at_call 15; (with_reducible refine (TR.out _).mono ?_); rintro e w' ⟨rfl, hb⟩; (try replace PB := Lib.hid (PB.out.below hb)); replace HB := Lib.hid (below_below HB.out hb); clear hb)
    | (go_at_call 16; (with_reducible refine (TS.out _).mono ?_); rintro e w' ⟨rfl, hb⟩; (try replace PB := Lib.hid (PB.out.below hb)); replace HB := Lib.hid (below_below HB.out hb); clear hb)
    | (go_at_call 17; (with_reducible refine (TZ.out _).mono ?_); rintro e w' ⟨rfl, hb⟩; (try replace PB := Lib.hid (PB.out.below hb)); replace HB := Lib.hid (below_below HB.out hb); clear hb)
    | (go_at_call 11; (with_reducible refine (TA.out _).mono ?_); rintro e w' ⟨rfl, hb⟩; (try replace PB := Lib.hid (PB.out.below hb)); replace HB := Lib.hid (below_below HB.out hb); clear hb))
  go_ret
  exact ⟨rfl, HB.out⟩
end Go.Proofs.Ytdhmfjcijcdnjaa.Enc
