/- InstFull, whatever the half. -/
import Derived.Test.YtdhmfjcijcdnjaaExpC
namespace Go.Proofs.Ytdhmfjcijcdnjaa.Enc
open Go Go.RowKit Go.Proofs.Ytdhmfjcijcdnjaa.Step
set_option linter.unusedVariables false
set_option linter.unusedSimpArgs false
set_option maxRecDepth 100000

theorem u16_bd {v : Int} (h : (Lit.int .u16 v).wf = true) : H16 v := by
  simp only [Lit.wf, IntKind.min, IntKind.max, IntKind.signed, IntKind.bits, Bool.and_eq_true, decide_eq_true_eq] at h
  exact ⟨by simpa using h.1, by have := h.2; simp at this; omega⟩
theorem Xp_none {v : Value} (h : Xp none v) : v = .tuple #[.int .u32 0, .bool false] := by
  cases h with
  | none => rfl
  | no i h => rfl
  | yes i h => cases h
theorem Xp_no {i : Ins} {v : Value} (h : Xp (some i) v) (hn : dec (encP i) ≠ some i) : v = .tuple #[.int .u32 0, .bool false] := by
  cases h with
  | none => rfl
  | no i h => rfl
  | yes j h hy => injection h with h; subst h; exact absurd hy hn
theorem Xp_yes {i : Ins} {v : Value} (h : Xp (some i) v) (hy : dec (encP i) = some i) : v = .tuple #[.int .u32 (encP i), .bool true] := by
  cases h with
  | none h => cases h
  | no j h hn => injection h with h; subst h; exact absurd hy hn
  | yes j h => injection h with h; subst h; rfl
theorem exp_low {c : Int} {i : Ins} (h : expD c = some i) : c % 4 ≠ 3 := by
  intro h3
  unfold expD at h
  rw [if_neg (by omega), if_neg (by omega), if_neg (by omega)] at h
  cases h
theorem dec_low {v : Int} {i : Ins} (h : dec v = some i) : v % 4 = 3 := by
  have e : fd v 6 0 = v / 1 % 128 := rfl
  have key : fd v 6 0 % 4 = 3 := by
    unfold dec decOp at h
    generalize fd v 6 0 = op at *
    rcases ite_some h with ⟨c, h⟩ | ⟨_, h⟩
    · rw [c]; rfl
    rcases ite_some h with ⟨c, h⟩ | ⟨_, h⟩
    · rw [c]; rfl
    rcases ite_some h with ⟨c, h⟩ | ⟨_, h⟩
    · rw [c]; rfl
    rcases ite_some h with ⟨c, h⟩ | ⟨_, h⟩
    · rw [c]; rfl
    rcases ite_some h with ⟨c, h⟩ | ⟨_, h⟩
    · rw [c]; rfl
    rcases ite_some h with ⟨c, h⟩ | ⟨_, h⟩
    · rw [c]; rfl
    rcases ite_some h with ⟨c, h⟩ | ⟨_, h⟩
    · rw [c]; rfl
    rcases ite_some h with ⟨c, h⟩ | ⟨_, h⟩
    · rw [c]; rfl
    rcases ite_some h with ⟨c, h⟩ | ⟨_, h⟩
    · rw [c]; rfl
    rcases ite_some h with ⟨c, h⟩ | ⟨_, h⟩
    · rw [c]; rfl
    rcases ite_some h with ⟨c, h⟩ | ⟨_, h⟩
    · rw [c]; rfl
    rcases ite_some h with ⟨c, h⟩ | ⟨_, h⟩
    · rw [c]; rfl
    rcases ite_some h with ⟨c, h⟩ | ⟨_, h⟩
    · rw [c]; rfl
    rcases ite_some h with ⟨c, h⟩ | ⟨_, h⟩
    · rw [c]; rfl
    · cases h
  omega

set_option maxHeartbeats 4000000 in
theorem full_any (c : Int) (w : World) (h0 : (Lit.int .u16 c).wf = true) : Calls Try.prog 7 #[.int .u16 c] w fun e w' => e = .returned (.bool true) ∧ Below w.heap.size w w' := by
  have hc := u16_bd h0
  have TE := Expand_any c hc
  have TS := Lib.hid (size_any c hc.out)
  have HL := Lib.hid (fun i => @exp_low c i)
  clear h0
  generalize expD c = d at *
  have K : (∀ w, Calls Try.prog 14 #[.int .u16 c] w fun e w' => e = .returned (.tuple #[.int .u32 0, .bool false]) ∧ Below w.heap.size w w') ∨ ∃ i v, W32 v ∧ dec v = some i ∧ d = some i ∧ (∀ w, Calls Try.prog 14 #[.int .u16 c] w fun e w' => e = .returned (.tuple #[.int .u32 v, .bool true]) ∧ Below w.heap.size w w') ∧ (∀ w, Calls Try.prog 12 #[.agg i.cells] w fun e w' => e = .returned (.tuple #[.int .u32 v, .bool true]) ∧ Below w.heap.size w w') := by
    cases d with
    | none => exact .inl fun w => (TE w).mono fun e w' ⟨⟨v, hx, he⟩, hb⟩ => ⟨by rw [he, Xp_none hx], hb⟩
    | some i =>
      by_cases hd : dec (encP i) = some i
      · exact .inr ⟨i, encP i, encP_w i, hd, rfl, fun w => (TE w).mono fun e w' ⟨⟨v, hx, he⟩, hb⟩ => ⟨by rw [he, Xp_yes hx hd], hb⟩, Encode_yes i (encP i) (encP_w i) hd (Lib.hid (encode_any i))⟩
      · exact .inl fun w => (TE w).mono fun e w' ⟨⟨v, hx, he⟩, hb⟩ => ⟨by rw [he, Xp_no hx hd], hb⟩
  clear TE hc
  rcases K with hX | ⟨i, v, hv, hd, hi, hX, hE⟩
  · have TX := Lib.hid hX
    clear hX TS HL
    have HB := Lib.hid (Below.refl _ _ : Below w.heap.size w w)
    have TA := Lib.hid awake_any
    go_enter Try.func7, Try.ntmps7
    go_wp2_with (first
      | (go_at_call 14; (with_reducible refine (TX.out _).mono ?_); rintro e w' ⟨rfl, hb⟩; (first | (replace ST := Lib.hid (ST.out.call hb); clear hb) | (replace HB := Lib.hid (below_below HB.out hb); clear hb)))
      | (go_at_call 11; (with_reducible refine (TA.out _).mono ?_); rintro e w' ⟨rfl, hb⟩; (first | (replace ST := Lib.hid (ST.out.call hb); clear hb) | (replace HB := Lib.hid (below_below HB.out hb); clear hb)))
      | ((with_reducible refine Step.gate_alloc (t := 24) rfl ?_); refine Step.freshAlloc rfl rfl (alloc_agg zero_inst) ?_; intro g1 w1 b hg hb; have ST := Lib.hid (S1.mk (below_below HB.out hb) b (Nat.le_trans HB.out.size hg)); clear b hg hb)
      | ((with_reducible refine Step.gate_store (t := 3) rfl ?_); refine Step.store ST.out.one rfl rfl rfl rfl rfl pl_int rfl rfl ?_; intro w3 nb m; replace ST := Lib.hid (ST.out.set1 nb m); clear nb m)
      | ((with_reducible refine Step.gate_store (t := 4) rfl ?_); refine Step.store ST.out.one rfl rfl rfl rfl rfl pl_bool rfl rfl ?_; intro w3 nb m; replace ST := Lib.hid (ST.out.set1 nb m); clear nb m)
      | ((with_reducible refine Step.gate_store (t := 24) rfl ?_); refine Step.storeAll ST.out.one rfl rfl rfl rfl rfl size_inst rfl rfl ?_; intro w3 nb m; replace ST := Lib.hid (ST.out.set1 nb m); clear nb m)
      | ((with_reducible refine Step.gate_load (t := 3) rfl ?_); refine Step.load ST.out.one rfl rfl rfl pl_int rfl ?_)
      | ((with_reducible refine Step.gate_load (t := 4) rfl ?_); refine Step.load ST.out.one rfl rfl rfl pl_bool rfl ?_)
      | ((with_reducible refine Step.gate_load (t := 24) rfl ?_); refine Step.loadAll ST.out.one rfl rfl rfl Try.underlying24 rfl size_inst ?_))
    go_ret
    exact ⟨rfl, HB.out⟩
  · have TX := Lib.hid hX
    have TE := Lib.hid hE
    have TD := Lib.hid (Decode_any v hv)
    rw [hd] at TD
    have hl := HL.out i hi
    rw [if_neg hl] at TS
    have hv2 := dec_low hd
    have hv3 := hv.out
    have TZ := Lib.hid (size_any (IntKind.u16.wrap v) (show 0 ≤ v % 65536 ∧ v % 65536 < 65536 by omega))
    rw [if_pos (show IntKind.u16.wrap v % 4 = 3 from (show v % 65536 % 4 = 3 by omega))] at TZ
    clear hX hE HL hl hv2 hv3 hv hd hi
    obtain ⟨k, fn, rd, rs1, rs2, imm, sz, sg⟩ := i
    simp only [told, Ins.cells] at TD TE
    have HB := Lib.hid (Below.refl _ _ : Below w.heap.size w w)
    have TA := Lib.hid awake_any
    go_enter Try.func7, Try.ntmps7
    go_wp2_with (first
      | (go_at_call 14; (with_reducible refine (TX.out _).mono ?_); rintro e w' ⟨rfl, hb⟩; (first | (replace ST := Lib.hid (ST.out.call hb); clear hb) | (replace HB := Lib.hid (below_below HB.out hb); clear hb)))
      | (go_at_call 12; (with_reducible refine (TE.out _).mono ?_); rintro e w' ⟨rfl, hb⟩; (first | (replace ST := Lib.hid (ST.out.call hb); clear hb) | (replace HB := Lib.hid (below_below HB.out hb); clear hb)))
      | (go_at_call 9; (with_reducible refine (TD.out _).mono ?_); rintro e w' ⟨rfl, hb⟩; (first | (replace ST := Lib.hid (ST.out.call hb); clear hb) | (replace HB := Lib.hid (below_below HB.out hb); clear hb)))
      | (go_at_call 16; (with_reducible refine (TS.out _).mono ?_); rintro e w' ⟨rfl, hb⟩; (first | (replace ST := Lib.hid (ST.out.call hb); clear hb) | (replace HB := Lib.hid (below_below HB.out hb); clear hb)))
      | (go_at_call 16; (with_reducible refine (TZ.out _).mono ?_); rintro e w' ⟨rfl, hb⟩; (first | (replace ST := Lib.hid (ST.out.call hb); clear hb) | (replace HB := Lib.hid (below_below HB.out hb); clear hb)))
      | (go_at_call 11; (with_reducible refine (TA.out _).mono ?_); rintro e w' ⟨rfl, hb⟩; (first | (replace ST := Lib.hid (ST.out.call hb); clear hb) | (replace HB := Lib.hid (below_below HB.out hb); clear hb)))
      | ((with_reducible refine Step.gate_alloc (t := 24) rfl ?_); refine Step.freshAlloc rfl rfl (alloc_agg zero_inst) ?_; intro g1 w1 b hg hb; have ST := Lib.hid (S1.mk (below_below HB.out hb) b (Nat.le_trans HB.out.size hg)); clear b hg hb)
      | ((with_reducible refine Step.gate_store (t := 3) rfl ?_); refine Step.store ST.out.one rfl rfl rfl rfl rfl pl_int rfl rfl ?_; intro w3 nb m; replace ST := Lib.hid (ST.out.set1 nb m); clear nb m)
      | ((with_reducible refine Step.gate_store (t := 4) rfl ?_); refine Step.store ST.out.one rfl rfl rfl rfl rfl pl_bool rfl rfl ?_; intro w3 nb m; replace ST := Lib.hid (ST.out.set1 nb m); clear nb m)
      | ((with_reducible refine Step.gate_store (t := 24) rfl ?_); refine Step.storeAll ST.out.one rfl rfl rfl rfl rfl size_inst rfl rfl ?_; intro w3 nb m; replace ST := Lib.hid (ST.out.set1 nb m); clear nb m)
      | ((with_reducible refine Step.gate_load (t := 3) rfl ?_); refine Step.load ST.out.one rfl rfl rfl pl_int rfl ?_)
      | ((with_reducible refine Step.gate_load (t := 4) rfl ?_); refine Step.load ST.out.one rfl rfl rfl pl_bool rfl ?_)
      | ((with_reducible refine Step.gate_load (t := 24) rfl ?_); refine Step.loadAll ST.out.one rfl rfl rfl Try.underlying24 rfl size_inst ?_))
    go_ret
    exact ⟨rfl, ST.out.below⟩

end Go.Proofs.Ytdhmfjcijcdnjaa.Enc
