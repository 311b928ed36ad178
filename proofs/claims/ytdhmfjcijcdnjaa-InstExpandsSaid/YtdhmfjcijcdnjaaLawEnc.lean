/- InstEncodes, whatever the instruction. -/
import Derived.Test.YtdhmfjcijcdnjaaWordE
import Derived.Test.YtdhmfjcijcdnjaaAwake
import Derived.Test.YtdhmfjcijcdnjaaOpenInst
namespace Go.Proofs.Ytdhmfjcijcdnjaa.Enc
open Go Go.RowKit Go.Proofs.Ytdhmfjcijcdnjaa.Step
set_option linter.unusedVariables false
set_option linter.unusedSimpArgs false
set_option maxRecDepth 100000

theorem word_all (i : Ins) (hr : InR i) (w : World) : Calls Try.prog 30 #[.agg i.cells] w fun e w' => e = .returned (.int .u32 (wordP i)) ∧ Below w.heap.size w w' :=
  word_any i.k i.fn i.rd i.rs1 i.rs2 i.imm i.sz i.sg hr.2.2.2.2.1 hr.2.2.2.2.2 w
theorem ite_w {p : Prop} [Decidable p] {x y : Int} (h1 : W32 x) (h2 : W32 y) : W32 (if p then x else y) := by
  by_cases c : p
  · rw [if_pos c]; exact h1
  · rw [if_neg c]; exact h2
theorem wordP_w (i : Ins) (hz : 0 ≤ i.sz ∧ i.sz ≤ 8) : W32 (wordP i) := by
  obtain ⟨k, fn, rd, rs1, rs2, imm, sz, sg⟩ := i
  show W32 (wordF k fn rd rs1 rs2 imm sz sg)
  unfold wordF
  repeat' (first
    | exact bor_w _ _
    | refine ite_w ?_ ?_
    | fail)
  all_goals exact ⟨by decide, by decide⟩
/-- What both answer. -/
theorem both_encode (i : Ins) : (∃ v, W32 v ∧ dec v = some i ∧ (∀ w, Calls Try.prog 12 #[.agg i.cells] w fun e w' => e = .returned (.tuple #[.int .u32 v, .bool true]) ∧ Below w.heap.size w w') ∧ (∀ w, Calls Try.prog 13 #[.agg i.cells] w fun e w' => e = .returned (.tuple #[.int .u32 v, .bool true]) ∧ Below w.heap.size w w')) ∨ (dec (encP i) ≠ some i ∧ (∀ w, Calls Try.prog 12 #[.agg i.cells] w fun e w' => e = .returned (.tuple #[.int .u32 0, .bool false]) ∧ Below w.heap.size w w') ∧ (∀ w, Calls Try.prog 13 #[.agg i.cells] w fun e w' => e = .returned (.tuple #[.int .u32 0, .bool false]) ∧ Below w.heap.size w w')) := by
  by_cases hd : dec (encP i) = some i
  · have hw := word_enc (encP_w i) hd
    have hr := dec_inR hd
    refine .inl ⟨encP i, encP_w i, hd, Encode_yes i (encP i) (encP_w i) hd (Lib.hid (encode_any i)), ?_⟩
    exact rEncode_yes i (encP i) hr (encP_w i) hd (Lib.hid (fun w => by have := word_all i hr w; rw [hw] at this; exact this))
  · refine .inr ⟨hd, Encode_no i (encP i) (encP_w i) hd (Lib.hid (encode_any i)), ?_⟩
    by_cases hr : InR i
    · have hw := wordP_w i hr.2.2.2.2.2
      refine rEncode_no i (wordP i) hr hw (fun h => hd ?_) (Lib.hid (word_all i hr))
      exact back hw h
    · exact rEncode_out i hr

set_option maxHeartbeats 4000000 in
theorem encodes_any (i : Ins) (w : World) (hi : I64s i) : Calls Try.prog 4 #[.agg i.cells] w fun e w' => e = .returned (.bool true) ∧ Below w.heap.size w w' := by
  have TA := Lib.hid awake_any
  have K : ∃ v ok, (∀ w, Calls Try.prog 12 #[.agg i.cells] w fun e w' => e = .returned (.tuple #[.int .u32 v, .bool ok]) ∧ Below w.heap.size w w') ∧ (∀ w, Calls Try.prog 13 #[.agg i.cells] w fun e w' => e = .returned (.tuple #[.int .u32 v, .bool ok]) ∧ Below w.heap.size w w') := by
    rcases both_encode i with ⟨v, _, _, h1, h2⟩ | ⟨_, h1, h2⟩
    · exact ⟨v, true, h1, h2⟩
    · exact ⟨0, false, h1, h2⟩
  clear hi
  obtain ⟨v, ok, h1, h2⟩ := K
  have TE := Lib.hid h1
  have TR := Lib.hid h2
  clear h1 h2
  obtain ⟨k, fn, rd, rs1, rs2, imm, sz, sg⟩ := i
  simp only [Ins.cells] at TE TR ⊢
  go_enter Try.func4, Try.ntmps4
  go_wp2_with (first
    | (go_at_call 12; (with_reducible refine (TE.out _).mono ?_); rintro e w' ⟨rfl, hb⟩; (try replace PB := Lib.hid (PB.out.below hb)); replace ST := Lib.hid (ST.out.call hb); clear hb)
    | (go_at_call 13; (with_reducible refine (TR.out _).mono ?_); rintro e w' ⟨rfl, hb⟩; (try replace PB := Lib.hid (PB.out.below hb)); replace ST := Lib.hid (ST.out.call hb); clear hb)
    | (go_at_call 11; (with_reducible refine (TA.out _).mono ?_); rintro e w' ⟨rfl, hb⟩; (try replace PB := Lib.hid (PB.out.below hb)); replace ST := Lib.hid (ST.out.call hb); clear hb)
    | ((with_reducible refine Step.gate_box (t := 24) rfl ?_); refine Step.fresh (cs := #[.int .i64 k, .int .i64 fn, .int .i64 rd, .int .i64 rs1, .int .i64 rs2, .int .i64 imm, .int .i64 sz, .bool sg]) (T := 24) rfl ?hr ?_; (case hr => first | (go_simp; done) | (go_simp; rfl)); intro g1 w1 b hg hb; have ST := Lib.hid (S1.made b hg hb); clear b hg hb)
    | ((with_reducible refine Step.gate_store (t := 3) rfl ?_); refine Step.store ST.out.one rfl rfl rfl rfl rfl pl_int rfl rfl ?_; intro w3 nb m; replace ST := Lib.hid (ST.out.set1 nb m); clear nb m)
    | ((with_reducible refine Step.gate_store (t := 4) rfl ?_); refine Step.store ST.out.one rfl rfl rfl rfl rfl pl_bool rfl rfl ?_; intro w3 nb m; replace ST := Lib.hid (ST.out.set1 nb m); clear nb m)
    | ((with_reducible refine Step.gate_store (t := 24) rfl ?_); refine Step.storeAll ST.out.one rfl rfl rfl rfl rfl size_inst rfl rfl ?_; intro w3 nb m; replace ST := Lib.hid (ST.out.set1 nb m); clear nb m)
    | ((with_reducible refine Step.gate_load (t := 3) rfl ?_); refine Step.load ST.out.one rfl rfl rfl pl_int rfl ?_)
    | ((with_reducible refine Step.gate_load (t := 4) rfl ?_); refine Step.load ST.out.one rfl rfl rfl pl_bool rfl ?_)
    | ((with_reducible refine Step.gate_load (t := 24) rfl ?_); refine Step.loadAll ST.out.one rfl rfl rfl Try.underlying24 rfl size_inst ?_))
  go_ret
  exact ⟨rfl, ST.out.below⟩

end Go.Proofs.Ytdhmfjcijcdnjaa.Enc
