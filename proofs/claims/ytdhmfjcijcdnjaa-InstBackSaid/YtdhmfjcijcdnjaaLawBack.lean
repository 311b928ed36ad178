/- InstBack, whatever the instruction and the word. -/
import Derived.Test.YtdhmfjcijcdnjaaAwake
import Derived.Test.YtdhmfjcijcdnjaaBack
import Derived.Test.YtdhmfjcijcdnjaaOpenInst
namespace Go.Proofs.Ytdhmfjcijcdnjaa.Enc
open Go Go.RowKit Go.Proofs.Ytdhmfjcijcdnjaa.Step
set_option linter.unusedVariables false
set_option linter.unusedSimpArgs false
set_option maxRecDepth 100000

theorem u32_bdb {v : Int} (h : (Lit.int .u32 v).wf = true) : W32 v := by
  simp only [Lit.wf, IntKind.min, IntKind.max, IntKind.signed, IntKind.bits, Bool.and_eq_true, decide_eq_true_eq] at h
  exact ⟨by simpa using h.1, by have := h.2; simp at this; omega⟩
theorem Encode_back {a : Int} {i : Ins} (ha : W32 a) (h : dec a = some i) (w : World) : Calls Try.prog 12 #[.agg i.cells] w fun e w' => e = .returned (.tuple #[.int .u32 (encP i), .bool true]) ∧ Below w.heap.size w w' :=
  Encode_yes i (encP i) (encP_w i) (back ha h) (Lib.hid (encode_any i)) w

set_option maxHeartbeats 4000000 in
theorem back_any (i : Ins) (a : Int) (w : World) (hi : I64s i) (h0 : (Lit.int .u32 a).wf = true) : Calls Try.prog 6 #[.agg i.cells, .int .u32 a] w fun e w' => e = .returned (.bool true) ∧ Below w.heap.size w w' := by
  have ha := u32_bdb h0
  have TW := Lib.hid (Decode_any a ha)
  have TA := Lib.hid awake_any
  have K1 : (∃ v, W32 v ∧ (∀ w, Calls Try.prog 12 #[.agg i.cells] w fun e w' => e = .returned (.tuple #[.int .u32 v, .bool true]) ∧ Below w.heap.size w w') ∧ dec v = some i) ∨ (∀ w, Calls Try.prog 12 #[.agg i.cells] w fun e w' => e = .returned (.tuple #[.int .u32 0, .bool false]) ∧ Below w.heap.size w w') := by
    by_cases hd : dec (encP i) = some i
    · exact .inl ⟨encP i, encP_w i, Encode_yes i (encP i) (encP_w i) hd (Lib.hid (encode_any i)), hd⟩
    · exact .inr (Encode_no i (encP i) (encP_w i) hd (Lib.hid (encode_any i)))
  have K2 : dec a = none ∨ ∃ j x, dec a = some j ∧ (∀ w, Calls Try.prog 12 #[.agg j.cells] w fun e w' => e = .returned (.tuple #[.int .u32 x, .bool true]) ∧ Below w.heap.size w w') ∧ (∀ w, Calls Try.prog 9 #[.int .u32 x] w fun e w' => e = .returned (told (some j)) ∧ Below w.heap.size w w') := by
    cases hd : dec a with
    | none => exact .inl rfl
    | some j => exact .inr ⟨j, encP j, rfl, Encode_back ha hd, fun w => by have := Decode_any (encP j) (encP_w j) w; rw [back ha hd] at this; exact this⟩
  clear ha h0 hi
  rcases K2 with hn | ⟨j, x, hj, hF, hX⟩
  · rw [hn] at TW
    clear hn
    rcases K1 with ⟨v, hv, hE, hd⟩ | hE
    · have TV := Lib.hid (Decode_any v hv)
      rw [hd] at TV
      have TE := Lib.hid hE
      clear hE hd hv
      obtain ⟨k, fn, rd, rs1, rs2, imm, sz, sg⟩ := i
      simp only [told, Ins.cells, Ins.zero] at TE TV TW ⊢
      go_enter Try.func6, Try.ntmps6
      go_wp2_with (first
        | (go_at_call 12; (with_reducible refine (TE.out _).mono ?_); rintro e w' ⟨rfl, hb⟩; (try replace PB := Lib.hid (PB.out.below hb)); replace ST := Lib.hid (ST.out.call hb); clear hb)
        | (go_at_call 12; (with_reducible refine (TF.out _).mono ?_); rintro e w' ⟨rfl, hb⟩; (try replace PB := Lib.hid (PB.out.below hb)); replace ST := Lib.hid (ST.out.call hb); clear hb)
        | (go_at_call 9; (with_reducible refine (TV.out _).mono ?_); rintro e w' ⟨rfl, hb⟩; (try replace PB := Lib.hid (PB.out.below hb)); replace ST := Lib.hid (ST.out.call hb); clear hb)
        | (go_at_call 9; (with_reducible refine (TW.out _).mono ?_); rintro e w' ⟨rfl, hb⟩; (try replace PB := Lib.hid (PB.out.below hb)); replace ST := Lib.hid (ST.out.call hb); clear hb)
        | (go_at_call 9; (with_reducible refine (TX.out _).mono ?_); rintro e w' ⟨rfl, hb⟩; (try replace PB := Lib.hid (PB.out.below hb)); replace ST := Lib.hid (ST.out.call hb); clear hb)
        | (go_at_call 11; (with_reducible refine (TA.out _).mono ?_); rintro e w' ⟨rfl, hb⟩; (try replace PB := Lib.hid (PB.out.below hb)); replace ST := Lib.hid (ST.out.call hb); clear hb)
        | ((with_reducible refine Step.gate_box (t := 24) rfl ?_); refine Step.fresh (cs := #[.int .i64 k, .int .i64 fn, .int .i64 rd, .int .i64 rs1, .int .i64 rs2, .int .i64 imm, .int .i64 sz, .bool sg]) (T := 24) rfl ?hr ?_; (case hr => first | (go_simp; done) | (go_simp; rfl)); intro g1 w1 b hg hb; have ST := Lib.hid (S1.made b hg hb); clear b hg hb)
        | ((with_reducible refine Step.gate_alloc (t := 24) rfl ?_); (with_reducible refine Step.gate_dst (N := 7) rfl ?_); refine Step.freshAlloc rfl rfl (alloc_agg zero_inst) ?_; intro g2 w2 b hg hb; replace ST := Lib.hid (ST.out.more b hg hb); clear b hg hb)
        | ((with_reducible refine Step.gate_alloc (t := 24) rfl ?_); (with_reducible refine Step.gate_dst (N := 9) rfl ?_); refine Step.freshAlloc rfl rfl (alloc_agg zero_inst) ?_; intro g3 w2 b hg hb; replace ST := Lib.hid (S1.mk (below_below ST.out.below hb) b (Nat.le_trans ST.out.below.size hg)); clear b hg hb)
        | ((with_reducible refine Step.gate_alloc (t := 24) rfl ?_); (with_reducible refine Step.gate_dst (N := 12) rfl ?_); refine Step.freshAlloc rfl rfl (alloc_agg zero_inst) ?_; intro g4 w2 b hg hb; replace ST := Lib.hid (ST.out.more b hg hb); clear b hg hb)
        | ((with_reducible refine Step.gate_store (t := 3) rfl ?_); refine Step.store ST.out.one rfl rfl rfl rfl rfl pl_int rfl rfl ?_; intro w3 nb m; replace ST := Lib.hid (ST.out.set1 nb m); clear nb m)
        | ((with_reducible refine Step.gate_store (t := 4) rfl ?_); refine Step.store ST.out.one rfl rfl rfl rfl rfl pl_bool rfl rfl ?_; intro w3 nb m; replace ST := Lib.hid (ST.out.set1 nb m); clear nb m)
        | ((with_reducible refine Step.gate_store (t := 24) rfl ?_); refine Step.storeAll ST.out.one rfl rfl rfl rfl rfl size_inst rfl rfl ?_; intro w3 nb m; replace ST := Lib.hid (ST.out.set1 nb m); clear nb m)
        | ((with_reducible refine Step.gate_load (t := 3) rfl ?_); refine Step.load ST.out.one rfl rfl rfl pl_int rfl ?_)
        | ((with_reducible refine Step.gate_load (t := 4) rfl ?_); refine Step.load ST.out.one rfl rfl rfl pl_bool rfl ?_)
        | ((with_reducible refine Step.gate_load (t := 24) rfl ?_); refine Step.loadAll ST.out.one rfl rfl rfl Try.underlying24 rfl size_inst ?_)
        | ((with_reducible refine Step.gate_store (t := 3) rfl ?_); refine Step.store ST.out.two rfl rfl rfl rfl rfl pl_int rfl rfl ?_; intro w3 nb m; replace ST := Lib.hid (ST.out.set2 nb m); clear nb m)
        | ((with_reducible refine Step.gate_store (t := 4) rfl ?_); refine Step.store ST.out.two rfl rfl rfl rfl rfl pl_bool rfl rfl ?_; intro w3 nb m; replace ST := Lib.hid (ST.out.set2 nb m); clear nb m)
        | ((with_reducible refine Step.gate_store (t := 24) rfl ?_); refine Step.storeAll ST.out.two rfl rfl rfl rfl rfl size_inst rfl rfl ?_; intro w3 nb m; replace ST := Lib.hid (ST.out.set2 nb m); clear nb m)
        | ((with_reducible refine Step.gate_load (t := 3) rfl ?_); refine Step.load ST.out.two rfl rfl rfl pl_int rfl ?_)
        | ((with_reducible refine Step.gate_load (t := 4) rfl ?_); refine Step.load ST.out.two rfl rfl rfl pl_bool rfl ?_)
        | ((with_reducible refine Step.gate_load (t := 24) rfl ?_); refine Step.loadAll ST.out.two rfl rfl rfl Try.underlying24 rfl size_inst ?_)
        | ((with_reducible refine Step.gate_load (t := 24) rfl ?_); refine loadAllW ST.out.one rfl rfl rfl Try.underlying24 rfl size_inst ?_)
        | ((with_reducible refine Step.gate_load (t := 24) rfl ?_); refine loadAllW ST.out.two rfl rfl rfl Try.underlying24 rfl size_inst ?_))
      go_ret
      exact ⟨rfl, ST.out.below⟩
    · have TE := Lib.hid hE
      clear hE
      obtain ⟨k, fn, rd, rs1, rs2, imm, sz, sg⟩ := i
      simp only [told, Ins.cells, Ins.zero] at TE TW ⊢
      go_enter Try.func6, Try.ntmps6
      go_wp2_with (first
        | (go_at_call 12; (with_reducible refine (TE.out _).mono ?_); rintro e w' ⟨rfl, hb⟩; (try replace PB := Lib.hid (PB.out.below hb)); replace ST := Lib.hid (ST.out.call hb); clear hb)
        | (go_at_call 12; (with_reducible refine (TF.out _).mono ?_); rintro e w' ⟨rfl, hb⟩; (try replace PB := Lib.hid (PB.out.below hb)); replace ST := Lib.hid (ST.out.call hb); clear hb)
        | (go_at_call 9; (with_reducible refine (TV.out _).mono ?_); rintro e w' ⟨rfl, hb⟩; (try replace PB := Lib.hid (PB.out.below hb)); replace ST := Lib.hid (ST.out.call hb); clear hb)
        | (go_at_call 9; (with_reducible refine (TW.out _).mono ?_); rintro e w' ⟨rfl, hb⟩; (try replace PB := Lib.hid (PB.out.below hb)); replace ST := Lib.hid (ST.out.call hb); clear hb)
        | (go_at_call 9; (with_reducible refine (TX.out _).mono ?_); rintro e w' ⟨rfl, hb⟩; (try replace PB := Lib.hid (PB.out.below hb)); replace ST := Lib.hid (ST.out.call hb); clear hb)
        | (go_at_call 11; (with_reducible refine (TA.out _).mono ?_); rintro e w' ⟨rfl, hb⟩; (try replace PB := Lib.hid (PB.out.below hb)); replace ST := Lib.hid (ST.out.call hb); clear hb)
        | ((with_reducible refine Step.gate_box (t := 24) rfl ?_); refine Step.fresh (cs := #[.int .i64 k, .int .i64 fn, .int .i64 rd, .int .i64 rs1, .int .i64 rs2, .int .i64 imm, .int .i64 sz, .bool sg]) (T := 24) rfl ?hr ?_; (case hr => first | (go_simp; done) | (go_simp; rfl)); intro g1 w1 b hg hb; have ST := Lib.hid (S1.made b hg hb); clear b hg hb)
        | ((with_reducible refine Step.gate_alloc (t := 24) rfl ?_); (with_reducible refine Step.gate_dst (N := 7) rfl ?_); refine Step.freshAlloc rfl rfl (alloc_agg zero_inst) ?_; intro g2 w2 b hg hb; replace ST := Lib.hid (ST.out.more b hg hb); clear b hg hb)
        | ((with_reducible refine Step.gate_alloc (t := 24) rfl ?_); (with_reducible refine Step.gate_dst (N := 9) rfl ?_); refine Step.freshAlloc rfl rfl (alloc_agg zero_inst) ?_; intro g3 w2 b hg hb; replace ST := Lib.hid (S1.mk (below_below ST.out.below hb) b (Nat.le_trans ST.out.below.size hg)); clear b hg hb)
        | ((with_reducible refine Step.gate_alloc (t := 24) rfl ?_); (with_reducible refine Step.gate_dst (N := 12) rfl ?_); refine Step.freshAlloc rfl rfl (alloc_agg zero_inst) ?_; intro g4 w2 b hg hb; replace ST := Lib.hid (ST.out.more b hg hb); clear b hg hb)
        | ((with_reducible refine Step.gate_store (t := 3) rfl ?_); refine Step.store ST.out.one rfl rfl rfl rfl rfl pl_int rfl rfl ?_; intro w3 nb m; replace ST := Lib.hid (ST.out.set1 nb m); clear nb m)
        | ((with_reducible refine Step.gate_store (t := 4) rfl ?_); refine Step.store ST.out.one rfl rfl rfl rfl rfl pl_bool rfl rfl ?_; intro w3 nb m; replace ST := Lib.hid (ST.out.set1 nb m); clear nb m)
        | ((with_reducible refine Step.gate_store (t := 24) rfl ?_); refine Step.storeAll ST.out.one rfl rfl rfl rfl rfl size_inst rfl rfl ?_; intro w3 nb m; replace ST := Lib.hid (ST.out.set1 nb m); clear nb m)
        | ((with_reducible refine Step.gate_load (t := 3) rfl ?_); refine Step.load ST.out.one rfl rfl rfl pl_int rfl ?_)
        | ((with_reducible refine Step.gate_load (t := 4) rfl ?_); refine Step.load ST.out.one rfl rfl rfl pl_bool rfl ?_)
        | ((with_reducible refine Step.gate_load (t := 24) rfl ?_); refine Step.loadAll ST.out.one rfl rfl rfl Try.underlying24 rfl size_inst ?_)
        | ((with_reducible refine Step.gate_store (t := 3) rfl ?_); refine Step.store ST.out.two rfl rfl rfl rfl rfl pl_int rfl rfl ?_; intro w3 nb m; replace ST := Lib.hid (ST.out.set2 nb m); clear nb m)
        | ((with_reducible refine Step.gate_store (t := 4) rfl ?_); refine Step.store ST.out.two rfl rfl rfl rfl rfl pl_bool rfl rfl ?_; intro w3 nb m; replace ST := Lib.hid (ST.out.set2 nb m); clear nb m)
        | ((with_reducible refine Step.gate_store (t := 24) rfl ?_); refine Step.storeAll ST.out.two rfl rfl rfl rfl rfl size_inst rfl rfl ?_; intro w3 nb m; replace ST := Lib.hid (ST.out.set2 nb m); clear nb m)
        | ((with_reducible refine Step.gate_load (t := 3) rfl ?_); refine Step.load ST.out.two rfl rfl rfl pl_int rfl ?_)
        | ((with_reducible refine Step.gate_load (t := 4) rfl ?_); refine Step.load ST.out.two rfl rfl rfl pl_bool rfl ?_)
        | ((with_reducible refine Step.gate_load (t := 24) rfl ?_); refine Step.loadAll ST.out.two rfl rfl rfl Try.underlying24 rfl size_inst ?_)
        | ((with_reducible refine Step.gate_load (t := 24) rfl ?_); refine loadAllW ST.out.one rfl rfl rfl Try.underlying24 rfl size_inst ?_)
        | ((with_reducible refine Step.gate_load (t := 24) rfl ?_); refine loadAllW ST.out.two rfl rfl rfl Try.underlying24 rfl size_inst ?_))
      go_ret
      exact ⟨rfl, ST.out.below⟩
  · rw [hj] at TW
    have TF := Lib.hid hF
    have TX := Lib.hid hX
    clear hj hF hX
    obtain ⟨r1, r2, r3, r4, r5, r6, r7, r8⟩ := j
    rcases K1 with ⟨v, hv, hE, hd⟩ | hE
    · have TV := Lib.hid (Decode_any v hv)
      rw [hd] at TV
      have TE := Lib.hid hE
      clear hE hd hv
      obtain ⟨k, fn, rd, rs1, rs2, imm, sz, sg⟩ := i
      simp only [told, Ins.cells, Ins.zero] at TE TV TW TF TX ⊢
      go_enter Try.func6, Try.ntmps6
      go_wp2_with (first
        | (go_at_call 12; (with_reducible refine (TE.out _).mono ?_); rintro e w' ⟨rfl, hb⟩; (try replace PB := Lib.hid (PB.out.below hb)); replace ST := Lib.hid (ST.out.call hb); clear hb)
        | (go_at_call 12; (with_reducible refine (TF.out _).mono ?_); rintro e w' ⟨rfl, hb⟩; (try replace PB := Lib.hid (PB.out.below hb)); replace ST := Lib.hid (ST.out.call hb); clear hb)
        | (go_at_call 9; (with_reducible refine (TV.out _).mono ?_); rintro e w' ⟨rfl, hb⟩; (try replace PB := Lib.hid (PB.out.below hb)); replace ST := Lib.hid (ST.out.call hb); clear hb)
        | (go_at_call 9; (with_reducible refine (TW.out _).mono ?_); rintro e w' ⟨rfl, hb⟩; (try replace PB := Lib.hid (PB.out.below hb)); replace ST := Lib.hid (ST.out.call hb); clear hb)
        | (go_at_call 9; (with_reducible refine (TX.out _).mono ?_); rintro e w' ⟨rfl, hb⟩; (try replace PB := Lib.hid (PB.out.below hb)); replace ST := Lib.hid (ST.out.call hb); clear hb)
        | (go_at_call 11; (with_reducible refine (TA.out _).mono ?_); rintro e w' ⟨rfl, hb⟩; (try replace PB := Lib.hid (PB.out.below hb)); replace ST := Lib.hid (ST.out.call hb); clear hb)
        | ((with_reducible refine Step.gate_box (t := 24) rfl ?_); refine Step.fresh (cs := #[.int .i64 k, .int .i64 fn, .int .i64 rd, .int .i64 rs1, .int .i64 rs2, .int .i64 imm, .int .i64 sz, .bool sg]) (T := 24) rfl ?hr ?_; (case hr => first | (go_simp; done) | (go_simp; rfl)); intro g1 w1 b hg hb; have ST := Lib.hid (S1.made b hg hb); clear b hg hb)
        | ((with_reducible refine Step.gate_alloc (t := 24) rfl ?_); (with_reducible refine Step.gate_dst (N := 7) rfl ?_); refine Step.freshAlloc rfl rfl (alloc_agg zero_inst) ?_; intro g2 w2 b hg hb; replace ST := Lib.hid (ST.out.more b hg hb); clear b hg hb)
        | ((with_reducible refine Step.gate_alloc (t := 24) rfl ?_); (with_reducible refine Step.gate_dst (N := 9) rfl ?_); refine Step.freshAlloc rfl rfl (alloc_agg zero_inst) ?_; intro g3 w2 b hg hb; replace ST := Lib.hid (S1.mk (below_below ST.out.below hb) b (Nat.le_trans ST.out.below.size hg)); clear b hg hb)
        | ((with_reducible refine Step.gate_alloc (t := 24) rfl ?_); (with_reducible refine Step.gate_dst (N := 12) rfl ?_); refine Step.freshAlloc rfl rfl (alloc_agg zero_inst) ?_; intro g4 w2 b hg hb; replace ST := Lib.hid (ST.out.more b hg hb); clear b hg hb)
        | ((with_reducible refine Step.gate_store (t := 3) rfl ?_); refine Step.store ST.out.one rfl rfl rfl rfl rfl pl_int rfl rfl ?_; intro w3 nb m; replace ST := Lib.hid (ST.out.set1 nb m); clear nb m)
        | ((with_reducible refine Step.gate_store (t := 4) rfl ?_); refine Step.store ST.out.one rfl rfl rfl rfl rfl pl_bool rfl rfl ?_; intro w3 nb m; replace ST := Lib.hid (ST.out.set1 nb m); clear nb m)
        | ((with_reducible refine Step.gate_store (t := 24) rfl ?_); refine Step.storeAll ST.out.one rfl rfl rfl rfl rfl size_inst rfl rfl ?_; intro w3 nb m; replace ST := Lib.hid (ST.out.set1 nb m); clear nb m)
        | ((with_reducible refine Step.gate_load (t := 3) rfl ?_); refine Step.load ST.out.one rfl rfl rfl pl_int rfl ?_)
        | ((with_reducible refine Step.gate_load (t := 4) rfl ?_); refine Step.load ST.out.one rfl rfl rfl pl_bool rfl ?_)
        | ((with_reducible refine Step.gate_load (t := 24) rfl ?_); refine Step.loadAll ST.out.one rfl rfl rfl Try.underlying24 rfl size_inst ?_)
        | ((with_reducible refine Step.gate_store (t := 3) rfl ?_); refine Step.store ST.out.two rfl rfl rfl rfl rfl pl_int rfl rfl ?_; intro w3 nb m; replace ST := Lib.hid (ST.out.set2 nb m); clear nb m)
        | ((with_reducible refine Step.gate_store (t := 4) rfl ?_); refine Step.store ST.out.two rfl rfl rfl rfl rfl pl_bool rfl rfl ?_; intro w3 nb m; replace ST := Lib.hid (ST.out.set2 nb m); clear nb m)
        | ((with_reducible refine Step.gate_store (t := 24) rfl ?_); refine Step.storeAll ST.out.two rfl rfl rfl rfl rfl size_inst rfl rfl ?_; intro w3 nb m; replace ST := Lib.hid (ST.out.set2 nb m); clear nb m)
        | ((with_reducible refine Step.gate_load (t := 3) rfl ?_); refine Step.load ST.out.two rfl rfl rfl pl_int rfl ?_)
        | ((with_reducible refine Step.gate_load (t := 4) rfl ?_); refine Step.load ST.out.two rfl rfl rfl pl_bool rfl ?_)
        | ((with_reducible refine Step.gate_load (t := 24) rfl ?_); refine Step.loadAll ST.out.two rfl rfl rfl Try.underlying24 rfl size_inst ?_)
        | ((with_reducible refine Step.gate_load (t := 24) rfl ?_); refine loadAllW ST.out.one rfl rfl rfl Try.underlying24 rfl size_inst ?_)
        | ((with_reducible refine Step.gate_load (t := 24) rfl ?_); refine loadAllW ST.out.two rfl rfl rfl Try.underlying24 rfl size_inst ?_))
      go_ret
      exact ⟨rfl, ST.out.below⟩
    · have TE := Lib.hid hE
      clear hE
      obtain ⟨k, fn, rd, rs1, rs2, imm, sz, sg⟩ := i
      simp only [told, Ins.cells, Ins.zero] at TE TW TF TX ⊢
      go_enter Try.func6, Try.ntmps6
      go_wp2_with (first
        | (go_at_call 12; (with_reducible refine (TE.out _).mono ?_); rintro e w' ⟨rfl, hb⟩; (try replace PB := Lib.hid (PB.out.below hb)); replace ST := Lib.hid (ST.out.call hb); clear hb)
        | (go_at_call 12; (with_reducible refine (TF.out _).mono ?_); rintro e w' ⟨rfl, hb⟩; (try replace PB := Lib.hid (PB.out.below hb)); replace ST := Lib.hid (ST.out.call hb); clear hb)
        | (go_at_call 9; (with_reducible refine (TV.out _).mono ?_); rintro e w' ⟨rfl, hb⟩; (try replace PB := Lib.hid (PB.out.below hb)); replace ST := Lib.hid (ST.out.call hb); clear hb)
        | (go_at_call 9; (with_reducible refine (TW.out _).mono ?_); rintro e w' ⟨rfl, hb⟩; (try replace PB := Lib.hid (PB.out.below hb)); replace ST := Lib.hid (ST.out.call hb); clear hb)
        | (go_at_call 9; (with_reducible refine (TX.out _).mono ?_); rintro e w' ⟨rfl, hb⟩; (try replace PB := Lib.hid (PB.out.below hb)); replace ST := Lib.hid (ST.out.call hb); clear hb)
        | (go_at_call 11; (with_reducible refine (TA.out _).mono ?_); rintro e w' ⟨rfl, hb⟩; (try replace PB := Lib.hid (PB.out.below hb)); replace ST := Lib.hid (ST.out.call hb); clear hb)
        | ((with_reducible refine Step.gate_box (t := 24) rfl ?_); refine Step.fresh (cs := #[.int .i64 k, .int .i64 fn, .int .i64 rd, .int .i64 rs1, .int .i64 rs2, .int .i64 imm, .int .i64 sz, .bool sg]) (T := 24) rfl ?hr ?_; (case hr => first | (go_simp; done) | (go_simp; rfl)); intro g1 w1 b hg hb; have ST := Lib.hid (S1.made b hg hb); clear b hg hb)
        | ((with_reducible refine Step.gate_alloc (t := 24) rfl ?_); (with_reducible refine Step.gate_dst (N := 7) rfl ?_); refine Step.freshAlloc rfl rfl (alloc_agg zero_inst) ?_; intro g2 w2 b hg hb; replace ST := Lib.hid (ST.out.more b hg hb); clear b hg hb)
        | ((with_reducible refine Step.gate_alloc (t := 24) rfl ?_); (with_reducible refine Step.gate_dst (N := 9) rfl ?_); refine Step.freshAlloc rfl rfl (alloc_agg zero_inst) ?_; intro g3 w2 b hg hb; replace ST := Lib.hid (S1.mk (below_below ST.out.below hb) b (Nat.le_trans ST.out.below.size hg)); clear b hg hb)
        | ((with_reducible refine Step.gate_alloc (t := 24) rfl ?_); (with_reducible refine Step.gate_dst (N := 12) rfl ?_); refine Step.freshAlloc rfl rfl (alloc_agg zero_inst) ?_; intro g4 w2 b hg hb; replace ST := Lib.hid (ST.out.more b hg hb); clear b hg hb)
        | ((with_reducible refine Step.gate_store (t := 3) rfl ?_); refine Step.store ST.out.one rfl rfl rfl rfl rfl pl_int rfl rfl ?_; intro w3 nb m; replace ST := Lib.hid (ST.out.set1 nb m); clear nb m)
        | ((with_reducible refine Step.gate_store (t := 4) rfl ?_); refine Step.store ST.out.one rfl rfl rfl rfl rfl pl_bool rfl rfl ?_; intro w3 nb m; replace ST := Lib.hid (ST.out.set1 nb m); clear nb m)
        | ((with_reducible refine Step.gate_store (t := 24) rfl ?_); refine Step.storeAll ST.out.one rfl rfl rfl rfl rfl size_inst rfl rfl ?_; intro w3 nb m; replace ST := Lib.hid (ST.out.set1 nb m); clear nb m)
        | ((with_reducible refine Step.gate_load (t := 3) rfl ?_); refine Step.load ST.out.one rfl rfl rfl pl_int rfl ?_)
        | ((with_reducible refine Step.gate_load (t := 4) rfl ?_); refine Step.load ST.out.one rfl rfl rfl pl_bool rfl ?_)
        | ((with_reducible refine Step.gate_load (t := 24) rfl ?_); refine Step.loadAll ST.out.one rfl rfl rfl Try.underlying24 rfl size_inst ?_)
        | ((with_reducible refine Step.gate_store (t := 3) rfl ?_); refine Step.store ST.out.two rfl rfl rfl rfl rfl pl_int rfl rfl ?_; intro w3 nb m; replace ST := Lib.hid (ST.out.set2 nb m); clear nb m)
        | ((with_reducible refine Step.gate_store (t := 4) rfl ?_); refine Step.store ST.out.two rfl rfl rfl rfl rfl pl_bool rfl rfl ?_; intro w3 nb m; replace ST := Lib.hid (ST.out.set2 nb m); clear nb m)
        | ((with_reducible refine Step.gate_store (t := 24) rfl ?_); refine Step.storeAll ST.out.two rfl rfl rfl rfl rfl size_inst rfl rfl ?_; intro w3 nb m; replace ST := Lib.hid (ST.out.set2 nb m); clear nb m)
        | ((with_reducible refine Step.gate_load (t := 3) rfl ?_); refine Step.load ST.out.two rfl rfl rfl pl_int rfl ?_)
        | ((with_reducible refine Step.gate_load (t := 4) rfl ?_); refine Step.load ST.out.two rfl rfl rfl pl_bool rfl ?_)
        | ((with_reducible refine Step.gate_load (t := 24) rfl ?_); refine Step.loadAll ST.out.two rfl rfl rfl Try.underlying24 rfl size_inst ?_)
        | ((with_reducible refine Step.gate_load (t := 24) rfl ?_); refine loadAllW ST.out.one rfl rfl rfl Try.underlying24 rfl size_inst ?_)
        | ((with_reducible refine Step.gate_load (t := 24) rfl ?_); refine loadAllW ST.out.two rfl rfl rfl Try.underlying24 rfl size_inst ?_))
      go_ret
      exact ⟨rfl, ST.out.below⟩

end Go.Proofs.Ytdhmfjcijcdnjaa.Enc
