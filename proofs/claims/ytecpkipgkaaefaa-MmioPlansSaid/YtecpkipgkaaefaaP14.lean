/- Parts of the walks and laws for the claim: DecE; no conditions beyond the theorems' own. -/
import Derived.Test.YtecpkipgkaaefaaP4
import Derived.Test.YtecpkipgkaaefaaP13
section
namespace Go.Proofs.Ytecpkipgkaaefaa.Enc
open Go Go.RowKit Go.Proofs.Ytecpkipgkaaefaa.Step
set_option linter.unusedVariables false
set_option linter.unusedSimpArgs false
set_option maxRecDepth 100000
set_option maxHeartbeats 1000000 in
theorem decode_any (a : Int) (ha : W32 a) (w : World) : Calls Try.prog 24 #[.int .u32 a] w fun e w' => Says (dec a) e ∧ Below w.heap.size w w' := by
  have T2 := Lib.hid (fun w => calls_below (rd_any a ha w))
  have T3 := Lib.hid (fun w => calls_below (rs1_any a ha w))
  have T4 := Lib.hid (fun w => calls_below (rs2_any a ha w))
  have TO := fun w => calls_below (op_any a ha w)
  unfold dec
  by_cases h : fd a 6 0 = 55
  · have C := decode_55 a (immU a) (fd a 11 7) (fd a 19 15) (fd a 24 20) _ _ _ _ _ _ _ _ _ (Lib.hid (fun w => by have := TO w; rw [h] at this; exact this)) (Lib.hid (fun w => calls_below (u_any a ha w))) T2 T3 T4 (Lib.hid (fun w => plain1 a (fd a 11 7) 0 0 (immU a) w)) w
    rw [h]
    refine C.mono fun e w' k => ⟨⟨⟨1, 0, (fd a 11 7), 0, 0, immU a, 0, false⟩, true, k.1, ?_⟩, k.2⟩
    simp [decOp]
  have n55 := h
  clear h
  by_cases h : fd a 6 0 = 23
  · have C := decode_23 a (immU a) (fd a 11 7) (fd a 19 15) (fd a 24 20) _ _ _ _ _ _ _ _ _ (Lib.hid (fun w => by have := TO w; rw [h] at this; exact this)) (Lib.hid (fun w => calls_below (u_any a ha w))) T2 T3 T4 (Lib.hid (fun w => plain2 a (fd a 11 7) 0 0 (immU a) w)) w
    rw [h]
    refine C.mono fun e w' k => ⟨⟨⟨2, 0, (fd a 11 7), 0, 0, immU a, 0, false⟩, true, k.1, ?_⟩, k.2⟩
    simp [decOp]
  have n23 := h
  clear h
  by_cases h : fd a 6 0 = 111
  · have C := decode_111 a (immJ a) (fd a 11 7) (fd a 19 15) (fd a 24 20) _ _ _ _ _ _ _ _ _ (Lib.hid (fun w => by have := TO w; rw [h] at this; exact this)) (Lib.hid (fun w => calls_below (j_any a ha w))) T2 T3 T4 (Lib.hid (fun w => plain3 a (fd a 11 7) 0 0 (immJ a) w)) w
    rw [h]
    refine C.mono fun e w' k => ⟨⟨⟨3, 0, (fd a 11 7), 0, 0, immJ a, 0, false⟩, true, k.1, ?_⟩, k.2⟩
    simp [decOp]
  have n111 := h
  clear h
  by_cases h : fd a 6 0 = 103
  · have C := decode_103 a (immI a) (fd a 11 7) (fd a 19 15) (fd a 24 20) _ _ _ _ _ _ _ _ _ (Lib.hid (fun w => by have := TO w; rw [h] at this; exact this)) (Lib.hid (fun w => calls_below (i_any a ha w))) T2 T3 T4 (Lib.hid (fun w => plain4 a (fd a 11 7) (fd a 19 15) 0 (immI a) ha w)) w
    rw [h]
    refine C.mono fun e w' k => ⟨⟨⟨4, 0, (fd a 11 7), (fd a 19 15), 0, immI a, 0, false⟩, ((fd a 14 12) == 0), k.1, ?_⟩, k.2⟩
    simp [decOp]
  have n103 := h
  clear h
  by_cases h : fd a 6 0 = 99
  · have C := decode_99 a (immB a) (fd a 11 7) (fd a 19 15) (fd a 24 20) _ _ _ _ _ _ _ _ _ (Lib.hid (fun w => by have := TO w; rw [h] at this; exact this)) (Lib.hid (fun w => calls_below (b_any a ha w))) T2 T3 T4 (Lib.hid (fun w => plain5 a 0 (fd a 19 15) (fd a 24 20) (immB a) ha w)) w
    rw [h]
    refine C.mono fun e w' k => ⟨⟨⟨5, (pk brL (fd a 14 12)), 0, (fd a 19 15), (fd a 24 20), immB a, 0, false⟩, (pk brL (fd a 14 12) != 0), k.1, ?_⟩, k.2⟩
    simp [decOp]
  have n99 := h
  clear h
  by_cases h : fd a 6 0 = 3
  · have C := decode_3 a (immI a) (fd a 11 7) (fd a 19 15) (fd a 24 20) _ _ _ _ _ _ _ _ _ (Lib.hid (fun w => by have := TO w; rw [h] at this; exact this)) (Lib.hid (fun w => calls_below (i_any a ha w))) T2 T3 T4 (Lib.hid (fun w => plain6 a (fd a 11 7) (fd a 19 15) 0 (immI a) ha w)) w
    rw [h]
    refine C.mono fun e w' k => ⟨⟨⟨6, 0, (fd a 11 7), (fd a 19 15), 0, immI a, (pk ldL (fd a 14 12)), (decide ((fd a 14 12) < 4))⟩, (decide ((fd a 14 12) < 7)), k.1, ?_⟩, k.2⟩
    simp [decOp]
  have n3 := h
  clear h
  by_cases h : fd a 6 0 = 35
  · have C := decode_35 a (immS a) (fd a 11 7) (fd a 19 15) (fd a 24 20) _ _ _ _ _ _ _ _ _ (Lib.hid (fun w => by have := TO w; rw [h] at this; exact this)) (Lib.hid (fun w => calls_below (s_any a ha w))) T2 T3 T4 (Lib.hid (fun w => plain7 a 0 (fd a 19 15) (fd a 24 20) (immS a) ha w)) w
    rw [h]
    refine C.mono fun e w' k => ⟨⟨⟨7, 0, 0, (fd a 19 15), (fd a 24 20), immS a, (pk stL (fd a 14 12)), false⟩, (decide ((fd a 14 12) < 4)), k.1, ?_⟩, k.2⟩
    simp [decOp]
  have n35 := h
  clear h
  by_cases h : fd a 6 0 = 19
  · have C := decode_19 a (immI a) (fd a 11 7) (fd a 19 15) (fd a 24 20) _ _ _ _ _ _ _ _ _ (Lib.hid (fun w => by have := TO w; rw [h] at this; exact this)) (Lib.hid (fun w => calls_below (i_any a ha w))) T2 T3 T4 (Lib.hid (fun w => plain9_13 a (fd a 11 7) (fd a 19 15) (immI a) ha h w)) w
    rw [h]
    refine C.mono fun e w' k => ⟨⟨⟨9, (im13 (fd a 31 26) (fd a 14 12) (fd a 25 20) (immI a)).1, (fd a 11 7), (fd a 19 15), 0, (im13 (fd a 31 26) (fd a 14 12) (fd a 25 20) (immI a)).2.1, 0, false⟩, (im13 (fd a 31 26) (fd a 14 12) (fd a 25 20) (immI a)).2.2, k.1, ?_⟩, k.2⟩
    simp [decOp]
  have n19 := h
  clear h
  by_cases h : fd a 6 0 = 27
  · have C := decode_27 a (immI a) (fd a 11 7) (fd a 19 15) (fd a 24 20) _ _ _ _ _ _ _ _ _ (Lib.hid (fun w => by have := TO w; rw [h] at this; exact this)) (Lib.hid (fun w => calls_below (i_any a ha w))) T2 T3 T4 (Lib.hid (fun w => plain9_1b a (fd a 11 7) (fd a 19 15) (immI a) ha h w)) w
    rw [h]
    refine C.mono fun e w' k => ⟨⟨⟨9, (im1b (fd a 31 25) (fd a 14 12) (fd a 24 20) (immI a)).1, (fd a 11 7), (fd a 19 15), 0, (im1b (fd a 31 25) (fd a 14 12) (fd a 24 20) (immI a)).2.1, 0, false⟩, (im1b (fd a 31 25) (fd a 14 12) (fd a 24 20) (immI a)).2.2, k.1, ?_⟩, k.2⟩
    simp [decOp]
  have n27 := h
  clear h
  by_cases h : fd a 6 0 = 51
  · have C := decode_51 a (0) (fd a 11 7) (fd a 19 15) (fd a 24 20) _ _ _ _ _ _ _ _ _ (Lib.hid (fun w => by have := TO w; rw [h] at this; exact this)) (Lib.hid (fun w => calls_below (none_any a w))) T2 T3 T4 (Lib.hid (fun w => plain8 a (fd a 11 7) (fd a 19 15) (fd a 24 20) (0) ha true h w)) w
    rw [h]
    refine C.mono fun e w' k => ⟨⟨⟨8, (regF true (fd a 31 25) (fd a 14 12)), (fd a 11 7), (fd a 19 15), (fd a 24 20), 0, 0, false⟩, (regF true (fd a 31 25) (fd a 14 12) != 0), k.1, ?_⟩, k.2⟩
    simp [decOp]
  have n51 := h
  clear h
  by_cases h : fd a 6 0 = 59
  · have C := decode_59 a (0) (fd a 11 7) (fd a 19 15) (fd a 24 20) _ _ _ _ _ _ _ _ _ (Lib.hid (fun w => by have := TO w; rw [h] at this; exact this)) (Lib.hid (fun w => calls_below (none_any a w))) T2 T3 T4 (Lib.hid (fun w => plain8 a (fd a 11 7) (fd a 19 15) (fd a 24 20) (0) ha false h w)) w
    rw [h]
    refine C.mono fun e w' k => ⟨⟨⟨8, (regF false (fd a 31 25) (fd a 14 12)), (fd a 11 7), (fd a 19 15), (fd a 24 20), 0, 0, false⟩, (regF false (fd a 31 25) (fd a 14 12) != 0), k.1, ?_⟩, k.2⟩
    simp [decOp]
  have n59 := h
  clear h
  by_cases h : fd a 6 0 = 15
  · have C := decode_15 a (fd a 14 12) (Lib.hid (fun w => by have := TO w; rw [h] at this; exact this)) (Lib.hid (fun w => calls_below (f3_any a ha w))) w
    rw [h]
    refine C.mono fun e w' k => ⟨⟨⟨10, 0, 0, 0, 0, 0, 0, false⟩, (decide (fd a 14 12 < 2)), k.1, ?_⟩, k.2⟩
    simp [decOp]
  have n15 := h
  clear h
  by_cases h : fd a 6 0 = 115
  · have H115 : ∀ (r1 r2 r3 r4 r5 r6 r7 : Int) (r8 r9 : Bool), (∀ w, Calls Try.prog 37 #[.int .u32 a] w fun e w' => e = .returned (.tuple #[.agg #[.int .i64 r1, .int .i64 r2, .int .i64 r3, .int .i64 r4, .int .i64 r5, .int .i64 r6, .int .i64 r7, .bool r8], .bool r9]) ∧ Below w.heap.size w w') → sysD a = (if r9 then some ⟨r1, r2, r3, r4, r5, r6, r7, r8⟩ else none) → Calls Try.prog 24 #[.int .u32 a] w fun e w' => Says (decOp (fd a 6 0) a) e ∧ Below w.heap.size w w' := by
      intro r1 r2 r3 r4 r5 r6 r7 r8 r9 hc hs
      have C := decode_115 a r1 r2 r3 r4 r5 r6 r7 r8 r9 (Lib.hid (fun w => by have := TO w; rw [h] at this; exact this)) (Lib.hid hc) w
      refine C.mono fun e w' k => ⟨⟨⟨r1, r2, r3, r4, r5, r6, r7, r8⟩, r9, k.1, ?_⟩, k.2⟩
      rw [h, ← hs]
      simp [decOp]
    by_cases l0 : a = 115
    · exact H115 _ _ _ _ _ _ _ _ _ (fun w => by rw [l0]; exact system_11 w) (by simp [sysD, l0])
    by_cases l1 : a = 1048691
    · exact H115 _ _ _ _ _ _ _ _ _ (fun w => by rw [l1]; exact system_12 w) (by simp [sysD, l1])
    by_cases l2 : a = 270532723
    · exact H115 _ _ _ _ _ _ _ _ _ (fun w => by rw [l2]; exact system_18 w) (by simp [sysD, l2])
    by_cases l3 : a = 273678451
    · exact H115 _ _ _ _ _ _ _ _ _ (fun w => by rw [l3]; exact system_19 w) (by simp [sysD, l3])
    by_cases h0 : fd a 14 12 = 0
    · exact H115 _ _ _ _ _ _ _ _ _ (fun w => system_f0 a ha l0 l1 l2 l3 h0 w) (by simp [sysD, l0, l1, l2, l3, h0])
    · exact H115 _ _ _ _ _ _ _ _ _ (fun w => system_csr a ha l0 l1 l2 l3 h0 w) (by rcases Classical.em (pk ([0, 1, 2, 3, 0, 1, 2, 3] : List Int) (fd a 14 12) = 0) with hp | hp <;> simp [sysD, l0, l1, l2, l3, h0, csL, hp])
  have n115 := h
  clear h
  by_cases h : fd a 6 0 = 47
  · have H47 : ∀ (r1 r2 r3 r4 r5 r6 r7 : Int) (r8 r9 : Bool), (∀ w, Calls Try.prog 38 #[.int .u32 a] w fun e w' => e = .returned (.tuple #[.agg #[.int .i64 r1, .int .i64 r2, .int .i64 r3, .int .i64 r4, .int .i64 r5, .int .i64 r6, .int .i64 r7, .bool r8], .bool r9]) ∧ Below w.heap.size w w') → atD a = (if r9 then some ⟨r1, r2, r3, r4, r5, r6, r7, r8⟩ else none) → Calls Try.prog 24 #[.int .u32 a] w fun e w' => Says (decOp (fd a 6 0) a) e ∧ Below w.heap.size w w' := by
      intro r1 r2 r3 r4 r5 r6 r7 r8 r9 hc hs
      have C := decode_47 a r1 r2 r3 r4 r5 r6 r7 r8 r9 (Lib.hid (fun w => by have := TO w; rw [h] at this; exact this)) (Lib.hid hc) w
      refine C.mono fun e w' k => ⟨⟨⟨r1, r2, r3, r4, r5, r6, r7, r8⟩, r9, k.1, ?_⟩, k.2⟩
      rw [h, ← hs]
      simp [decOp]
    by_cases h2 : fd a 14 12 = 2
    · exact H47 _ _ _ _ _ _ _ _ _ (fun w => atomic_2 a ha h2 w) (by simp [atD, h2])
    by_cases h3 : fd a 14 12 = 3
    · exact H47 _ _ _ _ _ _ _ _ _ (fun w => atomic_3 a ha h3 w) (by simp [atD, h3])
    · exact H47 _ _ _ _ _ _ _ _ _ (fun w => atomic_no a ha h2 h3 w) (by simp [atD, h2, h3])
  have C := decode_none a (fd a 6 0) n55 n23 n111 n103 n99 n3 n35 n19 n27 n51 n59 n15 n115 h (Lib.hid TO) w
  refine C.mono fun e w' k => ⟨⟨Ins.zero, false, k.1, ?_⟩, k.2⟩
  simp [decOp, n55, n23, n111, n103, n99, n3, n35, n19, n27, n51, n59, n15, n115, h]
theorem Decode_any (a : Int) (ha : W32 a) (w : World) : Calls Try.prog 15 #[.int .u32 a] w fun e w' => e = .returned (told (dec a)) ∧ Below w.heap.size w w' := by
  have T0 := Lib.hid (decode_any a ha)
  generalize dec a = d at *
  go_enter Try.func15, Try.ntmps15
  go_wp2_with (first
    | (go_at_call 24; (with_reducible refine (T0.out _).mono ?_); rintro e w' ⟨⟨j, ok, rfl, hd⟩, hb⟩; have st_ := Lib.hid (ST.out.call hb); clear ST hb; have ST := st_; cases j; rename_i r1 r2 r3 r4 r5 r6 r7 r8; simp only [Ins.cells]; cases ok <;> simp only [Bool.false_eq_true, if_false, if_true] at hd <;> subst hd)
    | ((with_reducible refine Step.gate_alloc (t := 41) rfl ?_); refine Step.freshAlloc rfl rfl (alloc_agg zero_inst) ?_; intro g2 w2 b hg hb; have st_ := Lib.hid (ST.out.more b hg hb); clear ST b hg hb; have ST := st_)
    | ((with_reducible refine Step.gate_alloc (t := 41) rfl ?_); refine Step.freshAlloc rfl rfl (alloc_agg zero_inst) ?_; intro g1 w1 b hg hb; have ST := Lib.hid (S1.made b hg hb); clear b hg hb)
    | ((with_reducible refine Step.gate_store (t := 3) rfl ?_); refine Step.store ST.out.one rfl rfl rfl rfl rfl pl_int rfl rfl ?_; intro w3 nb m; have st_ := Lib.hid (ST.out.set1 nb m); clear ST nb m; have ST := st_)
    | ((with_reducible refine Step.gate_store (t := 4) rfl ?_); refine Step.store ST.out.one rfl rfl rfl rfl rfl pl_bool rfl rfl ?_; intro w3 nb m; have st_ := Lib.hid (ST.out.set1 nb m); clear ST nb m; have ST := st_)
    | ((with_reducible refine Step.gate_store (t := 41) rfl ?_); refine Step.storeAll ST.out.one rfl rfl rfl rfl rfl size_inst rfl rfl ?_; intro w3 nb m; have st_ := Lib.hid (ST.out.set1 nb m); clear ST nb m; have ST := st_)
    | ((with_reducible refine Step.gate_load (t := 3) rfl ?_); refine Step.load ST.out.one rfl rfl rfl pl_int rfl ?_)
    | ((with_reducible refine Step.gate_load (t := 4) rfl ?_); refine Step.load ST.out.one rfl rfl rfl pl_bool rfl ?_)
    | ((with_reducible refine Step.gate_load (t := 41) rfl ?_); refine Step.loadAll ST.out.one rfl rfl rfl Try.underlying41 rfl size_inst ?_)
    | ((with_reducible refine Step.gate_store (t := 3) rfl ?_); refine Step.store ST.out.two rfl rfl rfl rfl rfl pl_int rfl rfl ?_; intro w3 nb m; have st_ := Lib.hid (ST.out.set2 nb m); clear ST nb m; have ST := st_)
    | ((with_reducible refine Step.gate_store (t := 4) rfl ?_); refine Step.store ST.out.two rfl rfl rfl rfl rfl pl_bool rfl rfl ?_; intro w3 nb m; have st_ := Lib.hid (ST.out.set2 nb m); clear ST nb m; have ST := st_)
    | ((with_reducible refine Step.gate_store (t := 41) rfl ?_); refine Step.storeAll ST.out.two rfl rfl rfl rfl rfl size_inst rfl rfl ?_; intro w3 nb m; have st_ := Lib.hid (ST.out.set2 nb m); clear ST nb m; have ST := st_)
    | ((with_reducible refine Step.gate_load (t := 3) rfl ?_); refine Step.load ST.out.two rfl rfl rfl pl_int rfl ?_)
    | ((with_reducible refine Step.gate_load (t := 4) rfl ?_); refine Step.load ST.out.two rfl rfl rfl pl_bool rfl ?_)
    | ((with_reducible refine Step.gate_load (t := 41) rfl ?_); refine Step.loadAll ST.out.two rfl rfl rfl Try.underlying41 rfl size_inst ?_))
  all_goals refine bodyPost_ret (results_row_tmp rfl _ _ g1 _ _ _ rfl ST.out.one Try.underlying41 rfl size_inst) rfl ⟨rfl, ST.out.below⟩
end Go.Proofs.Ytecpkipgkaaefaa.Enc
end
