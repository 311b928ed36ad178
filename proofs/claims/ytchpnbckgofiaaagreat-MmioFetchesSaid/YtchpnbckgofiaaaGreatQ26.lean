/- Parts of the walks and laws for the claim: DecF, DecG, EncodeK, REncK, Kin, ExpCK; no conditions beyond the theorems' own. -/
import Derived.Test.YtchpnbckgofiaaaGreatQ13
import Derived.Test.YtchpnbckgofiaaaGreatQ15
import Derived.Test.YtchpnbckgofiaaaGreatQ16
import Derived.Test.YtchpnbckgofiaaaGreatQ18
import Derived.Test.YtchpnbckgofiaaaGreatQ20
import Derived.Test.YtchpnbckgofiaaaGreatQ23
import Derived.Test.YtchpnbckgofiaaaGreatQ24
import Derived.Test.YtchpnbckgofiaaaGreatQ25
section
namespace Go.Proofs.YtchpnbckgofiaaaGreat.Enc
open Go Go.RowKit Go.Proofs.YtchpnbckgofiaaaGreat.Step
set_option linter.unusedVariables false
set_option linter.unusedSimpArgs false
set_option maxRecDepth 100000
theorem Decode_of (a : Int) (T0 : Hid (∀ w, Calls Tryz.prog 69 #[.int .u32 a] w fun e w' => Says (dec a) e ∧ Below w.heap.size w w')) (w : World) : Calls Tryz.prog 44 #[.int .u32 a] w fun e w' => e = .returned (told (dec a)) ∧ Below w.heap.size w w' := by
  generalize dec a = d at *
  go_enter Tryz.func44, Tryz.ntmps44
  go_wp2_with (first
    | (go_at_call 69; (with_reducible refine (T0.out _).mono ?_); rintro e w' ⟨⟨j, ok, rfl, hd⟩, hb⟩; replace ST := Lib.hid (ST.out.call hb); clear hb; cases j; rename_i r1 r2 r3 r4 r5 r6 r7 r8; simp only [Ins.cells]; cases ok <;> simp only [Bool.false_eq_true, if_false, if_true] at hd <;> subst hd)
    | (refine Step.freshAlloc rfl rfl (alloc_agg zero_inst) ?_; intro g2 w2 b hg hb; replace ST := Lib.hid (ST.out.more b hg hb); clear b hg hb)
    | (refine Step.freshAlloc rfl rfl (alloc_agg zero_inst) ?_; intro g1 w1 b hg hb; have ST := Lib.hid (S1.made b hg hb); clear b hg hb)
    | (refine Step.storeAll ST.out.one rfl rfl rfl rfl rfl size_inst rfl rfl ?_; intro w3 nb m; replace ST := Lib.hid (ST.out.set1 nb m); clear nb m)
    | (refine Step.storeAll ST.out.two rfl rfl rfl rfl rfl size_inst rfl rfl ?_; intro w3 nb m; replace ST := Lib.hid (ST.out.set2 nb m); clear nb m)
    | (refine Step.loadAll ST.out.two rfl rfl rfl Tryz.underlying85 rfl size_inst ?_))
  all_goals refine bodyPost_ret (results_row_tmp rfl _ _ g1 _ _ _ rfl ST.out.one Tryz.underlying85 rfl size_inst) rfl ⟨rfl, ST.out.below⟩
theorem Dec_55 (a : Int) (ha : W32 a) (h : fd a 6 0 = 55) (w : World) : Calls Tryz.prog 44 #[.int .u32 a] w fun e w' => e = .returned (told (dec a)) ∧ Below w.heap.size w w' := by
  refine Decode_of a (Lib.hid fun w => ?_) w
  have T2 := Lib.hid (fun w => calls_below (rd_any a ha w))
  have T3 := Lib.hid (fun w => calls_below (rs1_any a ha w))
  have T4 := Lib.hid (fun w => calls_below (rs2_any a ha w))
  have TO := fun w => calls_below (op_any a ha w)
  unfold dec
  have C := decode_55 a (immU a) (fd a 11 7) (fd a 19 15) (fd a 24 20) _ _ _ _ _ _ _ _ _ (Lib.hid (fun w => by have := TO w; rw [h] at this; exact this)) (Lib.hid (fun w => calls_below (u_any a ha w))) T2 T3 T4 (Lib.hid (fun w => plain1 a (fd a 11 7) 0 0 (immU a) w)) w
  rw [h]
  refine C.mono fun e w' k => ⟨⟨⟨1, 0, (fd a 11 7), 0, 0, immU a, 0, false⟩, true, k.1, ?_⟩, k.2⟩
  simp [decOp]
theorem Dec_111 (a : Int) (ha : W32 a) (h : fd a 6 0 = 111) (w : World) : Calls Tryz.prog 44 #[.int .u32 a] w fun e w' => e = .returned (told (dec a)) ∧ Below w.heap.size w w' := by
  refine Decode_of a (Lib.hid fun w => ?_) w
  have T2 := Lib.hid (fun w => calls_below (rd_any a ha w))
  have T3 := Lib.hid (fun w => calls_below (rs1_any a ha w))
  have T4 := Lib.hid (fun w => calls_below (rs2_any a ha w))
  have TO := fun w => calls_below (op_any a ha w)
  unfold dec
  have C := decode_111 a (immJ a) (fd a 11 7) (fd a 19 15) (fd a 24 20) _ _ _ _ _ _ _ _ _ (Lib.hid (fun w => by have := TO w; rw [h] at this; exact this)) (Lib.hid (fun w => calls_below (j_any a ha w))) T2 T3 T4 (Lib.hid (fun w => plain3 a (fd a 11 7) 0 0 (immJ a) w)) w
  rw [h]
  refine C.mono fun e w' k => ⟨⟨⟨3, 0, (fd a 11 7), 0, 0, immJ a, 0, false⟩, true, k.1, ?_⟩, k.2⟩
  simp [decOp]
theorem Dec_103 (a : Int) (ha : W32 a) (h : fd a 6 0 = 103) (w : World) : Calls Tryz.prog 44 #[.int .u32 a] w fun e w' => e = .returned (told (dec a)) ∧ Below w.heap.size w w' := by
  refine Decode_of a (Lib.hid fun w => ?_) w
  have T2 := Lib.hid (fun w => calls_below (rd_any a ha w))
  have T3 := Lib.hid (fun w => calls_below (rs1_any a ha w))
  have T4 := Lib.hid (fun w => calls_below (rs2_any a ha w))
  have TO := fun w => calls_below (op_any a ha w)
  unfold dec
  have C := decode_103 a (immI a) (fd a 11 7) (fd a 19 15) (fd a 24 20) _ _ _ _ _ _ _ _ _ (Lib.hid (fun w => by have := TO w; rw [h] at this; exact this)) (Lib.hid (fun w => calls_below (i_any a ha w))) T2 T3 T4 (Lib.hid (fun w => plain4 a (fd a 11 7) (fd a 19 15) 0 (immI a) ha w)) w
  rw [h]
  refine C.mono fun e w' k => ⟨⟨⟨4, 0, (fd a 11 7), (fd a 19 15), 0, immI a, 0, false⟩, ((fd a 14 12) == 0), k.1, ?_⟩, k.2⟩
  simp [decOp]
theorem Dec_99 (a : Int) (ha : W32 a) (h : fd a 6 0 = 99) (w : World) : Calls Tryz.prog 44 #[.int .u32 a] w fun e w' => e = .returned (told (dec a)) ∧ Below w.heap.size w w' := by
  refine Decode_of a (Lib.hid fun w => ?_) w
  have T2 := Lib.hid (fun w => calls_below (rd_any a ha w))
  have T3 := Lib.hid (fun w => calls_below (rs1_any a ha w))
  have T4 := Lib.hid (fun w => calls_below (rs2_any a ha w))
  have TO := fun w => calls_below (op_any a ha w)
  unfold dec
  have C := decode_99 a (immB a) (fd a 11 7) (fd a 19 15) (fd a 24 20) _ _ _ _ _ _ _ _ _ (Lib.hid (fun w => by have := TO w; rw [h] at this; exact this)) (Lib.hid (fun w => calls_below (b_any a ha w))) T2 T3 T4 (Lib.hid (fun w => plain5 a 0 (fd a 19 15) (fd a 24 20) (immB a) ha w)) w
  rw [h]
  refine C.mono fun e w' k => ⟨⟨⟨5, (pk brL (fd a 14 12)), 0, (fd a 19 15), (fd a 24 20), immB a, 0, false⟩, (pk brL (fd a 14 12) != 0), k.1, ?_⟩, k.2⟩
  simp [decOp]
theorem Dec_3 (a : Int) (ha : W32 a) (h : fd a 6 0 = 3) (w : World) : Calls Tryz.prog 44 #[.int .u32 a] w fun e w' => e = .returned (told (dec a)) ∧ Below w.heap.size w w' := by
  refine Decode_of a (Lib.hid fun w => ?_) w
  have T2 := Lib.hid (fun w => calls_below (rd_any a ha w))
  have T3 := Lib.hid (fun w => calls_below (rs1_any a ha w))
  have T4 := Lib.hid (fun w => calls_below (rs2_any a ha w))
  have TO := fun w => calls_below (op_any a ha w)
  unfold dec
  have C := decode_3 a (immI a) (fd a 11 7) (fd a 19 15) (fd a 24 20) _ _ _ _ _ _ _ _ _ (Lib.hid (fun w => by have := TO w; rw [h] at this; exact this)) (Lib.hid (fun w => calls_below (i_any a ha w))) T2 T3 T4 (Lib.hid (fun w => plain6 a (fd a 11 7) (fd a 19 15) 0 (immI a) ha w)) w
  rw [h]
  refine C.mono fun e w' k => ⟨⟨⟨6, 0, (fd a 11 7), (fd a 19 15), 0, immI a, (pk ldL (fd a 14 12)), (decide ((fd a 14 12) < 4))⟩, (decide ((fd a 14 12) < 7)), k.1, ?_⟩, k.2⟩
  simp [decOp]
theorem Dec_35 (a : Int) (ha : W32 a) (h : fd a 6 0 = 35) (w : World) : Calls Tryz.prog 44 #[.int .u32 a] w fun e w' => e = .returned (told (dec a)) ∧ Below w.heap.size w w' := by
  refine Decode_of a (Lib.hid fun w => ?_) w
  have T2 := Lib.hid (fun w => calls_below (rd_any a ha w))
  have T3 := Lib.hid (fun w => calls_below (rs1_any a ha w))
  have T4 := Lib.hid (fun w => calls_below (rs2_any a ha w))
  have TO := fun w => calls_below (op_any a ha w)
  unfold dec
  have C := decode_35 a (immS a) (fd a 11 7) (fd a 19 15) (fd a 24 20) _ _ _ _ _ _ _ _ _ (Lib.hid (fun w => by have := TO w; rw [h] at this; exact this)) (Lib.hid (fun w => calls_below (s_any a ha w))) T2 T3 T4 (Lib.hid (fun w => plain7 a 0 (fd a 19 15) (fd a 24 20) (immS a) ha w)) w
  rw [h]
  refine C.mono fun e w' k => ⟨⟨⟨7, 0, 0, (fd a 19 15), (fd a 24 20), immS a, (pk stL (fd a 14 12)), false⟩, (decide ((fd a 14 12) < 4)), k.1, ?_⟩, k.2⟩
  simp [decOp]
theorem Dec_19 (a : Int) (ha : W32 a) (h : fd a 6 0 = 19) (w : World) : Calls Tryz.prog 44 #[.int .u32 a] w fun e w' => e = .returned (told (dec a)) ∧ Below w.heap.size w w' := by
  refine Decode_of a (Lib.hid fun w => ?_) w
  have T2 := Lib.hid (fun w => calls_below (rd_any a ha w))
  have T3 := Lib.hid (fun w => calls_below (rs1_any a ha w))
  have T4 := Lib.hid (fun w => calls_below (rs2_any a ha w))
  have TO := fun w => calls_below (op_any a ha w)
  unfold dec
  have C := decode_19 a (immI a) (fd a 11 7) (fd a 19 15) (fd a 24 20) _ _ _ _ _ _ _ _ _ (Lib.hid (fun w => by have := TO w; rw [h] at this; exact this)) (Lib.hid (fun w => calls_below (i_any a ha w))) T2 T3 T4 (Lib.hid (fun w => plain9_13 a (fd a 11 7) (fd a 19 15) (immI a) ha h w)) w
  rw [h]
  refine C.mono fun e w' k => ⟨⟨⟨9, (im13 (fd a 31 26) (fd a 14 12) (fd a 25 20) (immI a)).1, (fd a 11 7), (fd a 19 15), 0, (im13 (fd a 31 26) (fd a 14 12) (fd a 25 20) (immI a)).2.1, 0, false⟩, (im13 (fd a 31 26) (fd a 14 12) (fd a 25 20) (immI a)).2.2, k.1, ?_⟩, k.2⟩
  simp [decOp]
theorem Dec_27 (a : Int) (ha : W32 a) (h : fd a 6 0 = 27) (w : World) : Calls Tryz.prog 44 #[.int .u32 a] w fun e w' => e = .returned (told (dec a)) ∧ Below w.heap.size w w' := by
  refine Decode_of a (Lib.hid fun w => ?_) w
  have T2 := Lib.hid (fun w => calls_below (rd_any a ha w))
  have T3 := Lib.hid (fun w => calls_below (rs1_any a ha w))
  have T4 := Lib.hid (fun w => calls_below (rs2_any a ha w))
  have TO := fun w => calls_below (op_any a ha w)
  unfold dec
  have C := decode_27 a (immI a) (fd a 11 7) (fd a 19 15) (fd a 24 20) _ _ _ _ _ _ _ _ _ (Lib.hid (fun w => by have := TO w; rw [h] at this; exact this)) (Lib.hid (fun w => calls_below (i_any a ha w))) T2 T3 T4 (Lib.hid (fun w => plain9_1b a (fd a 11 7) (fd a 19 15) (immI a) ha h w)) w
  rw [h]
  refine C.mono fun e w' k => ⟨⟨⟨9, (im1b (fd a 31 25) (fd a 14 12) (fd a 24 20) (immI a)).1, (fd a 11 7), (fd a 19 15), 0, (im1b (fd a 31 25) (fd a 14 12) (fd a 24 20) (immI a)).2.1, 0, false⟩, (im1b (fd a 31 25) (fd a 14 12) (fd a 24 20) (immI a)).2.2, k.1, ?_⟩, k.2⟩
  simp [decOp]
theorem Dec_51 (a : Int) (ha : W32 a) (h : fd a 6 0 = 51) (w : World) : Calls Tryz.prog 44 #[.int .u32 a] w fun e w' => e = .returned (told (dec a)) ∧ Below w.heap.size w w' := by
  refine Decode_of a (Lib.hid fun w => ?_) w
  have T2 := Lib.hid (fun w => calls_below (rd_any a ha w))
  have T3 := Lib.hid (fun w => calls_below (rs1_any a ha w))
  have T4 := Lib.hid (fun w => calls_below (rs2_any a ha w))
  have TO := fun w => calls_below (op_any a ha w)
  unfold dec
  have C := decode_51 a (0) (fd a 11 7) (fd a 19 15) (fd a 24 20) _ _ _ _ _ _ _ _ _ (Lib.hid (fun w => by have := TO w; rw [h] at this; exact this)) (Lib.hid (fun w => calls_below (none_any a w))) T2 T3 T4 (Lib.hid (fun w => plain8 a (fd a 11 7) (fd a 19 15) (fd a 24 20) (0) ha true h w)) w
  rw [h]
  refine C.mono fun e w' k => ⟨⟨⟨8, (regF true (fd a 31 25) (fd a 14 12)), (fd a 11 7), (fd a 19 15), (fd a 24 20), 0, 0, false⟩, (regF true (fd a 31 25) (fd a 14 12) != 0), k.1, ?_⟩, k.2⟩
  simp [decOp]
theorem Dec_59 (a : Int) (ha : W32 a) (h : fd a 6 0 = 59) (w : World) : Calls Tryz.prog 44 #[.int .u32 a] w fun e w' => e = .returned (told (dec a)) ∧ Below w.heap.size w w' := by
  refine Decode_of a (Lib.hid fun w => ?_) w
  have T2 := Lib.hid (fun w => calls_below (rd_any a ha w))
  have T3 := Lib.hid (fun w => calls_below (rs1_any a ha w))
  have T4 := Lib.hid (fun w => calls_below (rs2_any a ha w))
  have TO := fun w => calls_below (op_any a ha w)
  unfold dec
  have C := decode_59 a (0) (fd a 11 7) (fd a 19 15) (fd a 24 20) _ _ _ _ _ _ _ _ _ (Lib.hid (fun w => by have := TO w; rw [h] at this; exact this)) (Lib.hid (fun w => calls_below (none_any a w))) T2 T3 T4 (Lib.hid (fun w => plain8 a (fd a 11 7) (fd a 19 15) (fd a 24 20) (0) ha false h w)) w
  rw [h]
  refine C.mono fun e w' k => ⟨⟨⟨8, (regF false (fd a 31 25) (fd a 14 12)), (fd a 11 7), (fd a 19 15), (fd a 24 20), 0, 0, false⟩, (regF false (fd a 31 25) (fd a 14 12) != 0), k.1, ?_⟩, k.2⟩
  simp [decOp]
theorem Dec_115_of (a : Int) (ha : W32 a) (h : fd a 6 0 = 115) (r1 r2 r3 r4 r5 r6 r7 : Int) (r8 r9 : Bool) (hc : ∀ w, Calls Tryz.prog 103 #[.int .u32 a] w fun e w' => e = .returned (.tuple #[.agg #[.int .i64 r1, .int .i64 r2, .int .i64 r3, .int .i64 r4, .int .i64 r5, .int .i64 r6, .int .i64 r7, .bool r8], .bool r9]) ∧ Below w.heap.size w w') (hs : sysD a = (if r9 then some ⟨r1, r2, r3, r4, r5, r6, r7, r8⟩ else none)) (w : World) : Calls Tryz.prog 44 #[.int .u32 a] w fun e w' => e = .returned (told (dec a)) ∧ Below w.heap.size w w' := by
  refine Decode_of a (Lib.hid fun w => ?_) w
  have TO := fun w => calls_below (op_any a ha w)
  unfold dec
  have C := decode_115 a r1 r2 r3 r4 r5 r6 r7 r8 r9 (Lib.hid (fun w => by have := TO w; rw [h] at this; exact this)) (Lib.hid hc) w
  refine C.mono fun e w' k => ⟨⟨⟨r1, r2, r3, r4, r5, r6, r7, r8⟩, r9, k.1, ?_⟩, k.2⟩
  rw [h, ← hs]
  simp [decOp]
end Go.Proofs.YtchpnbckgofiaaaGreat.Enc
end
section
namespace Go.Proofs.YtchpnbckgofiaaaGreat.Enc
open Go Go.RowKit Go.Proofs.YtchpnbckgofiaaaGreat.Step
set_option linter.unusedVariables false
set_option linter.unusedSimpArgs false
set_option maxRecDepth 100000
theorem rDec_55 (a : Int) (ha : W32 a) (h : fd a 6 0 = 55) (w : World) : Calls Tryz.prog 100 #[.int .u32 a] w fun e w' => e = .returned (told (dec a)) ∧ Below w.heap.size w w' := by
  unfold dec
  rw [h]
  exact rdec_55 a ha h w
theorem rDec_111 (a : Int) (ha : W32 a) (h : fd a 6 0 = 111) (w : World) : Calls Tryz.prog 100 #[.int .u32 a] w fun e w' => e = .returned (told (dec a)) ∧ Below w.heap.size w w' := by
  unfold dec
  rw [h]
  exact rdec_111 a ha h w
theorem rDec_103 (a : Int) (ha : W32 a) (h : fd a 6 0 = 103) (w : World) : Calls Tryz.prog 100 #[.int .u32 a] w fun e w' => e = .returned (told (dec a)) ∧ Below w.heap.size w w' := by
  unfold dec
  rw [h]
  exact rdec_103 a ha h w
theorem rDec_99 (a : Int) (ha : W32 a) (h : fd a 6 0 = 99) (w : World) : Calls Tryz.prog 100 #[.int .u32 a] w fun e w' => e = .returned (told (dec a)) ∧ Below w.heap.size w w' := by
  unfold dec
  rw [h]
  exact rdec_99 a ha h w
theorem rDec_3 (a : Int) (ha : W32 a) (h : fd a 6 0 = 3) (w : World) : Calls Tryz.prog 100 #[.int .u32 a] w fun e w' => e = .returned (told (dec a)) ∧ Below w.heap.size w w' := by
  unfold dec
  rw [h]
  exact rdec_3 a ha h w
theorem rDec_35 (a : Int) (ha : W32 a) (h : fd a 6 0 = 35) (w : World) : Calls Tryz.prog 100 #[.int .u32 a] w fun e w' => e = .returned (told (dec a)) ∧ Below w.heap.size w w' := by
  unfold dec
  rw [h]
  exact rdec_35 a ha h w
theorem rDec_19 (a : Int) (ha : W32 a) (h : fd a 6 0 = 19) (w : World) : Calls Tryz.prog 100 #[.int .u32 a] w fun e w' => e = .returned (told (dec a)) ∧ Below w.heap.size w w' := by
  unfold dec
  rw [h]
  exact rdec_19 a ha h w
theorem rDec_27 (a : Int) (ha : W32 a) (h : fd a 6 0 = 27) (w : World) : Calls Tryz.prog 100 #[.int .u32 a] w fun e w' => e = .returned (told (dec a)) ∧ Below w.heap.size w w' := by
  unfold dec
  rw [h]
  exact rdec_27 a ha h w
theorem rDec_51 (a : Int) (ha : W32 a) (h : fd a 6 0 = 51) (w : World) : Calls Tryz.prog 100 #[.int .u32 a] w fun e w' => e = .returned (told (dec a)) ∧ Below w.heap.size w w' := by
  unfold dec
  rw [h]
  exact rdec_51 a ha h w
theorem rDec_59 (a : Int) (ha : W32 a) (h : fd a 6 0 = 59) (w : World) : Calls Tryz.prog 100 #[.int .u32 a] w fun e w' => e = .returned (told (dec a)) ∧ Below w.heap.size w w' := by
  unfold dec
  rw [h]
  exact rdec_59 a ha h w
end Go.Proofs.YtchpnbckgofiaaaGreat.Enc
end
section
namespace Go.Proofs.YtchpnbckgofiaaaGreat.Enc
open Go Go.RowKit Go.Proofs.YtchpnbckgofiaaaGreat.Step
set_option linter.unusedVariables false
set_option linter.unusedSimpArgs false
set_option maxRecDepth 100000
theorem EncodeK_yes (i : Ins) (u : Int) (hu : W32 u) (hd : dec u = some i) (T1 : Hid (∀ w, Calls Tryz.prog 44 #[.int .u32 u] w fun e w' => e = .returned (told (dec u)) ∧ Below w.heap.size w w')) (T0 : Hid (∀ w, Calls Tryz.prog 60 #[.agg i.cells] w fun e w' => e = .returned (.int .u32 u) ∧ Below w.heap.size w w')) (w : World) :
    Calls Tryz.prog 34 #[.agg i.cells] w fun e w' => e = .returned (.tuple #[.int .u32 u, .bool true]) ∧ Below w.heap.size w w' := by
  rw [hd] at T1
  clear hd hu
  obtain ⟨k, fn, rd, rs1, rs2, imm, sz, sg⟩ := i
  simp only [told, Ins.cells] at T0 T1 ⊢
  go_enter Tryz.func34, Tryz.ntmps34
  go_wp2_with (first
    | (go_at_call 60; (with_reducible refine (T0.out _).mono ?_); rintro e w' ⟨rfl, hb⟩; replace ST := Lib.hid (ST.out.call hb); clear hb)
    | (go_at_call 44; (with_reducible refine (T1.out _).mono ?_); rintro e w' ⟨rfl, hb⟩; replace ST := Lib.hid (ST.out.call hb); clear hb)
    | (refine Step.freshAlloc rfl rfl (alloc_agg zero_inst) ?_; intro g2 w2 b hg hb; replace ST := Lib.hid (ST.out.more b hg hb); clear b hg hb)
    | ((with_reducible refine Step.gate_box (t := 85) rfl ?_); refine Step.fresh (cs := #[.int .i64 k, .int .i64 fn, .int .i64 rd, .int .i64 rs1, .int .i64 rs2, .int .i64 imm, .int .i64 sz, .bool sg]) (T := 85) rfl ?hr ?_; (case hr => go_simp); intro g1 w1 b hg hb; have ST := Lib.hid (S1.made b hg hb); clear b hg hb)
      | (refine Step.loadAll ST.out.one rfl rfl rfl Tryz.underlying85 rfl size_inst ?_)
      | (refine loadAllW ST.out.one rfl rfl rfl Tryz.underlying85 rfl size_inst ?_)
      | (refine Step.storeAll ST.out.two rfl rfl rfl rfl rfl size_inst rfl rfl ?_; intro w3 nb m; replace ST := Lib.hid (ST.out.set2 nb m); clear nb m)
      | (refine loadAllW ST.out.two rfl rfl rfl Tryz.underlying85 rfl size_inst ?_))
  go_ret2
  exact ⟨rfl, ST.out.below⟩
theorem EncodeK_no (i : Ins) (u : Int) (hu : W32 u) (hd : dec u ≠ some i) (T1 : Hid (∀ w, Calls Tryz.prog 44 #[.int .u32 u] w fun e w' => e = .returned (told (dec u)) ∧ Below w.heap.size w w')) (T0 : Hid (∀ w, Calls Tryz.prog 60 #[.agg i.cells] w fun e w' => e = .returned (.int .u32 u) ∧ Below w.heap.size w w')) (w : World) :
    Calls Tryz.prog 34 #[.agg i.cells] w fun e w' => e = .returned (.tuple #[.int .u32 0, .bool false]) ∧ Below w.heap.size w w' := by
  generalize dec u = d at *
  clear hu
  cases d with
  | none =>
    clear hd
    obtain ⟨k, fn, rd, rs1, rs2, imm, sz, sg⟩ := i
    simp only [told, Ins.cells, Ins.zero] at T0 T1 ⊢
    go_enter Tryz.func34, Tryz.ntmps34
    go_wp2_with (first
      | (go_at_call 60; (with_reducible refine (T0.out _).mono ?_); rintro e w' ⟨rfl, hb⟩; replace ST := Lib.hid (ST.out.call hb); clear hb)
      | (go_at_call 44; (with_reducible refine (T1.out _).mono ?_); rintro e w' ⟨rfl, hb⟩; replace ST := Lib.hid (ST.out.call hb); clear hb)
      | (refine Step.freshAlloc rfl rfl (alloc_agg zero_inst) ?_; intro g2 w2 b hg hb; replace ST := Lib.hid (ST.out.more b hg hb); clear b hg hb)
      | ((with_reducible refine Step.gate_box (t := 85) rfl ?_); refine Step.fresh (cs := #[.int .i64 k, .int .i64 fn, .int .i64 rd, .int .i64 rs1, .int .i64 rs2, .int .i64 imm, .int .i64 sz, .bool sg]) (T := 85) rfl ?hr ?_; (case hr => go_simp); intro g1 w1 b hg hb; have ST := Lib.hid (S1.made b hg hb); clear b hg hb)
      | (refine Step.loadAll ST.out.one rfl rfl rfl Tryz.underlying85 rfl size_inst ?_)
      | (refine Step.storeAll ST.out.two rfl rfl rfl rfl rfl size_inst rfl rfl ?_; intro w3 nb m; replace ST := Lib.hid (ST.out.set2 nb m); clear nb m))
    go_ret2
    exact ⟨rfl, ST.out.below⟩
  | some j =>
    obtain ⟨r1, r2, r3, r4, r5, r6, r7, r8⟩ := j
    obtain ⟨k, fn, rd, rs1, rs2, imm, sz, sg⟩ := i
    simp only [told, Ins.cells] at T0 T1 ⊢
    simp only [ne_eq, Option.some.injEq, Ins.mk.injEq] at hd
    have HD := Lib.hid hd
    clear hd
    go_enter Tryz.func34, Tryz.ntmps34
    go_wp2_with (first
      | (go_at_call 60; (with_reducible refine (T0.out _).mono ?_); rintro e w' ⟨rfl, hb⟩; replace ST := Lib.hid (ST.out.call hb); clear hb)
      | (go_at_call 44; (with_reducible refine (T1.out _).mono ?_); rintro e w' ⟨rfl, hb⟩; replace ST := Lib.hid (ST.out.call hb); clear hb)
      | (refine Step.freshAlloc rfl rfl (alloc_agg zero_inst) ?_; intro g2 w2 b hg hb; replace ST := Lib.hid (ST.out.more b hg hb); clear b hg hb)
      | ((with_reducible refine Step.gate_box (t := 85) rfl ?_); refine Step.fresh (cs := #[.int .i64 k, .int .i64 fn, .int .i64 rd, .int .i64 rs1, .int .i64 rs2, .int .i64 imm, .int .i64 sz, .bool sg]) (T := 85) rfl ?hr ?_; (case hr => go_simp); intro g1 w1 b hg hb; have ST := Lib.hid (S1.made b hg hb); clear b hg hb)
      | (refine Step.loadAll ST.out.one rfl rfl rfl Tryz.underlying85 rfl size_inst ?_)
      | (refine loadAllW ST.out.one rfl rfl rfl Tryz.underlying85 rfl size_inst ?_)
      | (refine Step.storeAll ST.out.two rfl rfl rfl rfl rfl size_inst rfl rfl ?_; intro w3 nb m; replace ST := Lib.hid (ST.out.set2 nb m); clear nb m)
      | (refine loadAllW ST.out.two rfl rfl rfl Tryz.underlying85 rfl size_inst ?_))
    all_goals first
      | (go_ret2; exact ⟨rfl, ST.out.below⟩)
      | (exfalso; refine HD.out ?_; simp_all; done)
end Go.Proofs.YtchpnbckgofiaaaGreat.Enc
end
section
namespace Go.Proofs.YtchpnbckgofiaaaGreat.Enc
open Go Go.RowKit Go.Proofs.YtchpnbckgofiaaaGreat.Step
set_option linter.unusedVariables false
set_option linter.unusedSimpArgs false
set_option maxRecDepth 100000
set_option maxHeartbeats 4000000 in
theorem rEncodeK_yes (i : Ins) (u : Int) (hr : InR i) (hu : W32 u) (hd : dec u = some i) (T1 : Hid (∀ w, Calls Tryz.prog 100 #[.int .u32 u] w fun e w' => e = .returned (told (dec u)) ∧ Below w.heap.size w w')) (T0 : Hid (∀ w, Calls Tryz.prog 99 #[.agg i.cells] w fun e w' => e = .returned (.int .u32 u) ∧ Below w.heap.size w w')) (w : World) :
    Calls Tryz.prog 66 #[.agg i.cells] w fun e w' => e = .returned (.tuple #[.int .u32 u, .bool true]) ∧ Below w.heap.size w w' := by
  have TI := Lib.hid in_any
  obtain ⟨k, fn, rd, rs1, rs2, imm, sz, sg⟩ := i
  have hf : decide (imm < -2147483648) = false ∧ decide (2147483648 ≤ imm) = false ∧ (decide (0 ≤ rd) && decide (rd ≤ 31)) = true ∧ (decide (0 ≤ rs1) && decide (rs1 ≤ 31)) = true ∧ (decide (0 ≤ rs2) && decide (rs2 ≤ 31)) = true ∧ (decide (0 ≤ fn) && decide (fn ≤ 28)) = true ∧ (decide (0 ≤ sz) && decide (sz ≤ 8)) = true := by
    simp only [InR] at hr
    refine ⟨decide_eq_false (by omega), decide_eq_false (by omega), ?_, ?_, ?_, ?_, ?_⟩ <;> (simp only [Bool.and_eq_true, decide_eq_true_eq]; omega)
  clear hr
  obtain ⟨f0, f1, f2, f3, f4, f5, f6⟩ := hf
  simp only [Ins.cells] at T0 ⊢
  rw [hd] at T1
  clear hd hu
  simp only [told, Ins.cells] at T1
  go_enter Tryz.func66, Tryz.ntmps66
  go_wp2_with (first
    | (go_at_call 98; (with_reducible refine (TI.out _ _ _ _).mono ?_); rintro e w' ⟨rfl, hb⟩; replace ST := Lib.hid (ST.out.call hb); clear hb)
    | (go_at_call 99; (with_reducible refine (T0.out _).mono ?_); rintro e w' ⟨rfl, hb⟩; replace ST := Lib.hid (ST.out.call hb); clear hb)
    | (go_at_call 100; (with_reducible refine (T1.out _).mono ?_); rintro e w' ⟨rfl, hb⟩; replace ST := Lib.hid (ST.out.call hb); clear hb)
    | (refine Step.freshAlloc rfl rfl (alloc_agg zero_inst) ?_; intro g2 w2 b hg hb; replace ST := Lib.hid (ST.out.more b hg hb); clear b hg hb)
    | ((with_reducible refine Step.gate_box (t := 85) rfl ?_); refine Step.fresh (cs := #[.int .i64 k, .int .i64 fn, .int .i64 rd, .int .i64 rs1, .int .i64 rs2, .int .i64 imm, .int .i64 sz, .bool sg]) (T := 85) rfl ?hr ?_; (case hr => go_simp); intro g1 w1 b hg hb; have ST := Lib.hid (S1.made b hg hb); clear b hg hb)
    | (refine loadW1 ST.out.one rfl rfl rfl pl_int rfl ?_)
    | (refine Step.loadAll ST.out.one rfl rfl rfl Tryz.underlying85 rfl size_inst ?_)
    | (refine Step.storeAll ST.out.two rfl rfl rfl rfl rfl size_inst rfl rfl ?_; intro w3 nb m; replace ST := Lib.hid (ST.out.set2 nb m); clear nb m)
    | (refine loadAllW ST.out.one rfl rfl rfl Tryz.underlying85 rfl size_inst ?_)
    | (refine loadAllW ST.out.two rfl rfl rfl Tryz.underlying85 rfl size_inst ?_))
  go_ret2
  exact ⟨rfl, ST.out.below⟩
set_option maxHeartbeats 4000000 in
theorem rEncodeK_no (i : Ins) (u : Int) (hr : InR i) (hu : W32 u) (hd : dec u ≠ some i) (T1 : Hid (∀ w, Calls Tryz.prog 100 #[.int .u32 u] w fun e w' => e = .returned (told (dec u)) ∧ Below w.heap.size w w')) (T0 : Hid (∀ w, Calls Tryz.prog 99 #[.agg i.cells] w fun e w' => e = .returned (.int .u32 u) ∧ Below w.heap.size w w')) (w : World) :
    Calls Tryz.prog 66 #[.agg i.cells] w fun e w' => e = .returned (.tuple #[.int .u32 0, .bool false]) ∧ Below w.heap.size w w' := by
  have TI := Lib.hid in_any
  obtain ⟨k, fn, rd, rs1, rs2, imm, sz, sg⟩ := i
  have hf : decide (imm < -2147483648) = false ∧ decide (2147483648 ≤ imm) = false ∧ (decide (0 ≤ rd) && decide (rd ≤ 31)) = true ∧ (decide (0 ≤ rs1) && decide (rs1 ≤ 31)) = true ∧ (decide (0 ≤ rs2) && decide (rs2 ≤ 31)) = true ∧ (decide (0 ≤ fn) && decide (fn ≤ 28)) = true ∧ (decide (0 ≤ sz) && decide (sz ≤ 8)) = true := by
    simp only [InR] at hr
    refine ⟨decide_eq_false (by omega), decide_eq_false (by omega), ?_, ?_, ?_, ?_, ?_⟩ <;> (simp only [Bool.and_eq_true, decide_eq_true_eq]; omega)
  clear hr
  obtain ⟨f0, f1, f2, f3, f4, f5, f6⟩ := hf
  simp only [Ins.cells] at T0 ⊢
  generalize dec u = d at *
  clear hu
  cases d with
  | none =>
    clear hd
    simp only [told, Ins.cells, Ins.zero] at T1
    go_enter Tryz.func66, Tryz.ntmps66
    go_wp2_with (first
      | (go_at_call 98; (with_reducible refine (TI.out _ _ _ _).mono ?_); rintro e w' ⟨rfl, hb⟩; replace ST := Lib.hid (ST.out.call hb); clear hb)
      | (go_at_call 99; (with_reducible refine (T0.out _).mono ?_); rintro e w' ⟨rfl, hb⟩; replace ST := Lib.hid (ST.out.call hb); clear hb)
      | (go_at_call 100; (with_reducible refine (T1.out _).mono ?_); rintro e w' ⟨rfl, hb⟩; replace ST := Lib.hid (ST.out.call hb); clear hb)
      | (refine Step.freshAlloc rfl rfl (alloc_agg zero_inst) ?_; intro g2 w2 b hg hb; replace ST := Lib.hid (ST.out.more b hg hb); clear b hg hb)
      | ((with_reducible refine Step.gate_box (t := 85) rfl ?_); refine Step.fresh (cs := #[.int .i64 k, .int .i64 fn, .int .i64 rd, .int .i64 rs1, .int .i64 rs2, .int .i64 imm, .int .i64 sz, .bool sg]) (T := 85) rfl ?hr ?_; (case hr => go_simp); intro g1 w1 b hg hb; have ST := Lib.hid (S1.made b hg hb); clear b hg hb)
      | (refine loadW1 ST.out.one rfl rfl rfl pl_int rfl ?_)
      | (refine Step.loadAll ST.out.one rfl rfl rfl Tryz.underlying85 rfl size_inst ?_)
      | (refine Step.storeAll ST.out.two rfl rfl rfl rfl rfl size_inst rfl rfl ?_; intro w3 nb m; replace ST := Lib.hid (ST.out.set2 nb m); clear nb m))
    go_ret2
    exact ⟨rfl, ST.out.below⟩
  | some j =>
    obtain ⟨r1, r2, r3, r4, r5, r6, r7, r8⟩ := j
    simp only [told, Ins.cells] at T1
    simp only [ne_eq, Option.some.injEq, Ins.mk.injEq] at hd
    have HD := Lib.hid hd
    clear hd
    go_enter Tryz.func66, Tryz.ntmps66
    go_wp2_with (first
      | (go_at_call 98; (with_reducible refine (TI.out _ _ _ _).mono ?_); rintro e w' ⟨rfl, hb⟩; replace ST := Lib.hid (ST.out.call hb); clear hb)
      | (go_at_call 99; (with_reducible refine (T0.out _).mono ?_); rintro e w' ⟨rfl, hb⟩; replace ST := Lib.hid (ST.out.call hb); clear hb)
      | (go_at_call 100; (with_reducible refine (T1.out _).mono ?_); rintro e w' ⟨rfl, hb⟩; replace ST := Lib.hid (ST.out.call hb); clear hb)
      | (refine Step.freshAlloc rfl rfl (alloc_agg zero_inst) ?_; intro g2 w2 b hg hb; replace ST := Lib.hid (ST.out.more b hg hb); clear b hg hb)
      | ((with_reducible refine Step.gate_box (t := 85) rfl ?_); refine Step.fresh (cs := #[.int .i64 k, .int .i64 fn, .int .i64 rd, .int .i64 rs1, .int .i64 rs2, .int .i64 imm, .int .i64 sz, .bool sg]) (T := 85) rfl ?hr ?_; (case hr => go_simp); intro g1 w1 b hg hb; have ST := Lib.hid (S1.made b hg hb); clear b hg hb)
      | (refine loadW1 ST.out.one rfl rfl rfl pl_int rfl ?_)
      | (refine Step.loadAll ST.out.one rfl rfl rfl Tryz.underlying85 rfl size_inst ?_)
      | (refine Step.storeAll ST.out.two rfl rfl rfl rfl rfl size_inst rfl rfl ?_; intro w3 nb m; replace ST := Lib.hid (ST.out.set2 nb m); clear nb m)
      | (refine loadAllW ST.out.one rfl rfl rfl Tryz.underlying85 rfl size_inst ?_)
      | (refine loadAllW ST.out.two rfl rfl rfl Tryz.underlying85 rfl size_inst ?_))
    all_goals first
      | (go_ret2; exact ⟨rfl, ST.out.below⟩)
      | (exfalso; refine HD.out ?_; simp_all; done)
end Go.Proofs.YtchpnbckgofiaaaGreat.Enc
end
section
namespace Go.Proofs.YtchpnbckgofiaaaGreat.Enc
open Go Go.RowKit Go.Proofs.YtchpnbckgofiaaaGreat.Step
set_option linter.unusedVariables false
set_option linter.unusedSimpArgs false
set_option maxRecDepth 100000
/-- The instructions that a compressed one stands for are of these kinds. -/
def Kin (i : Ins) : Prop := i.k = 1 ∨ i.k = 3 ∨ i.k = 4 ∨ i.k = 5 ∨ i.k = 6 ∨ i.k = 7 ∨ i.k = 9 ∨ i.k = 12 ∨ (i.k = 8 ∧ (i.fn = 1 ∨ i.fn = 2 ∨ i.fn = 6 ∨ i.fn = 9 ∨ i.fn = 10 ∨ i.fn = 19 ∨ i.fn = 20))
theorem arL_in {x : Int} (h0 : 0 ≤ x) (h : x < 8) (hn : ¬ pk arL x = 0) : pk arL x = 1 ∨ pk arL x = 2 ∨ pk arL x = 6 ∨ pk arL x = 9 ∨ pk arL x = 10 ∨ pk arL x = 19 ∨ pk arL x = 20 := by
  obtain h | h | h | h | h | h | h | h : x = 0 ∨ x = 1 ∨ x = 2 ∨ x = 3 ∨ x = 4 ∨ x = 5 ∨ x = 6 ∨ x = 7 := by omega
  all_goals (subst h; revert hn; decide)
def KO (d : Option Ins) : Prop := ∀ i, d = some i → Kin i
theorem ko_none : KO none := fun i h => nomatch h
theorem ko_some {i : Ins} (h : Kin i) : KO (some i) := fun j e => by cases e; exact h
theorem ko_ite {p : Prop} [Decidable p] {x y : Option Ins} (hx : KO x) (hy : ¬ p → KO y) : KO (if p then x else y) := by
  split
  · exact hx
  · rename_i h; exact hy h
theorem exp_ko (c : Int) : KO (expD c) := by
  have b1 := fd_lit (a := c) (h := 12) (l := 12) (n := 2) rfl
  have b2 := fd_lit (a := c) (h := 6) (l := 5) (n := 4) rfl
  have HZ := fun hn => arL_in (x := fd c 12 12 * 4 + fd c 6 5) (by omega) (by omega) hn
  unfold expD e0 e1 e2 ar mv
  repeat' (first
    | with_reducible exact ko_none
    | ((with_reducible refine ko_some ?_); simp [Kin]; done)
    | ((with_reducible refine ko_some ?_); exact .inr (.inr (.inr (.inr (.inr (.inr (.inr (.inr ⟨rfl, HZ (by assumption)⟩))))))))
    | with_reducible refine ko_ite ?_ (fun hn => ?_))
theorem exp_kin {c : Int} {i : Ins} (h : expD c = some i) : Kin i := exp_ko c i h
/-- The lowest seven bits. -/
theorem bor_lo {x y : Int} (hy : y % 128 = 0) : bor x y % 128 = x % 128 := by
  rw [bor_bv, BitVec.toNat_or]
  have hx' : (BitVec.ofInt 32 x).toNat % 2 ^ 7 = (x % 128).toNat := by rw [BitVec.toNat_ofInt]; omega
  have hy' : (BitVec.ofInt 32 y).toNat % 2 ^ 7 = 0 := by rw [BitVec.toNat_ofInt]; omega
  have e : ((BitVec.ofInt 32 x).toNat ||| (BitVec.ofInt 32 y).toNat) % 2 ^ 7 = (x % 128).toNat := by rw [Nat.or_mod_two_pow, hx', hy', Nat.or_zero]
  omega
theorem pt_z (v : Int) (n l : Nat) (h : 7 ≤ l) : pt v n l % 128 = 0 := by
  obtain ⟨m, rfl⟩ := Nat.exists_eq_add_of_le h
  unfold pt
  rw [Nat.pow_add, Int.natCast_mul, ← Int.mul_assoc, Int.mul_comm (v % _) _, Int.mul_assoc]
  exact Int.mul_emod_right _ _
theorem bor_z {x y : Int} (hx : x % 128 = 0) (hy : y % 128 = 0) : bor x y % 128 = 0 := (bor_lo hy).trans hx
theorem regW_z (a b c : Int) : regW a b c % 128 = 0 := bor_z (bor_z (pt_z _ _ _ (by decide)) (pt_z _ _ _ (by decide))) (pt_z _ _ _ (by decide))
theorem al1_z (f : Int) : al1 f % 128 = 0 := by
  unfold al1
  split
  · exact bor_z (pt_z _ _ _ (by decide)) (by decide)
  · exact pt_z _ _ _ (by decide)
theorem al_z (f : Int) : al f % 128 = 0 := by
  unfold al
  split
  · exact bor_z (al1_z f) (by decide)
  split
  · exact bor_z (al1_z f) (by decide)
  · exact al1_z f
theorem mul_z (x : Int) : x * 4096 % 128 = 0 := by omega
theorem lo_ {x y c : Int} (hx : x % 128 = c) (hy : y % 128 = 0) : bor x y % 128 = c := (bor_lo hy).trans hx
theorem lor_ {x y c : Int} (hx : x % 128 = c) (hy : y % 128 = 0) : rbor x y % 128 = c := (bor_lo hy).trans hx
theorem rbor_z {x y : Int} (hx : x % 128 = 0) (hy : y % 128 = 0) : rbor x y % 128 = 0 := bor_z hx hy
/-- Words of which both sides are told what they read. -/
def Ops (u : Int) : Prop := u = 1048691 ∨ u % 128 = 55 ∨ u % 128 = 111 ∨ u % 128 = 103 ∨ u % 128 = 99 ∨ u % 128 = 3 ∨ u % 128 = 35 ∨ u % 128 = 51 ∨ u % 128 = 59 ∨ u % 128 = 19 ∨ u % 128 = 27
theorem decK {u : Int} (hu : W32 u) (h : Ops u) (w : World) : Calls Tryz.prog 44 #[.int .u32 u] w fun e w' => e = .returned (told (dec u)) ∧ Below w.heap.size w w' := by
  have e : fd u 6 0 = u % 128 := by show u / ((1 : Nat) : Int) % ((128 : Nat) : Int) = u % 128; omega
  rcases h with rfl | h | h | h | h | h | h | h | h | h | h
  · exact Dec_115_of 1048691 ⟨by decide, by decide⟩ (by kernel_rfl) _ _ _ _ _ _ _ _ _ (fun w => system_12 w) (by simp [sysD]) w
  · exact Dec_55 u hu (e.trans h) w
  · exact Dec_111 u hu (e.trans h) w
  · exact Dec_103 u hu (e.trans h) w
  · exact Dec_99 u hu (e.trans h) w
  · exact Dec_3 u hu (e.trans h) w
  · exact Dec_35 u hu (e.trans h) w
  · exact Dec_51 u hu (e.trans h) w
  · exact Dec_59 u hu (e.trans h) w
  · exact Dec_19 u hu (e.trans h) w
  · exact Dec_27 u hu (e.trans h) w
theorem rdecK {u : Int} (hu : W32 u) (h : Ops u) (w : World) : Calls Tryz.prog 100 #[.int .u32 u] w fun e w' => e = .returned (told (dec u)) ∧ Below w.heap.size w w' := by
  have e : fd u 6 0 = u % 128 := by show u / ((1 : Nat) : Int) % ((128 : Nat) : Int) = u % 128; omega
  rcases h with rfl | h | h | h | h | h | h | h | h | h | h
  · have hop : fd 1048691 6 0 = 115 := by kernel_rfl
    unfold dec
    rw [hop, show decOp 115 1048691 = sysD 1048691 from by simp [decOp]]
    refine rdec_115_of 1048691 ⟨by decide, by decide⟩ hop (sysD 1048691) (Lib.hid fun w => ?_) w
    rw [show sysD 1048691 = some ⟨12, 0, 0, 0, 0, 0, 0, false⟩ from by simp [sysD]]
    exact rsystem_12 (fd 1048691 14 12) (fd 1048691 31 25) (fd 1048691 11 7) (fd 1048691 19 15) (fd 1048691 24 20) w
  · exact rDec_55 u hu (e.trans h) w
  · exact rDec_111 u hu (e.trans h) w
  · exact rDec_103 u hu (e.trans h) w
  · exact rDec_99 u hu (e.trans h) w
  · exact rDec_3 u hu (e.trans h) w
  · exact rDec_35 u hu (e.trans h) w
  · exact rDec_51 u hu (e.trans h) w
  · exact rDec_59 u hu (e.trans h) w
  · exact rDec_19 u hu (e.trans h) w
  · exact rDec_27 u hu (e.trans h) w
theorem encI_lo (f m : Int) : encI f m % 128 = 27 ∨ encI f m % 128 = 19 := by
  unfold encI
  repeat' split
  all_goals first
    | (refine .inl ?_; (repeat' (first | with_reducible exact regW_z _ _ _ | with_reducible refine pt_z _ _ _ ?_ | with_reducible exact al_z _ | with_reducible exact mul_z _ | with_reducible refine lo_ ?_ ?_ | with_reducible refine lor_ ?_ ?_ | with_reducible refine bor_z ?_ ?_ | with_reducible refine rbor_z ?_ ?_ | decide)); done)
    | (refine .inr ?_; (repeat' (first | with_reducible exact regW_z _ _ _ | with_reducible refine pt_z _ _ _ ?_ | with_reducible exact al_z _ | with_reducible exact mul_z _ | with_reducible refine lo_ ?_ ?_ | with_reducible refine lor_ ?_ ?_ | with_reducible refine bor_z ?_ ?_ | with_reducible refine rbor_z ?_ ?_ | decide)); done)
theorem enc_ops {i : Ins} (h : Kin i) : Ops (encP i) := by
  obtain ⟨k, fn, rd, rs1, rs2, imm, sz, sg⟩ := i
  rcases h with h | h | h | h | h | h | h | h | ⟨h, hf⟩
  all_goals (dsimp only at h; subst h)
  · have e : encP ⟨1, fn, rd, rs1, rs2, imm, sz, sg⟩ % 128 = 55 := by
      simp only [encP, Int.reduceEq, if_true, if_false]
      all_goals ((repeat' (first | with_reducible exact regW_z _ _ _ | with_reducible refine pt_z _ _ _ ?_ | with_reducible exact al_z _ | with_reducible exact mul_z _ | with_reducible refine lo_ ?_ ?_ | with_reducible refine lor_ ?_ ?_ | with_reducible refine bor_z ?_ ?_ | with_reducible refine rbor_z ?_ ?_ | decide)))
    exact .inr (.inl e)
  · have e : encP ⟨3, fn, rd, rs1, rs2, imm, sz, sg⟩ % 128 = 111 := by
      simp only [encP, Int.reduceEq, if_true, if_false]
      all_goals ((repeat' (first | with_reducible exact regW_z _ _ _ | with_reducible refine pt_z _ _ _ ?_ | with_reducible exact al_z _ | with_reducible exact mul_z _ | with_reducible refine lo_ ?_ ?_ | with_reducible refine lor_ ?_ ?_ | with_reducible refine bor_z ?_ ?_ | with_reducible refine rbor_z ?_ ?_ | decide)))
    exact .inr (.inr (.inl e))
  · have e : encP ⟨4, fn, rd, rs1, rs2, imm, sz, sg⟩ % 128 = 103 := by
      simp only [encP, Int.reduceEq, if_true, if_false]
      all_goals ((repeat' (first | with_reducible exact regW_z _ _ _ | with_reducible refine pt_z _ _ _ ?_ | with_reducible exact al_z _ | with_reducible exact mul_z _ | with_reducible refine lo_ ?_ ?_ | with_reducible refine lor_ ?_ ?_ | with_reducible refine bor_z ?_ ?_ | with_reducible refine rbor_z ?_ ?_ | decide)))
    exact .inr (.inr (.inr (.inl e)))
  · have e : encP ⟨5, fn, rd, rs1, rs2, imm, sz, sg⟩ % 128 = 99 := by
      simp only [encP, Int.reduceEq, if_true, if_false]
      all_goals ((repeat' (first | with_reducible exact regW_z _ _ _ | with_reducible refine pt_z _ _ _ ?_ | with_reducible exact al_z _ | with_reducible exact mul_z _ | with_reducible refine lo_ ?_ ?_ | with_reducible refine lor_ ?_ ?_ | with_reducible refine bor_z ?_ ?_ | with_reducible refine rbor_z ?_ ?_ | decide)))
    exact .inr (.inr (.inr (.inr (.inl e))))
  · have e : encP ⟨6, fn, rd, rs1, rs2, imm, sz, sg⟩ % 128 = 3 := by
      simp only [encP, Int.reduceEq, if_true, if_false]
      split
      all_goals ((repeat' (first | with_reducible exact regW_z _ _ _ | with_reducible refine pt_z _ _ _ ?_ | with_reducible exact al_z _ | with_reducible exact mul_z _ | with_reducible refine lo_ ?_ ?_ | with_reducible refine lor_ ?_ ?_ | with_reducible refine bor_z ?_ ?_ | with_reducible refine rbor_z ?_ ?_ | decide)))
    exact .inr (.inr (.inr (.inr (.inr (.inl e)))))
  · have e : encP ⟨7, fn, rd, rs1, rs2, imm, sz, sg⟩ % 128 = 35 := by
      simp only [encP, Int.reduceEq, if_true, if_false]
      all_goals ((repeat' (first | with_reducible exact regW_z _ _ _ | with_reducible refine pt_z _ _ _ ?_ | with_reducible exact al_z _ | with_reducible exact mul_z _ | with_reducible refine lo_ ?_ ?_ | with_reducible refine lor_ ?_ ?_ | with_reducible refine bor_z ?_ ?_ | with_reducible refine rbor_z ?_ ?_ | decide)))
    exact .inr (.inr (.inr (.inr (.inr (.inr (.inl e))))))
  · have e : encP ⟨9, fn, rd, rs1, rs2, imm, sz, sg⟩ = bor (encI fn imm) (regW rd rs1 rs2) := by simp [encP]
    rw [e]
    rcases encI_lo fn imm with h | h
    · exact .inr (.inr (.inr (.inr (.inr (.inr (.inr (.inr (.inr (.inr ((lo_ h (regW_z _ _ _))))))))))))
    · exact .inr (.inr (.inr (.inr (.inr (.inr (.inr (.inr (.inr (.inl (lo_ h (regW_z _ _ _)))))))))))
  · exact .inl (by simp [encP])
  · have e : encP ⟨8, fn, rd, rs1, rs2, imm, sz, sg⟩ = bor (pk rwL fn) (regW rd rs1 rs2) := by simp [encP]
    rw [e]
    dsimp only at hf
    rcases hf with rfl | rfl | rfl | rfl | rfl | rfl | rfl
    · exact .inr (.inr (.inr (.inr (.inr (.inr (.inr (.inl (lo_ (by decide) (regW_z _ _ _)))))))))
    · exact .inr (.inr (.inr (.inr (.inr (.inr (.inr (.inl (lo_ (by decide) (regW_z _ _ _)))))))))
    · exact .inr (.inr (.inr (.inr (.inr (.inr (.inr (.inl (lo_ (by decide) (regW_z _ _ _)))))))))
    · exact .inr (.inr (.inr (.inr (.inr (.inr (.inr (.inl (lo_ (by decide) (regW_z _ _ _)))))))))
    · exact .inr (.inr (.inr (.inr (.inr (.inr (.inr (.inl (lo_ (by decide) (regW_z _ _ _)))))))))
    · exact .inr (.inr (.inr (.inr (.inr (.inr (.inr (.inr (.inl (lo_ (by decide) (regW_z _ _ _))))))))))
    · exact .inr (.inr (.inr (.inr (.inr (.inr (.inr (.inr (.inl (lo_ (by decide) (regW_z _ _ _))))))))))
theorem word_ops {i : Ins} (h : Kin i) : Ops (wordP i) := by
  obtain ⟨k, fn, rd, rs1, rs2, imm, sz, sg⟩ := i
  rcases h with h | h | h | h | h | h | h | h | ⟨h, hf⟩
  all_goals (dsimp only at h; subst h)
  · have e : wordP ⟨1, fn, rd, rs1, rs2, imm, sz, sg⟩ % 128 = 55 := by
      simp only [wordP, wordF, Int.reduceEq, if_true, if_false]
      all_goals ((repeat' (first | with_reducible exact regW_z _ _ _ | with_reducible refine pt_z _ _ _ ?_ | with_reducible exact al_z _ | with_reducible exact mul_z _ | with_reducible refine lo_ ?_ ?_ | with_reducible refine lor_ ?_ ?_ | with_reducible refine bor_z ?_ ?_ | with_reducible refine rbor_z ?_ ?_ | decide)))
    exact .inr (.inl e)
  · have e : wordP ⟨3, fn, rd, rs1, rs2, imm, sz, sg⟩ % 128 = 111 := by
      simp only [wordP, wordF, Int.reduceEq, if_true, if_false]
      all_goals ((repeat' (first | with_reducible exact regW_z _ _ _ | with_reducible refine pt_z _ _ _ ?_ | with_reducible exact al_z _ | with_reducible exact mul_z _ | with_reducible refine lo_ ?_ ?_ | with_reducible refine lor_ ?_ ?_ | with_reducible refine bor_z ?_ ?_ | with_reducible refine rbor_z ?_ ?_ | decide)))
    exact .inr (.inr (.inl e))
  · have e : wordP ⟨4, fn, rd, rs1, rs2, imm, sz, sg⟩ % 128 = 103 := by
      simp only [wordP, wordF, Int.reduceEq, if_true, if_false]
      all_goals ((repeat' (first | with_reducible exact regW_z _ _ _ | with_reducible refine pt_z _ _ _ ?_ | with_reducible exact al_z _ | with_reducible exact mul_z _ | with_reducible refine lo_ ?_ ?_ | with_reducible refine lor_ ?_ ?_ | with_reducible refine bor_z ?_ ?_ | with_reducible refine rbor_z ?_ ?_ | decide)))
    exact .inr (.inr (.inr (.inl e)))
  · have e : wordP ⟨5, fn, rd, rs1, rs2, imm, sz, sg⟩ % 128 = 99 := by
      simp only [wordP, wordF, Int.reduceEq, if_true, if_false]
      all_goals ((repeat' (first | with_reducible exact regW_z _ _ _ | with_reducible refine pt_z _ _ _ ?_ | with_reducible exact al_z _ | with_reducible exact mul_z _ | with_reducible refine lo_ ?_ ?_ | with_reducible refine lor_ ?_ ?_ | with_reducible refine bor_z ?_ ?_ | with_reducible refine rbor_z ?_ ?_ | decide)))
    exact .inr (.inr (.inr (.inr (.inl e))))
  · have e : wordP ⟨6, fn, rd, rs1, rs2, imm, sz, sg⟩ % 128 = 3 := by
      simp only [wordP, wordF, Int.reduceEq, if_true, if_false]
      split
      all_goals ((repeat' (first | with_reducible exact regW_z _ _ _ | with_reducible refine pt_z _ _ _ ?_ | with_reducible exact al_z _ | with_reducible exact mul_z _ | with_reducible refine lo_ ?_ ?_ | with_reducible refine lor_ ?_ ?_ | with_reducible refine bor_z ?_ ?_ | with_reducible refine rbor_z ?_ ?_ | decide)))
    exact .inr (.inr (.inr (.inr (.inr (.inl e)))))
  · have e : wordP ⟨7, fn, rd, rs1, rs2, imm, sz, sg⟩ % 128 = 35 := by
      simp only [wordP, wordF, Int.reduceEq, if_true, if_false]
      all_goals ((repeat' (first | with_reducible exact regW_z _ _ _ | with_reducible refine pt_z _ _ _ ?_ | with_reducible exact al_z _ | with_reducible exact mul_z _ | with_reducible refine lo_ ?_ ?_ | with_reducible refine lor_ ?_ ?_ | with_reducible refine bor_z ?_ ?_ | with_reducible refine rbor_z ?_ ?_ | decide)))
    exact .inr (.inr (.inr (.inr (.inr (.inr (.inl e))))))
  · have e : wordP ⟨9, fn, rd, rs1, rs2, imm, sz, sg⟩ % 128 = 27 ∨ wordP ⟨9, fn, rd, rs1, rs2, imm, sz, sg⟩ % 128 = 19 := by
      simp only [wordP, wordF, Int.reduceEq, if_true, if_false]
      split
      · refine .inl ?_; (repeat' (first | with_reducible exact regW_z _ _ _ | with_reducible refine pt_z _ _ _ ?_ | with_reducible exact al_z _ | with_reducible exact mul_z _ | with_reducible refine lo_ ?_ ?_ | with_reducible refine lor_ ?_ ?_ | with_reducible refine bor_z ?_ ?_ | with_reducible refine rbor_z ?_ ?_ | decide))
      · refine .inr ?_; (repeat' (first | with_reducible exact regW_z _ _ _ | with_reducible refine pt_z _ _ _ ?_ | with_reducible exact al_z _ | with_reducible exact mul_z _ | with_reducible refine lo_ ?_ ?_ | with_reducible refine lor_ ?_ ?_ | with_reducible refine bor_z ?_ ?_ | with_reducible refine rbor_z ?_ ?_ | decide))
    rcases e with e | e
    · exact .inr (.inr (.inr (.inr (.inr (.inr (.inr (.inr (.inr (.inr (e))))))))))
    · exact .inr (.inr (.inr (.inr (.inr (.inr (.inr (.inr (.inr (.inl e)))))))))
  · exact .inl (by simp [wordP, wordF])
  · have e : wordP ⟨8, fn, rd, rs1, rs2, imm, sz, sg⟩ % 128 = 59 ∨ wordP ⟨8, fn, rd, rs1, rs2, imm, sz, sg⟩ % 128 = 51 := by
      simp only [wordP, wordF, Int.reduceEq, if_true, if_false]
      split
      · refine .inl ?_; (repeat' (first | with_reducible exact regW_z _ _ _ | with_reducible refine pt_z _ _ _ ?_ | with_reducible exact al_z _ | with_reducible exact mul_z _ | with_reducible refine lo_ ?_ ?_ | with_reducible refine lor_ ?_ ?_ | with_reducible refine bor_z ?_ ?_ | with_reducible refine rbor_z ?_ ?_ | decide))
      · refine .inr ?_; (repeat' (first | with_reducible exact regW_z _ _ _ | with_reducible refine pt_z _ _ _ ?_ | with_reducible exact al_z _ | with_reducible exact mul_z _ | with_reducible refine lo_ ?_ ?_ | with_reducible refine lor_ ?_ ?_ | with_reducible refine bor_z ?_ ?_ | with_reducible refine rbor_z ?_ ?_ | decide))
    rcases e with e | e
    · exact .inr (.inr (.inr (.inr (.inr (.inr (.inr (.inr (.inl e))))))))
    · exact .inr (.inr (.inr (.inr (.inr (.inr (.inr (.inl e)))))))
theorem encode_K (i : Ins) (h : Kin i) (w : World) : Calls Tryz.prog 60 #[.agg i.cells] w fun e w' => e = .returned (.int .u32 (encP i)) ∧ Below w.heap.size w w' := by
  obtain ⟨k, fn, rd, rs1, rs2, imm, sz, sg⟩ := i
  rcases h with h | h | h | h | h | h | h | h | ⟨h, _⟩
  all_goals (dsimp only at h; subst h)
  · exact encode_1 fn rd rs1 rs2 imm sz sg w
  · exact encode_3 fn rd rs1 rs2 imm sz sg w
  · exact encode_4 fn rd rs1 rs2 imm sz sg w
  · exact encode_5 fn rd rs1 rs2 imm sz sg w
  · cases sg with
    | true => exact encode_6_true fn rd rs1 rs2 imm sz w
    | false => exact encode_6_false fn rd rs1 rs2 imm sz w
  · exact encode_7 fn rd rs1 rs2 imm sz sg w
  · exact encode_9 fn rd rs1 rs2 imm sz sg w
  · exact encode_12 fn rd rs1 rs2 imm sz sg w
  · exact encode_8 fn rd rs1 rs2 imm sz sg (pk rwL fn) (Lib.hid (encR_any 8 fn rd rs1 rs2 imm sz sg)) w
theorem kin_k {i : Ins} (h : Kin i) : i.k ≠ 2 ∧ i.k ≠ 10 ∧ i.k ≠ 11 ∧ i.k ≤ 12 := by
  unfold Kin at h
  omega
theorem enc_decK {a : Int} {i : Ins} (ha : W32 a) (hk : Kin i) (h : dec a = some i) : encP i = a := by
  have hq := kin_k hk
  have b4 := fd_lit (a := a) (h := 14) (l := 12) (n := 8) rfl
  unfold dec decOp at h
  rcases ite_some h with ⟨c, h⟩ | ⟨_, h⟩
  · injection h with h; subst h; exact k55 a ha.out c
  rcases ite_some h with ⟨c, h⟩ | ⟨_, h⟩
  · injection h with h; subst h; exact absurd rfl hq.1
  rcases ite_some h with ⟨c, h⟩ | ⟨_, h⟩
  · injection h with h; subst h; exact k111 a ha.out c
  rcases ite_some h with ⟨c, h⟩ | ⟨_, h⟩
  · rcases ite_some h with ⟨c2, h⟩ | ⟨_, h⟩
    · injection h with h; subst h; exact k103 a ha.out c c2
    · cases h
  rcases ite_some h with ⟨c, h⟩ | ⟨_, h⟩
  · rcases ite_some h with ⟨_, h⟩ | ⟨c2, h⟩
    · cases h
    · injection h with h
      subst h
      have k := k99 a ha.out c
      have e := ix_br b4 c2
      show bor (bor (bor (bor (bor (bor 99 (regW 0 (fd a 19 15) (fd a 24 20))) (pt (ix brI (pk brL (fd a 14 12))) 3 12)) _) _) _) _ = _
      rw [e]
      exact k
  rcases ite_some h with ⟨c, h⟩ | ⟨_, h⟩
  · rcases ite_some h with ⟨c2, h⟩ | ⟨_, h⟩
    · injection h with h
      subst h
      have k := k3 a ha.out c
      by_cases hx : fd a 14 12 < 4
      · rw [decide_eq_true hx]
        show bor (bor (bor 3 _) (pt (ix ld4 (pk ldL (fd a 14 12))) 3 12)) _ = _
        rw [(ix_ld b4.1 hx).1]
        exact k
      · rw [decide_eq_false hx]
        show bor (bor (bor 3 _) (pt (ix ld4 (pk ldL (fd a 14 12)) + 4) 3 12)) _ = _
        rw [ix_ld' (by omega) c2]
        exact k
    · cases h
  rcases ite_some h with ⟨c, h⟩ | ⟨_, h⟩
  · rcases ite_some h with ⟨c2, h⟩ | ⟨_, h⟩
    · injection h with h
      subst h
      have k := k35 a ha.out c
      show bor (bor (bor (bor 35 _) (pt (ix ld4 (pk stL (fd a 14 12))) 3 12)) _) _ = _
      rw [(ix_ld b4.1 c2).2]
      exact k
    · cases h
  rcases ite_some h with ⟨c, h⟩ | ⟨_, h⟩
  · rcases ite_some h with ⟨c2, h⟩ | ⟨_, h⟩
    · injection h with h
      subst h
      unfold im13 at c2 ⊢
      by_cases h1 : fd a 14 12 = 1
      · simp only [if_pos h1] at c2 ⊢
        by_cases h0 : fd a 31 26 = 0
        · simp only [if_pos h0]
          exact k19_1 a ha.out c h1 h0
        · simp only [if_neg h0] at c2
          cases c2
      simp only [if_neg h1] at c2 ⊢
      by_cases h5 : fd a 14 12 = 5
      · simp only [if_pos h5] at c2 ⊢
        by_cases h0 : fd a 31 26 = 0
        · simp only [if_pos h0]
          exact k19_5 a ha.out c h5 h0
        simp only [if_neg h0] at c2 ⊢
        by_cases h6 : fd a 31 26 = 16
        · simp only [if_pos h6]
          exact k19_5a a ha.out c h5 h6
        · simp only [if_neg h6] at c2
          cases c2
      simp only [if_neg h5]
      show bor (encI (pk imL (fd a 14 12)) (immI a)) _ = _
      rw [(ix_im b4 h1 h5).2]
      exact k19_o a ha.out c
    · cases h
  rcases ite_some h with ⟨c, h⟩ | ⟨_, h⟩
  · rcases ite_some h with ⟨c2, h⟩ | ⟨_, h⟩
    · injection h with h
      subst h
      unfold im1b at c2 ⊢
      by_cases h0 : fd a 14 12 = 0
      · simp only [if_pos h0]
        exact k27_0 a ha.out c h0
      simp only [if_neg h0] at c2 ⊢
      by_cases h1 : fd a 14 12 = 1
      · simp only [if_pos h1] at c2 ⊢
        by_cases hs : fd a 31 25 = 0
        · simp only [if_pos hs]
          exact k27_1 a ha.out c h1 hs
        · simp only [if_neg hs] at c2
          cases c2
      simp only [if_neg h1] at c2 ⊢
      by_cases h5 : fd a 14 12 = 5
      · simp only [if_pos h5] at c2 ⊢
        by_cases hs : fd a 31 25 = 0
        · simp only [if_pos hs]
          exact k27_5 a ha.out c h5 hs
        simp only [if_neg hs] at c2 ⊢
        by_cases h6 : fd a 31 25 = 32
        · simp only [if_pos h6]
          exact k27_5a a ha.out c h5 h6
        · simp only [if_neg h6] at c2
          cases c2
      · simp only [if_neg h5] at c2
        cases c2
    · cases h
  rcases ite_some h with ⟨c, h⟩ | ⟨_, h⟩
  · rcases ite_some h with ⟨_, h⟩ | ⟨c2, h⟩
    · cases h
    · injection h with h
      subst h
      show bor (pk rwL (regF true (fd a 31 25) (fd a 14 12))) _ = _
      rw [rw_regF b4 c2]
      exact k51 a ha.out c
  rcases ite_some h with ⟨c, h⟩ | ⟨_, h⟩
  · rcases ite_some h with ⟨_, h⟩ | ⟨c2, h⟩
    · cases h
    · injection h with h
      subst h
      show bor (pk rwL (regF false (fd a 31 25) (fd a 14 12))) _ = _
      rw [rw_regF b4 c2]
      exact k59 a ha.out c
  rcases ite_some h with ⟨c, h⟩ | ⟨_, h⟩
  · rcases ite_some h with ⟨c2, h⟩ | ⟨_, h⟩
    · injection h with h
      subst h
      exact absurd rfl hq.2.1
    · cases h
  rcases ite_some h with ⟨c, h⟩ | ⟨_, h⟩
  · have h : sysD a = some i := h
    unfold sysD at h
    rcases ite_some h with ⟨c, h⟩ | ⟨_, h⟩
    · injection h with h; subst h; exact absurd rfl hq.2.2.1
    rcases ite_some h with ⟨c, h⟩ | ⟨_, h⟩
    · injection h with h; subst h; exact c.symm
    have hb : ¬ 12 < i.k := by omega
    exfalso
    apply hb
    rcases ite_some h with ⟨c, h⟩ | ⟨_, h⟩
    · injection h with h; subst h; show (12 : Int) < 18; decide
    rcases ite_some h with ⟨c, h⟩ | ⟨_, h⟩
    · injection h with h; subst h; show (12 : Int) < 19; decide
    rcases ite_some h with ⟨h0, h⟩ | ⟨h0, h⟩
    · rcases ite_some h with ⟨c, h⟩ | ⟨_, h⟩
      · injection h with h; subst h; show (12 : Int) < 20; decide
      · cases h
    rcases ite_some h with ⟨_, h⟩ | ⟨c, h⟩
    · cases h
    · injection h with h
      subst h
      show (12 : Int) < if _ then _ else _
      split <;> decide
  rcases ite_some h with ⟨c, h⟩ | ⟨_, h⟩
  · have h : atD a = some i := h
    unfold atD at h
    rcases ite_some h with ⟨hx, h⟩ | ⟨_, h⟩
    · rcases ite_some h with ⟨c, h⟩ | ⟨_, h⟩
      · injection h with h
        have q := atF_k c
        have : i.k = (atF (fd a 31 27) (fd a 24 20)).1 := by rw [← h]
        omega
      · cases h
    · cases h
  · cases h
end Go.Proofs.YtchpnbckgofiaaaGreat.Enc
end
section
namespace Go.Proofs.YtchpnbckgofiaaaGreat.Enc
open Go Go.RowKit Go.Proofs.YtchpnbckgofiaaaGreat.Step
set_option linter.unusedVariables false
set_option linter.unusedSimpArgs false
set_option maxRecDepth 100000
set_option maxHeartbeats 2000000 in
theorem expand_any (c : Int) (hc : H16 c) (w : World) : Calls Tryz.prog 33 #[.int .u16 c] w fun e w' => Says (expD c) e ∧ Below w.heap.size w w' := by
  have T0 := Lib.hid (first_any c hc)
  have T1 := Lib.hid (second_any c hc)
  have T2 := Lib.hid (third_any c hc)
  have hm := u16_mask3 hc.out
  have hq : c % 4 = 0 ∨ c % 4 = 1 ∨ c % 4 = 2 ∨ c % 4 = 3 := by omega
  unfold expD
  generalize e0 (fd c 15 13) c = d0 at *
  generalize e1 (fd c 15 13) c = d1 at *
  generalize e2 (fd c 15 13) c = d2 at *
  clear hc
  rcases hq with hq | hq | hq | hq
  all_goals rw [hq] at hm
  · rw [if_pos hq]
    clear hq
    go_enter Tryz.func33, Tryz.ntmps33
    go_wp2_with (first
      | (go_at_call 57; (with_reducible refine (T0.out _).mono ?_); rintro e w' ⟨⟨⟨r1, r2, r3, r4, r5, r6, r7, r8⟩, ok, rfl, hd4⟩, hb⟩; replace ST := Lib.hid (ST.out.call hb); clear hb; simp only [Ins.cells])
      | (refine Step.freshAlloc rfl rfl (alloc_agg zero_inst) ?_; intro g1 w1 b hg hb; have ST := Lib.hid (S1.made b hg hb); clear b hg hb)
      | (refine Step.storeAll ST.out.one rfl rfl rfl rfl rfl size_inst rfl rfl ?_; intro w3 nb m; replace ST := Lib.hid (ST.out.set1 nb m); clear nb m))
    refine bodyPost_ret (results_row_tmp rfl _ _ g1 _ _ _ rfl ST.out.one Tryz.underlying85 rfl size_inst) rfl ⟨⟨⟨_, _, _, _, _, _, _, _⟩, _, rfl, ?_⟩, ST.out.below⟩
    first
      | exact hd4
  · rw [if_neg (by omega), if_pos hq]
    clear hq
    go_enter Tryz.func33, Tryz.ntmps33
    go_wp2_with (first
      | (go_at_call 58; (with_reducible refine (T1.out _).mono ?_); rintro e w' ⟨⟨⟨r1, r2, r3, r4, r5, r6, r7, r8⟩, ok, rfl, hd4⟩, hb⟩; replace ST := Lib.hid (ST.out.call hb); clear hb; simp only [Ins.cells])
      | (refine Step.freshAlloc rfl rfl (alloc_agg zero_inst) ?_; intro g1 w1 b hg hb; have ST := Lib.hid (S1.made b hg hb); clear b hg hb)
      | (refine Step.storeAll ST.out.one rfl rfl rfl rfl rfl size_inst rfl rfl ?_; intro w3 nb m; replace ST := Lib.hid (ST.out.set1 nb m); clear nb m))
    refine bodyPost_ret (results_row_tmp rfl _ _ g1 _ _ _ rfl ST.out.one Tryz.underlying85 rfl size_inst) rfl ⟨⟨⟨_, _, _, _, _, _, _, _⟩, _, rfl, ?_⟩, ST.out.below⟩
    first
      | exact hd4
  · rw [if_neg (by omega), if_neg (by omega), if_pos hq]
    clear hq
    go_enter Tryz.func33, Tryz.ntmps33
    go_wp2_with (first
      | (go_at_call 59; (with_reducible refine (T2.out _).mono ?_); rintro e w' ⟨⟨⟨r1, r2, r3, r4, r5, r6, r7, r8⟩, ok, rfl, hd4⟩, hb⟩; replace ST := Lib.hid (ST.out.call hb); clear hb; simp only [Ins.cells])
      | (refine Step.freshAlloc rfl rfl (alloc_agg zero_inst) ?_; intro g1 w1 b hg hb; have ST := Lib.hid (S1.made b hg hb); clear b hg hb)
      | (refine Step.storeAll ST.out.one rfl rfl rfl rfl rfl size_inst rfl rfl ?_; intro w3 nb m; replace ST := Lib.hid (ST.out.set1 nb m); clear nb m))
    refine bodyPost_ret (results_row_tmp rfl _ _ g1 _ _ _ rfl ST.out.one Tryz.underlying85 rfl size_inst) rfl ⟨⟨⟨_, _, _, _, _, _, _, _⟩, _, rfl, ?_⟩, ST.out.below⟩
    first
      | exact hd4
  · rw [if_neg (by omega), if_neg (by omega), if_neg (by omega)]
    clear hq
    go_enter Tryz.func33, Tryz.ntmps33
    go_wp2_with (first
      | (refine Step.freshAlloc rfl rfl (alloc_agg zero_inst) ?_; intro g1 w1 b hg hb; have ST := Lib.hid (S1.made b hg hb); clear b hg hb)
      | (refine Step.storeAll ST.out.one rfl rfl rfl rfl rfl size_inst rfl rfl ?_; intro w3 nb m; replace ST := Lib.hid (ST.out.set1 nb m); clear nb m))
    refine bodyPost_ret (results_row_tmp rfl _ _ g1 _ _ _ rfl ST.out.one Tryz.underlying85 rfl size_inst) rfl ⟨⟨⟨_, _, _, _, _, _, _, _⟩, _, rfl, ?_⟩, ST.out.below⟩
    first
      | rfl
/-- What Expand tells. -/
inductive Xp (d : Option Ins) : Value → Prop
  | none (h : d = none) : Xp d (.tuple #[.int .u32 0, .bool false])
  | no (i : Ins) (h : d = some i) (hn : dec (encP i) ≠ some i) : Xp d (.tuple #[.int .u32 0, .bool false])
  | yes (i : Ins) (h : d = some i) (hy : dec (encP i) = some i) : Xp d (.tuple #[.int .u32 (encP i), .bool true])
set_option maxHeartbeats 2000000 in
theorem Expand_any (c : Int) (hc : H16 c) (w : World) : Calls Tryz.prog 15 #[.int .u16 c] w fun e w' => (∃ v, Xp (expD c) v ∧ e = .returned v) ∧ Below w.heap.size w w' := by
  have T0 := Lib.hid (expand_any c hc)
  have HK := Lib.hid (fun i (h : expD c = some i) => exp_kin h)
  clear hc
  generalize expD c = d at *
  have HB := Lib.hid (Below.refl _ _ : Below w.heap.size w w)
  cases d with
  | none =>
    go_enter Tryz.func15, Tryz.ntmps15
    go_wp2_with (first
      | (go_at_call 33; (with_reducible refine (T0.out _).mono ?_); rintro e w' ⟨⟨⟨r1, r2, r3, r4, r5, r6, r7, r8⟩, ok, rfl, hd4⟩, hb⟩; replace HB := Lib.hid (below_below HB.out hb); clear hb; simp only [Ins.cells]; cases ok <;> simp only [Bool.false_eq_true, if_false, if_true] at hd4)
      | (refine Step.freshAlloc rfl rfl (alloc_agg zero_inst) ?_; intro g1 w1 b hg hb; have ST := Lib.hid (S1.mk (below_below HB.out hb) b (Nat.le_trans HB.out.size hg)); clear b hg hb)
      | (refine Step.storeAll ST.out.one rfl rfl rfl rfl rfl size_inst rfl rfl ?_; intro w3 nb m; replace ST := Lib.hid (ST.out.set1 nb m); clear nb m)
      | (refine Step.loadAll ST.out.one rfl rfl rfl Tryz.underlying85 rfl size_inst ?_))
    · go_ret2
      exact ⟨⟨_, .none rfl, rfl⟩, ST.out.below⟩
    · cases hd4
  | some i =>
    have hk := HK.out i rfl
    clear HK
    by_cases hd : dec (encP i) = some i
    · have TE := Lib.hid (EncodeK_yes i (encP i) (encP_w i) hd (Lib.hid (decK (encP_w i) (enc_ops hk))) (Lib.hid (encode_K i hk)))
      have HX := Lib.hid (Xp.yes i rfl hd)
      clear hd hk
      generalize encP i = v at *
      obtain ⟨k, fn, rd, rs1, rs2, imm, sz, sg⟩ := i
      simp only [Ins.cells] at TE
      go_enter Tryz.func15, Tryz.ntmps15
      go_wp2_with (first
        | (go_at_call 33; (with_reducible refine (T0.out _).mono ?_); rintro e w' ⟨⟨j, ok, rfl, hd4⟩, hb⟩; replace HB := Lib.hid (below_below HB.out hb); clear hb; cases ok <;> simp only [Bool.false_eq_true, if_false, if_true, Option.some.injEq, reduceCtorEq] at hd4; subst hd4; simp only [Ins.cells])
        | (go_at_call 34; (with_reducible refine (TE.out _).mono ?_); rintro e w' ⟨rfl, hb⟩; replace ST := Lib.hid (ST.out.call hb); clear hb)
        | (refine Step.freshAlloc rfl rfl (alloc_agg zero_inst) ?_; intro g1 w1 b hg hb; have ST := Lib.hid (S1.mk (below_below HB.out hb) b (Nat.le_trans HB.out.size hg)); clear b hg hb)
        | (refine Step.storeAll ST.out.one rfl rfl rfl rfl rfl size_inst rfl rfl ?_; intro w3 nb m; replace ST := Lib.hid (ST.out.set1 nb m); clear nb m)
        | (refine Step.loadAll ST.out.one rfl rfl rfl Tryz.underlying85 rfl size_inst ?_))
      go_ret2
      exact ⟨⟨_, HX.out, rfl⟩, ST.out.below⟩
    · have TE := Lib.hid (EncodeK_no i (encP i) (encP_w i) hd (Lib.hid (decK (encP_w i) (enc_ops hk))) (Lib.hid (encode_K i hk)))
      have HX := Lib.hid (Xp.no i rfl hd)
      clear hd hk
      obtain ⟨k, fn, rd, rs1, rs2, imm, sz, sg⟩ := i
      simp only [Ins.cells] at TE
      go_enter Tryz.func15, Tryz.ntmps15
      go_wp2_with (first
        | (go_at_call 33; (with_reducible refine (T0.out _).mono ?_); rintro e w' ⟨⟨j, ok, rfl, hd4⟩, hb⟩; replace HB := Lib.hid (below_below HB.out hb); clear hb; cases ok <;> simp only [Bool.false_eq_true, if_false, if_true, Option.some.injEq, reduceCtorEq] at hd4; subst hd4; simp only [Ins.cells])
        | (go_at_call 34; (with_reducible refine (TE.out _).mono ?_); rintro e w' ⟨rfl, hb⟩; replace ST := Lib.hid (ST.out.call hb); clear hb)
        | (refine Step.freshAlloc rfl rfl (alloc_agg zero_inst) ?_; intro g1 w1 b hg hb; have ST := Lib.hid (S1.mk (below_below HB.out hb) b (Nat.le_trans HB.out.size hg)); clear b hg hb)
        | (refine Step.storeAll ST.out.one rfl rfl rfl rfl rfl size_inst rfl rfl ?_; intro w3 nb m; replace ST := Lib.hid (ST.out.set1 nb m); clear nb m)
        | (refine Step.loadAll ST.out.one rfl rfl rfl Tryz.underlying85 rfl size_inst ?_))
      go_ret2
      exact ⟨⟨_, HX.out, rfl⟩, ST.out.below⟩
end Go.Proofs.YtchpnbckgofiaaaGreat.Enc
end
