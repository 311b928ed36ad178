/- Parts of the walks and laws for the claim: DecF, Alu, EncodeK, WordE, Awake, OpenInst, Kin, ExpCK, FetchP, Off0, FetchO, StepL, NewL, Own; no conditions beyond the theorems' own. -/
import Derived.Carry
import Derived.ChangeArms
import Derived.ChangeOld
import Derived.Deep.Cut
import Derived.OpenShut
import Derived.ProofKit
import Derived.ShutString
import Derived.SizedLaws
import Derived.Test.YtidiojhefjhojaaGreatRows
import Derived.WalkKit
import Derived.Test.YtidiojhefjhojaaGreatQ2
import Derived.Test.YtidiojhefjhojaaGreatQ3
import Derived.Test.YtidiojhefjhojaaGreatQ4
import Derived.Test.YtidiojhefjhojaaGreatQ6
import Derived.Test.YtidiojhefjhojaaGreatQ8
import Derived.Test.YtidiojhefjhojaaGreatQ12
import Derived.Test.YtidiojhefjhojaaGreatQ13
import Derived.Test.YtidiojhefjhojaaGreatQ14
import Derived.Test.YtidiojhefjhojaaGreatQ15
import Derived.Test.YtidiojhefjhojaaGreatQ16
import Derived.Test.YtidiojhefjhojaaGreatQ17
import Derived.Test.YtidiojhefjhojaaGreatQ18
section
namespace Go.Proofs.YtidiojhefjhojaaGreat.Enc
open Go Go.RowKit Go.Proofs.YtidiojhefjhojaaGreat.Step
set_option linter.unusedVariables false
set_option linter.unusedSimpArgs false
set_option maxRecDepth 100000
theorem Decode_of (a : Int) (T0 : Hid (∀ w, Calls Tryz.prog 39 #[.int .u32 a] w fun e w' => Says (dec a) e ∧ Below w.heap.size w w')) (w : World) : Calls Tryz.prog 21 #[.int .u32 a] w fun e w' => e = .returned (told (dec a)) ∧ Below w.heap.size w w' := by
  generalize dec a = d at *
  go_enter Tryz.func21, Tryz.ntmps21
  go_wp2_with (first
    | (go_at_call 39; (with_reducible refine (T0.out _).mono ?_); rintro e w' ⟨⟨j, ok, rfl, hd⟩, hb⟩; have st_ := Lib.hid (ST.out.call hb); clear ST hb; have ST := st_; cases j; rename_i r1 r2 r3 r4 r5 r6 r7 r8; simp only [Ins.cells]; cases ok <;> simp only [Bool.false_eq_true, if_false, if_true] at hd <;> subst hd)
    | ((with_reducible refine Step.gate_alloc (t := 74) rfl ?_); refine Step.freshAlloc rfl rfl (alloc_agg zero_inst) ?_; intro g2 w2 b hg hb; have st_ := Lib.hid (ST.out.more b hg hb); clear ST b hg hb; have ST := st_)
    | ((with_reducible refine Step.gate_alloc (t := 74) rfl ?_); refine Step.freshAlloc rfl rfl (alloc_agg zero_inst) ?_; intro g1 w1 b hg hb; have ST := Lib.hid (S1.made b hg hb); clear b hg hb)
    | ((with_reducible refine Step.gate_store (t := 74) rfl ?_); refine Step.storeAll ST.out.one rfl rfl rfl rfl rfl size_inst rfl rfl ?_; intro w3 nb m; have st_ := Lib.hid (ST.out.set1 nb m); clear ST nb m; have ST := st_)
    | ((with_reducible refine Step.gate_store (t := 74) rfl ?_); refine Step.storeAll ST.out.two rfl rfl rfl rfl rfl size_inst rfl rfl ?_; intro w3 nb m; have st_ := Lib.hid (ST.out.set2 nb m); clear ST nb m; have ST := st_)
    | ((with_reducible refine Step.gate_load (t := 74) rfl ?_); refine Step.loadAll ST.out.two rfl rfl rfl Tryz.underlying74 rfl size_inst ?_))
  all_goals refine bodyPost_ret (results_row_tmp rfl _ _ g1 _ _ _ rfl ST.out.one Tryz.underlying74 rfl size_inst) rfl ⟨rfl, ST.out.below⟩
theorem Dec_55 (a : Int) (ha : W32 a) (h : fd a 6 0 = 55) (w : World) : Calls Tryz.prog 21 #[.int .u32 a] w fun e w' => e = .returned (told (dec a)) ∧ Below w.heap.size w w' := by
  refine Decode_of a (Lib.hid fun w => ?_) w
  have T2 := Lib.hid (fun w => calls_below (rd_any a ha w))
  have T3 := Lib.hid (fun w => calls_below (rs1_any a ha w))
  have T4 := Lib.hid (fun w => calls_below (rs2_any a ha w))
  have TO := fun w => calls_below (op_any a ha w)
  unfold dec
  have C := decode_55 a (immU a) (fd a 11 7) (fd a 19 15) (fd a 24 20) _ _ _ _ _ _ _ _ _ (Lib.hid (fun w => by have := TO w; rw [h] at this; exact this)) (Lib.hid (fun w => calls_below (u_any a ha w))) T2 T3 T4 (Lib.hid (fun w => plain1 a (fd a 11 7) 0 0 (immU a) w)) w
  rw [h]
  refine C.mono fun e w' k => ⟨⟨⟨1, 0, (fd a 11 7), 0, 0, immU a, 0, false⟩, true, k.1, ?_⟩, k.2⟩
  simp [decOp]
theorem Dec_111 (a : Int) (ha : W32 a) (h : fd a 6 0 = 111) (w : World) : Calls Tryz.prog 21 #[.int .u32 a] w fun e w' => e = .returned (told (dec a)) ∧ Below w.heap.size w w' := by
  refine Decode_of a (Lib.hid fun w => ?_) w
  have T2 := Lib.hid (fun w => calls_below (rd_any a ha w))
  have T3 := Lib.hid (fun w => calls_below (rs1_any a ha w))
  have T4 := Lib.hid (fun w => calls_below (rs2_any a ha w))
  have TO := fun w => calls_below (op_any a ha w)
  unfold dec
  have C := decode_111 a (immJ a) (fd a 11 7) (fd a 19 15) (fd a 24 20) _ _ _ _ _ _ _ _ _ (Lib.hid (fun w => by have := TO w; rw [h] at this; exact this)) (Lib.hid (fun w => calls_below (j_any a ha w))) T2 T3 T4 (Lib.hid (fun w => plain3 a (fd a 11 7) 0 0 (immJ a) w)) w
  rw [h]
  refine C.mono fun e w' k => ⟨⟨⟨3, 0, (fd a 11 7), 0, 0, immJ a, 0, false⟩, true, k.1, ?_⟩, k.2⟩
  simp [decOp]
theorem Dec_103 (a : Int) (ha : W32 a) (h : fd a 6 0 = 103) (w : World) : Calls Tryz.prog 21 #[.int .u32 a] w fun e w' => e = .returned (told (dec a)) ∧ Below w.heap.size w w' := by
  refine Decode_of a (Lib.hid fun w => ?_) w
  have T2 := Lib.hid (fun w => calls_below (rd_any a ha w))
  have T3 := Lib.hid (fun w => calls_below (rs1_any a ha w))
  have T4 := Lib.hid (fun w => calls_below (rs2_any a ha w))
  have TO := fun w => calls_below (op_any a ha w)
  unfold dec
  have C := decode_103 a (immI a) (fd a 11 7) (fd a 19 15) (fd a 24 20) _ _ _ _ _ _ _ _ _ (Lib.hid (fun w => by have := TO w; rw [h] at this; exact this)) (Lib.hid (fun w => calls_below (i_any a ha w))) T2 T3 T4 (Lib.hid (fun w => plain4 a (fd a 11 7) (fd a 19 15) 0 (immI a) ha w)) w
  rw [h]
  refine C.mono fun e w' k => ⟨⟨⟨4, 0, (fd a 11 7), (fd a 19 15), 0, immI a, 0, false⟩, ((fd a 14 12) == 0), k.1, ?_⟩, k.2⟩
  simp [decOp]
theorem Dec_99 (a : Int) (ha : W32 a) (h : fd a 6 0 = 99) (w : World) : Calls Tryz.prog 21 #[.int .u32 a] w fun e w' => e = .returned (told (dec a)) ∧ Below w.heap.size w w' := by
  refine Decode_of a (Lib.hid fun w => ?_) w
  have T2 := Lib.hid (fun w => calls_below (rd_any a ha w))
  have T3 := Lib.hid (fun w => calls_below (rs1_any a ha w))
  have T4 := Lib.hid (fun w => calls_below (rs2_any a ha w))
  have TO := fun w => calls_below (op_any a ha w)
  unfold dec
  have C := decode_99 a (immB a) (fd a 11 7) (fd a 19 15) (fd a 24 20) _ _ _ _ _ _ _ _ _ (Lib.hid (fun w => by have := TO w; rw [h] at this; exact this)) (Lib.hid (fun w => calls_below (b_any a ha w))) T2 T3 T4 (Lib.hid (fun w => plain5 a 0 (fd a 19 15) (fd a 24 20) (immB a) ha w)) w
  rw [h]
  refine C.mono fun e w' k => ⟨⟨⟨5, (pk brL (fd a 14 12)), 0, (fd a 19 15), (fd a 24 20), immB a, 0, false⟩, (pk brL (fd a 14 12) != 0), k.1, ?_⟩, k.2⟩
  simp [decOp]
theorem Dec_3 (a : Int) (ha : W32 a) (h : fd a 6 0 = 3) (w : World) : Calls Tryz.prog 21 #[.int .u32 a] w fun e w' => e = .returned (told (dec a)) ∧ Below w.heap.size w w' := by
  refine Decode_of a (Lib.hid fun w => ?_) w
  have T2 := Lib.hid (fun w => calls_below (rd_any a ha w))
  have T3 := Lib.hid (fun w => calls_below (rs1_any a ha w))
  have T4 := Lib.hid (fun w => calls_below (rs2_any a ha w))
  have TO := fun w => calls_below (op_any a ha w)
  unfold dec
  have C := decode_3 a (immI a) (fd a 11 7) (fd a 19 15) (fd a 24 20) _ _ _ _ _ _ _ _ _ (Lib.hid (fun w => by have := TO w; rw [h] at this; exact this)) (Lib.hid (fun w => calls_below (i_any a ha w))) T2 T3 T4 (Lib.hid (fun w => plain6 a (fd a 11 7) (fd a 19 15) 0 (immI a) ha w)) w
  rw [h]
  refine C.mono fun e w' k => ⟨⟨⟨6, 0, (fd a 11 7), (fd a 19 15), 0, immI a, (pk ldL (fd a 14 12)), (decide ((fd a 14 12) < 4))⟩, (decide ((fd a 14 12) < 7)), k.1, ?_⟩, k.2⟩
  simp [decOp]
theorem Dec_35 (a : Int) (ha : W32 a) (h : fd a 6 0 = 35) (w : World) : Calls Tryz.prog 21 #[.int .u32 a] w fun e w' => e = .returned (told (dec a)) ∧ Below w.heap.size w w' := by
  refine Decode_of a (Lib.hid fun w => ?_) w
  have T2 := Lib.hid (fun w => calls_below (rd_any a ha w))
  have T3 := Lib.hid (fun w => calls_below (rs1_any a ha w))
  have T4 := Lib.hid (fun w => calls_below (rs2_any a ha w))
  have TO := fun w => calls_below (op_any a ha w)
  unfold dec
  have C := decode_35 a (immS a) (fd a 11 7) (fd a 19 15) (fd a 24 20) _ _ _ _ _ _ _ _ _ (Lib.hid (fun w => by have := TO w; rw [h] at this; exact this)) (Lib.hid (fun w => calls_below (s_any a ha w))) T2 T3 T4 (Lib.hid (fun w => plain7 a 0 (fd a 19 15) (fd a 24 20) (immS a) ha w)) w
  rw [h]
  refine C.mono fun e w' k => ⟨⟨⟨7, 0, 0, (fd a 19 15), (fd a 24 20), immS a, (pk stL (fd a 14 12)), false⟩, (decide ((fd a 14 12) < 4)), k.1, ?_⟩, k.2⟩
  simp [decOp]
theorem Dec_19 (a : Int) (ha : W32 a) (h : fd a 6 0 = 19) (w : World) : Calls Tryz.prog 21 #[.int .u32 a] w fun e w' => e = .returned (told (dec a)) ∧ Below w.heap.size w w' := by
  refine Decode_of a (Lib.hid fun w => ?_) w
  have T2 := Lib.hid (fun w => calls_below (rd_any a ha w))
  have T3 := Lib.hid (fun w => calls_below (rs1_any a ha w))
  have T4 := Lib.hid (fun w => calls_below (rs2_any a ha w))
  have TO := fun w => calls_below (op_any a ha w)
  unfold dec
  have C := decode_19 a (immI a) (fd a 11 7) (fd a 19 15) (fd a 24 20) _ _ _ _ _ _ _ _ _ (Lib.hid (fun w => by have := TO w; rw [h] at this; exact this)) (Lib.hid (fun w => calls_below (i_any a ha w))) T2 T3 T4 (Lib.hid (fun w => plain9_13 a (fd a 11 7) (fd a 19 15) (immI a) ha h w)) w
  rw [h]
  refine C.mono fun e w' k => ⟨⟨⟨9, (im13 (fd a 31 26) (fd a 14 12) (fd a 25 20) (immI a)).1, (fd a 11 7), (fd a 19 15), 0, (im13 (fd a 31 26) (fd a 14 12) (fd a 25 20) (immI a)).2.1, 0, false⟩, (im13 (fd a 31 26) (fd a 14 12) (fd a 25 20) (immI a)).2.2, k.1, ?_⟩, k.2⟩
  simp [decOp]
theorem Dec_27 (a : Int) (ha : W32 a) (h : fd a 6 0 = 27) (w : World) : Calls Tryz.prog 21 #[.int .u32 a] w fun e w' => e = .returned (told (dec a)) ∧ Below w.heap.size w w' := by
  refine Decode_of a (Lib.hid fun w => ?_) w
  have T2 := Lib.hid (fun w => calls_below (rd_any a ha w))
  have T3 := Lib.hid (fun w => calls_below (rs1_any a ha w))
  have T4 := Lib.hid (fun w => calls_below (rs2_any a ha w))
  have TO := fun w => calls_below (op_any a ha w)
  unfold dec
  have C := decode_27 a (immI a) (fd a 11 7) (fd a 19 15) (fd a 24 20) _ _ _ _ _ _ _ _ _ (Lib.hid (fun w => by have := TO w; rw [h] at this; exact this)) (Lib.hid (fun w => calls_below (i_any a ha w))) T2 T3 T4 (Lib.hid (fun w => plain9_1b a (fd a 11 7) (fd a 19 15) (immI a) ha h w)) w
  rw [h]
  refine C.mono fun e w' k => ⟨⟨⟨9, (im1b (fd a 31 25) (fd a 14 12) (fd a 24 20) (immI a)).1, (fd a 11 7), (fd a 19 15), 0, (im1b (fd a 31 25) (fd a 14 12) (fd a 24 20) (immI a)).2.1, 0, false⟩, (im1b (fd a 31 25) (fd a 14 12) (fd a 24 20) (immI a)).2.2, k.1, ?_⟩, k.2⟩
  simp [decOp]
theorem Dec_51 (a : Int) (ha : W32 a) (h : fd a 6 0 = 51) (w : World) : Calls Tryz.prog 21 #[.int .u32 a] w fun e w' => e = .returned (told (dec a)) ∧ Below w.heap.size w w' := by
  refine Decode_of a (Lib.hid fun w => ?_) w
  have T2 := Lib.hid (fun w => calls_below (rd_any a ha w))
  have T3 := Lib.hid (fun w => calls_below (rs1_any a ha w))
  have T4 := Lib.hid (fun w => calls_below (rs2_any a ha w))
  have TO := fun w => calls_below (op_any a ha w)
  unfold dec
  have C := decode_51 a (0) (fd a 11 7) (fd a 19 15) (fd a 24 20) _ _ _ _ _ _ _ _ _ (Lib.hid (fun w => by have := TO w; rw [h] at this; exact this)) (Lib.hid (fun w => calls_below (none_any a w))) T2 T3 T4 (Lib.hid (fun w => plain8 a (fd a 11 7) (fd a 19 15) (fd a 24 20) (0) ha true h w)) w
  rw [h]
  refine C.mono fun e w' k => ⟨⟨⟨8, (regF true (fd a 31 25) (fd a 14 12)), (fd a 11 7), (fd a 19 15), (fd a 24 20), 0, 0, false⟩, (regF true (fd a 31 25) (fd a 14 12) != 0), k.1, ?_⟩, k.2⟩
  simp [decOp]
theorem Dec_59 (a : Int) (ha : W32 a) (h : fd a 6 0 = 59) (w : World) : Calls Tryz.prog 21 #[.int .u32 a] w fun e w' => e = .returned (told (dec a)) ∧ Below w.heap.size w w' := by
  refine Decode_of a (Lib.hid fun w => ?_) w
  have T2 := Lib.hid (fun w => calls_below (rd_any a ha w))
  have T3 := Lib.hid (fun w => calls_below (rs1_any a ha w))
  have T4 := Lib.hid (fun w => calls_below (rs2_any a ha w))
  have TO := fun w => calls_below (op_any a ha w)
  unfold dec
  have C := decode_59 a (0) (fd a 11 7) (fd a 19 15) (fd a 24 20) _ _ _ _ _ _ _ _ _ (Lib.hid (fun w => by have := TO w; rw [h] at this; exact this)) (Lib.hid (fun w => calls_below (none_any a w))) T2 T3 T4 (Lib.hid (fun w => plain8 a (fd a 11 7) (fd a 19 15) (fd a 24 20) (0) ha false h w)) w
  rw [h]
  refine C.mono fun e w' k => ⟨⟨⟨8, (regF false (fd a 31 25) (fd a 14 12)), (fd a 11 7), (fd a 19 15), (fd a 24 20), 0, 0, false⟩, (regF false (fd a 31 25) (fd a 14 12) != 0), k.1, ?_⟩, k.2⟩
  simp [decOp]
theorem Dec_115_of (a : Int) (ha : W32 a) (h : fd a 6 0 = 115) (r1 r2 r3 r4 r5 r6 r7 : Int) (r8 r9 : Bool) (hc : ∀ w, Calls Tryz.prog 62 #[.int .u32 a] w fun e w' => e = .returned (.tuple #[.agg #[.int .i64 r1, .int .i64 r2, .int .i64 r3, .int .i64 r4, .int .i64 r5, .int .i64 r6, .int .i64 r7, .bool r8], .bool r9]) ∧ Below w.heap.size w w') (hs : sysD a = (if r9 then some ⟨r1, r2, r3, r4, r5, r6, r7, r8⟩ else none)) (w : World) : Calls Tryz.prog 21 #[.int .u32 a] w fun e w' => e = .returned (told (dec a)) ∧ Below w.heap.size w w' := by
  refine Decode_of a (Lib.hid fun w => ?_) w
  have TO := fun w => calls_below (op_any a ha w)
  unfold dec
  have C := decode_115 a r1 r2 r3 r4 r5 r6 r7 r8 r9 (Lib.hid (fun w => by have := TO w; rw [h] at this; exact this)) (Lib.hid hc) w
  refine C.mono fun e w' k => ⟨⟨⟨r1, r2, r3, r4, r5, r6, r7, r8⟩, r9, k.1, ?_⟩, k.2⟩
  rw [h, ← hs]
  simp [decOp]
end Go.Proofs.YtidiojhefjhojaaGreat.Enc
end
section
namespace Go.Proofs.YtidiojhefjhojaaGreat.Enc
open Go Go.RowKit Go.Proofs.YtidiojhefjhojaaGreat.Step
set_option linter.unusedVariables false
set_option linter.unusedSimpArgs false
set_option maxRecDepth 100000
def rbor (x y : Int) : Int := bits .or .u32 x y
def alL : List Int := ([0, 0, 0, 1, 2, 3, 4, 5, 5, 6, 7, 0, 1, 2, 3, 4, 5, 6, 7, 0, 0, 1, 5, 5, 0, 4, 5, 6, 7] : List Int)
/-- f3 and f7 of an operation. -/
def al1 (fn : Int) : Int := if fn = 2 ∨ fn = 8 ∨ fn = 20 ∨ fn = 23 then rbor (pt (pk alL fn) 3 12) 1073741824 else pt (pk alL fn) 3 12
def al (fn : Int) : Int := if (decide (11 ≤ fn) && decide (fn ≤ 18)) = true then rbor (al1 fn) 33554432 else if (decide (24 ≤ fn) && decide (fn ≤ 28)) = true then rbor (al1 fn) 33554432 else al1 fn
end Go.Proofs.YtidiojhefjhojaaGreat.Enc
end
section
namespace Go.Proofs.YtidiojhefjhojaaGreat.Enc
open Go Go.RowKit Go.Proofs.YtidiojhefjhojaaGreat.Step
set_option linter.unusedVariables false
set_option linter.unusedSimpArgs false
set_option maxRecDepth 100000
theorem EncodeK_yes (i : Ins) (u : Int) (hu : W32 u) (hd : dec u = some i) (T1 : Hid (∀ w, Calls Tryz.prog 21 #[.int .u32 u] w fun e w' => e = .returned (told (dec u)) ∧ Below w.heap.size w w')) (T0 : Hid (∀ w, Calls Tryz.prog 59 #[.agg i.cells] w fun e w' => e = .returned (.int .u32 u) ∧ Below w.heap.size w w')) (w : World) :
    Calls Tryz.prog 38 #[.agg i.cells] w fun e w' => e = .returned (.tuple #[.int .u32 u, .bool true]) ∧ Below w.heap.size w w' := by
  rw [hd] at T1
  clear hd hu
  obtain ⟨k, fn, rd, rs1, rs2, imm, sz, sg⟩ := i
  simp only [told, Ins.cells] at T0 T1 ⊢
  go_enter Tryz.func38, Tryz.ntmps38
  go_wp2_with (first
    | (go_at_call 59; (with_reducible refine (T0.out _).mono ?_); rintro e w' ⟨rfl, hb⟩; have st_ := Lib.hid (ST.out.call hb); clear ST hb; have ST := st_)
    | (go_at_call 21; (with_reducible refine (T1.out _).mono ?_); rintro e w' ⟨rfl, hb⟩; have st_ := Lib.hid (ST.out.call hb); clear ST hb; have ST := st_)
    | ((with_reducible refine Step.gate_alloc (t := 74) rfl ?_); refine Step.freshAlloc rfl rfl (alloc_agg zero_inst) ?_; intro g2 w2 b hg hb; have st_ := Lib.hid (ST.out.more b hg hb); clear ST b hg hb; have ST := st_)
    | ((with_reducible refine Step.gate_box (t := 74) rfl ?_); refine Step.fresh (cs := #[.int .i64 k, .int .i64 fn, .int .i64 rd, .int .i64 rs1, .int .i64 rs2, .int .i64 imm, .int .i64 sz, .bool sg]) (T := 74) rfl ?hr ?_; (case hr => first | (go_simp; done)); intro g1 w1 b hg hb; have ST := Lib.hid (S1.made b hg hb); clear b hg hb)
      | ((with_reducible refine Step.gate_load (t := 74) rfl ?_); refine Step.loadAll ST.out.one rfl rfl rfl Tryz.underlying74 rfl size_inst ?_)
      | ((with_reducible refine Step.gate_load (t := 74) rfl ?_); refine loadAllW ST.out.one rfl rfl rfl Tryz.underlying74 rfl size_inst ?_)
      | ((with_reducible refine Step.gate_store (t := 74) rfl ?_); refine Step.storeAll ST.out.two rfl rfl rfl rfl rfl size_inst rfl rfl ?_; intro w3 nb m; have st_ := Lib.hid (ST.out.set2 nb m); clear ST nb m; have ST := st_)
      | ((with_reducible refine Step.gate_load (t := 74) rfl ?_); refine loadAllW ST.out.two rfl rfl rfl Tryz.underlying74 rfl size_inst ?_))
  go_ret2
  exact ⟨rfl, ST.out.below⟩
theorem EncodeK_no (i : Ins) (u : Int) (hu : W32 u) (hd : dec u ≠ some i) (T1 : Hid (∀ w, Calls Tryz.prog 21 #[.int .u32 u] w fun e w' => e = .returned (told (dec u)) ∧ Below w.heap.size w w')) (T0 : Hid (∀ w, Calls Tryz.prog 59 #[.agg i.cells] w fun e w' => e = .returned (.int .u32 u) ∧ Below w.heap.size w w')) (w : World) :
    Calls Tryz.prog 38 #[.agg i.cells] w fun e w' => e = .returned (.tuple #[.int .u32 0, .bool false]) ∧ Below w.heap.size w w' := by
  generalize dec u = d at *
  clear hu
  cases d with
  | none =>
    clear hd
    obtain ⟨k, fn, rd, rs1, rs2, imm, sz, sg⟩ := i
    simp only [told, Ins.cells, Ins.zero] at T0 T1 ⊢
    go_enter Tryz.func38, Tryz.ntmps38
    go_wp2_with (first
      | (go_at_call 59; (with_reducible refine (T0.out _).mono ?_); rintro e w' ⟨rfl, hb⟩; have st_ := Lib.hid (ST.out.call hb); clear ST hb; have ST := st_)
      | (go_at_call 21; (with_reducible refine (T1.out _).mono ?_); rintro e w' ⟨rfl, hb⟩; have st_ := Lib.hid (ST.out.call hb); clear ST hb; have ST := st_)
      | ((with_reducible refine Step.gate_alloc (t := 74) rfl ?_); refine Step.freshAlloc rfl rfl (alloc_agg zero_inst) ?_; intro g2 w2 b hg hb; have st_ := Lib.hid (ST.out.more b hg hb); clear ST b hg hb; have ST := st_)
      | ((with_reducible refine Step.gate_box (t := 74) rfl ?_); refine Step.fresh (cs := #[.int .i64 k, .int .i64 fn, .int .i64 rd, .int .i64 rs1, .int .i64 rs2, .int .i64 imm, .int .i64 sz, .bool sg]) (T := 74) rfl ?hr ?_; (case hr => first | (go_simp; done)); intro g1 w1 b hg hb; have ST := Lib.hid (S1.made b hg hb); clear b hg hb)
      | ((with_reducible refine Step.gate_load (t := 74) rfl ?_); refine Step.loadAll ST.out.one rfl rfl rfl Tryz.underlying74 rfl size_inst ?_)
      | ((with_reducible refine Step.gate_store (t := 74) rfl ?_); refine Step.storeAll ST.out.two rfl rfl rfl rfl rfl size_inst rfl rfl ?_; intro w3 nb m; have st_ := Lib.hid (ST.out.set2 nb m); clear ST nb m; have ST := st_))
    go_ret2
    exact ⟨rfl, ST.out.below⟩
  | some j =>
    obtain ⟨r1, r2, r3, r4, r5, r6, r7, r8⟩ := j
    obtain ⟨k, fn, rd, rs1, rs2, imm, sz, sg⟩ := i
    simp only [told, Ins.cells] at T0 T1 ⊢
    simp only [ne_eq, Option.some.injEq, Ins.mk.injEq] at hd
    have HD := Lib.hid hd
    clear hd
    go_enter Tryz.func38, Tryz.ntmps38
    go_wp2_with (first
      | (go_at_call 59; (with_reducible refine (T0.out _).mono ?_); rintro e w' ⟨rfl, hb⟩; have st_ := Lib.hid (ST.out.call hb); clear ST hb; have ST := st_)
      | (go_at_call 21; (with_reducible refine (T1.out _).mono ?_); rintro e w' ⟨rfl, hb⟩; have st_ := Lib.hid (ST.out.call hb); clear ST hb; have ST := st_)
      | ((with_reducible refine Step.gate_alloc (t := 74) rfl ?_); refine Step.freshAlloc rfl rfl (alloc_agg zero_inst) ?_; intro g2 w2 b hg hb; have st_ := Lib.hid (ST.out.more b hg hb); clear ST b hg hb; have ST := st_)
      | ((with_reducible refine Step.gate_box (t := 74) rfl ?_); refine Step.fresh (cs := #[.int .i64 k, .int .i64 fn, .int .i64 rd, .int .i64 rs1, .int .i64 rs2, .int .i64 imm, .int .i64 sz, .bool sg]) (T := 74) rfl ?hr ?_; (case hr => first | (go_simp; done)); intro g1 w1 b hg hb; have ST := Lib.hid (S1.made b hg hb); clear b hg hb)
      | ((with_reducible refine Step.gate_load (t := 74) rfl ?_); refine Step.loadAll ST.out.one rfl rfl rfl Tryz.underlying74 rfl size_inst ?_)
      | ((with_reducible refine Step.gate_load (t := 74) rfl ?_); refine loadAllW ST.out.one rfl rfl rfl Tryz.underlying74 rfl size_inst ?_)
      | ((with_reducible refine Step.gate_store (t := 74) rfl ?_); refine Step.storeAll ST.out.two rfl rfl rfl rfl rfl size_inst rfl rfl ?_; intro w3 nb m; have st_ := Lib.hid (ST.out.set2 nb m); clear ST nb m; have ST := st_)
      | ((with_reducible refine Step.gate_load (t := 74) rfl ?_); refine loadAllW ST.out.two rfl rfl rfl Tryz.underlying74 rfl size_inst ?_))
    all_goals first
      | (go_ret2; exact ⟨rfl, ST.out.below⟩)
      | (exfalso; refine HD.out ?_; simp_all; done)
end Go.Proofs.YtidiojhefjhojaaGreat.Enc
end
section
namespace Go.Proofs.YtidiojhefjhojaaGreat.Enc
open Go Go.RowKit
set_option linter.unusedVariables false
set_option linter.unusedSimpArgs false
set_option maxRecDepth 100000
theorem z28 : (0 : Int) ≤ 0 ∧ (0 : Int) ≤ 28 := by decide
theorem p0 (n l : Nat) : pt 0 n l = 0 := pt0 n l
end Go.Proofs.YtidiojhefjhojaaGreat.Enc
end
section
namespace Go.Proofs.YtidiojhefjhojaaGreat.Enc
open Go Go.RowKit Go.Proofs.YtidiojhefjhojaaGreat.Step
set_option linter.unusedVariables false
set_option linter.unusedSimpArgs false
set_option maxRecDepth 100000
theorem u16_and_nat (a b : Nat) (ha : a < 65536) (hb : b < 65536) : bits .and .u16 (a : Int) (b : Int) = ((a &&& b : Nat) : Int) := by
  have hx : a &&& b < 2 ^ 16 := Nat.and_lt_two_pow _ (by omega)
  show IntKind.u16.wrap ((BitVec.ofInt 16 (a : Int) &&& BitVec.ofInt 16 (b : Int)).toNat : Int) = _
  rw [BitVec.toNat_and, BitVec.ofInt_natCast, BitVec.ofInt_natCast, BitVec.toNat_ofNat, BitVec.toNat_ofNat, Nat.mod_eq_of_lt (by omega), Nat.mod_eq_of_lt (by omega)]
  show (_ : Int) % 65536 = _
  omega
theorem u16_mask3 {c : Int} (h : 0 ≤ c ∧ c < 65536) : bits .and .u16 c 3 = c % 4 := by
  obtain ⟨n, rfl⟩ := Int.eq_ofNat_of_zero_le h.1
  have := u16_and_nat n 3 (by omega) (by decide)
  rw [show ((3 : Nat) : Int) = 3 from rfl] at this
  rw [this, show n &&& 3 = n % 4 from Nat.and_two_pow_sub_one_eq_mod n 2]
  omega
theorem size_any (c : Int) (h0 : 0 ≤ c ∧ c < 65536) (w : World) : Calls Tryz.prog 19 #[.int .u16 c] w fun e w' => e = .returned (.int .i64 (if c % 4 = 3 then 4 else 2)) ∧ Below w.heap.size w w' := by
  have hm : bits .and .u16 c 3 = c % 4 := u16_mask3 h0
  by_cases h : c % 4 = 3
  · rw [if_pos h]
    rw [h] at hm
    clear h h0
    go_enter Tryz.func19, Tryz.ntmps19
    have HB := Lib.hid (Below.refl _ _ : Below w.heap.size w w)
    go_wp2
    go_ret
    exact ⟨rfl, HB.out⟩
  · rw [if_neg h]
    have hm' : (bits .and .u16 c 3 == 3) = false := by rw [hm]; exact beq_eq_false_iff_ne.2 h
    clear hm h h0
    go_enter Tryz.func19, Tryz.ntmps19
    have HB := Lib.hid (Below.refl _ _ : Below w.heap.size w w)
    go_wp2
    go_ret
    exact ⟨rfl, HB.out⟩
end Go.Proofs.YtidiojhefjhojaaGreat.Enc
end
section
namespace Go.Proofs.YtidiojhefjhojaaGreat
open Go Go.RowKit Go.ChangeShapes Go.WideShapes Go.ChangeAt
set_option linter.unusedVariables false
set_option linter.unusedSimpArgs false
set_option maxRecDepth 100000
section
variable {H : Type} {enc : TypeId × Value → H} {W : World} {base : Nat} {sp : Nat → Bool} {held : Bool}
theorem co_int : Tryz.prog.cellsOf 3 = 1 := by kernel_rfl
theorem co_bool : Tryz.prog.cellsOf 4 = 1 := by kernel_rfl
theorem bd_i64 {v : Int} (h : (Lit.int .i64 v).wf = true) : -9223372036854775808 ≤ v ∧ v < 9223372036854775808 := by have := bounds_i64 h; exact ⟨by omega, by omega⟩
end
end Go.Proofs.YtidiojhefjhojaaGreat
end
section
namespace Go.Proofs.YtidiojhefjhojaaGreat.Enc
open Go Go.RowKit Go.Proofs.YtidiojhefjhojaaGreat.Step
set_option linter.unusedVariables false
set_option linter.unusedSimpArgs false
set_option maxRecDepth 100000
/-- The instructions that a compressed one stands for are of these kinds. -/
def Kin (i : Ins) : Prop := i.k = 1 ∨ i.k = 3 ∨ i.k = 4 ∨ i.k = 5 ∨ i.k = 6 ∨ i.k = 7 ∨ i.k = 9 ∨ i.k = 12 ∨ (i.k = 8 ∧ (i.fn = 1 ∨ i.fn = 2 ∨ i.fn = 6 ∨ i.fn = 9 ∨ i.fn = 10 ∨ i.fn = 19 ∨ i.fn = 20))
theorem arL_in {x : Int} (h0 : 0 ≤ x) (h : x < 8) (hn : ¬ pk arL x = 0) : pk arL x = 1 ∨ pk arL x = 2 ∨ pk arL x = 6 ∨ pk arL x = 9 ∨ pk arL x = 10 ∨ pk arL x = 19 ∨ pk arL x = 20 := by
  obtain h | h | h | h | h | h | h | h : x = 0 ∨ x = 1 ∨ x = 2 ∨ x = 3 ∨ x = 4 ∨ x = 5 ∨ x = 6 ∨ x = 7 := by omega
  all_goals (subst h; revert hn; decide)
def KO (d : Option Ins) : Prop := ∀ i, d = some i → Kin i
theorem ko_none : KO none := fun i h => nomatch h
theorem ko_some {i : Ins} (h : Kin i) : KO (some i) := fun j e => by cases e; exact h
theorem ko_ite {p : Prop} [Decidable p] {x y : Option Ins} (hx : KO x) (hy : ¬ p → KO y) : KO (if p then x else y) := by
  split
  · exact hx
  · rename_i h; exact hy h
theorem exp_ko (c : Int) : KO (expD c) := by
  have b1 := fd_lit (a := c) (h := 12) (l := 12) (n := 2) rfl
  have b2 := fd_lit (a := c) (h := 6) (l := 5) (n := 4) rfl
  have HZ := fun hn => arL_in (x := fd c 12 12 * 4 + fd c 6 5) (by omega) (by omega) hn
  unfold expD e0 e1 e2 ar mv
  repeat' (first
    | with_reducible exact ko_none
    | ((with_reducible refine ko_some ?_); simp [Kin]; done)
    | ((with_reducible refine ko_some ?_); exact .inr (.inr (.inr (.inr (.inr (.inr (.inr (.inr ⟨rfl, HZ (by assumption)⟩))))))))
    | with_reducible refine ko_ite ?_ (fun hn => ?_))
theorem exp_kin {c : Int} {i : Ins} (h : expD c = some i) : Kin i := exp_ko c i h
/-- The lowest seven bits. -/
theorem bor_lo {x y : Int} (hy : y % 128 = 0) : bor x y % 128 = x % 128 := by
  rw [bor_bv, BitVec.toNat_or]
  have hx' : (BitVec.ofInt 32 x).toNat % 2 ^ 7 = (x % 128).toNat := by rw [BitVec.toNat_ofInt]; omega
  have hy' : (BitVec.ofInt 32 y).toNat % 2 ^ 7 = 0 := by rw [BitVec.toNat_ofInt]; omega
  have e : ((BitVec.ofInt 32 x).toNat ||| (BitVec.ofInt 32 y).toNat) % 2 ^ 7 = (x % 128).toNat := by rw [Nat.or_mod_two_pow, hx', hy', Nat.or_zero]
  omega
theorem pt_z (v : Int) (n l : Nat) (h : 7 ≤ l) : pt v n l % 128 = 0 := by
  obtain ⟨m, rfl⟩ := Nat.exists_eq_add_of_le h
  unfold pt
  rw [Nat.pow_add, Int.natCast_mul, ← Int.mul_assoc, Int.mul_comm (v % _) _, Int.mul_assoc]
  exact Int.mul_emod_right _ _
theorem bor_z {x y : Int} (hx : x % 128 = 0) (hy : y % 128 = 0) : bor x y % 128 = 0 := (bor_lo hy).trans hx
theorem regW_z (a b c : Int) : regW a b c % 128 = 0 := bor_z (bor_z (pt_z _ _ _ (by decide)) (pt_z _ _ _ (by decide))) (pt_z _ _ _ (by decide))
theorem al1_z (f : Int) : al1 f % 128 = 0 := by
  unfold al1
  split
  · exact bor_z (pt_z _ _ _ (by decide)) (by decide)
  · exact pt_z _ _ _ (by decide)
theorem al_z (f : Int) : al f % 128 = 0 := by
  unfold al
  split
  · exact bor_z (al1_z f) (by decide)
  split
  · exact bor_z (al1_z f) (by decide)
  · exact al1_z f
theorem mul_z (x : Int) : x * 4096 % 128 = 0 := by omega
theorem lo_ {x y c : Int} (hx : x % 128 = c) (hy : y % 128 = 0) : bor x y % 128 = c := (bor_lo hy).trans hx
theorem lor_ {x y c : Int} (hx : x % 128 = c) (hy : y % 128 = 0) : rbor x y % 128 = c := (bor_lo hy).trans hx
theorem rbor_z {x y : Int} (hx : x % 128 = 0) (hy : y % 128 = 0) : rbor x y % 128 = 0 := bor_z hx hy
/-- Words of which both sides are told what they read. -/
def Ops (u : Int) : Prop := u = 1048691 ∨ u % 128 = 55 ∨ u % 128 = 111 ∨ u % 128 = 103 ∨ u % 128 = 99 ∨ u % 128 = 3 ∨ u % 128 = 35 ∨ u % 128 = 51 ∨ u % 128 = 59 ∨ u % 128 = 19 ∨ u % 128 = 27
theorem decK {u : Int} (hu : W32 u) (h : Ops u) (w : World) : Calls Tryz.prog 21 #[.int .u32 u] w fun e w' => e = .returned (told (dec u)) ∧ Below w.heap.size w w' := by
  have e : fd u 6 0 = u % 128 := by show u / ((1 : Nat) : Int) % ((128 : Nat) : Int) = u % 128; omega
  rcases h with rfl | h | h | h | h | h | h | h | h | h | h
  · exact Dec_115_of 1048691 ⟨by decide, by decide⟩ (by kernel_rfl) _ _ _ _ _ _ _ _ _ (fun w => system_12 w) (by simp [sysD]) w
  · exact Dec_55 u hu (e.trans h) w
  · exact Dec_111 u hu (e.trans h) w
  · exact Dec_103 u hu (e.trans h) w
  · exact Dec_99 u hu (e.trans h) w
  · exact Dec_3 u hu (e.trans h) w
  · exact Dec_35 u hu (e.trans h) w
  · exact Dec_51 u hu (e.trans h) w
  · exact Dec_59 u hu (e.trans h) w
  · exact Dec_19 u hu (e.trans h) w
  · exact Dec_27 u hu (e.trans h) w
theorem encI_lo (f m : Int) : encI f m % 128 = 27 ∨ encI f m % 128 = 19 := by
  unfold encI
  repeat' split
  all_goals first
    | (refine .inl ?_; (repeat' (first | with_reducible exact regW_z _ _ _ | with_reducible refine pt_z _ _ _ ?_ | with_reducible exact al_z _ | with_reducible exact mul_z _ | with_reducible refine lo_ ?_ ?_ | with_reducible refine lor_ ?_ ?_ | with_reducible refine bor_z ?_ ?_ | with_reducible refine rbor_z ?_ ?_ | decide)); done)
    | (refine .inr ?_; (repeat' (first | with_reducible exact regW_z _ _ _ | with_reducible refine pt_z _ _ _ ?_ | with_reducible exact al_z _ | with_reducible exact mul_z _ | with_reducible refine lo_ ?_ ?_ | with_reducible refine lor_ ?_ ?_ | with_reducible refine bor_z ?_ ?_ | with_reducible refine rbor_z ?_ ?_ | decide)); done)
theorem enc_ops {i : Ins} (h : Kin i) : Ops (encP i) := by
  obtain ⟨k, fn, rd, rs1, rs2, imm, sz, sg⟩ := i
  rcases h with h | h | h | h | h | h | h | h | ⟨h, hf⟩
  all_goals (dsimp only at h; subst h)
  · have e : encP ⟨1, fn, rd, rs1, rs2, imm, sz, sg⟩ % 128 = 55 := by
      simp only [encP, Int.reduceEq, if_true, if_false]
      all_goals ((repeat' (first | with_reducible exact regW_z _ _ _ | with_reducible refine pt_z _ _ _ ?_ | with_reducible exact al_z _ | with_reducible exact mul_z _ | with_reducible refine lo_ ?_ ?_ | with_reducible refine lor_ ?_ ?_ | with_reducible refine bor_z ?_ ?_ | with_reducible refine rbor_z ?_ ?_ | decide)))
    exact .inr (.inl e)
  · have e : encP ⟨3, fn, rd, rs1, rs2, imm, sz, sg⟩ % 128 = 111 := by
      simp only [encP, Int.reduceEq, if_true, if_false]
      all_goals ((repeat' (first | with_reducible exact regW_z _ _ _ | with_reducible refine pt_z _ _ _ ?_ | with_reducible exact al_z _ | with_reducible exact mul_z _ | with_reducible refine lo_ ?_ ?_ | with_reducible refine lor_ ?_ ?_ | with_reducible refine bor_z ?_ ?_ | with_reducible refine rbor_z ?_ ?_ | decide)))
    exact .inr (.inr (.inl e))
  · have e : encP ⟨4, fn, rd, rs1, rs2, imm, sz, sg⟩ % 128 = 103 := by
      simp only [encP, Int.reduceEq, if_true, if_false]
      all_goals ((repeat' (first | with_reducible exact regW_z _ _ _ | with_reducible refine pt_z _ _ _ ?_ | with_reducible exact al_z _ | with_reducible exact mul_z _ | with_reducible refine lo_ ?_ ?_ | with_reducible refine lor_ ?_ ?_ | with_reducible refine bor_z ?_ ?_ | with_reducible refine rbor_z ?_ ?_ | decide)))
    exact .inr (.inr (.inr (.inl e)))
  · have e : encP ⟨5, fn, rd, rs1, rs2, imm, sz, sg⟩ % 128 = 99 := by
      simp only [encP, Int.reduceEq, if_true, if_false]
      all_goals ((repeat' (first | with_reducible exact regW_z _ _ _ | with_reducible refine pt_z _ _ _ ?_ | with_reducible exact al_z _ | with_reducible exact mul_z _ | with_reducible refine lo_ ?_ ?_ | with_reducible refine lor_ ?_ ?_ | with_reducible refine bor_z ?_ ?_ | with_reducible refine rbor_z ?_ ?_ | decide)))
    exact .inr (.inr (.inr (.inr (.inl e))))
  · have e : encP ⟨6, fn, rd, rs1, rs2, imm, sz, sg⟩ % 128 = 3 := by
      simp only [encP, Int.reduceEq, if_true, if_false]
      split
      all_goals ((repeat' (first | with_reducible exact regW_z _ _ _ | with_reducible refine pt_z _ _ _ ?_ | with_reducible exact al_z _ | with_reducible exact mul_z _ | with_reducible refine lo_ ?_ ?_ | with_reducible refine lor_ ?_ ?_ | with_reducible refine bor_z ?_ ?_ | with_reducible refine rbor_z ?_ ?_ | decide)))
    exact .inr (.inr (.inr (.inr (.inr (.inl e)))))
  · have e : encP ⟨7, fn, rd, rs1, rs2, imm, sz, sg⟩ % 128 = 35 := by
      simp only [encP, Int.reduceEq, if_true, if_false]
      all_goals ((repeat' (first | with_reducible exact regW_z _ _ _ | with_reducible refine pt_z _ _ _ ?_ | with_reducible exact al_z _ | with_reducible exact mul_z _ | with_reducible refine lo_ ?_ ?_ | with_reducible refine lor_ ?_ ?_ | with_reducible refine bor_z ?_ ?_ | with_reducible refine rbor_z ?_ ?_ | decide)))
    exact .inr (.inr (.inr (.inr (.inr (.inr (.inl e))))))
  · have e : encP ⟨9, fn, rd, rs1, rs2, imm, sz, sg⟩ = bor (encI fn imm) (regW rd rs1 rs2) := by simp [encP]
    rw [e]
    rcases encI_lo fn imm with h | h
    · exact .inr (.inr (.inr (.inr (.inr (.inr (.inr (.inr (.inr (.inr ((lo_ h (regW_z _ _ _))))))))))))
    · exact .inr (.inr (.inr (.inr (.inr (.inr (.inr (.inr (.inr (.inl (lo_ h (regW_z _ _ _)))))))))))
  · exact .inl (by simp [encP])
  · have e : encP ⟨8, fn, rd, rs1, rs2, imm, sz, sg⟩ = bor (pk rwL fn) (regW rd rs1 rs2) := by simp [encP]
    rw [e]
    dsimp only at hf
    rcases hf with rfl | rfl | rfl | rfl | rfl | rfl | rfl
    · exact .inr (.inr (.inr (.inr (.inr (.inr (.inr (.inl (lo_ (by decide) (regW_z _ _ _)))))))))
    · exact .inr (.inr (.inr (.inr (.inr (.inr (.inr (.inl (lo_ (by decide) (regW_z _ _ _)))))))))
    · exact .inr (.inr (.inr (.inr (.inr (.inr (.inr (.inl (lo_ (by decide) (regW_z _ _ _)))))))))
    · exact .inr (.inr (.inr (.inr (.inr (.inr (.inr (.inl (lo_ (by decide) (regW_z _ _ _)))))))))
    · exact .inr (.inr (.inr (.inr (.inr (.inr (.inr (.inl (lo_ (by decide) (regW_z _ _ _)))))))))
    · exact .inr (.inr (.inr (.inr (.inr (.inr (.inr (.inr (.inl (lo_ (by decide) (regW_z _ _ _))))))))))
    · exact .inr (.inr (.inr (.inr (.inr (.inr (.inr (.inr (.inl (lo_ (by decide) (regW_z _ _ _))))))))))
theorem encode_K (i : Ins) (h : Kin i) (w : World) : Calls Tryz.prog 59 #[.agg i.cells] w fun e w' => e = .returned (.int .u32 (encP i)) ∧ Below w.heap.size w w' := by
  obtain ⟨k, fn, rd, rs1, rs2, imm, sz, sg⟩ := i
  rcases h with h | h | h | h | h | h | h | h | ⟨h, _⟩
  all_goals (dsimp only at h; subst h)
  · exact encode_1 fn rd rs1 rs2 imm sz sg w
  · exact encode_3 fn rd rs1 rs2 imm sz sg w
  · exact encode_4 fn rd rs1 rs2 imm sz sg w
  · exact encode_5 fn rd rs1 rs2 imm sz sg w
  · cases sg with
    | true => exact encode_6_true fn rd rs1 rs2 imm sz w
    | false => exact encode_6_false fn rd rs1 rs2 imm sz w
  · exact encode_7 fn rd rs1 rs2 imm sz sg w
  · exact encode_9 fn rd rs1 rs2 imm sz sg w
  · exact encode_12 fn rd rs1 rs2 imm sz sg w
  · exact encode_8 fn rd rs1 rs2 imm sz sg (pk rwL fn) (Lib.hid (encR_any 8 fn rd rs1 rs2 imm sz sg)) w
end Go.Proofs.YtidiojhefjhojaaGreat.Enc
end
section
namespace Go.Proofs.YtidiojhefjhojaaGreat.Enc
open Go Go.RowKit Go.Proofs.YtidiojhefjhojaaGreat.Step
set_option linter.unusedVariables false
set_option linter.unusedSimpArgs false
set_option maxRecDepth 100000
set_option maxHeartbeats 2000000 in
theorem expand_any (c : Int) (hc : H16 c) (w : World) : Calls Tryz.prog 37 #[.int .u16 c] w fun e w' => Says (expD c) e ∧ Below w.heap.size w w' := by
  have T0 := Lib.hid (first_any c hc)
  have T1 := Lib.hid (second_any c hc)
  have T2 := Lib.hid (third_any c hc)
  have hm := u16_mask3 hc.out
  have hq : c % 4 = 0 ∨ c % 4 = 1 ∨ c % 4 = 2 ∨ c % 4 = 3 := by omega
  unfold expD
  generalize e0 (fd c 15 13) c = d0 at *
  generalize e1 (fd c 15 13) c = d1 at *
  generalize e2 (fd c 15 13) c = d2 at *
  clear hc
  rcases hq with hq | hq | hq | hq
  all_goals rw [hq] at hm
  · rw [if_pos hq]
    clear hq
    go_enter Tryz.func37, Tryz.ntmps37
    go_wp2_with (first
      | (go_at_call 56; (with_reducible refine (T0.out _).mono ?_); rintro e w' ⟨⟨⟨r1, r2, r3, r4, r5, r6, r7, r8⟩, ok, rfl, hd4⟩, hb⟩; replace ST := Lib.hid (ST.out.call hb); clear hb; simp only [Ins.cells])
      | ((with_reducible refine Step.gate_alloc (t := 74) rfl ?_); refine Step.freshAlloc rfl rfl (alloc_agg zero_inst) ?_; intro g1 w1 b hg hb; have ST := Lib.hid (S1.made b hg hb); clear b hg hb)
      | ((with_reducible refine Step.gate_store (t := 74) rfl ?_); refine Step.storeAll ST.out.one rfl rfl rfl rfl rfl size_inst rfl rfl ?_; intro w3 nb m; replace ST := Lib.hid (ST.out.set1 nb m); clear nb m))
    refine bodyPost_ret (results_row_tmp rfl _ _ g1 _ _ _ rfl ST.out.one Tryz.underlying74 rfl size_inst) rfl ⟨⟨⟨_, _, _, _, _, _, _, _⟩, _, rfl, ?_⟩, ST.out.below⟩
    first
      | exact hd4
  · rw [if_neg (by omega), if_pos hq]
    clear hq
    go_enter Tryz.func37, Tryz.ntmps37
    go_wp2_with (first
      | (go_at_call 57; (with_reducible refine (T1.out _).mono ?_); rintro e w' ⟨⟨⟨r1, r2, r3, r4, r5, r6, r7, r8⟩, ok, rfl, hd4⟩, hb⟩; replace ST := Lib.hid (ST.out.call hb); clear hb; simp only [Ins.cells])
      | ((with_reducible refine Step.gate_alloc (t := 74) rfl ?_); refine Step.freshAlloc rfl rfl (alloc_agg zero_inst) ?_; intro g1 w1 b hg hb; have ST := Lib.hid (S1.made b hg hb); clear b hg hb)
      | ((with_reducible refine Step.gate_store (t := 74) rfl ?_); refine Step.storeAll ST.out.one rfl rfl rfl rfl rfl size_inst rfl rfl ?_; intro w3 nb m; replace ST := Lib.hid (ST.out.set1 nb m); clear nb m))
    refine bodyPost_ret (results_row_tmp rfl _ _ g1 _ _ _ rfl ST.out.one Tryz.underlying74 rfl size_inst) rfl ⟨⟨⟨_, _, _, _, _, _, _, _⟩, _, rfl, ?_⟩, ST.out.below⟩
    first
      | exact hd4
  · rw [if_neg (by omega), if_neg (by omega), if_pos hq]
    clear hq
    go_enter Tryz.func37, Tryz.ntmps37
    go_wp2_with (first
      | (go_at_call 58; (with_reducible refine (T2.out _).mono ?_); rintro e w' ⟨⟨⟨r1, r2, r3, r4, r5, r6, r7, r8⟩, ok, rfl, hd4⟩, hb⟩; replace ST := Lib.hid (ST.out.call hb); clear hb; simp only [Ins.cells])
      | ((with_reducible refine Step.gate_alloc (t := 74) rfl ?_); refine Step.freshAlloc rfl rfl (alloc_agg zero_inst) ?_; intro g1 w1 b hg hb; have ST := Lib.hid (S1.made b hg hb); clear b hg hb)
      | ((with_reducible refine Step.gate_store (t := 74) rfl ?_); refine Step.storeAll ST.out.one rfl rfl rfl rfl rfl size_inst rfl rfl ?_; intro w3 nb m; replace ST := Lib.hid (ST.out.set1 nb m); clear nb m))
    refine bodyPost_ret (results_row_tmp rfl _ _ g1 _ _ _ rfl ST.out.one Tryz.underlying74 rfl size_inst) rfl ⟨⟨⟨_, _, _, _, _, _, _, _⟩, _, rfl, ?_⟩, ST.out.below⟩
    first
      | exact hd4
  · rw [if_neg (by omega), if_neg (by omega), if_neg (by omega)]
    clear hq
    go_enter Tryz.func37, Tryz.ntmps37
    go_wp2_with (first
      | ((with_reducible refine Step.gate_alloc (t := 74) rfl ?_); refine Step.freshAlloc rfl rfl (alloc_agg zero_inst) ?_; intro g1 w1 b hg hb; have ST := Lib.hid (S1.made b hg hb); clear b hg hb)
      | ((with_reducible refine Step.gate_store (t := 74) rfl ?_); refine Step.storeAll ST.out.one rfl rfl rfl rfl rfl size_inst rfl rfl ?_; intro w3 nb m; replace ST := Lib.hid (ST.out.set1 nb m); clear nb m))
    refine bodyPost_ret (results_row_tmp rfl _ _ g1 _ _ _ rfl ST.out.one Tryz.underlying74 rfl size_inst) rfl ⟨⟨⟨_, _, _, _, _, _, _, _⟩, _, rfl, ?_⟩, ST.out.below⟩
    first
      | rfl
/-- What Expand tells. -/
inductive Xp (d : Option Ins) : Value → Prop
  | none (h : d = none) : Xp d (.tuple #[.int .u32 0, .bool false])
  | no (i : Ins) (h : d = some i) (hn : dec (encP i) ≠ some i) : Xp d (.tuple #[.int .u32 0, .bool false])
  | yes (i : Ins) (h : d = some i) (hy : dec (encP i) = some i) : Xp d (.tuple #[.int .u32 (encP i), .bool true])
set_option maxHeartbeats 2000000 in
theorem Expand_any (c : Int) (hc : H16 c) (w : World) : Calls Tryz.prog 20 #[.int .u16 c] w fun e w' => (∃ v, Xp (expD c) v ∧ e = .returned v) ∧ Below w.heap.size w w' := by
  have T0 := Lib.hid (expand_any c hc)
  have HK := Lib.hid (fun i (h : expD c = some i) => exp_kin h)
  clear hc
  generalize expD c = d at *
  have HB := Lib.hid (Below.refl _ _ : Below w.heap.size w w)
  cases d with
  | none =>
    go_enter Tryz.func20, Tryz.ntmps20
    go_wp2_with (first
      | (go_at_call 37; (with_reducible refine (T0.out _).mono ?_); rintro e w' ⟨⟨⟨r1, r2, r3, r4, r5, r6, r7, r8⟩, ok, rfl, hd4⟩, hb⟩; replace HB := Lib.hid (below_below HB.out hb); clear hb; simp only [Ins.cells]; cases ok <;> simp only [Bool.false_eq_true, if_false, if_true] at hd4)
      | ((with_reducible refine Step.gate_alloc (t := 74) rfl ?_); refine Step.freshAlloc rfl rfl (alloc_agg zero_inst) ?_; intro g1 w1 b hg hb; have ST := Lib.hid (S1.mk (below_below HB.out hb) b (Nat.le_trans HB.out.size hg)); clear b hg hb)
      | ((with_reducible refine Step.gate_store (t := 74) rfl ?_); refine Step.storeAll ST.out.one rfl rfl rfl rfl rfl size_inst rfl rfl ?_; intro w3 nb m; replace ST := Lib.hid (ST.out.set1 nb m); clear nb m)
      | ((with_reducible refine Step.gate_load (t := 74) rfl ?_); refine Step.loadAll ST.out.one rfl rfl rfl Tryz.underlying74 rfl size_inst ?_))
    · go_ret2
      exact ⟨⟨_, .none rfl, rfl⟩, ST.out.below⟩
    · cases hd4
  | some i =>
    have hk := HK.out i rfl
    clear HK
    by_cases hd : dec (encP i) = some i
    · have TE := Lib.hid (EncodeK_yes i (encP i) (encP_w i) hd (Lib.hid (decK (encP_w i) (enc_ops hk))) (Lib.hid (encode_K i hk)))
      have HX := Lib.hid (Xp.yes i rfl hd)
      clear hd hk
      generalize encP i = v at *
      obtain ⟨k, fn, rd, rs1, rs2, imm, sz, sg⟩ := i
      simp only [Ins.cells] at TE
      go_enter Tryz.func20, Tryz.ntmps20
      go_wp2_with (first
        | (go_at_call 37; (with_reducible refine (T0.out _).mono ?_); rintro e w' ⟨⟨j, ok, rfl, hd4⟩, hb⟩; replace HB := Lib.hid (below_below HB.out hb); clear hb; cases ok <;> simp only [Bool.false_eq_true, if_false, if_true, Option.some.injEq, reduceCtorEq] at hd4; subst hd4; simp only [Ins.cells])
        | (go_at_call 38; (with_reducible refine (TE.out _).mono ?_); rintro e w' ⟨rfl, hb⟩; replace ST := Lib.hid (ST.out.call hb); clear hb)
        | ((with_reducible refine Step.gate_alloc (t := 74) rfl ?_); refine Step.freshAlloc rfl rfl (alloc_agg zero_inst) ?_; intro g1 w1 b hg hb; have ST := Lib.hid (S1.mk (below_below HB.out hb) b (Nat.le_trans HB.out.size hg)); clear b hg hb)
        | ((with_reducible refine Step.gate_store (t := 74) rfl ?_); refine Step.storeAll ST.out.one rfl rfl rfl rfl rfl size_inst rfl rfl ?_; intro w3 nb m; replace ST := Lib.hid (ST.out.set1 nb m); clear nb m)
        | ((with_reducible refine Step.gate_load (t := 74) rfl ?_); refine Step.loadAll ST.out.one rfl rfl rfl Tryz.underlying74 rfl size_inst ?_))
      go_ret2
      exact ⟨⟨_, HX.out, rfl⟩, ST.out.below⟩
    · have TE := Lib.hid (EncodeK_no i (encP i) (encP_w i) hd (Lib.hid (decK (encP_w i) (enc_ops hk))) (Lib.hid (encode_K i hk)))
      have HX := Lib.hid (Xp.no i rfl hd)
      clear hd hk
      obtain ⟨k, fn, rd, rs1, rs2, imm, sz, sg⟩ := i
      simp only [Ins.cells] at TE
      go_enter Tryz.func20, Tryz.ntmps20
      go_wp2_with (first
        | (go_at_call 37; (with_reducible refine (T0.out _).mono ?_); rintro e w' ⟨⟨j, ok, rfl, hd4⟩, hb⟩; replace HB := Lib.hid (below_below HB.out hb); clear hb; cases ok <;> simp only [Bool.false_eq_true, if_false, if_true, Option.some.injEq, reduceCtorEq] at hd4; subst hd4; simp only [Ins.cells])
        | (go_at_call 38; (with_reducible refine (TE.out _).mono ?_); rintro e w' ⟨rfl, hb⟩; replace ST := Lib.hid (ST.out.call hb); clear hb)
        | ((with_reducible refine Step.gate_alloc (t := 74) rfl ?_); refine Step.freshAlloc rfl rfl (alloc_agg zero_inst) ?_; intro g1 w1 b hg hb; have ST := Lib.hid (S1.mk (below_below HB.out hb) b (Nat.le_trans HB.out.size hg)); clear b hg hb)
        | ((with_reducible refine Step.gate_store (t := 74) rfl ?_); refine Step.storeAll ST.out.one rfl rfl rfl rfl rfl size_inst rfl rfl ?_; intro w3 nb m; replace ST := Lib.hid (ST.out.set1 nb m); clear nb m)
        | ((with_reducible refine Step.gate_load (t := 74) rfl ?_); refine Step.loadAll ST.out.one rfl rfl rfl Tryz.underlying74 rfl size_inst ?_))
      go_ret2
      exact ⟨⟨_, HX.out, rfl⟩, ST.out.below⟩
end Go.Proofs.YtidiojhefjhojaaGreat.Enc
end
section
namespace Go.Proofs.YtidiojhefjhojaaGreat.Hart
open Go Go.RowKit Go.Proofs.YtidiojhefjhojaaGreat.Step Go.Proofs.YtidiojhefjhojaaGreat.Enc Go.Proofs.YtidiojhefjhojaaGreat.Kn
open Go.Proofs.YtidiojhefjhojaaGreat.Mem (Ram Grow hasB wholeB num wr below_drawn)
set_option linter.unusedVariables false
set_option linter.unusedSimpArgs false
set_option maxRecDepth 100000
theorem zero_plc : (Tryz.prog.info? 118).bind (·.zero) = some (.agg #[.int .u64 0, .int .u64 0, .int .i64 0, .bool false]) := by kernel_rfl
theorem size_plc {a b c : Int} {d : Bool} : (Tryz.prog.info? 118).map (·.size) = some (#[.int .u64 a, .int .u64 b, .int .i64 c, .bool d] : Array Value).size := (by kernel_rfl : (Tryz.prog.info? 118).map (·.size) = some 4)
theorem fres2 {P : Program} {fn : Func} {a b : Tmp} (h : fn.results = #[.tmp a, .tmp b]) (tmps : Array Value) (w : World) : (results fn tmps).run P w = .ok (.tuple #[tmps.getD a undef, tmps.getD b undef]) w := by
  simp only [results, h]
  simp
theorem fres3 {P : Program} {fn : Func} {a b c : Tmp} (h : fn.results = #[.tmp a, .tmp b, .tmp c]) (tmps : Array Value) (w : World) : (results fn tmps).run P w = .ok (.tuple #[tmps.getD a undef, tmps.getD b undef, tmps.getD c undef]) w := by
  simp only [results, h]
  simp
theorem half_ok {W : World} {g n : Nat} {base : Int} {mem : Nat → Int} {F : Nat → Prop} {root va : Int} {h : Hrt} {p : Tab.Place} (r : Ram W g base n mem F) (T0 : Hid (∀ X, Ram X g base n mem F → Calls Tryz.prog 36 #[.pointer (some ⟨g, 0, none⟩), .agg #[.int .u64 h.satp, .int .u64 root, .bool h.user, .bool h.sum, .bool h.mxr], .int .u64 va, .int .i64 1] X fun e w' => e = .returned (.agg #[.int .u64 p.pa, .int .u64 p.gpa, .int .i64 p.fault, .bool p.walk]) ∧ Below X.heap.size X w')) {x : Int} (hx : 0 ≤ x ∧ x < 65536) (T1 : Hid (∀ X, Ram X g base n mem F → Calls Tryz.prog 10 #[.pointer (some ⟨g, 0, none⟩), .int .u64 p.pa, .int .i64 2] X fun e w' => e = .returned (.tuple #[.int .u64 x, .bool true]) ∧ Below X.heap.size X w')) (hf : p.fault = 0) : Calls Tryz.prog 18 #[.pointer (some ⟨g, 0, none⟩), .int .u64 root, .agg (hc h), .int .u64 va] W fun e w' => e = .returned (.tuple #[.int .u16 x, .bool true]) ∧ Below W.heap.size W w' := by
  have R := Lib.hid r
  clear r
  have e0 : IntKind.u16.wrap x = x := by rw [IntKind.wrap_u16]; omega
  have e1 : (p.fault == 0) = true := beq_iff_eq.2 hf
  go_enter Tryz.func18, Tryz.ntmps18
  have ST := Lib.hid (Kn.nil (S := Step.Nil) (W := W))
  go_wp2_with (first
    | (go_at_call 36; (with_reducible refine (T0.out _ (R.out.below ST.out.below)).mono ?_); rintro e w' ⟨rfl, hb⟩; replace ST := Lib.hid (ST.out.call hb); clear hb)
    | (go_at_call 10; (with_reducible refine (T1.out _ (R.out.below ST.out.below)).mono ?_); rintro e w' ⟨rfl, hb⟩; replace ST := Lib.hid (ST.out.call hb); clear hb)
    | ((with_reducible refine Step.gate_box (t := 27) rfl ?_); refine Step.fresh (cs := hc h) (T := 27) rfl ?hr ?_; (case hr => first | (go_simp; done) | (go_simp; rfl)); intro g1 w1 b hg hb; replace ST := Lib.hid (ST.out.made b hg hb); clear b hb; clear hg)
    | ((with_reducible refine Step.gate_alloc (t := 118) rfl ?_); refine Step.freshAlloc rfl rfl (alloc_agg zero_plc) ?_; intro g2 w2 b hg hb; replace ST := Lib.hid (ST.out.made b hg hb); clear b hb; clear hg)
    | ((with_reducible refine Step.gate_store (t := 118) rfl ?_); refine Step.storeAll ST.out.at0 rfl rfl rfl rfl rfl size_plc rfl rfl ?_; intro w3 nb m; replace ST := Lib.hid (ST.out.set0 nb m); clear nb m)
    | ((with_reducible refine Step.gate_load (t := 22) rfl ?_); refine Step.load ST.out.at0 rfl rfl rfl pl_u64 (hv_ok _ (by decide)) ?_; simp only [hv_user, hv_on, hv_spie, hv_spp, hv_sum, hv_mxr, hv_rsv, hv_stvec, hv_sscr, hv_sepc, hv_scause, hv_stval, hv_sie, hv_sip, hv_satp, hv_resv])
    | ((with_reducible refine Step.gate_load (t := 4) rfl ?_); refine Step.load ST.out.at0 rfl rfl rfl pl_bool (hv_ok _ (by decide)) ?_; simp only [hv_user, hv_on, hv_spie, hv_spp, hv_sum, hv_mxr, hv_rsv, hv_stvec, hv_sscr, hv_sepc, hv_scause, hv_stval, hv_sie, hv_sip, hv_satp, hv_resv])
    | ((with_reducible refine Step.gate_load (t := 22) rfl ?_); refine Step.load ST.out.at0 rfl rfl rfl pl_u64 rfl ?_)
    | ((with_reducible refine Step.gate_load (t := 3) rfl ?_); refine Step.load ST.out.at0 rfl rfl rfl pl_int rfl ?_)
    | ((with_reducible refine Sq.region (id := 3) (I := fun X => Kn _ _ X _) ?hm1 10 ST.out.drew ?hp1 ?hs1); (case hm1 => rfl); (case hp1 => kernel_rfl); intro ops K hops hK; dsimp only [List.take]; (repeat (first | (refine Sq.seq_move rfl rfl ?_; simp only [Act.put, Act.eval, Array.getD_eq_getD_getElem?, List.getElem?_toArray, List.getElem?_cons_zero, List.getElem?_cons_succ, Option.getD_some, List.setIfInBounds_toArray, List.set_cons_zero, List.set_cons_succ]) | (refine Sq.seq_check rfl rfl rfl ?_; simp only [Act.put, Act.eval, Array.getD_eq_getD_getElem?, List.getElem?_toArray, List.getElem?_cons_zero, List.getElem?_cons_succ, Option.getD_some, List.setIfInBounds_toArray, List.set_cons_zero, List.set_cons_succ]) | (refine Sq.seq_load (t := 3) (fun X hX => hX.at0) (by rw [hops]; rfl) rfl rfl pl_int rfl ?_; simp only [Act.put, Act.eval, Array.getD_eq_getD_getElem?, List.getElem?_toArray, List.getElem?_cons_zero, List.getElem?_cons_succ, Option.getD_some, List.setIfInBounds_toArray, List.set_cons_zero, List.set_cons_succ]) | (refine' Sq.seq_pure rfl (fun X => _) _; rotate_left; (first | (go_simp; done) | (go_simp; rfl)); simp only [Act.put, Act.eval, Array.getD_eq_getD_getElem?, List.getElem?_toArray, List.getElem?_cons_zero, List.getElem?_cons_succ, Option.getD_some, List.setIfInBounds_toArray, List.set_cons_zero, List.set_cons_succ]) | (refine' Sq.seq_pure_g (by rw [hops]; rfl) (fun X => _) _; rotate_left; (first | (go_simp; done) | (go_simp; rfl)); simp only [Act.put, Act.eval, Array.getD_eq_getD_getElem?, List.getElem?_toArray, List.getElem?_cons_zero, List.getElem?_cons_succ, Option.getD_some, List.setIfInBounds_toArray, List.set_cons_zero, List.set_cons_succ]) | (refine Sq.seq_not (by rw [hops]; rfl) ?_; simp only [Act.put, Act.eval, Array.getD_eq_getD_getElem?, List.getElem?_toArray, List.getElem?_cons_zero, List.getElem?_cons_succ, Option.getD_some, List.setIfInBounds_toArray, List.set_cons_zero, List.set_cons_succ]))); refine Sq.seq_nil ?_; clear hops; refine hK.out _ fun w1 hk => ?_; clear hK; replace ST := Lib.hid hk; clear hk; dsimp only [List.drop]))
  all_goals (refine bodyPost_ret (fres2 rfl _ _) rfl ⟨rfl, ST.out.below⟩)
theorem half_no {W : World} {g n : Nat} {base : Int} {mem : Nat → Int} {F : Nat → Prop} {root va : Int} {h : Hrt} {p : Tab.Place} (r : Ram W g base n mem F) (T0 : Hid (∀ X, Ram X g base n mem F → Calls Tryz.prog 36 #[.pointer (some ⟨g, 0, none⟩), .agg #[.int .u64 h.satp, .int .u64 root, .bool h.user, .bool h.sum, .bool h.mxr], .int .u64 va, .int .i64 1] X fun e w' => e = .returned (.agg #[.int .u64 p.pa, .int .u64 p.gpa, .int .i64 p.fault, .bool p.walk]) ∧ Below X.heap.size X w')) (T1 : Hid (∀ X, Ram X g base n mem F → Calls Tryz.prog 10 #[.pointer (some ⟨g, 0, none⟩), .int .u64 p.pa, .int .i64 2] X fun e w' => e = .returned (.tuple #[.int .u64 0, .bool false]) ∧ Below X.heap.size X w')) : Calls Tryz.prog 18 #[.pointer (some ⟨g, 0, none⟩), .int .u64 root, .agg (hc h), .int .u64 va] W fun e w' => e = .returned (.tuple #[.int .u16 0, .bool false]) ∧ Below W.heap.size W w' := by
  have R := Lib.hid r
  clear r
  have e0 : IntKind.u16.wrap 0 = 0 := by decide
  go_enter Tryz.func18, Tryz.ntmps18
  have ST := Lib.hid (Kn.nil (S := Step.Nil) (W := W))
  go_wp2_with (first
    | (go_at_call 36; (with_reducible refine (T0.out _ (R.out.below ST.out.below)).mono ?_); rintro e w' ⟨rfl, hb⟩; replace ST := Lib.hid (ST.out.call hb); clear hb)
    | (go_at_call 10; (with_reducible refine (T1.out _ (R.out.below ST.out.below)).mono ?_); rintro e w' ⟨rfl, hb⟩; replace ST := Lib.hid (ST.out.call hb); clear hb)
    | ((with_reducible refine Step.gate_box (t := 27) rfl ?_); refine Step.fresh (cs := hc h) (T := 27) rfl ?hr ?_; (case hr => first | (go_simp; done) | (go_simp; rfl)); intro g1 w1 b hg hb; replace ST := Lib.hid (ST.out.made b hg hb); clear b hb; clear hg)
    | ((with_reducible refine Step.gate_alloc (t := 118) rfl ?_); refine Step.freshAlloc rfl rfl (alloc_agg zero_plc) ?_; intro g2 w2 b hg hb; replace ST := Lib.hid (ST.out.made b hg hb); clear b hb; clear hg)
    | ((with_reducible refine Step.gate_store (t := 118) rfl ?_); refine Step.storeAll ST.out.at0 rfl rfl rfl rfl rfl size_plc rfl rfl ?_; intro w3 nb m; replace ST := Lib.hid (ST.out.set0 nb m); clear nb m)
    | ((with_reducible refine Step.gate_load (t := 22) rfl ?_); refine Step.load ST.out.at0 rfl rfl rfl pl_u64 (hv_ok _ (by decide)) ?_; simp only [hv_user, hv_on, hv_spie, hv_spp, hv_sum, hv_mxr, hv_rsv, hv_stvec, hv_sscr, hv_sepc, hv_scause, hv_stval, hv_sie, hv_sip, hv_satp, hv_resv])
    | ((with_reducible refine Step.gate_load (t := 4) rfl ?_); refine Step.load ST.out.at0 rfl rfl rfl pl_bool (hv_ok _ (by decide)) ?_; simp only [hv_user, hv_on, hv_spie, hv_spp, hv_sum, hv_mxr, hv_rsv, hv_stvec, hv_sscr, hv_sepc, hv_scause, hv_stval, hv_sie, hv_sip, hv_satp, hv_resv])
    | ((with_reducible refine Step.gate_load (t := 22) rfl ?_); refine Step.load ST.out.at0 rfl rfl rfl pl_u64 rfl ?_)
    | ((with_reducible refine Step.gate_load (t := 3) rfl ?_); refine Step.load ST.out.at0 rfl rfl rfl pl_int rfl ?_)
    | ((with_reducible refine Sq.region (id := 3) (I := fun X => Kn _ _ X _) ?hm1 10 ST.out.drew ?hp1 ?hs1); (case hm1 => rfl); (case hp1 => kernel_rfl); intro ops K hops hK; dsimp only [List.take]; (repeat (first | (refine Sq.seq_move rfl rfl ?_; simp only [Act.put, Act.eval, Array.getD_eq_getD_getElem?, List.getElem?_toArray, List.getElem?_cons_zero, List.getElem?_cons_succ, Option.getD_some, List.setIfInBounds_toArray, List.set_cons_zero, List.set_cons_succ]) | (refine Sq.seq_check rfl rfl rfl ?_; simp only [Act.put, Act.eval, Array.getD_eq_getD_getElem?, List.getElem?_toArray, List.getElem?_cons_zero, List.getElem?_cons_succ, Option.getD_some, List.setIfInBounds_toArray, List.set_cons_zero, List.set_cons_succ]) | (refine Sq.seq_load (t := 3) (fun X hX => hX.at0) (by rw [hops]; rfl) rfl rfl pl_int rfl ?_; simp only [Act.put, Act.eval, Array.getD_eq_getD_getElem?, List.getElem?_toArray, List.getElem?_cons_zero, List.getElem?_cons_succ, Option.getD_some, List.setIfInBounds_toArray, List.set_cons_zero, List.set_cons_succ]) | (refine' Sq.seq_pure rfl (fun X => _) _; rotate_left; (first | (go_simp; done) | (go_simp; rfl)); simp only [Act.put, Act.eval, Array.getD_eq_getD_getElem?, List.getElem?_toArray, List.getElem?_cons_zero, List.getElem?_cons_succ, Option.getD_some, List.setIfInBounds_toArray, List.set_cons_zero, List.set_cons_succ]) | (refine' Sq.seq_pure_g (by rw [hops]; rfl) (fun X => _) _; rotate_left; (first | (go_simp; done) | (go_simp; rfl)); simp only [Act.put, Act.eval, Array.getD_eq_getD_getElem?, List.getElem?_toArray, List.getElem?_cons_zero, List.getElem?_cons_succ, Option.getD_some, List.setIfInBounds_toArray, List.set_cons_zero, List.set_cons_succ]) | (refine Sq.seq_not (by rw [hops]; rfl) ?_; simp only [Act.put, Act.eval, Array.getD_eq_getD_getElem?, List.getElem?_toArray, List.getElem?_cons_zero, List.getElem?_cons_succ, Option.getD_some, List.setIfInBounds_toArray, List.set_cons_zero, List.set_cons_succ]))); refine Sq.seq_nil ?_; clear hops; refine hK.out _ fun w1 hk => ?_; clear hK; replace ST := Lib.hid hk; clear hk; dsimp only [List.drop]))
  all_goals (refine bodyPost_ret (fres2 rfl _ _) rfl ⟨rfl, ST.out.below⟩)
theorem or_half {a b : Int} (ha : 0 ≤ a ∧ a < 65536) (hb : 0 ≤ b ∧ b < 65536) : bits .or .u32 (IntKind.u32.wrap (a * 65536)) b = a * 65536 + b := by
  rw [show IntKind.u32.wrap (a * 65536) = a * 65536 by rw [IntKind.wrap_u32]; omega]
  exact u32_or_ 16 (by omega) (by omega) (by omega) (by omega)
theorem or_half2 {a b : Int} (ha : 0 ≤ a ∧ a < 65536) (hb : 0 ≤ b ∧ b < 65536) : bits .or .u32 (a * 65536) b = a * 65536 + b := u32_or_ 16 (by omega) (by omega) (by omega) (by omega)
theorem fetch_no {W : World} {g n : Nat} {base : Int} {mem : Nat → Int} {F : Nat → Prop} {root : Int} {h h2 : Hrt} {x y v : Int} (r : Ram W g base n mem F) (T0 : Hid (∀ X, Calls Tryz.prog 17 #[.agg (hc h)] X fun e w' => e = .returned (.agg (hc h2)) ∧ Below X.heap.size X w')) (TL : Hid (∀ X, Ram X g base n mem F → Calls Tryz.prog 18 #[.pointer (some ⟨g, 0, none⟩), .int .u64 root, .agg (hc h2), .int .u64 h2.pc] X fun e w' => e = .returned (.tuple #[.int .u16 x, .bool false]) ∧ Below X.heap.size X w')) : Calls Tryz.prog 6 #[.pointer (some ⟨g, 0, none⟩), .int .u64 root, .agg (hc h)] W fun e w' => e = .returned (.tuple #[.int .u32 0, .int .i64 0, .bool false]) ∧ Below W.heap.size W w' := by
  have R := Lib.hid r
  clear r
  go_enter Tryz.func6, Tryz.ntmps6
  have ST := Lib.hid (Kn.nil (S := Step.Nil) (W := W))
  go_wp2_with (first
    | ((with_reducible refine Step.gate_box (t := 27) rfl ?_); refine Step.fresh (cs := hc h) (T := 27) rfl ?hr ?_; (case hr => first | (go_simp; done) | (go_simp; rfl)); intro g1 w1 b hg hb; replace ST := Lib.hid (ST.out.made b hg hb); clear b hb; clear hg)
    | (go_at_call 17; (with_reducible refine (T0.out _).mono ?_); rintro e w' ⟨rfl, hb⟩; replace ST := Lib.hid (ST.out.call hb); clear hb)
    | ((with_reducible refine Step.gate_store (t := 27) rfl ?_); refine Step.storeAll ST.out.at0 rfl rfl rfl rfl rfl (size_hart _) rfl (hc_all _) ?_; intro w3 nb m; replace ST := Lib.hid (ST.out.set0 nb m); clear nb m)
    | ((with_reducible refine Step.gate_load (t := 27) rfl ?_); refine Step.loadAll ST.out.at0 rfl rfl rfl Tryz.underlying27 rfl (size_hart _) ?_)
    | ((with_reducible refine Step.gate_load (t := 22) rfl ?_); refine Step.load ST.out.at0 rfl rfl rfl pl_u64 (hv_ok _ (by decide)) ?_; simp only [hv_pc])
    | (go_at_call 18; (first | (with_reducible refine (TL.out _ (R.out.below ST.out.below)).mono ?_) | (with_reducible refine (TH.out _ (R.out.below ST.out.below)).mono ?_)); rintro e w' ⟨rfl, hb⟩; replace ST := Lib.hid (ST.out.call hb); clear hb)
    | (go_at_call 19; (with_reducible refine (TZ.out _).mono ?_); rintro e w' ⟨rfl, hb⟩; replace ST := Lib.hid (ST.out.call hb); clear hb)
    | (go_at_call 20; (with_reducible refine (TX.out _).mono ?_); rintro e w' ⟨rfl, hb⟩; replace ST := Lib.hid (ST.out.call hb); clear hb))
  all_goals (refine bodyPost_ret (fres3 rfl _ _) rfl ⟨rfl, ST.out.below⟩)
theorem fetch_c {W : World} {g n : Nat} {base : Int} {mem : Nat → Int} {F : Nat → Prop} {root : Int} {h h2 : Hrt} {x y v : Int} (r : Ram W g base n mem F) (T0 : Hid (∀ X, Calls Tryz.prog 17 #[.agg (hc h)] X fun e w' => e = .returned (.agg (hc h2)) ∧ Below X.heap.size X w')) (hx : 0 ≤ x ∧ x < 65536) (TL : Hid (∀ X, Ram X g base n mem F → Calls Tryz.prog 18 #[.pointer (some ⟨g, 0, none⟩), .int .u64 root, .agg (hc h2), .int .u64 h2.pc] X fun e w' => e = .returned (.tuple #[.int .u16 x, .bool true]) ∧ Below X.heap.size X w')) (TZ : Hid (∀ X, Calls Tryz.prog 19 #[.int .u16 x] X fun e w' => e = .returned (.int .i64 2) ∧ Below X.heap.size X w')) (TX : Hid (∀ X, Calls Tryz.prog 20 #[.int .u16 x] X fun e w' => e = .returned (.tuple #[.int .u32 v, .bool true]) ∧ Below X.heap.size X w')) : Calls Tryz.prog 6 #[.pointer (some ⟨g, 0, none⟩), .int .u64 root, .agg (hc h)] W fun e w' => e = .returned (.tuple #[.int .u32 v, .int .i64 2, .bool true]) ∧ Below W.heap.size W w' := by
  have R := Lib.hid r
  clear r
  go_enter Tryz.func6, Tryz.ntmps6
  have ST := Lib.hid (Kn.nil (S := Step.Nil) (W := W))
  go_wp2_with (first
    | ((with_reducible refine Step.gate_box (t := 27) rfl ?_); refine Step.fresh (cs := hc h) (T := 27) rfl ?hr ?_; (case hr => first | (go_simp; done) | (go_simp; rfl)); intro g1 w1 b hg hb; replace ST := Lib.hid (ST.out.made b hg hb); clear b hb; clear hg)
    | (go_at_call 17; (with_reducible refine (T0.out _).mono ?_); rintro e w' ⟨rfl, hb⟩; replace ST := Lib.hid (ST.out.call hb); clear hb)
    | ((with_reducible refine Step.gate_store (t := 27) rfl ?_); refine Step.storeAll ST.out.at0 rfl rfl rfl rfl rfl (size_hart _) rfl (hc_all _) ?_; intro w3 nb m; replace ST := Lib.hid (ST.out.set0 nb m); clear nb m)
    | ((with_reducible refine Step.gate_load (t := 27) rfl ?_); refine Step.loadAll ST.out.at0 rfl rfl rfl Tryz.underlying27 rfl (size_hart _) ?_)
    | ((with_reducible refine Step.gate_load (t := 22) rfl ?_); refine Step.load ST.out.at0 rfl rfl rfl pl_u64 (hv_ok _ (by decide)) ?_; simp only [hv_pc])
    | (go_at_call 18; (first | (with_reducible refine (TL.out _ (R.out.below ST.out.below)).mono ?_) | (with_reducible refine (TH.out _ (R.out.below ST.out.below)).mono ?_)); rintro e w' ⟨rfl, hb⟩; replace ST := Lib.hid (ST.out.call hb); clear hb)
    | (go_at_call 19; (with_reducible refine (TZ.out _).mono ?_); rintro e w' ⟨rfl, hb⟩; replace ST := Lib.hid (ST.out.call hb); clear hb)
    | (go_at_call 20; (with_reducible refine (TX.out _).mono ?_); rintro e w' ⟨rfl, hb⟩; replace ST := Lib.hid (ST.out.call hb); clear hb))
  all_goals (refine bodyPost_ret (fres3 rfl _ _) rfl ⟨rfl, ST.out.below⟩)
theorem fetch_cno {W : World} {g n : Nat} {base : Int} {mem : Nat → Int} {F : Nat → Prop} {root : Int} {h h2 : Hrt} {x y v : Int} (r : Ram W g base n mem F) (T0 : Hid (∀ X, Calls Tryz.prog 17 #[.agg (hc h)] X fun e w' => e = .returned (.agg (hc h2)) ∧ Below X.heap.size X w')) (hx : 0 ≤ x ∧ x < 65536) (TL : Hid (∀ X, Ram X g base n mem F → Calls Tryz.prog 18 #[.pointer (some ⟨g, 0, none⟩), .int .u64 root, .agg (hc h2), .int .u64 h2.pc] X fun e w' => e = .returned (.tuple #[.int .u16 x, .bool true]) ∧ Below X.heap.size X w')) (TZ : Hid (∀ X, Calls Tryz.prog 19 #[.int .u16 x] X fun e w' => e = .returned (.int .i64 2) ∧ Below X.heap.size X w')) (TX : Hid (∀ X, Calls Tryz.prog 20 #[.int .u16 x] X fun e w' => e = .returned (.tuple #[.int .u32 v, .bool false]) ∧ Below X.heap.size X w')) : Calls Tryz.prog 6 #[.pointer (some ⟨g, 0, none⟩), .int .u64 root, .agg (hc h)] W fun e w' => e = .returned (.tuple #[.int .u32 0, .int .i64 0, .bool false]) ∧ Below W.heap.size W w' := by
  have R := Lib.hid r
  clear r
  go_enter Tryz.func6, Tryz.ntmps6
  have ST := Lib.hid (Kn.nil (S := Step.Nil) (W := W))
  go_wp2_with (first
    | ((with_reducible refine Step.gate_box (t := 27) rfl ?_); refine Step.fresh (cs := hc h) (T := 27) rfl ?hr ?_; (case hr => first | (go_simp; done) | (go_simp; rfl)); intro g1 w1 b hg hb; replace ST := Lib.hid (ST.out.made b hg hb); clear b hb; clear hg)
    | (go_at_call 17; (with_reducible refine (T0.out _).mono ?_); rintro e w' ⟨rfl, hb⟩; replace ST := Lib.hid (ST.out.call hb); clear hb)
    | ((with_reducible refine Step.gate_store (t := 27) rfl ?_); refine Step.storeAll ST.out.at0 rfl rfl rfl rfl rfl (size_hart _) rfl (hc_all _) ?_; intro w3 nb m; replace ST := Lib.hid (ST.out.set0 nb m); clear nb m)
    | ((with_reducible refine Step.gate_load (t := 27) rfl ?_); refine Step.loadAll ST.out.at0 rfl rfl rfl Tryz.underlying27 rfl (size_hart _) ?_)
    | ((with_reducible refine Step.gate_load (t := 22) rfl ?_); refine Step.load ST.out.at0 rfl rfl rfl pl_u64 (hv_ok _ (by decide)) ?_; simp only [hv_pc])
    | (go_at_call 18; (first | (with_reducible refine (TL.out _ (R.out.below ST.out.below)).mono ?_) | (with_reducible refine (TH.out _ (R.out.below ST.out.below)).mono ?_)); rintro e w' ⟨rfl, hb⟩; replace ST := Lib.hid (ST.out.call hb); clear hb)
    | (go_at_call 19; (with_reducible refine (TZ.out _).mono ?_); rintro e w' ⟨rfl, hb⟩; replace ST := Lib.hid (ST.out.call hb); clear hb)
    | (go_at_call 20; (with_reducible refine (TX.out _).mono ?_); rintro e w' ⟨rfl, hb⟩; replace ST := Lib.hid (ST.out.call hb); clear hb))
  all_goals (refine bodyPost_ret (fres3 rfl _ _) rfl ⟨rfl, ST.out.below⟩)
theorem fetch_hno {W : World} {g n : Nat} {base : Int} {mem : Nat → Int} {F : Nat → Prop} {root : Int} {h h2 : Hrt} {x y v : Int} (r : Ram W g base n mem F) (T0 : Hid (∀ X, Calls Tryz.prog 17 #[.agg (hc h)] X fun e w' => e = .returned (.agg (hc h2)) ∧ Below X.heap.size X w')) (hx : 0 ≤ x ∧ x < 65536) (TL : Hid (∀ X, Ram X g base n mem F → Calls Tryz.prog 18 #[.pointer (some ⟨g, 0, none⟩), .int .u64 root, .agg (hc h2), .int .u64 h2.pc] X fun e w' => e = .returned (.tuple #[.int .u16 x, .bool true]) ∧ Below X.heap.size X w')) (TZ : Hid (∀ X, Calls Tryz.prog 19 #[.int .u16 x] X fun e w' => e = .returned (.int .i64 4) ∧ Below X.heap.size X w')) (TH : Hid (∀ X, Ram X g base n mem F → Calls Tryz.prog 18 #[.pointer (some ⟨g, 0, none⟩), .int .u64 root, .agg (hc h2), .int .u64 (IntKind.u64.wrap (h2.pc + 2))] X fun e w' => e = .returned (.tuple #[.int .u16 y, .bool false]) ∧ Below X.heap.size X w')) : Calls Tryz.prog 6 #[.pointer (some ⟨g, 0, none⟩), .int .u64 root, .agg (hc h)] W fun e w' => e = .returned (.tuple #[.int .u32 0, .int .i64 0, .bool false]) ∧ Below W.heap.size W w' := by
  have R := Lib.hid r
  clear r
  go_enter Tryz.func6, Tryz.ntmps6
  have ST := Lib.hid (Kn.nil (S := Step.Nil) (W := W))
  go_wp2_with (first
    | ((with_reducible refine Step.gate_box (t := 27) rfl ?_); refine Step.fresh (cs := hc h) (T := 27) rfl ?hr ?_; (case hr => first | (go_simp; done) | (go_simp; rfl)); intro g1 w1 b hg hb; replace ST := Lib.hid (ST.out.made b hg hb); clear b hb; clear hg)
    | (go_at_call 17; (with_reducible refine (T0.out _).mono ?_); rintro e w' ⟨rfl, hb⟩; replace ST := Lib.hid (ST.out.call hb); clear hb)
    | ((with_reducible refine Step.gate_store (t := 27) rfl ?_); refine Step.storeAll ST.out.at0 rfl rfl rfl rfl rfl (size_hart _) rfl (hc_all _) ?_; intro w3 nb m; replace ST := Lib.hid (ST.out.set0 nb m); clear nb m)
    | ((with_reducible refine Step.gate_load (t := 27) rfl ?_); refine Step.loadAll ST.out.at0 rfl rfl rfl Tryz.underlying27 rfl (size_hart _) ?_)
    | ((with_reducible refine Step.gate_load (t := 22) rfl ?_); refine Step.load ST.out.at0 rfl rfl rfl pl_u64 (hv_ok _ (by decide)) ?_; simp only [hv_pc])
    | (go_at_call 18; (first | (with_reducible refine (TL.out _ (R.out.below ST.out.below)).mono ?_) | (with_reducible refine (TH.out _ (R.out.below ST.out.below)).mono ?_)); rintro e w' ⟨rfl, hb⟩; replace ST := Lib.hid (ST.out.call hb); clear hb)
    | (go_at_call 19; (with_reducible refine (TZ.out _).mono ?_); rintro e w' ⟨rfl, hb⟩; replace ST := Lib.hid (ST.out.call hb); clear hb)
    | (go_at_call 20; (with_reducible refine (TX.out _).mono ?_); rintro e w' ⟨rfl, hb⟩; replace ST := Lib.hid (ST.out.call hb); clear hb))
  all_goals (refine bodyPost_ret (fres3 rfl _ _) rfl ⟨rfl, ST.out.below⟩)
theorem fetch_w {W : World} {g n : Nat} {base : Int} {mem : Nat → Int} {F : Nat → Prop} {root : Int} {h h2 : Hrt} {x y v : Int} (r : Ram W g base n mem F) (T0 : Hid (∀ X, Calls Tryz.prog 17 #[.agg (hc h)] X fun e w' => e = .returned (.agg (hc h2)) ∧ Below X.heap.size X w')) (hx : 0 ≤ x ∧ x < 65536) (hy : 0 ≤ y ∧ y < 65536) (TL : Hid (∀ X, Ram X g base n mem F → Calls Tryz.prog 18 #[.pointer (some ⟨g, 0, none⟩), .int .u64 root, .agg (hc h2), .int .u64 h2.pc] X fun e w' => e = .returned (.tuple #[.int .u16 x, .bool true]) ∧ Below X.heap.size X w')) (TZ : Hid (∀ X, Calls Tryz.prog 19 #[.int .u16 x] X fun e w' => e = .returned (.int .i64 4) ∧ Below X.heap.size X w')) (TH : Hid (∀ X, Ram X g base n mem F → Calls Tryz.prog 18 #[.pointer (some ⟨g, 0, none⟩), .int .u64 root, .agg (hc h2), .int .u64 (IntKind.u64.wrap (h2.pc + 2))] X fun e w' => e = .returned (.tuple #[.int .u16 y, .bool true]) ∧ Below X.heap.size X w')) : Calls Tryz.prog 6 #[.pointer (some ⟨g, 0, none⟩), .int .u64 root, .agg (hc h)] W fun e w' => e = .returned (.tuple #[.int .u32 (y * 65536 + x), .int .i64 4, .bool true]) ∧ Below W.heap.size W w' := by
  have R := Lib.hid r
  clear r
  have e1 := or_half hy hx
  have e4 := or_half2 hy hx
  have e2 : IntKind.u32.wrap x = x := by rw [IntKind.wrap_u32]; omega
  have e3 : IntKind.u32.wrap y = y := by rw [IntKind.wrap_u32]; omega
  go_enter Tryz.func6, Tryz.ntmps6
  have ST := Lib.hid (Kn.nil (S := Step.Nil) (W := W))
  go_wp2_with (first
    | ((with_reducible refine Step.gate_box (t := 27) rfl ?_); refine Step.fresh (cs := hc h) (T := 27) rfl ?hr ?_; (case hr => first | (go_simp; done) | (go_simp; rfl)); intro g1 w1 b hg hb; replace ST := Lib.hid (ST.out.made b hg hb); clear b hb; clear hg)
    | (go_at_call 17; (with_reducible refine (T0.out _).mono ?_); rintro e w' ⟨rfl, hb⟩; replace ST := Lib.hid (ST.out.call hb); clear hb)
    | ((with_reducible refine Step.gate_store (t := 27) rfl ?_); refine Step.storeAll ST.out.at0 rfl rfl rfl rfl rfl (size_hart _) rfl (hc_all _) ?_; intro w3 nb m; replace ST := Lib.hid (ST.out.set0 nb m); clear nb m)
    | ((with_reducible refine Step.gate_load (t := 27) rfl ?_); refine Step.loadAll ST.out.at0 rfl rfl rfl Tryz.underlying27 rfl (size_hart _) ?_)
    | ((with_reducible refine Step.gate_load (t := 22) rfl ?_); refine Step.load ST.out.at0 rfl rfl rfl pl_u64 (hv_ok _ (by decide)) ?_; simp only [hv_pc])
    | (go_at_call 18; (first | (with_reducible refine (TL.out _ (R.out.below ST.out.below)).mono ?_) | (with_reducible refine (TH.out _ (R.out.below ST.out.below)).mono ?_)); rintro e w' ⟨rfl, hb⟩; replace ST := Lib.hid (ST.out.call hb); clear hb)
    | (go_at_call 19; (with_reducible refine (TZ.out _).mono ?_); rintro e w' ⟨rfl, hb⟩; replace ST := Lib.hid (ST.out.call hb); clear hb)
    | (go_at_call 20; (with_reducible refine (TX.out _).mono ?_); rintro e w' ⟨rfl, hb⟩; replace ST := Lib.hid (ST.out.call hb); clear hb))
  all_goals (refine bodyPost_ret (fres3 rfl _ _) rfl ⟨rfl, ST.out.below⟩)
def fetT (p : Int × Int × Bool) : Value := .tuple #[.int .u32 p.1, .int .i64 p.2.1, .bool p.2.2]
open Classical in
/-- What Expand answers, as a pair. -/
noncomputable def exV (d : Option Ins) : Int × Bool := match d with | none => (0, false) | some i => if dec (encP i) = some i then (encP i, true) else (0, false)
theorem Xp_ex {d : Option Ins} {v : Value} (h : Xp d v) : v = .tuple #[.int .u32 (exV d).1, .bool (exV d).2] := by
  cases h with
  | none h => subst h; rfl
  | no i h hn => subst h; simp only [exV, if_neg hn]
  | yes i h hy => subst h; simp only [exV, if_pos hy]
end Go.Proofs.YtidiojhefjhojaaGreat.Hart
end
section
namespace Go.Proofs.YtidiojhefjhojaaGreat.Hart
open Go Go.RowKit Go.Proofs.YtidiojhefjhojaaGreat.Step Go.Proofs.YtidiojhefjhojaaGreat.Enc Go.Proofs.YtidiojhefjhojaaGreat.Kn
set_option linter.unusedVariables false
set_option linter.unusedSimpArgs false
set_option maxRecDepth 100000
theorem res3 {P : Program} {fn : Func} {a b c : Tmp} (h : fn.results = #[.tmp a, .tmp b, .tmp c]) (tmps : Array Value) (w : World) : (results fn tmps).run P w = .ok (.tuple #[tmps.getD a undef, tmps.getD b undef, tmps.getD c undef]) w := by
  simp only [results, h]
  simp
theorem res2 {P : Program} {fn : Func} {a b : Tmp} (h : fn.results = #[.tmp a, .tmp b]) (tmps : Array Value) (w : World) : (results fn tmps).run P w = .ok (.tuple #[tmps.getD a undef, tmps.getD b undef]) w := by
  simp only [results, h]
  simp
theorem pl_ram : Step.plainT Tryz.prog 30 = true := by kernel_rfl
theorem pl_wfn : Step.plainT Tryz.prog 139 = true := by kernel_rfl
theorem size_env5 {a b : Int} {u s m : Bool} : (Tryz.prog.info? 121).map (·.size) = some (#[.int .u64 a, .int .u64 b, .bool u, .bool s, .bool m] : Array Value).size := (by kernel_rfl : (Tryz.prog.info? 121).map (·.size) = some 5)
theorem zero_pl0 : (Tryz.prog.info? 118).bind (·.zero) = some (.agg #[.int .u64 0, .int .u64 0, .int .i64 0, .bool false]) := by kernel_rfl
theorem size_pl0 {a b c : Int} {d : Bool} : (Tryz.prog.info? 118).map (·.size) = some (#[.int .u64 a, .int .u64 b, .int .i64 c, .bool d] : Array Value).size := (by kernel_rfl : (Tryz.prog.info? 118).map (·.size) = some 4)
set_option maxHeartbeats 2000000 in
theorem first_off {W : World} {g : Nat} {cs : Array Value} {T : TypeId} {satp : Int} (hB : Blk W g cs T) (h3 : cs[3]? = some (.int .u64 satp)) (hs : satp / 1152921504606846976 = 0) (h0 : 0 ≤ satp) (va a : Int) :
    Calls Tryz.prog 55 #[.pointer (some ⟨g, 0, none⟩), .int .u64 va, .int .i64 a] W fun e w' => e = .returned (.tuple #[.int .u64 va, .int .i64 0]) ∧ Below W.heap.size W w' := by
  have c3 := (hB.cell 3).trans h3
  have HB := Lib.hid (Below.refl _ _ : Below W.heap.size W W)
  go_enter Tryz.func55, Tryz.ntmps55
  go_wp2
  refine bodyPost_ret (res2 rfl _ _) rfl ?_
  exact ⟨rfl, HB.out⟩
set_option maxHeartbeats 2000000 in
theorem second0 {W : World} {g : Nat} {cs : Array Value} {T : TypeId} (hB : Blk W g cs T) (h3 : cs[3]? = some (.int .u64 0)) (gpa a : Int) :
    Calls Tryz.prog 95 #[.pointer (some ⟨g, 0, none⟩), .int .u64 gpa, .int .i64 a] W fun e w' => e = .returned (.tuple #[.int .u64 gpa, .int .i64 14, .int .i64 0]) ∧ Below W.heap.size W w' := by
  have c3 := (hB.cell 3).trans h3
  have HB := Lib.hid (Below.refl _ _ : Below W.heap.size W W)
  go_enter Tryz.func95, Tryz.ntmps95
  go_wp2
  refine bodyPost_ret (res3 rfl _ _) rfl ?_
  exact ⟨rfl, HB.out⟩
theorem entry0 (W : World) (h : Nat) :
    Calls Tryz.prog 94 #[.pointer (some ⟨h, 0, none⟩)] W fun e W' => ∃ c, e = .returned (.func (.func 144) #[] #[.pointer (some ⟨c, 0, none⟩)]) ∧ Below W.heap.size W W' := by
  go_enter Tryz.func94, Tryz.ntmps94
  go_wp2
  go_ret
  exact ⟨_, rfl, alloc_below _ _⟩
set_option maxHeartbeats 2000000 in
theorem guest0 (W : World) (h : Nat) (gpa a : Int) :
    Calls Tryz.prog 54 #[.pointer (some ⟨h, 0, none⟩), .int .u64 0, .int .u64 gpa, .int .i64 a] W fun e W' => e = .returned (.tuple #[.int .u64 gpa, .int .i64 14, .int .i64 0]) ∧ Below W.heap.size W W' := by
  have hu60 := Tryz.underlying166
  have hu58 := Tryz.underlying141
  go_enter Tryz.func54, Tryz.ntmps54
  have ST := Lib.hid (Kn.nil (S := Step.Nil) (W := W))
  go_wp2_with (first
    | (go_at_call 94; (with_reducible refine (entry0 _ _).mono ?_); rintro e w1 ⟨c, rfl, hb⟩; replace ST := Lib.hid (ST.out.call hb); clear hb)
    | ((with_reducible refine Step.gate_box (t := 166) rfl ?_); refine Step.fresh (cs := #[.func (.func 144) #[] #[.pointer (some ⟨c, 0, none⟩)], .int .u64 0, .int .i64 0, .int .u64 0]) (T := 166) rfl ?hr ?_; (case hr => first | (go_simp; done) | (go_simp; rfl)); intro g w1 b hg hb; replace ST := Lib.hid (ST.out.made b hg hb); clear b hb; clear hg)
    | (go_at_call 95; (with_reducible refine (second0 ST.out.at0 rfl _ _).mono ?_); rintro e w' ⟨rfl, hb⟩; replace ST := Lib.hid (ST.out.call hb); clear hb))
  refine bodyPost_ret (res3 rfl _ _) rfl ⟨rfl, ST.out.below⟩
set_option maxHeartbeats 4000000 in
theorem translate0 (W : World) (h : Nat) (satp va a : Int) (user sum mxr : Bool) (hs : satp / 1152921504606846976 = 0) (h0 : 0 ≤ satp) :
    Calls Tryz.prog 36 #[.pointer (some ⟨h, 0, none⟩), .agg #[.int .u64 satp, .int .u64 0, .bool user, .bool sum, .bool mxr], .int .u64 va, .int .i64 a] W fun e W' => e = .returned (.agg #[.int .u64 va, .int .u64 va, .int .i64 0, .bool false]) ∧ Below W.heap.size W W' := by
  have hu := Tryz.underlying118
  have hu2 := Tryz.underlying121
  have hu3 := Tryz.underlying143
  have hu4 := Tryz.underlying141
  go_enter Tryz.func36, Tryz.ntmps36
  have ST := Lib.hid (Kn.nil (S := Step.Nil) (W := W))
  go_wp2_with (first
    | ((with_reducible refine Step.gate_box (t := 30) rfl ?_); refine Step.fresh (cs := #[.pointer (some ⟨h, 0, none⟩)]) (T := 30) rfl ?hr ?_; (case hr => first | (go_simp; done) | (go_simp; rfl)); intro q1 w1 b hg hb; replace ST := Lib.hid (ST.out.made b hg hb); clear b hb; clear hg)
    | ((with_reducible refine Step.gate_box (t := 121) rfl ?_); refine Step.fresh (cs := #[.int .u64 satp, .int .u64 0, .bool user, .bool sum, .bool mxr]) (T := 121) rfl ?hr ?_; (case hr => first | (go_simp; done) | (go_simp; rfl)); intro q2 w1 b hg hb; replace ST := Lib.hid (ST.out.made b hg hb); clear b hb; clear hg)
    | ((with_reducible refine Step.gate_alloc (t := 118) rfl ?_); refine Step.freshAlloc rfl rfl (Enc.alloc_agg zero_pl0) ?_; intro g8 w2 b hg hb; replace ST := Lib.hid (ST.out.made b hg hb); clear b hb; clear hg)
    | ((with_reducible refine Step.gate_load (t := 121) rfl ?_); refine Step.loadAll ST.out.at2 rfl rfl rfl Tryz.underlying121 rfl size_env5 ?_)
    | ((with_reducible refine Step.gate_box (t := 143) rfl ?_); refine Step.fresh (cs := #[.nilFunc, .int .u64 0, .int .i64 0, .int .u64 satp, .int .u64 0, .bool user, .bool sum, .bool mxr]) (T := 143) rfl ?hr ?_; (case hr => first | (go_simp; done) | (go_simp; rfl)); intro g w1 b hg hb; replace ST := Lib.hid (ST.out.made b hg hb); clear b hb; clear hg)
    | ((with_reducible refine Step.gate_store (t := 139) rfl ?_); refine Step.store ST.out.at0 rfl rfl rfl rfl rfl pl_wfn rfl rfl ?_; intro w3 nb m; replace ST := Lib.hid (ST.out.set0 nb m); clear nb m)
    | (go_at_call 55; (with_reducible refine (first_off ST.out.at0 rfl hs h0 _ _).mono ?_); rintro e w' ⟨rfl, hb⟩; replace ST := Lib.hid (ST.out.call hb); clear hb)
    | ((with_reducible refine Step.gate_load (t := 3) rfl ?_); refine Step.load ST.out.at1 rfl rfl rfl pl_int rfl ?_)
    | ((with_reducible refine Step.gate_load (t := 30) rfl ?_); refine Step.load ST.out.at4 rfl rfl rfl pl_ram rfl ?_)
    | ((with_reducible refine Step.gate_load (t := 22) rfl ?_); refine Step.load ST.out.at3 rfl rfl rfl pl_u64 rfl ?_)
    | (go_at_call 54; (with_reducible refine (guest0 _ _ _ _).mono ?_); rintro e w' ⟨rfl, hb⟩; replace ST := Lib.hid (ST.out.call hb); clear hb)
    | ((with_reducible refine Step.gate_store (t := 118) rfl ?_); refine Step.storeAll ST.out.at2 rfl rfl rfl rfl rfl size_pl0 rfl rfl ?_; intro w3 nb m; replace ST := Lib.hid (ST.out.set2 nb m); clear nb m))
  refine bodyPost_ret (results_row rfl _ _ _ _ _ _ rfl ST.out.at2 hu rfl size_pl0) rfl ⟨rfl, ST.out.below⟩
end Go.Proofs.YtidiojhefjhojaaGreat.Hart
end
section
namespace Go.Proofs.YtidiojhefjhojaaGreat.Hart
open Go Go.RowKit Go.Proofs.YtidiojhefjhojaaGreat.Step Go.Proofs.YtidiojhefjhojaaGreat.Enc Go.Proofs.YtidiojhefjhojaaGreat.Kn
open Go.Proofs.YtidiojhefjhojaaGreat.Mem (Ram Grow hasB wholeB num wr below_drawn)
set_option linter.unusedVariables false
set_option linter.unusedSimpArgs false
set_option maxRecDepth 100000
/-- Two bytes at an address, and whether they are there. -/
def halfO (base : Int) (n : Nat) (mem : Nat → Int) (va : Int) : Int × Bool := (if hasB base n va 2 = true then num mem (va - base).toNat 2 else 0, hasB base n va 2)
theorem halfO_lt {base : Int} {n : Nat} {mem : Nat → Int} (hm : ∀ i, i < n * 4096 → 0 ≤ mem i ∧ mem i < 256) (va : Int) : 0 ≤ (halfO base n mem va).1 ∧ (halfO base n mem va).1 < 65536 := by
  unfold halfO
  dsimp only
  split
  · rename_i hh
    obtain ⟨h0, h1, h2⟩ := of_decide_eq_true hh
    have := Mem.num_range (mem := mem) 2 (va - base).toNat fun i h1 h2 => hm i (by omega)
    exact ⟨this.1, this.2⟩
  · omega
theorem halfO_any {W : World} {g n : Nat} {base : Int} {mem : Nat → Int} {F : Nat → Prop} (r : Ram W g base n mem F) {va : Int} {h : Hrt} (hs : h.satp = 0) (hv : U64 va) : Calls Tryz.prog 18 #[.pointer (some ⟨g, 0, none⟩), .int .u64 0, .agg (hc h), .int .u64 va] W fun e w' => e = .returned (.tuple #[.int .u16 (halfO base n mem va).1, .bool (halfO base n mem va).2]) ∧ Below W.heap.size W w' := by
  have T0 := Lib.hid (fun X (q : Ram X g base n mem F) => (show Calls Tryz.prog 36 #[.pointer (some ⟨g, 0, none⟩), .agg #[.int .u64 h.satp, .int .u64 0, .bool h.user, .bool h.sum, .bool h.mxr], .int .u64 va, .int .i64 1] X fun e w' => e = .returned (.agg #[.int .u64 (Tab.Place.pa ⟨va, va, 0, false⟩), .int .u64 (Tab.Place.gpa ⟨va, va, 0, false⟩), .int .i64 (Tab.Place.fault ⟨va, va, 0, false⟩), .bool (Tab.Place.walk ⟨va, va, 0, false⟩)]) ∧ Below X.heap.size X w' from by rw [hs]; exact translate0 X g 0 va 1 h.user h.sum h.mxr (by decide) (by decide)))
  have hlt := halfO_lt (base := base) (fun i hi => r.byte hi) va
  have hw : wholeB 2 = true := by decide
  unfold halfO at hlt ⊢
  dsimp only at hlt ⊢
  cases hh : hasB base n va 2 with
  | true =>
    rw [hh] at hlt
    simp only [if_true] at hlt ⊢
    exact half_ok (p := ⟨va, va, 0, false⟩) r T0 hlt (Lib.hid (fun X (q : Ram X g base n mem F) => (Mem.read_yes q va 2 ⟨hv.out.1, hv.out.2⟩ hw hh).mono fun e w' h => And.intro h.1 (Mem.below_drawn h.2))) rfl
  | false =>
    simp only [Bool.false_eq_true, if_false]
    exact half_no (p := ⟨va, va, 0, false⟩) r T0 (Lib.hid (fun X (q : Ram X g base n mem F) => (Mem.read_no q va 2 ⟨hv.out.1, hv.out.2⟩ (by decide) (by rw [hh]; simp)).mono fun e w' h => And.intro h.1 (Mem.below_drawn h.2)))
/-- The instruction at a hart's place, with both stages off. -/
noncomputable def fetO (base : Int) (n : Nat) (mem : Nat → Int) (pc : Int) : Int × Int × Bool :=
  if (halfO base n mem pc).2 = false then (0, 0, false)
  else if (halfO base n mem pc).1 % 4 = 3 then
    (if (halfO base n mem (IntKind.u64.wrap (pc + 2))).2 = false then (0, 0, false) else ((halfO base n mem (IntKind.u64.wrap (pc + 2))).1 * 65536 + (halfO base n mem pc).1, 4, true))
  else if (exV (expD (halfO base n mem pc).1)).2 = false then (0, 0, false) else ((exV (expD (halfO base n mem pc).1)).1, 2, true)
theorem fetchO_any {W : World} {g n : Nat} {base : Int} {mem : Nat → Int} {F : Nat → Prop} (r : Ram W g base n mem F) (h : Hrt) (hf : Fit h) (hs : h.satp = 0) : Calls Tryz.prog 6 #[.pointer (some ⟨g, 0, none⟩), .int .u64 0, .agg (hc h)] W fun e w' => e = .returned (fetT (fetO base n mem (ord h).pc)) ∧ Below W.heap.size W w' := by
  have T0 := Lib.hid (morder_any h hf)
  have hf2 := ord_fit hf
  have hs2 : (ord h).satp = 0 := hs
  generalize ord h = h2 at *
  have hl := halfO_lt (base := base) (fun i hi => r.byte hi) h2.pc
  have hy := halfO_lt (base := base) (fun i hi => r.byte hi) (IntKind.u64.wrap (h2.pc + 2))
  have TL := Lib.hid (fun X (q : Ram X g base n mem F) => halfO_any q hs2 hf2.pc)
  have TH := Lib.hid (fun X (q : Ram X g base n mem F) => halfO_any q hs2 (wrap_w (h2.pc + 2)))
  unfold fetO
  generalize halfO base n mem h2.pc = l at *
  generalize halfO base n mem (IntKind.u64.wrap (h2.pc + 2)) = u at *
  obtain ⟨x, b1⟩ := l
  obtain ⟨y, b2⟩ := u
  dsimp only at hl hy TL TH ⊢
  cases b1 with
  | false => simp only [if_true]; exact fetch_no (v := 0) (y := 0) r T0 TL
  | true =>
    simp only [Bool.true_eq_false, if_false] at TL ⊢
    by_cases h3 : x % 4 = 3
    · have TZ := Lib.hid (size_any x hl)
      rw [if_pos h3] at TZ ⊢
      cases b2 with
      | false => simp only [if_true]; exact fetch_hno (v := 0) r T0 hl TL TZ TH
      | true => simp only [Bool.true_eq_false, if_false] at TH ⊢; exact fetch_w (v := 0) r T0 hl hy TL TZ TH
    · have TZ := Lib.hid (size_any x hl)
      rw [if_neg h3] at TZ ⊢
      have hx : H16 x := ⟨hl⟩
      have TX := Lib.hid (fun w => (Expand_any x hx w).mono fun e w' (h : (∃ v, Xp (expD x) v ∧ e = .returned v) ∧ Below w.heap.size w w') => (show e = .returned (.tuple #[.int .u32 (exV (expD x)).1, .bool (exV (expD x)).2]) ∧ Below w.heap.size w w' from ⟨by obtain ⟨v, hx, he⟩ := h.1; rw [he, Xp_ex hx], h.2⟩))
      generalize exV (expD x) = q at *
      obtain ⟨v, ok⟩ := q
      dsimp only at TX ⊢
      cases ok with
      | false => simp only [if_true]; exact fetch_cno (y := 0) r T0 hl TL TZ TX
      | true => simp only [Bool.true_eq_false, if_false]; exact fetch_c (y := 0) r T0 hl TL TZ TX
end Go.Proofs.YtidiojhefjhojaaGreat.Hart
end
section
namespace Go.Proofs.YtidiojhefjhojaaGreat.Hart
open Go Go.RowKit Go.Proofs.YtidiojhefjhojaaGreat.Step Go.Proofs.YtidiojhefjhojaaGreat.Enc Go.Proofs.YtidiojhefjhojaaGreat.Kn
open Go.Proofs.YtidiojhefjhojaaGreat.Mem (Ram Grow hasB wholeB num wr)
set_option linter.unusedVariables false
set_option linter.unusedSimpArgs false
set_option maxRecDepth 100000
/-- What is asked of the fetch: u is the word, L its length. -/
def Fetches (s : Stp) (gm : Nat) (tv : Value) (vmid base : Int) (n : Nat) (mem : Nat → Int) (u bt L : Int) : Prop :=
  ∀ (W' : World) (gs r : Nat) (F' : Nat → Prop), Sy W' gs s gm tv 0 vmid (.map (some r)) base n mem F' (fun k => k = r) (KT r (fun _ => True)) → Calls Tryz.prog 46 #[.pointer (some ⟨gs, 0, none⟩)] W' fun e w' => e = .returned (.tuple #[.int .u32 u, .bool true]) ∧ Blk w' gs (sc { s with bits := bt, long := L }) TS ∧ Mod (One gs) W' w'
theorem fetches_of {gc gm n : Nat} {tv : Value} {vmid base : Int} {mem : Nat → Int} (hm : ∀ i, i < n * 4096 → 0 ≤ mem i ∧ mem i < 256) (hb : 0 ≤ base ∧ base ≤ 4503599627370496) (hn : n ≤ 1024) (h : Hrt) (hsat : h.satp = 0) (now u L : Int) (e : fetO base n mem (ord h).pc = (u, L, true)) :
    (L = 2 ∨ L = 4) ∧ ∃ bt, Fetches (newS gc now (ord h)) gm tv vmid base n mem u bt L := by
  have hsat2 : (ord h).satp = 0 := hsat
  have s1 : (ord h).satp / 1152921504606846976 = 0 := by rw [hsat2]; rfl
  have s2 : U64 (ord h).satp := by rw [hsat2]; exact ⟨by decide, by decide⟩
  unfold fetO at e
  by_cases h1 : hasB base n (ord h).pc 2 = true
  · have e1 : halfO base n mem (ord h).pc = (num mem ((ord h).pc - base).toNat 2, true) := by unfold halfO; rw [if_pos h1, h1]
    have hlo := halfO_lt (base := base) hm (ord h).pc
    rw [e1] at e hlo
    dsimp only at e hlo
    rw [if_neg (by decide)] at e
    have hpc := of_decide_eq_true h1
    by_cases h3 : num mem ((ord h).pc - base).toNat 2 % 4 = 3
    · rw [if_pos h3, show IntKind.u64.wrap ((ord h).pc + 2) = (ord h).pc + 2 from IntWalk.u64_in _ (by omega)] at e
      by_cases h2 : hasB base n ((ord h).pc + 2) 2 = true
      · have e2 : halfO base n mem ((ord h).pc + 2) = (num mem ((ord h).pc + 2 - base).toNat 2, true) := by unfold halfO; rw [if_pos h2, h2]
        have hhi := halfO_lt (base := base) hm ((ord h).pc + 2)
        rw [e2] at e hhi
        dsimp only at e hhi
        rw [if_neg (by decide)] at e
        simp only [Prod.mk.injEq, and_true] at e
        obtain ⟨rfl, rfl⟩ := e
        exact ⟨.inr rfl, _, fun W' gs r F' y => fetch_4 y s1 s2 ⟨by show 0 ≤ (ord h).pc; omega, by show (ord h).pc + 2 < _; omega⟩ h1 h2 _ _ rfl rfl hlo hhi h3⟩
      · have e2 : (halfO base n mem ((ord h).pc + 2)).2 = false := by unfold halfO; simpa using h2
        rw [if_pos e2] at e
        simp at e
    · rw [if_neg h3] at e
      have TX := fun w => (Expand_any (num mem ((ord h).pc - base).toNat 2) ⟨hlo⟩ w).mono fun e w' (q : (∃ v, Xp (expD (num mem ((ord h).pc - base).toNat 2)) v ∧ e = .returned v) ∧ Below w.heap.size w w') => (show e = .returned (.tuple #[.int .u32 (exV (expD (num mem ((ord h).pc - base).toNat 2))).1, .bool (exV (expD (num mem ((ord h).pc - base).toNat 2))).2]) ∧ Below w.heap.size w w' from ⟨by obtain ⟨v, hx, he⟩ := q.1; rw [he, Xp_ex hx], q.2⟩)
      generalize hq : exV (expD (num mem ((ord h).pc - base).toNat 2)) = q at e TX
      obtain ⟨v, ok⟩ := q
      dsimp only at e TX
      cases ok with
      | false => simp at e
      | true =>
        rw [if_neg (by decide)] at e
        simp only [Prod.mk.injEq, and_true] at e
        obtain ⟨rfl, rfl⟩ := e
        exact ⟨.inl rfl, _, fun W' gs r F' y => fetch_2 y s1 s2 ⟨by show 0 ≤ (ord h).pc; omega, by show (ord h).pc < _; omega⟩ h1 _ _ rfl hlo h3 (Lib.hid TX)⟩
  · have e1 : (halfO base n mem (ord h).pc).2 = false := by unfold halfO; simpa using h1
    rw [if_pos e1] at e
    simp at e
theorem step_ld {W : World} {gc gm n : Nat} {tv : Value} {vmid base : Int} {mem : Nat → Int} {F : Nat → Prop} (hk : Kor W gc gm tv vmid base n mem F) (h : Hrt) (hf : Fit h) (now : Int) (hsat : h.satp = 0) (hsie : h.sie = 0) {u bt L : Int}
    (HF : Fetches (newS gc now (ord h)) gm tv vmid base n mem u bt L) (fn rs2 imm : Int) (sg : Bool) {nd n1 k : Nat} (hn : nd < 32) (hn1 : n1 < 32) (hw : wholeB k = true)
    (TD : Hid (∀ w, Calls Tryz.prog 21 #[.int .u32 u] w fun e w' => e = .returned (.tuple #[.agg #[.int .i64 6, .int .i64 fn, .int .i64 nd, .int .i64 n1, .int .i64 rs2, .int .i64 imm, .int .i64 k, .bool sg], .bool true]) ∧ Below w.heap.size w w'))
    (va : Int) (eva : va = addW ((ord h).x n1) (IntKind.u64.wrap imm)) (hva : U64 va) (hal : va % k = 0) (hh : hasB base n va k = true) (hnum : U64 (num mem (va - base).toNat k)) :
    Calls Tryz.prog 12 #[.pointer (some ⟨gc, 0, none⟩), .agg (hc h), .int .u64 now] W fun e w' => e = .returned (.tuple #[.agg (hc { ord h with x := xup (xup (ord h).x nd (extV (num mem (va - base).toNat k) k sg)) 0 0, pc := IntKind.u64.wrap ((ord h).pc + L) }), .agg #[.int .i64 0, .int .i64 0, .int .u64 0, .int .u64 0, .bool false, .bool false]]) ∧ ∃ F', Kor w' gc gm tv vmid base n mem F' ∧ Mod (fun k => k = gc ∨ F k) W w' ∧ ∀ k, F' k → F k ∨ W.heap.size ≤ k := by
  have hsat2 : (ord h).satp = 0 := hsat
  have hsie2 : (ord h).sie = 0 := by show msk h.sie = _; rw [hsie]; kernel_rfl
  refine step_any (s2 := zeroX (rdP (decL (newS gc now (ord h)) bt L ⟨6, fn, nd, n1, rs2, imm, k, sg⟩) nd (extV (num mem (va - base).toNat k) k sg))) hk h hf now rfl fun W' gs r y => ?_
  refine runL_loads y hsie2 (fun W'' F' y2 => HF W'' gs r F' y2) fn nd n1 rs2 imm k sg TD fun W'' F' y2 => ?_
  exact (loads_in y2 (ord_fit hf) (show (ord h).satp / 1152921504606846976 = 0 by rw [hsat2]; rfl) (show U64 (ord h).satp by rw [hsat2]; exact ⟨by decide, by decide⟩) rfl hn rfl hn1 rfl hw va eva hva hal hh hnum).mono fun e w' q => ⟨q.1, y2.out.set q.2.1 q.2.2 rfl⟩
theorem step_st {W : World} {gc gm n : Nat} {tv : Value} {vmid base : Int} {mem : Nat → Int} {F : Nat → Prop} (hk : Kor W gc gm tv vmid base n mem F) (h : Hrt) (hf : Fit h) (now : Int) (hsat : h.satp = 0) (hsie : h.sie = 0) {u bt L : Int}
    (HF : Fetches (newS gc now (ord h)) gm tv vmid base n mem u bt L) (fn rd imm : Int) (sg : Bool) {n1 n2 k : Nat} (hn1 : n1 < 32) (hn2 : n2 < 32) (hw : wholeB k = true)
    (TD : Hid (∀ w, Calls Tryz.prog 21 #[.int .u32 u] w fun e w' => e = .returned (.tuple #[.agg #[.int .i64 7, .int .i64 fn, .int .i64 rd, .int .i64 n1, .int .i64 n2, .int .i64 imm, .int .i64 k, .bool sg], .bool true]) ∧ Below w.heap.size w w'))
    (va : Int) (eva : va = addW ((ord h).x n1) (IntKind.u64.wrap imm)) (hva : U64 va) (hal : va % k = 0) (hh : hasB base n va k = true) :
    Calls Tryz.prog 12 #[.pointer (some ⟨gc, 0, none⟩), .agg (hc h), .int .u64 now] W fun e w' => e = .returned (.tuple #[.agg (hc { ord h with x := xup (ord h).x 0 0, pc := IntKind.u64.wrap ((ord h).pc + L) }), .agg #[.int .i64 0, .int .i64 0, .int .u64 0, .int .u64 va, .bool false, .bool true]]) ∧ ∃ F', Kor w' gc gm tv vmid base n (wr mem (va - base).toNat k ((ord h).x n2)) F' ∧ Mod (fun k => k = gc ∨ F k) W w' ∧ ∀ k, F' k → F k ∨ W.heap.size ≤ k := by
  have hsat2 : (ord h).satp = 0 := hsat
  have hsie2 : (ord h).sie = 0 := by show msk h.sie = _; rw [hsie]; kernel_rfl
  refine step_any (s2 := zeroX (storeP (decL (newS gc now (ord h)) bt L ⟨7, fn, rd, n1, n2, imm, k, sg⟩) va)) hk h hf now rfl fun W' gs r y => ?_
  refine runL_stores y hsie2 (fun W'' F' y2 => HF W'' gs r F' y2) fn rd n1 n2 imm k sg TD fun W'' F' y2 => ?_
  exact stores_in y2 (ord_fit hf) (show (ord h).satp / 1152921504606846976 = 0 by rw [hsat2]; rfl) (show U64 (ord h).satp by rw [hsat2]; exact ⟨by decide, by decide⟩) rfl hn1 rfl hn2 rfl hw rfl (fun i hi => (ord_fit hf).x i hi) va eva hva hal hh
end Go.Proofs.YtidiojhefjhojaaGreat.Hart
end
section
namespace Go.Proofs.YtidiojhefjhojaaGreat.Hart
open Go Go.RowKit Go.Proofs.YtidiojhefjhojaaGreat.Step Go.Proofs.YtidiojhefjhojaaGreat.Enc Go.Proofs.YtidiojhefjhojaaGreat.Kn
set_option linter.unusedVariables false
set_option linter.unusedSimpArgs false
set_option maxRecDepth 100000
set_option maxHeartbeats 1000000 in
theorem tlb_new4 (W : World) : Calls Tryz.prog 5 #[.int .i64 4] W fun e w' => ∃ g, e = .returned (.tuple #[.pointer (some ⟨g, 0, none⟩), .int .i64 0]) ∧ W.heap.size ≤ g ∧ Blk w' g #[.int .i64 4, .slice none 0 0] 64 ∧ Below W.heap.size W w' := by
  go_enter Tryz.func5, Tryz.ntmps5
  have ST := Lib.hid (Kn.nil (S := Step.Nil) (W := W))
  go_wp2_with (((with_reducible refine Step.gate_box (t := 64) rfl ?_); refine Step.fresh (cs := #[.int .i64 4, .slice none 0 0]) (T := 64) rfl ?hr ?_; (case hr => first | (go_simp; done) | (go_simp; rfl)); intro g1 w1 b hg hb; replace ST := Lib.hid (ST.out.made b hg hb); clear b hb; have HG := Lib.hid hg; clear hg))
  refine bodyPost_ret (results_tmp2 rfl _ _ _) rfl ?_
  exact ⟨g1, rfl, HG.out, ST.out.at0, ST.out.below⟩
set_option maxHeartbeats 1000000 in
theorem core_new (W : World) (gm gt : Nat) : Calls Tryz.prog 11 #[.pointer (some ⟨gm, 0, none⟩), .pointer (some ⟨gt, 0, none⟩)] W fun e w' => ∃ g, e = .returned (.pointer (some ⟨g, 0, none⟩)) ∧ W.heap.size ≤ g ∧ Blk w' g (ccg gm (.pointer (some ⟨gt, 0, none⟩)) 0 0 0 0 (.map none)) TC ∧ Below W.heap.size W w' := by
  go_enter Tryz.func11, Tryz.ntmps11
  have ST := Lib.hid (Kn.nil (S := Step.Nil) (W := W))
  go_wp2_with (((with_reducible refine Step.gate_box (t := 101) rfl ?_); refine Step.fresh (cs := ccg gm (.pointer (some ⟨gt, 0, none⟩)) 0 0 0 0 (.map none)) (T := 101) rfl ?hr ?_; (case hr => first | (go_simp; done) | (go_simp; rfl)); intro g1 w1 b hg hb; replace ST := Lib.hid (ST.out.made b hg hb); clear b hb; have HG := Lib.hid hg; clear hg))
  go_ret
  exact ⟨g1, rfl, HG.out, ST.out.at0, ST.out.below⟩
end Go.Proofs.YtidiojhefjhojaaGreat.Hart
end
section
namespace Go.Proofs.YtidiojhefjhojaaGreat.Mem
open Go Go.RowKit Go.Proofs.YtidiojhefjhojaaGreat.Step
set_option linter.unusedVariables false
set_option linter.unusedSimpArgs false
set_option maxRecDepth 100000
/-- A memory that stands in blocks newer than the call's beginning. -/
structure Own (W w : World) (h : Nat) (base : Int) (n : Nat) (mem : Nat → Int) : Prop where
  ram : Ram w h base n mem (Grow Nil W w)
  mod : Mod Nil W w
theorem Own.below {W w w' : World} {h n : Nat} {base : Int} {mem : Nat → Int} (o : Own W w h base n mem) (b : Below w.heap.size w w') : Own W w' h base n mem :=
  ⟨(o.ram.below b).more (fun k hk => hk.elim .inl fun a => .inr ⟨a.1, Nat.lt_of_lt_of_le a.2 b.size⟩) (Grow.bound (fun k hk => hk.elim) (Nat.le_trans o.mod.size b.size)), o.mod.trans (Mod.of_below b Nil)⟩
theorem Own.drawn {W w w' : World} {h n : Nat} {base : Int} {mem : Nat → Int} (o : Own W w h base n mem) (b : ∃ k, w' = w.drewN k) : Own W w' h base n mem := o.below (below_drawn b)
theorem Own.step {W w w' : World} {h n : Nat} {base : Int} {mem mem' : Nat → Int} (o : Own W w h base n mem) (r : Ram w' h base n mem' (Grow (Grow Nil W w) w w')) (m : Mod (Grow Nil W w) w w') : Own W w' h base n mem' :=
  ⟨r.grow (fun k hk => hk.elim) o.mod.size m.size, mod_grow o.mod m⟩
theorem Own.made {W w w' : World} {h n : Nat} {base : Int} {mem : Nat → Int} (b : Mod Nil W w) (r : Ram w' h base n mem (Grow Nil w w')) (m : Mod Nil w w') : Own W w' h base n mem :=
  ⟨r.more (fun k hk => hk.elim .inl fun a => .inr ⟨Nat.le_trans b.size a.1, a.2⟩) (Grow.bound (fun k hk => hk.elim) (Nat.le_trans b.size m.size)), b.trans m⟩
theorem Own.out {W w : World} {h n : Nat} {base : Int} {mem : Nat → Int} (o : Own W w h base n mem) : Below W.heap.size W w := o.mod.below
theorem tmod_bd (v n : Int) (hn : 0 < n) : -n < v.tmod n ∧ v.tmod n < n := by
  have h1 := Int.tmod_lt_of_pos v hn
  have h2 := Int.tmod_lt_of_pos (-v) hn
  rw [Int.neg_tmod] at h2
  omega
theorem emod_tmod (v n : Int) (hn : 0 < n) : v % n = if v.tmod n < 0 then v.tmod n + n else v.tmod n := by
  have hb := tmod_bd v n hn
  have e := Int.mul_tdiv_add_tmod v n
  have e2 : v % n = v.tmod n % n := by
    conv => lhs; rw [← e]
    rw [Int.mul_add_emod_self_left]
  rw [e2]
  split
  · rw [← Int.add_emod_right, Int.emod_eq_of_lt (by omega) (by omega)]
  · rw [Int.emod_eq_of_lt (by omega) (by omega)]
set_option maxHeartbeats 400000 in
theorem place_any (v n : Int) (hn : 0 < n) (hv : -9223372036854775808 ≤ v ∧ v < 9223372036854775808) (hn2 : n < 9223372036854775808) (w : World) : Calls Tryz.prog 15 #[.int .i64 v, .int .i64 n] w fun e w' => e = .returned (.int .i64 (v % n)) ∧ w = w' := by
  have h0 : n ≠ 0 := by omega
  have hr := tmod_bd v n hn
  have hw : IntKind.i64.wrap (v.tmod n) = v.tmod n := IntWalk.i64_in _ (by omega)
  have he := emod_tmod v n hn
  by_cases hneg : v.tmod n < 0
  · rw [if_pos hneg] at he
    have E := Lib.hid he
    have hw2 : IntKind.i64.wrap (v.tmod n + n) = v.tmod n + n := IntWalk.i64_in _ (by omega)
    clear hr hv hn2 hn he
    go_enter Tryz.func15, Tryz.ntmps15
    go_wp2
    go_ret
    exact ⟨by rw [E.out]; rfl, rfl⟩
  · rw [if_neg hneg] at he
    have E := Lib.hid he
    have d : decide (v.tmod n < 0) = false := by simpa using hneg
    clear hr hv hn2 hn he hneg
    go_enter Tryz.func15, Tryz.ntmps15
    go_wp2
    go_ret
    exact ⟨by rw [E.out]; rfl, rfl⟩
end Go.Proofs.YtidiojhefjhojaaGreat.Mem
end
