/- Parts of the walks and laws for the claim: DecF, Awk, EncA, One, EncB, EncR, Fits, Sum; no conditions beyond the theorems' own. -/
import Derived.Test.YthkodjkkcgdmfaaGreatT10
import Derived.Test.YthkodjkkcgdmfaaGreatT11
import Derived.Test.YthkodjkkcgdmfaaGreatT14
import Derived.Test.YthkodjkkcgdmfaaGreatT17
import Derived.Test.YthkodjkkcgdmfaaGreatT18
section
namespace Go.Proofs.YthkodjkkcgdmfaaGreat.Enc
open Go Go.RowKit Go.Proofs.YthkodjkkcgdmfaaGreat.Step
set_option linter.unusedVariables false
set_option linter.unusedSimpArgs false
set_option maxRecDepth 100000
theorem Decode_of (a : Int) (T0 : Hid (∀ w, Calls Tryz.prog 110 #[.int .u32 a] w fun e w' => Says (dec a) e ∧ Below w.heap.size w w')) (w : World) : Calls Tryz.prog 63 #[.int .u32 a] w fun e w' => e = .returned (told (dec a)) ∧ Below w.heap.size w w' := by
  generalize dec a = d at *
  go_enter Tryz.func63, Tryz.ntmps63
  go_wp2_with (first
    | (go_at_call 110; (with_reducible refine (T0.out _).mono ?_); rintro e w' ⟨⟨j, ok, rfl, hd⟩, hb⟩; have st_ := Lib.hid (ST.out.call hb); clear ST hb; have ST := st_; cases j; rename_i r1 r2 r3 r4 r5 r6 r7 r8; simp only [Ins.cells]; cases ok <;> simp only [Bool.false_eq_true, if_false, if_true] at hd <;> subst hd)
    | ((with_reducible refine Step.gate_alloc (t := 44) rfl ?_); refine Step.freshAlloc rfl rfl (alloc_agg zero_inst) ?_; intro g2 w2 b hg hb; have st_ := Lib.hid (ST.out.more b hg hb); clear ST b hg hb; have ST := st_)
    | ((with_reducible refine Step.gate_alloc (t := 44) rfl ?_); refine Step.freshAlloc rfl rfl (alloc_agg zero_inst) ?_; intro g1 w1 b hg hb; have ST := Lib.hid (S1.made b hg hb); clear b hg hb)
    | ((with_reducible refine Step.gate_store (t := 3) rfl ?_); refine Step.store ST.out.one rfl rfl rfl rfl rfl pl_int rfl rfl ?_; intro w3 nb m; have st_ := Lib.hid (ST.out.set1 nb m); clear ST nb m; have ST := st_)
    | ((with_reducible refine Step.gate_store (t := 4) rfl ?_); refine Step.store ST.out.one rfl rfl rfl rfl rfl pl_bool rfl rfl ?_; intro w3 nb m; have st_ := Lib.hid (ST.out.set1 nb m); clear ST nb m; have ST := st_)
    | ((with_reducible refine Step.gate_store (t := 44) rfl ?_); refine Step.storeAll ST.out.one rfl rfl rfl rfl rfl size_inst rfl rfl ?_; intro w3 nb m; have st_ := Lib.hid (ST.out.set1 nb m); clear ST nb m; have ST := st_)
    | ((with_reducible refine Step.gate_load (t := 3) rfl ?_); refine Step.load ST.out.one rfl rfl rfl pl_int rfl ?_)
    | ((with_reducible refine Step.gate_load (t := 4) rfl ?_); refine Step.load ST.out.one rfl rfl rfl pl_bool rfl ?_)
    | ((with_reducible refine Step.gate_load (t := 44) rfl ?_); refine Step.loadAll ST.out.one rfl rfl rfl Tryz.underlying44 rfl size_inst ?_)
    | ((with_reducible refine Step.gate_store (t := 3) rfl ?_); refine Step.store ST.out.two rfl rfl rfl rfl rfl pl_int rfl rfl ?_; intro w3 nb m; have st_ := Lib.hid (ST.out.set2 nb m); clear ST nb m; have ST := st_)
    | ((with_reducible refine Step.gate_store (t := 4) rfl ?_); refine Step.store ST.out.two rfl rfl rfl rfl rfl pl_bool rfl rfl ?_; intro w3 nb m; have st_ := Lib.hid (ST.out.set2 nb m); clear ST nb m; have ST := st_)
    | ((with_reducible refine Step.gate_store (t := 44) rfl ?_); refine Step.storeAll ST.out.two rfl rfl rfl rfl rfl size_inst rfl rfl ?_; intro w3 nb m; have st_ := Lib.hid (ST.out.set2 nb m); clear ST nb m; have ST := st_)
    | ((with_reducible refine Step.gate_load (t := 3) rfl ?_); refine Step.load ST.out.two rfl rfl rfl pl_int rfl ?_)
    | ((with_reducible refine Step.gate_load (t := 4) rfl ?_); refine Step.load ST.out.two rfl rfl rfl pl_bool rfl ?_)
    | ((with_reducible refine Step.gate_load (t := 44) rfl ?_); refine Step.loadAll ST.out.two rfl rfl rfl Tryz.underlying44 rfl size_inst ?_))
  all_goals refine bodyPost_ret (results_row_tmp rfl _ _ g1 _ _ _ rfl ST.out.one Tryz.underlying44 rfl size_inst) rfl ⟨rfl, ST.out.below⟩
theorem Dec_3 (a : Int) (ha : W32 a) (h : fd a 6 0 = 3) (w : World) : Calls Tryz.prog 63 #[.int .u32 a] w fun e w' => e = .returned (told (dec a)) ∧ Below w.heap.size w w' := by
  refine Decode_of a (Lib.hid fun w => ?_) w
  have T2 := Lib.hid (fun w => calls_below (rd_any a ha w))
  have T3 := Lib.hid (fun w => calls_below (rs1_any a ha w))
  have T4 := Lib.hid (fun w => calls_below (rs2_any a ha w))
  have TO := fun w => calls_below (op_any a ha w)
  unfold dec
  have C := decode_3 a (immI a) (fd a 11 7) (fd a 19 15) (fd a 24 20) _ _ _ _ _ _ _ _ _ (Lib.hid (fun w => by have := TO w; rw [h] at this; exact this)) (Lib.hid (fun w => calls_below (i_any a ha w))) T2 T3 T4 (Lib.hid (fun w => plain6 a (fd a 11 7) (fd a 19 15) 0 (immI a) ha w)) w
  rw [h]
  refine C.mono fun e w' k => ⟨⟨⟨6, 0, (fd a 11 7), (fd a 19 15), 0, immI a, (pk ldL (fd a 14 12)), (decide ((fd a 14 12) < 4))⟩, (decide ((fd a 14 12) < 7)), k.1, ?_⟩, k.2⟩
  simp [decOp]
theorem Dec_35 (a : Int) (ha : W32 a) (h : fd a 6 0 = 35) (w : World) : Calls Tryz.prog 63 #[.int .u32 a] w fun e w' => e = .returned (told (dec a)) ∧ Below w.heap.size w w' := by
  refine Decode_of a (Lib.hid fun w => ?_) w
  have T2 := Lib.hid (fun w => calls_below (rd_any a ha w))
  have T3 := Lib.hid (fun w => calls_below (rs1_any a ha w))
  have T4 := Lib.hid (fun w => calls_below (rs2_any a ha w))
  have TO := fun w => calls_below (op_any a ha w)
  unfold dec
  have C := decode_35 a (immS a) (fd a 11 7) (fd a 19 15) (fd a 24 20) _ _ _ _ _ _ _ _ _ (Lib.hid (fun w => by have := TO w; rw [h] at this; exact this)) (Lib.hid (fun w => calls_below (s_any a ha w))) T2 T3 T4 (Lib.hid (fun w => plain7 a 0 (fd a 19 15) (fd a 24 20) (immS a) ha w)) w
  rw [h]
  refine C.mono fun e w' k => ⟨⟨⟨7, 0, 0, (fd a 19 15), (fd a 24 20), immS a, (pk stL (fd a 14 12)), false⟩, (decide ((fd a 14 12) < 4)), k.1, ?_⟩, k.2⟩
  simp [decOp]
theorem Dec_19 (a : Int) (ha : W32 a) (h : fd a 6 0 = 19) (w : World) : Calls Tryz.prog 63 #[.int .u32 a] w fun e w' => e = .returned (told (dec a)) ∧ Below w.heap.size w w' := by
  refine Decode_of a (Lib.hid fun w => ?_) w
  have T2 := Lib.hid (fun w => calls_below (rd_any a ha w))
  have T3 := Lib.hid (fun w => calls_below (rs1_any a ha w))
  have T4 := Lib.hid (fun w => calls_below (rs2_any a ha w))
  have TO := fun w => calls_below (op_any a ha w)
  unfold dec
  have C := decode_19 a (immI a) (fd a 11 7) (fd a 19 15) (fd a 24 20) _ _ _ _ _ _ _ _ _ (Lib.hid (fun w => by have := TO w; rw [h] at this; exact this)) (Lib.hid (fun w => calls_below (i_any a ha w))) T2 T3 T4 (Lib.hid (fun w => plain9_13 a (fd a 11 7) (fd a 19 15) (immI a) ha h w)) w
  rw [h]
  refine C.mono fun e w' k => ⟨⟨⟨9, (im13 (fd a 31 26) (fd a 14 12) (fd a 25 20) (immI a)).1, (fd a 11 7), (fd a 19 15), 0, (im13 (fd a 31 26) (fd a 14 12) (fd a 25 20) (immI a)).2.1, 0, false⟩, (im13 (fd a 31 26) (fd a 14 12) (fd a 25 20) (immI a)).2.2, k.1, ?_⟩, k.2⟩
  simp [decOp]
theorem Dec_51 (a : Int) (ha : W32 a) (h : fd a 6 0 = 51) (w : World) : Calls Tryz.prog 63 #[.int .u32 a] w fun e w' => e = .returned (told (dec a)) ∧ Below w.heap.size w w' := by
  refine Decode_of a (Lib.hid fun w => ?_) w
  have T2 := Lib.hid (fun w => calls_below (rd_any a ha w))
  have T3 := Lib.hid (fun w => calls_below (rs1_any a ha w))
  have T4 := Lib.hid (fun w => calls_below (rs2_any a ha w))
  have TO := fun w => calls_below (op_any a ha w)
  unfold dec
  have C := decode_51 a (0) (fd a 11 7) (fd a 19 15) (fd a 24 20) _ _ _ _ _ _ _ _ _ (Lib.hid (fun w => by have := TO w; rw [h] at this; exact this)) (Lib.hid (fun w => calls_below (none_any a w))) T2 T3 T4 (Lib.hid (fun w => plain8 a (fd a 11 7) (fd a 19 15) (fd a 24 20) (0) ha true h w)) w
  rw [h]
  refine C.mono fun e w' k => ⟨⟨⟨8, (regF true (fd a 31 25) (fd a 14 12)), (fd a 11 7), (fd a 19 15), (fd a 24 20), 0, 0, false⟩, (regF true (fd a 31 25) (fd a 14 12) != 0), k.1, ?_⟩, k.2⟩
  simp [decOp]
theorem Dec_59 (a : Int) (ha : W32 a) (h : fd a 6 0 = 59) (w : World) : Calls Tryz.prog 63 #[.int .u32 a] w fun e w' => e = .returned (told (dec a)) ∧ Below w.heap.size w w' := by
  refine Decode_of a (Lib.hid fun w => ?_) w
  have T2 := Lib.hid (fun w => calls_below (rd_any a ha w))
  have T3 := Lib.hid (fun w => calls_below (rs1_any a ha w))
  have T4 := Lib.hid (fun w => calls_below (rs2_any a ha w))
  have TO := fun w => calls_below (op_any a ha w)
  unfold dec
  have C := decode_59 a (0) (fd a 11 7) (fd a 19 15) (fd a 24 20) _ _ _ _ _ _ _ _ _ (Lib.hid (fun w => by have := TO w; rw [h] at this; exact this)) (Lib.hid (fun w => calls_below (none_any a w))) T2 T3 T4 (Lib.hid (fun w => plain8 a (fd a 11 7) (fd a 19 15) (fd a 24 20) (0) ha false h w)) w
  rw [h]
  refine C.mono fun e w' k => ⟨⟨⟨8, (regF false (fd a 31 25) (fd a 14 12)), (fd a 11 7), (fd a 19 15), (fd a 24 20), 0, 0, false⟩, (regF false (fd a 31 25) (fd a 14 12) != 0), k.1, ?_⟩, k.2⟩
  simp [decOp]
end Go.Proofs.YthkodjkkcgdmfaaGreat.Enc
end
section
namespace Go.Proofs.YthkodjkkcgdmfaaGreat.Hart
open Go Go.RowKit Go.Proofs.YthkodjkkcgdmfaaGreat.Step Go.Proofs.YthkodjkkcgdmfaaGreat.Enc Go.Proofs.YthkodjkkcgdmfaaGreat.Kn
open Go.Proofs.YthkodjkkcgdmfaaGreat.Mem (Ram Grow hasB wholeB num wr Rd fl Arg lst)
open Go.Proofs.YthkodjkkcgdmfaaGreat.Duo (Duo RdC cm size_two)
set_option linter.unusedVariables false
set_option linter.unusedSimpArgs false
set_option maxRecDepth 100000
theorem set_x10 (h : Hrt) (v : Int) : (hc h).setIfInBounds 10 (.int .u64 v) = hc { h with x := xup h.x 10 v } := set_x h (by decide) v
theorem set_x11 (h : Hrt) (v : Int) : (hc h).setIfInBounds 11 (.int .u64 v) = hc { h with x := xup h.x 11 v } := set_x h (by decide) v
def resetH (pc a0 a1 : Int) : Hrt := { zh with pc := pc / 2 * 2, x := xup (xup zh.x 10 a0) 11 a1 }
def placesH : Array (Nat × Nat) := #[(0, 32), (32, 1), (33, 1), (34, 1), (35, 1), (36, 1), (37, 1), (38, 1), (39, 1), (40, 1), (41, 1), (42, 1), (43, 1), (44, 1), (45, 1), (46, 1), (47, 1), (48, 1)]
theorem placesH_run (W : World) : ∃ fs, Tryz.prog.underlying 25 = some (.struct fs) ∧ (fs.mapM fun f => do pure (f.offset, ← sizeOf f.type) : Sem (Array (Nat × Nat))).run Tryz.prog W = .ok placesH W := by
  refine ⟨_, Tryz.underlying25, ?_⟩
  unfold placesH
  first | (go_simp; done) | (go_simp; rfl)
theorem zero_hartc : (Tryz.prog.info? 25).bind (·.zero) = some (.agg (hc zh)) := by kernel_rfl
theorem build_pc {a : Act} {o : Oper} {x1 : Operand} {pc : Int} (ho : o.op = .build 25 #[(1, x1)]) (h1 : a.eval x1 = .int .u64 pc) (W : World) : (execOp a.eval o).run Tryz.prog W = .ok (.value (.agg (hc { zh with pc := pc }))) W := by
  obtain ⟨fs, hu, hp⟩ := placesH_run W
  have hb := run_build (P := Tryz.prog) (t := 25) (parts := #[(1, .int .u64 pc)]) hu zero_hartc hp (cells := hc { zh with pc := pc }) (by rw [fill_at (off := 32) (size := 1) rfl rfl (Nat.le_of_ble_eq_true rfl)]; rfl)
  simp only [execOp, ho, List.map_toArray, List.map_cons, List.map_nil, h1, Sem.run_bind, hb, Result.andThen_ok, Sem.run_pure]
def zC (b : Int) (A : Option Addr) (s c : Nat) (h : Hrt) : Array Value := cs6 b 0 A s c none 0 0 0 0 h 0
def placesC : Array (Nat × Nat) := #[(0, 1), (1, 1), (2, 1), (3, 1), (4, 1), (5, 1), (6, 1), (7, 49), (56, 1)]
theorem placesC_run (W : World) : ∃ fs, Tryz.prog.underlying 69 = some (.struct fs) ∧ (fs.mapM fun f => do pure (f.offset, ← sizeOf f.type) : Sem (Array (Nat × Nat))).run Tryz.prog W = .ok placesC W := by
  refine ⟨_, Tryz.underlying69, ?_⟩
  unfold placesC
  first | (go_simp; done) | (go_simp; rfl)
theorem zero_case : (Tryz.prog.info? 69).bind (·.zero) = some (.agg (zC 0 none 0 0 zh)) := by kernel_rfl
theorem lays_case (b : Int) (A : Option Addr) (s c : Nat) (h h' : Hrt) : lays (zC b A s c h) 7 (hc h').toList = zC b A s c h' := by
  refine Array.toList_inj.1 ((lays_list _ _ _ (Nat.le_of_ble_eq_true rfl)).trans rfl)
theorem build_case {a : Act} {o : Oper} {x0 x2 x7 : Operand} {b : Int} {A : Option Addr} {s c : Nat} {h : Hrt} (ho : o.op = .build 69 #[(0, x0), (2, x2), (7, x7)]) (h0 : a.eval x0 = .int .u64 b) (h2 : a.eval x2 = .slice A s c) (h7 : a.eval x7 = .agg (hc h)) (W : World) :
    (execOp a.eval o).run Tryz.prog W = .ok (.value (.agg (zC b A s c h))) W := by
  obtain ⟨fs, hu, hp⟩ := placesC_run W
  have hf : Instr.fill (placesC[·]?) (zC 0 none 0 0 zh) [(0, .int .u64 b), (2, .slice A s c), (7, .agg (hc h))] = some (zC b A s c h) := by
    rw [fill_at (off := 0) (size := 1) rfl rfl (Nat.le_of_ble_eq_true rfl), show lays (zC 0 none 0 0 zh) 0 (Value.int .u64 b).cells.toList = zC b none 0 0 zh from rfl]
    rw [fill_at (off := 2) (size := 1) rfl rfl (Nat.le_of_ble_eq_true rfl), show lays (zC b none 0 0 zh) 2 (Value.slice A s c).cells.toList = zC b A s c zh from rfl]
    rw [fill_at (off := 7) (size := 49) rfl rfl (Nat.le_of_ble_eq_true rfl), show (Value.agg (hc h)).cells = hc h from rfl, lays_case]
    rfl
  have hb := run_build (P := Tryz.prog) (t := 69) (parts := #[(0, .int .u64 b), (2, .slice A s c), (7, .agg (hc h))]) hu zero_case hp hf
  simp only [execOp, ho, List.map_toArray, List.map_cons, List.map_nil, h0, h2, h7, Sem.run_bind, hb, Result.andThen_ok, Sem.run_pure]
set_option maxHeartbeats 4000000 in
theorem reset_any (pc a0 a1 : Int) (hpc : U64 pc) (w : World) : Calls Tryz.prog 20 #[.int .u64 pc, .int .u64 a0, .int .u64 a1] w fun e w' => e = .returned (.agg (hc (resetH pc a0 a1))) ∧ Below w.heap.size w w' := by
  have e1 := u_an1 hpc
  clear hpc
  go_enter Tryz.func20, Tryz.ntmps20
  have ST := Lib.hid (Kn.nil (S := Step.Nil) (W := w))
  go_wp2_with (first
    | ((with_reducible refine Step.gate_alloc (t := 25) rfl ?_); refine Step.freshAlloc rfl rfl (alloc_agg zero_hart) ?_; intro g6 w2 b hg hb; replace ST := Lib.hid (ST.out.made b hg hb); clear b hb; have G6 := Lib.hid hg; clear hg)
    | ((with_reducible refine gate_buildS (t := 25) rfl ?_); refine Step.value (v := .agg _) rfl (build_pc rfl rfl _) ?_)
    | ((with_reducible refine Step.gate_store (t := 25) rfl ?_); refine Step.storeAll ST.out.at0 rfl rfl rfl rfl rfl (size_hart _) rfl (hc_all _) ?_; intro w3 nb m; replace ST := Lib.hid (ST.out.set0 nb m); clear nb m)
    | ((with_reducible refine Step.gate_store (t := 25) rfl ?_); refine Step.storeAll ST.out.at1 rfl rfl rfl rfl rfl (size_hart _) rfl (hc_all _) ?_; intro w3 nb m; replace ST := Lib.hid (ST.out.set1 nb m); clear nb m)
    | ((with_reducible refine Step.gate_load (t := 25) rfl ?_); refine Step.loadAll ST.out.at0 rfl rfl rfl Tryz.underlying25 rfl (size_hart _) ?_)
    | ((with_reducible refine Step.gate_store (t := 22) rfl ?_); refine Step.store ST.out.at0 rfl rfl rfl rfl rfl pl_u64 rfl rfl ?_; intro w3 nb m; simp [go_sem, set_x10, set_x11] at nb; replace ST := Lib.hid (ST.out.set0 nb m); clear nb m))
  all_goals ((try simp only [Act.put, List.setIfInBounds_toArray, List.set_cons_zero, List.set_cons_succ]); refine bodyPost_ret (results_row rfl _ _ _ _ _ _ rfl ST.out.at1 Tryz.underlying25 rfl (size_hart _)) rfl ⟨rfl, ST.out.below⟩)
/-- The bytes of the example's instruction. -/
def awB : Nat → Int := fun k => if k = 0 then 147 else if k = 2 then 80 else 0
def awM : Nat → Int := fl (cm 1 (fun _ => (0, 0)) 0) 0 4 awB
theorem awM_0 : num awM 0 2 = 147 := by decide +kernel
theorem awM_2 : num awM 2 2 = 80 := by decide +kernel
theorem aw_dec : dec (80 * 65536 + 147) = some ⟨9, 1, 1, 0, 0, 5, 0, false⟩ := by kernel_rfl
theorem row_case (b : Int) (A : Option Addr) (s c : Nat) (h : Hrt) : Row (zC b A s c h) 7 (hc h) := by
  intro j v hv
  have hj : j < 49 := (List.getElem?_eq_some_iff.1 hv).1
  obtain h1 | h1 | h1 | h1 | h1 | h1 | h1 | h1 | h1 | h1 | h1 | h1 | h1 | h1 | h1 | h1 | h1 | h1 | h1 | h1 | h1 | h1 | h1 | h1 | h1 | h1 | h1 | h1 | h1 | h1 | h1 | h1 | h1 | h1 | h1 | h1 | h1 | h1 | h1 | h1 | h1 | h1 | h1 | h1 | h1 | h1 | h1 | h1 | h1 : j = 0 ∨ j = 1 ∨ j = 2 ∨ j = 3 ∨ j = 4 ∨ j = 5 ∨ j = 6 ∨ j = 7 ∨ j = 8 ∨ j = 9 ∨ j = 10 ∨ j = 11 ∨ j = 12 ∨ j = 13 ∨ j = 14 ∨ j = 15 ∨ j = 16 ∨ j = 17 ∨ j = 18 ∨ j = 19 ∨ j = 20 ∨ j = 21 ∨ j = 22 ∨ j = 23 ∨ j = 24 ∨ j = 25 ∨ j = 26 ∨ j = 27 ∨ j = 28 ∨ j = 29 ∨ j = 30 ∨ j = 31 ∨ j = 32 ∨ j = 33 ∨ j = 34 ∨ j = 35 ∨ j = 36 ∨ j = 37 ∨ j = 38 ∨ j = 39 ∨ j = 40 ∨ j = 41 ∨ j = 42 ∨ j = 43 ∨ j = 44 ∨ j = 45 ∨ j = 46 ∨ j = 47 ∨ j = 48 := by omega
  all_goals (subst h1; exact hv)
theorem case_all (b : Int) (A : Option Addr) (s c : Nat) (h : Hrt) : ((zC b A s c h).toList.all fun x => x.oneCell') = true := rfl
theorem size_case0 : (Tryz.prog.info? 69).map (·.size) = some 57 := by kernel_rfl
theorem size_case (b : Int) (A : Option Addr) (s c : Nat) (h : Hrt) : (Tryz.prog.info? 69).map (·.size) = some (zC b A s c h).size := size_case0
theorem both_aw {W : World} {gs : Nat} (hb : Blk W gs #[.int .u8 147, .int .u8 0, .int .u8 80, .int .u8 0] 5) (h : Hrt) : Calls Tryz.prog 32 #[.agg (zC 2147483648 (some ⟨gs, 0, none⟩) 4 4 h)] W fun e w' => ∃ gc gcr gt gtr h1 h2 F1 F2 L, e = .returned (.tuple #[.pointer (some ⟨gc, 0, none⟩), .pointer (some ⟨gcr, 0, none⟩), .pointer (some ⟨gt, 0, none⟩), .agg #[.pointer (some ⟨h1, 0, none⟩), .pointer (some ⟨h2, 0, none⟩)], .bool true]) ∧ DK W w' h1 h2 2147483648 1 awM awM F1 F2 ((gcr, #[.pointer (some ⟨h2, 0, none⟩), .pointer (some ⟨gtr, 0, none⟩), .int .u64 0, .int .i64 0, .bool false], CT) :: (gc, ccg h1 (.pointer (some ⟨gt, 0, none⟩)) 0 0 0 0 (.map none), TC) :: (gtr, #[.int .i64 8, .slice none 0 0], 145) :: (gt, #[.int .i64 8, .slice none 0 0], 115) :: L) := by
  refine both_any W 2147483648 0 (by decide) (by decide) 2147483648 (by decide) 1 (by decide) (some ⟨gs, 0, none⟩) 4 4 awB ⟨fun k hk => ?_, fun e => nomatch e⟩ (by decide) (fun k hk => ?_) none 0 0 (fun _ => (0, 0)) (fun i hi => absurd hi (Nat.not_lt_zero i)) (by decide) 0 0 h 0
  · have e : (⟨gs, 0, none⟩ : Addr).add k = ⟨gs, k, none⟩ := by unfold Addr.add; split <;> simp_all
    refine ⟨_, rfl, hb.lt, ?_, ?_⟩
    · rw [e, hb.cell k]
      obtain rfl | rfl | rfl | rfl : k = 0 ∨ k = 1 ∨ k = 2 ∨ k = 3 := by omega
      all_goals rfl
    · unfold awB; split; omega; split <;> omega
  · unfold awB; split; omega; split <;> omega
noncomputable def awS (gc : Nat) : Stp := rdP (decP (newS gc 0 (ord (resetH 2147483648 0 0))) (80 * 65536 + 147) ⟨9, 1, 1, 0, 0, 5, 0, false⟩) 1 (aluV (decP (newS gc 0 (ord (resetH 2147483648 0 0))) (80 * 65536 + 147) ⟨9, 1, 1, 0, 0, 5, 0, false⟩).fn ((decP (newS gc 0 (ord (resetH 2147483648 0 0))) (80 * 65536 + 147) ⟨9, 1, 1, 0, 0, 5, 0, false⟩).was.x 0) (immP (decP (newS gc 0 (ord (resetH 2147483648 0 0))) (80 * 65536 + 147) ⟨9, 1, 1, 0, 0, 5, 0, false⟩)))
theorem reset_fit {pc a0 a1 : Int} (h0 : U64 pc) (h1 : U64 a0) (h2 : U64 a1) : Fit (resetH pc a0 a1) := by
  have z : U64 0 := ⟨by decide, by decide⟩
  refine ⟨fun i hi => ?_, ?_, z, z, z, z, z, z, z, z, z⟩
  · show U64 (xup (xup zh.x 10 a0) 11 a1 i)
    unfold xup
    split
    · exact h2
    · split
      · exact h1
      · exact z
  · have := h0.out
    show U64 (pc / 2 * 2)
    exact ⟨by omega, by omega⟩
theorem aw_fit : Fit (resetH 2147483648 0 0) := reset_fit ⟨by decide, by decide⟩ ⟨by decide, by decide⟩ ⟨by decide, by decide⟩
/-- The example's step. -/
theorem step_aw {W : World} {gc gm : Nat} {tv : Value} {F : Nat → Prop} (hk : Kor W gc gm tv 0 2147483648 1 awM F) : Calls Tryz.prog 23 #[.pointer (some ⟨gc, 0, none⟩), .agg (hc (resetH 2147483648 0 0)), .int .u64 0] W fun e w' => e = .returned (.tuple #[.agg (hc (zeroX (awS gc)).h), .agg (ecells (zeroX (awS gc)))]) ∧ ∃ F', Kor w' gc gm tv 0 2147483648 1 awM F' ∧ Mod (fun k => k = gc ∨ F k) W w' ∧ ∀ k, F' k → F k ∨ W.heap.size ≤ k := by
  refine step_any (s2 := zeroX (awS gc)) hk _ aw_fit 0 rfl fun W' gs r y => ?_
  refine run_aluImm y (show (ord (resetH 2147483648 0 0)).satp / 1152921504606846976 = 0 from by decide +kernel) (show U64 (ord (resetH 2147483648 0 0)).satp from ⟨by decide +kernel, by decide +kernel⟩) (show (ord (resetH 2147483648 0 0)).sie = 0 from by decide +kernel) (show 0 ≤ (ord (resetH 2147483648 0 0)).pc ∧ (ord (resetH 2147483648 0 0)).pc + 2 < 18446744073709551616 from by decide +kernel) (show hasB 2147483648 1 (ord (resetH 2147483648 0 0)).pc 2 = true from by decide +kernel) (show hasB 2147483648 1 ((ord (resetH 2147483648 0 0)).pc + 2) 2 = true from by decide +kernel) 147 80 awM_0 awM_2 (by decide) (by decide) (by decide) 1 1 0 0 5 0 false aw_dec (Lib.hid (Dec_19 _ ⟨by decide, by decide⟩ (by kernel_rfl))) fun W'' F' y2 => ?_
  refine (saluImm_any y2.step (n := 1) (n1 := 0) rfl (by decide) rfl (by decide) (fun i hi => ?_)).mono ?_
  · exact (ord_fit aw_fit).x i hi
  · rintro e w' ⟨rfl, nb, m⟩
    exact ⟨rfl, y2.out.set nb m rfl⟩
end Go.Proofs.YthkodjkkcgdmfaaGreat.Hart
end
section
namespace Go.Proofs.YthkodjkkcgdmfaaGreat.Enc
open Go Go.RowKit Go.Proofs.YthkodjkkcgdmfaaGreat.Step
set_option linter.unusedVariables false
set_option linter.unusedSimpArgs false
set_option maxRecDepth 100000
/-- The low n bits of a number, at a place. -/
def pt (v : Int) (n l : Nat) : Int := v % (2 ^ n : Nat) * (2 ^ l : Nat)
theorem pt_bd (v : Int) (n l : Nat) (h : n + l ≤ 32) : 0 ≤ pt v n l ∧ pt v n l < 4294967296 := by
  have hp : (0 : Int) < (2 ^ n : Nat) := by exact_mod_cast Nat.two_pow_pos n
  have hq : (0 : Int) < (2 ^ l : Nat) := by exact_mod_cast Nat.two_pow_pos l
  have h1 := Int.emod_nonneg v (show ((2 ^ n : Nat) : Int) ≠ 0 by omega)
  have h2 := Int.emod_lt_of_pos v hp
  have h3 : 2 ^ n * 2 ^ l ≤ 4294967296 := by rw [← Nat.pow_add]; exact Nat.pow_le_pow_right (n := 2) (j := 32) (by decide) h
  have h4 : ((2 ^ n : Nat) : Int) * ((2 ^ l : Nat) : Int) ≤ 4294967296 := by rw [← Int.natCast_mul]; generalize 2 ^ n * 2 ^ l = q at h3 ⊢; omega
  unfold pt
  refine ⟨Int.mul_nonneg h1 (by omega), ?_⟩
  have h5 : v % ((2 ^ n : Nat) : Int) * ((2 ^ l : Nat) : Int) < ((2 ^ n : Nat) : Int) * ((2 ^ l : Nat) : Int) := Int.mul_lt_mul_of_pos_right h2 hq
  omega
theorem u32_mask (x : Int) (n : Nat) (hn : n ≤ 32) (hx : 0 ≤ x ∧ x < 4294967296) : bits .and .u32 x ((2 ^ n - 1 : Nat) : Int) = x % (2 ^ n : Nat) := by
  have hp : 2 ^ n ≤ 4294967296 := Nat.pow_le_pow_right (n := 2) (j := 32) (by decide) hn
  have hp0 := Nat.two_pow_pos n
  obtain ⟨X, rfl⟩ := Int.eq_ofNat_of_zero_le hx.1
  rw [u32_and_nat _ _ (by omega) (by omega), Nat.and_two_pow_sub_one_eq_mod]; rfl
theorem tmod_fix (v p : Int) (hp : 0 < p) : (v.tmod p < 0 → v.tmod p + p = v % p) ∧ (0 ≤ v.tmod p → v.tmod p = v % p) := by
  have h := Int.tmod_eq_emod (a := v) (b := p)
  have h1 := Int.emod_nonneg v (show p ≠ 0 by omega)
  have h2 := Int.emod_lt_of_pos v hp
  split at h <;> omega
theorem at_any (v z1 z2 : Int) (n l : Nat) (hz1 : z1 = n) (hz2 : z2 = l) (hn : 1 ≤ n) (hl : n + l ≤ 32) (w : World) :
    Calls Tryz.prog 67 #[.int .i64 v, .int .i64 z1, .int .i64 z2] w fun e w' => e = .returned (.int .u32 (pt v n l)) ∧ w = w' := by
  subst hz1; subst hz2
  have hw : wrap64 (2 ^ n) = ((2 ^ n : Nat) : Int) := by rw [pow_nat]; exact wrap_pow n (by omega)
  have h0 := Nat.two_pow_pos n
  have hp : 2 ^ n ≤ 4294967296 := Nat.pow_le_pow_right (n := 2) (j := 32) (by decide) (by omega)
  have hne : ¬ wrap64 (2 ^ n) = 0 := by rw [hw]; omega
  have hf := tmod_fix v ((2 ^ n : Nat) : Int) (by omega)
  have hb := pt_bd v n l hl
  have he1 := Int.emod_nonneg v (show ((2 ^ n : Nat) : Int) ≠ 0 by omega)
  have he2 := Int.emod_lt_of_pos v (show (0 : Int) < ((2 ^ n : Nat) : Int) by omega)
  have key : ∀ q : Int, q = v % ((2 ^ n : Nat) : Int) → q % 4294967296 * 2 ^ l % 4294967296 = pt v n l := by
    intro q hq
    rw [show q % 4294967296 = q by omega, pow_nat l, hq]
    exact Int.emod_eq_of_lt hb.1 hb.2
  obtain ⟨t, ht⟩ : ∃ t, v.tmod (wrap64 (2 ^ n)) = t := ⟨_, rfl⟩
  rw [hw] at ht
  rw [ht] at hf
  have ht' : v.tmod (wrap64 (2 ^ n)) = t := by rw [hw]; exact ht
  by_cases hneg : t < 0
  · have hk := key (wrap64 (t + wrap64 (2 ^ n))) (by rw [hw, ← hf.1 hneg]; generalize 2 ^ n = p at *; unfold wrap64; omega)
    clear key hf hb he1 he2 ht hp hw h0
    go_enter Tryz.func67, Tryz.ntmps67
    go_wp2
    go_ret
    exact ⟨by first | rfl | exact congrArg (fun x => Ending.returned (.int .u32 x)) hk, rfl⟩
  · have hk := key t (hf.2 (by omega))
    have hnn : 0 ≤ t := by omega
    clear key hf hb he1 he2 ht hp hw h0
    go_enter Tryz.func67, Tryz.ntmps67
    go_wp2
    go_ret
    exact ⟨by first | rfl | exact congrArg (fun x => Ending.returned (.int .u32 x)) hk, rfl⟩
/-- Where a number stands in a list first; -1: nowhere. -/
def ix (L : List Int) (v : Int) : Int := match L.findIdx? (· == v) with | some i => (i : Int) | none => -1
end Go.Proofs.YthkodjkkcgdmfaaGreat.Enc
end
section
namespace Go.Proofs.YthkodjkkcgdmfaaGreat.Enc
open Go Go.RowKit Go.Proofs.YthkodjkkcgdmfaaGreat.Step
set_option linter.unusedVariables false
set_option linter.unusedSimpArgs false
set_option maxRecDepth 100000
section
variable {P : Program} {ops : Array Oper} {fin : Act} {W : World} {o : Oper} {T : TypeId} {g : Nat} {c : Array Value}
def Stay1 (P : Program) (ops : Array Oper) (fin : Act) (W : World) (T : TypeId) (g : Nat) (c : Array Value) (o : Oper) : Prop :=
  (Region.wanted o (yielded ops fin.tmps) = true ∧ ∀ X, S1 W X T g c → o.wp P fin X (fun a' X' => a' = fin ∧ S1 W X' T g c) (fun _ _ _ => False)) ∨ (Region.wanted o (yielded ops fin.tmps) = false ∧ fin.put o.dst undef = fin)
theorem stay1_slot {t : Nat} (hg : Region.wanted o (yielded ops fin.tmps) = true) (hd : o.dst = some t) (h : ∀ X, (execOp fin.eval o).run P X = .ok (.value (fin.tmps.getD t undef)) X) : Stay1 P ops fin W T g c o :=
  .inl ⟨hg, fun X hX => by unfold Oper.wp; rw [h X]; exact ⟨by rw [hd]; exact put_self fin t, hX⟩⟩
theorem stay1_call {f : FuncId} {args : Array Value} {v : Value} {cc : Call} (_ : o.op = .call cc) (hg : Region.wanted o (yielded ops fin.tmps) = true) (h : ∀ X, (execOp fin.eval o).run P X = .ok (.enter f args) X)
    (hc : ∀ X, Calls P f args X fun e X' => e = .returned v ∧ Below X.heap.size X X') (hp : fin.put o.dst v = fin) : Stay1 P ops fin W T g c o :=
  .inl ⟨hg, fun X hX => by
    unfold Oper.wp; rw [h X]
    refine Calls.mono (hc X) fun e X' he => ?_
    obtain ⟨rfl, hb⟩ := he
    exact ⟨hp, hX.call hb⟩⟩
theorem stay1_load {t : TypeId} {x : Operand} {i : Nat} {v : Value} (hg : Region.wanted o (yielded ops fin.tmps) = true) (ho : o.op = .load t x) (hx : fin.eval x = .pointer (some ⟨g, i, none⟩)) (ht : plainT P t = true) (hv : c[i]? = some v) (hp : fin.put o.dst v = fin) : Stay1 P ops fin W T g c o :=
  .inl ⟨hg, fun X hX => by
    have h := run_load1 (P := P) ht ((hX.one.cell i).trans hv)
    have h2 : (execOp fin.eval o).run P X = .ok (.value v) X := by simp [execOp, ho, hx, h, Result.andThen]
    unfold Oper.wp; rw [h2]; exact ⟨hp, hX⟩⟩
/-- A slice's elements are laid: a block of its own, which no other operation may know but by what is told. -/
theorem one_region {l : List Oper} {id : Nat} {a : Act} {w : World} {Q : Exit → Act → World → Prop} (hS : S1 W w T g c) (hm : P.follows .mixedOrders = true) (vs : List (Tmp × Value))
    (hord : Reg.ordered l.toArray = true) (hin : Reg.within l.toArray vs = true) (hfin : Reg.puts a vs = fin) (hdo : ∀ o ∈ l, Stay1 P l.toArray fin W T g c o)
    (hQ : ∀ w', S1 W w' T g c → Q .normal fin w') : (Code.region id l.toArray true).wp P Q a w := by
  subst hfin
  refine Reg.region hm vs (fun L w => S1 W w T g c) hord hin (hS.call (below_drawn ⟨1, rfl⟩)) (fun i o ho L w hL hLi hdep hI => ?_) (fun L w hL hall hI => hQ w hI)
  have ho' : l[i]? = some o := by simpa using ho
  rcases hdo o (List.mem_of_getElem? ho') with ⟨hg, h⟩ | ⟨hg, hp⟩
  · exact Reg.does_go hg (h w hI)
  · exact Reg.does_not hg hp hI
theorem stay1_nil : ∀ o ∈ ([] : List Oper), Stay1 P ops fin W T g c o := fun _ h => nomatch h
theorem stay1_cons {l : List Oper} (h : Stay1 P ops fin W T g c o) (hl : ∀ o ∈ l, Stay1 P ops fin W T g c o) : ∀ o' ∈ o :: l, Stay1 P ops fin W T g c o' := fun o' ho => by
  rcases List.mem_cons.1 ho with rfl | h'
  · exact h
  · exact hl o' h'
/-- Ahead of the laying: one instruction at g, and so many blocks; behind it, the list stands at that number. -/
def L0 (W : World) (T : TypeId) (g : Nat) (c : Array Value) (n : Nat) (X : World) : Prop := S1 W X T g c ∧ X.heap.size = n
def L1 (W : World) (T : TypeId) (g : Nat) (c : Array Value) (n : Nat) (L : Array Value) (TL : TypeId) (X : World) : Prop := S1 W X T g c ∧ Blk X n L TL
section
variable {n : Nat} {L : Array Value} {TL : TypeId} {kb : Nat}
theorem lays_list {m : Nat} (hr : ∀ X : World, (execOp fin.eval o).run P X = .ok (.value (.slice (some ⟨X.heap.size, 0, none⟩) m m)) (X.alloc (.cells L TL (0, 0)))) (hp : fin.put o.dst (.slice (some ⟨n, 0, none⟩) m m) = fin) :
    ∀ X, L0 W T g c n X → o.wp P fin X (fun a' X' => a' = fin ∧ L1 W T g c n L TL X') (fun _ _ _ => False) := fun X hX => by
  obtain ⟨h1, h2⟩ := hX
  subst h2
  unfold Oper.wp; rw [hr X]
  exact ⟨hp, h1.call (alloc_below _ _), alloc_out _ _ _⟩
end
end
end Go.Proofs.YthkodjkkcgdmfaaGreat.Enc
end
section
namespace Go.Proofs.YthkodjkkcgdmfaaGreat.Enc
open Go Go.RowKit Go.Proofs.YthkodjkkcgdmfaaGreat.Step
set_option linter.unusedVariables false
set_option linter.unusedSimpArgs false
set_option maxRecDepth 100000
def bor (x y : Int) : Int := bits .or .u32 x y
def imL : List Int := ([1, 0, 4, 5, 6, 0, 9, 10] : List Int)
def ld4 : List Int := [1, 2, 4, 8]
def at2 : List Int := [4, 8]
def amL : List Int := [2, 1, 0, 0, 3, 0, 0, 0, 5, 0, 0, 0, 4, 0, 0, 0, 6, 0, 0, 0, 7, 0, 0, 0, 8, 0, 0, 0, 9]
def encI (fn imm : Int) : Int :=
  if fn = 19 then bor 27 (pt imm 12 20) else if fn = 21 then bor 4123 (pt imm 5 20) else if fn = 22 then bor 20507 (pt imm 5 20) else if fn = 23 then bor 1073762331 (pt imm 5 20)
  else if fn = 3 then bor 4115 (pt imm 6 20) else if fn = 7 then bor 20499 (pt imm 6 20) else if fn = 8 then bor 1073762323 (pt imm 6 20)
  else bor (bor 19 (pt imm 12 20)) (pt (ix imL fn) 3 12)
def regW (rd rs1 rs2 : Int) : Int := bor (bor (pt rd 5 7) (pt rs1 5 15)) (pt rs2 5 20)
def brI : List Int := ([1, 2, 0, 0, 3, 4, 5, 6] : List Int)
end Go.Proofs.YthkodjkkcgdmfaaGreat.Enc
end
section
namespace Go.Proofs.YthkodjkkcgdmfaaGreat.Enc
open Go Go.RowKit Go.Proofs.YthkodjkkcgdmfaaGreat.Step
set_option linter.unusedVariables false
set_option linter.unusedSimpArgs false
set_option maxRecDepth 100000
def rwL : List Int := ([0, 51, 1073741875, 4147, 8243, 12339, 16435, 20531, 1073762355, 24627, 28723, 33554483, 33558579, 33562675, 33566771, 33570867, 33574963, 33579059, 33583155, 59, 1073741883, 4155, 20539, 1073762363, 33554491, 33570875, 33574971, 33579067, 33583163] : List Int)
section
variable {P : Program} {ops : Array Oper} {fin : Act} {W : World} {o : Oper}
end
end Go.Proofs.YthkodjkkcgdmfaaGreat.Enc
end
section
namespace Go.Proofs.YthkodjkkcgdmfaaGreat.Enc
open Go Go.RowKit
set_option linter.unusedVariables false
set_option linter.unusedSimpArgs false
/-- An instruction's fields, within bounds. -/
structure Fits (i : Ins) : Prop where
  rd : 0 ≤ i.rd ∧ i.rd < 32
  rs1 : 0 ≤ i.rs1 ∧ i.rs1 < 32
  rs2 : 0 ≤ i.rs2 ∧ i.rs2 < 32
  k : 1 ≤ i.k ∧ i.k ≤ 20
  sz : i.sz = 0 ∨ i.sz = 1 ∨ i.sz = 2 ∨ i.sz = 4 ∨ i.sz = 8
  u : i.k = 1 ∨ i.k = 2 → i.imm % 4096 = 0 ∧ -2147483648 ≤ i.imm ∧ i.imm < 2147483648
  j : i.k = 3 → i.imm % 2 = 0 ∧ -1048576 ≤ i.imm ∧ i.imm < 1048576
  b : i.k = 5 → i.imm % 2 = 0 ∧ -4096 ≤ i.imm ∧ i.imm < 4096
  o : i.k ≠ 1 → i.k ≠ 2 → i.k ≠ 3 → i.k ≠ 5 → -2048 ≤ i.imm ∧ i.imm < 4096
theorem ite_some {α : Type} {p : Prop} [Decidable p] {x y : Option α} {i : α} (h : (if p then x else y) = some i) : (p ∧ x = some i) ∨ (¬ p ∧ y = some i) := by
  by_cases c : p
  · rw [if_pos c] at h; exact .inl ⟨c, h⟩
  · rw [if_neg c] at h; exact .inr ⟨c, h⟩
end Go.Proofs.YthkodjkkcgdmfaaGreat.Enc
end
section
namespace Go.Proofs.YthkodjkkcgdmfaaGreat.Enc
open Go Go.RowKit
set_option linter.unusedVariables false
set_option linter.unusedSimpArgs false
theorem bor_bv (x y : Int) : bor x y = ((BitVec.ofInt 32 x ||| BitVec.ofInt 32 y).toNat : Int) := by
  show IntKind.u32.wrap ((BitVec.ofInt 32 x ||| BitVec.ofInt 32 y).toNat : Int) = _
  have := (BitVec.ofInt 32 x ||| BitVec.ofInt 32 y).isLt
  show (_ : Int) % 4294967296 = _
  omega
theorem ofInt_toNat (z : BitVec 32) : BitVec.ofInt 32 ((z.toNat : Nat) : Int) = z := by
  rw [BitVec.ofInt_natCast, BitVec.ofNat_toNat, BitVec.setWidth_eq]
theorem bor_w (x y : Int) : W32 (bor x y) := by
  rw [bor_bv]
  have := (BitVec.ofInt 32 x ||| BitVec.ofInt 32 y).isLt
  exact ⟨by omega, by omega⟩
theorem bor_comm (x y : Int) : bor x y = bor y x := by rw [bor_bv, bor_bv, BitVec.or_comm]
theorem bor_assoc (x y z : Int) : bor (bor x y) z = bor x (bor y z) := by
  rw [bor_bv (bor x y) z, bor_bv x (bor y z), bor_bv x y, bor_bv y z, ofInt_toNat, ofInt_toNat, BitVec.or_assoc]
instance : Std.Associative bor := ⟨bor_assoc⟩
instance : Std.Commutative bor := ⟨bor_comm⟩
/-- One part more, above those that are there. -/
theorem bor_step {x v : Int} (l : Nat) (p : Int) (hp : p = (2 ^ l : Nat)) (hx : 0 ≤ x ∧ x < p) (hv : 0 ≤ v) (hs : v * p < 4294967296) (hp32 : p ≤ 4294967296) : bor x (v * p) = x + v * p := by
  rw [bor_comm]
  have h0 : 0 ≤ v * p := Int.mul_nonneg hv (by omega)
  have := u32_orp (a := v * p) (b := x) l p hp ⟨h0, hs⟩ (Int.mul_emod_left v p) hx (by omega)
  show bits .or .u32 (v * p) x = _
  rw [this, Int.add_comm]
theorem bor_zero {x : Int} (hx : 0 ≤ x ∧ x < 4294967296) : bor x 0 = x := by
  have := u32_orp (a := 0) (b := x) 32 4294967296 rfl ⟨by decide, by decide⟩ (by decide) hx (by omega)
  rw [bor_comm]
  show bits .or .u32 0 x = x
  rw [this]; omega
theorem pt_of {v : Int} (n l : Nat) (N P q : Int) (hN : N = (2 ^ n : Nat)) (hP : P = (2 ^ l : Nat)) (h : v % N = q) : pt v n l = q * P := by
  subst hN hP h; rfl
theorem pt0 (n l : Nat) : pt 0 n l = 0 := by unfold pt; simp
end Go.Proofs.YthkodjkkcgdmfaaGreat.Enc
end
