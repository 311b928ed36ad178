/- Parts of the walks and laws for the claim: OneI, AwkB; no conditions beyond the theorems' own. -/
import Derived.Test.YthkodjkkcgdmfaaGreatV15
import Derived.Test.YthkodjkkcgdmfaaGreatV19
section
namespace Go.Proofs.YthkodjkkcgdmfaaGreat.Duo
open Go Go.RowKit Go.Proofs.YthkodjkkcgdmfaaGreat.Step
open Go.Proofs.YthkodjkkcgdmfaaGreat.Mem (Ram Grow hasB wholeB num wr Rd fl Arg lst)
set_option linter.unusedVariables false
set_option linter.unusedSimpArgs false
set_option maxRecDepth 100000
set_option maxHeartbeats 1000000 in
theorem wboth4 {W w : World} {h1 h2 n : Nat} {base : Int} {mem : Nat → Int} {F1 F2 : Nat → Prop} (d : Duo W w h1 h2 base n mem F1 F2) (addr v : Int) (ha : 0 ≤ addr ∧ addr < 18446744073709551616) (hv : 0 ≤ v ∧ v < 18446744073709551616) (hh : hasB base n addr 4 = true) :
    Calls Tryz.prog 28 #[.agg #[.pointer (some ⟨h1, 0, none⟩), .pointer (some ⟨h2, 0, none⟩)], .int .u64 addr, .int .i64 4, .int .u64 v] w fun e w' => e = .returned (.tuple #[]) ∧ ∃ F1' F2', Duo W w' h1 h2 base n (wr mem (addr - base).toNat 4 v) F1' F2' ∧ (∀ k, k < w.heap.size → F1' k → F1 k) ∧ (∀ k, k < w.heap.size → F2' k → F2 k) ∧ Mod (fun k => F1 k ∨ F2 k) w w' := by
  have D := Lib.hid d
  have P1 := Lib.hid (fun (w1 : World) (r : Ram w1 h1 base n mem F1) => write_z r addr v 4 4 rfl ha hv (by decide) hh)
  have P2 := Lib.hid (fun (w1 : World) (r : Ref.Mem w1 h2 base n mem F2) => rwrite_z r addr v 4 4 rfl ha hv (by decide) hh)
  have hu := Tryz.underlying40
  clear d ha hv hh
  go_enter Tryz.func28, Tryz.ntmps28
  go_wp2_with (first
    | ((with_reducible refine Step.gate_box (t := 40) rfl ?_); refine Step.fresh (cs := #[.pointer (some ⟨h1, 0, none⟩), .pointer (some ⟨h2, 0, none⟩)]) (T := 40) rfl ?hr ?_; (case hr => first | (go_simp; done) | (go_simp; rfl)); intro g w2 b hg hb; have c0 := b.cell 0; have B := Lib.hid b; have D2 := Lib.hid (D.out.below hb); have HB := Lib.hid hb; have HG := Lib.hid hg; simp only [List.getElem?_toArray, List.getElem?_cons_zero] at c0; clear b hg hb)
    | (go_at_call 46; refine (P1.out _ D2.out.one).mono ?_; rintro e w3 ⟨rfl, r, m⟩; have R1 := Lib.hid r; have M1 := Lib.hid m; have c1 := (((B.out.mod m (fun hf => by have := D.out.bound g (.inl hf); have := HG.out; omega)).cell 1)); have r2 := Lib.hid (D2.out.two.mod m (fun k h2 h1 => D.out.apart k h1 h2)); simp only [List.getElem?_toArray, List.getElem?_cons_zero, List.getElem?_cons_succ] at c1; clear r m)
    | (go_at_call 29; refine (P2.out _ r2.out).mono ?_; rintro e w4 ⟨rfl, r, m⟩; have R2 := Lib.hid r; have M2 := Lib.hid m; clear r m))
  go_end0
  have dd := D2.out.step R1.out M1.out R2.out M2.out
  have hs := HB.out.size
  refine ⟨rfl, _, _, dd, fun k hk h => h.elim id fun h => by omega, fun k hk h => h.elim id fun h => by have := M1.out.size; omega, ?_⟩
  refine ((Mod.of_below HB.out _).trans (M1.out.mono fun k _ h => .inl h)).trans (M2.out.mono fun k _ h => .inr h)
end Go.Proofs.YthkodjkkcgdmfaaGreat.Duo
namespace Go.Proofs.YthkodjkkcgdmfaaGreat.Hart
open Go Go.RowKit Go.Proofs.YthkodjkkcgdmfaaGreat.Step Go.Proofs.YthkodjkkcgdmfaaGreat.Enc Go.Proofs.YthkodjkkcgdmfaaGreat.Kn
open Go.Proofs.YthkodjkkcgdmfaaGreat.Mem (Ram Grow hasB newB wholeB num wr Rd fl Arg lst)
open Go.Proofs.YthkodjkkcgdmfaaGreat.Duo (Duo RdC cm size_two)
set_option linter.unusedVariables false
set_option linter.unusedSimpArgs false
set_option maxRecDepth 100000
set_option maxHeartbeats 4000000 in
theorem rEncode_at (i : Ins) (u : Int) (hr : InR i) (hu : W32 u) (hd : dec u = some i) (T1 : Hid (∀ w, Calls Tryz.prog 45 #[.int .u32 u] w fun e w' => e = .returned (told (dec u)) ∧ Below w.heap.size w w')) (T0 : Hid (∀ w, Calls Tryz.prog 44 #[.agg i.cells] w fun e w' => e = .returned (.int .u32 u) ∧ Below w.heap.size w w')) (w : World) :
    Calls Tryz.prog 27 #[.agg i.cells] w fun e w' => e = .returned (.tuple #[.int .u32 u, .bool true]) ∧ Below w.heap.size w w' := by
  have TI := Lib.hid in_any
  obtain ⟨k, fn, rd, rs1, rs2, imm, sz, sg⟩ := i
  have hf : decide (imm < -2147483648) = false ∧ decide (2147483648 ≤ imm) = false ∧ (decide (0 ≤ rd) && decide (rd ≤ 31)) = true ∧ (decide (0 ≤ rs1) && decide (rs1 ≤ 31)) = true ∧ (decide (0 ≤ rs2) && decide (rs2 ≤ 31)) = true ∧ (decide (0 ≤ fn) && decide (fn ≤ 28)) = true ∧ (decide (0 ≤ sz) && decide (sz ≤ 8)) = true := by
    simp only [InR] at hr
    refine ⟨decide_eq_false (by omega), decide_eq_false (by omega), ?_, ?_, ?_, ?_, ?_⟩ <;> (simp only [Bool.and_eq_true, decide_eq_true_eq]; omega)
  clear hr
  obtain ⟨f0, f1, f2, f3, f4, f5, f6⟩ := hf
  simp only [Ins.cells] at T0 ⊢
  rw [hd] at T1
  clear hd hu
  simp only [told, Ins.cells] at T1
  go_enter Tryz.func27, Tryz.ntmps27
  go_wp2_with (first
    | (go_at_call 43; (with_reducible refine (TI.out _ _ _ _).mono ?_); rintro e w' ⟨rfl, hb⟩; (try replace PB := Lib.hid (PB.out.below hb)); replace ST := Lib.hid (ST.out.call hb); clear hb)
    | (go_at_call 44; (with_reducible refine (T0.out _).mono ?_); rintro e w' ⟨rfl, hb⟩; (try replace PB := Lib.hid (PB.out.below hb)); replace ST := Lib.hid (ST.out.call hb); clear hb)
    | (go_at_call 45; (with_reducible refine (T1.out _).mono ?_); rintro e w' ⟨rfl, hb⟩; (try replace PB := Lib.hid (PB.out.below hb)); replace ST := Lib.hid (ST.out.call hb); clear hb)
    | ((with_reducible refine Step.gate_alloc (t := 44) rfl ?_); refine Step.freshAlloc rfl rfl (alloc_agg zero_inst) ?_; intro g2 w2 b hg hb; replace ST := Lib.hid (ST.out.more b hg hb); clear b hg hb)
    | ((with_reducible refine Step.gate_box (t := 44) rfl ?_); refine Step.fresh (cs := #[.int .i64 k, .int .i64 fn, .int .i64 rd, .int .i64 rs1, .int .i64 rs2, .int .i64 imm, .int .i64 sz, .bool sg]) (T := 44) rfl ?hr ?_; (case hr => first | (go_simp; done) | (go_simp; rfl)); intro g1 w1 b hg hb; have ST := Lib.hid (S1.made b hg hb); clear b hg hb)
    | ((with_reducible refine Step.gate_load (t := 3) rfl ?_); refine loadW1 ST.out.one rfl rfl rfl pl_int rfl ?_)
    | ((with_reducible refine Step.gate_store (t := 3) rfl ?_); refine Step.store ST.out.one rfl rfl rfl rfl rfl pl_int rfl rfl ?_; intro w3 nb m; replace ST := Lib.hid (ST.out.set1 nb m); clear nb m)
    | ((with_reducible refine Step.gate_store (t := 4) rfl ?_); refine Step.store ST.out.one rfl rfl rfl rfl rfl pl_bool rfl rfl ?_; intro w3 nb m; replace ST := Lib.hid (ST.out.set1 nb m); clear nb m)
    | ((with_reducible refine Step.gate_store (t := 44) rfl ?_); refine Step.storeAll ST.out.one rfl rfl rfl rfl rfl size_inst rfl rfl ?_; intro w3 nb m; replace ST := Lib.hid (ST.out.set1 nb m); clear nb m)
    | ((with_reducible refine Step.gate_load (t := 3) rfl ?_); refine Step.load ST.out.one rfl rfl rfl pl_int rfl ?_)
    | ((with_reducible refine Step.gate_load (t := 4) rfl ?_); refine Step.load ST.out.one rfl rfl rfl pl_bool rfl ?_)
    | ((with_reducible refine Step.gate_load (t := 44) rfl ?_); refine Step.loadAll ST.out.one rfl rfl rfl Tryz.underlying44 rfl size_inst ?_)
    | ((with_reducible refine Step.gate_store (t := 3) rfl ?_); refine Step.store ST.out.two rfl rfl rfl rfl rfl pl_int rfl rfl ?_; intro w3 nb m; replace ST := Lib.hid (ST.out.set2 nb m); clear nb m)
    | ((with_reducible refine Step.gate_store (t := 4) rfl ?_); refine Step.store ST.out.two rfl rfl rfl rfl rfl pl_bool rfl rfl ?_; intro w3 nb m; replace ST := Lib.hid (ST.out.set2 nb m); clear nb m)
    | ((with_reducible refine Step.gate_store (t := 44) rfl ?_); refine Step.storeAll ST.out.two rfl rfl rfl rfl rfl size_inst rfl rfl ?_; intro w3 nb m; replace ST := Lib.hid (ST.out.set2 nb m); clear nb m)
    | ((with_reducible refine Step.gate_load (t := 3) rfl ?_); refine Step.load ST.out.two rfl rfl rfl pl_int rfl ?_)
    | ((with_reducible refine Step.gate_load (t := 4) rfl ?_); refine Step.load ST.out.two rfl rfl rfl pl_bool rfl ?_)
    | ((with_reducible refine Step.gate_load (t := 44) rfl ?_); refine Step.loadAll ST.out.two rfl rfl rfl Tryz.underlying44 rfl size_inst ?_)
    | ((with_reducible refine Step.gate_load (t := 44) rfl ?_); refine loadAllW ST.out.one rfl rfl rfl Tryz.underlying44 rfl size_inst ?_)
    | ((with_reducible refine Step.gate_load (t := 44) rfl ?_); refine loadAllW ST.out.two rfl rfl rfl Tryz.underlying44 rfl size_inst ?_))
  go_ret2
  exact ⟨rfl, ST.out.below⟩
theorem word_at (i : Ins) (hr : InR i) (w : World) : Calls Tryz.prog 44 #[.agg i.cells] w fun e w' => e = .returned (.int .u32 (wordP i)) ∧ Below w.heap.size w w' :=
  word_any i.k i.fn i.rd i.rs1 i.rs2 i.imm i.sz i.sg hr.2.2.2.2.1 hr.2.2.2.2.2 w
section
variable {W w : World} {h1 h2 n : Nat} {base : Int} {m1 m2 : Nat → Int} {F1 F2 : Nat → Prop} {L L' : Blks}
theorem _root_.Go.Proofs.YthkodjkkcgdmfaaGreat.Kn.Kn.sub {S : Nat → Prop} (k : Kn S W w L) (s : L'.Sublist L) : Kn S W w L' := ⟨k.mod, fun p h => k.blk p (s.subset h), fun p h => k.own p (s.subset h), k.nod.sublist s⟩
theorem DK.sub (d : DK W w h1 h2 base n m1 m2 F1 F2 L) (s : L'.Sublist L) : DK W w h1 h2 base n m1 m2 F1 F2 L' := ⟨d.one, d.two, d.apart, d.new, d.kn.sub s, fun k hk p hp => d.ap k hk p (s.subset hp)⟩
end
theorem DK.start {W V w : World} {h1 h2 n : Nat} {base : Int} {mem : Nat → Int} {F1 F2 : Nat → Prop} {L : Blks} (k : Kn Step.Nil W V L) (d : Duo V w h1 h2 base n mem F1 F2) : DK W w h1 h2 base n mem mem F1 F2 L :=
  DK.of (d.ahead k.below) (k.call d.out) fun j hj p hp e => by
    have := (k.blk p hp).lt
    have := d.new j hj
    omega
theorem results_t3 {P : Program} {fn : Func} {a p d : Tmp} {ty : TypeId} (h : fn.results = #[.tmp a, .cell p ty, .tmp d]) (tmps : Array Value) (w : World) (g : Nat) (t : TypeId) (cs : Array Value) (de : TypeDesc)
    (hp : tmps.getD p undef = .pointer (some ⟨g, 0, none⟩)) (hg : Blk w g cs t) (hu : P.underlying ty = some de) (hd : (match de with | .struct _ | .array _ _ => true | _ => false) = true) (hi : (P.info? ty).map (·.size) = some cs.size) :
    (results fn tmps).run P w = .ok (.tuple #[tmps.getD a undef, .agg cs, tmps.getD d undef]) w := by
  have h2 := run_loadVar_row (P := P) w g t ty cs (0, 0) de hg.out hu hd hi
  have e : (results fn tmps).run P w = ((asAddr (tmps.getD p undef)).run P w).andThen fun ad w₁ => ((loadVar ty ad).run P w₁).andThen fun v w₂ => .ok (.tuple #[tmps.getD a undef, v, tmps.getD d undef]) w₂ := by
    simp only [results, h]
    simp [Sem.run_bind, Result.andThen]
  rw [e, hp]
  simp only [asAddr, Sem.run_pure, Result.andThen_ok, h2]
theorem wrap32 {u : Int} (h : W32 u) : IntKind.u64.wrap u = u := IntWalk.u64_in _ (by have := h.out; omega)
theorem one_new : newB 2147483648 1 = true := by decide
set_option maxHeartbeats 8000000 in
theorem one_any (W : World) (i : Ins) (hr : InR i) (hw : W32 (wordP i)) (hd : dec (wordP i) = some i) (TD : Hid (∀ w, Calls Tryz.prog 45 #[.int .u32 (wordP i)] w fun e w' => e = .returned (told (dec (wordP i))) ∧ Below w.heap.size w w')) (A : Option Addr) (len cap : Nat) (f : Nat → Int × Int) (r : RdC W A len f (· < W.heap.size)) (hl : len ≤ 9223372036854775807) :
    Calls Tryz.prog 22 #[.agg i.cells, .slice A len cap] W fun e w' => ∃ gc gt h1 h2 F1 F2, e = .returned (.tuple #[.pointer (some ⟨gc, 0, none⟩), .agg #[.pointer (some ⟨h1, 0, none⟩), .pointer (some ⟨h2, 0, none⟩)], .bool true]) ∧ DK W w' h1 h2 2147483648 1 (wr (cm 1 f len) 0 4 (wordP i)) (wr (cm 1 f len) 0 4 (wordP i)) F1 F2 ((gc, ccg h1 (.pointer (some ⟨gt, 0, none⟩)) 0 0 0 0 (.map none), TC) :: (gt, #[.int .i64 1, .slice none 0 0], 115) :: []) := by
  have TM := Lib.hid (fun (X : World) (bl : Below W.heap.size W X) => Duo.memory_any X 2147483648 1 1 rfl (by decide) one_new A len cap f ((r.mod (Mod.of_below bl Step.Nil) (fun _ _ h => h) fun _ h => h).wide fun k hk => Nat.lt_of_lt_of_le hk bl.size) hl)
  have TE := Lib.hid (rEncode_at i (wordP i) hr hw hd TD (Lib.hid (word_at i hr)))
  have HW := Lib.hid hw
  have e32 := wrap32 hw
  clear r hl hr hd hw TD
  generalize wordP i = u at *
  obtain ⟨k, fn, rd, rs1, rs2, imm, sz, sg⟩ := i
  simp only [Ins.cells] at TE ⊢
  go_enter Tryz.func22, Tryz.ntmps22
  have ST := Lib.hid (Kn.nil (S := Step.Nil) (W := W))
  go_wp2_with (first
    | ((with_reducible refine Step.gate_box (t := 44) rfl ?_); refine Step.fresh (cs := #[.int .i64 k, .int .i64 fn, .int .i64 rd, .int .i64 rs1, .int .i64 rs2, .int .i64 imm, .int .i64 sz, .bool sg]) (T := 44) rfl ?hr ?_; (case hr => first | (go_simp; done) | (go_simp; rfl)); intro g2 w1 b hg hb; replace ST := Lib.hid (ST.out.made b hg hb); clear b hb; clear hg)
    | ((with_reducible refine Step.gate_alloc (t := 40) rfl ?_); refine Step.freshAlloc rfl rfl (Duo.alloc_agg Duo.zero_two) ?_; (first | (have this := ST.out.duo; intro g7 w2 b hg hb; clear this) | intro g5 w2 b hg hb); replace ST := Lib.hid (ST.out.made b hg hb); clear b hb hg)
    | (go_at_call 35; (with_reducible refine (TM.out _ ST.out.below).mono ?_); rintro e wm ⟨h1, h2, F1, F2, rfl, d⟩; replace ST := Lib.hid (DK.start ST.out d); clear d)
    | ((with_reducible refine Step.gate_store (t := 40) rfl ?_); refine Step.storeAll (vs := #[.pointer (some ⟨h1, 0, none⟩), .pointer (some ⟨h2, 0, none⟩)]) ST.out.kn.at0 rfl rfl rfl rfl rfl size_two rfl rfl ?_; intro w3 nb m; replace ST := Lib.hid (ST.out.set (ST.out.kn.set0 nb m) m ⟨_, List.mem_cons_self .., rfl⟩ rfl); clear nb m)
    | (go_at_call 36; (with_reducible refine (tlb_new1 _).mono ?_); rintro e w' ⟨gt, rfl, hg, b, hb⟩; replace ST := Lib.hid (ST.out.made b hg hb); clear hg b hb)
    | (go_at_call 27; (with_reducible refine (TE.out _).mono ?_); rintro e w' ⟨rfl, hb⟩; replace ST := Lib.hid (ST.out.call hb); clear hb)
    | ((with_reducible refine Step.gate_load (t := 44) rfl ?_); refine Step.loadAll ST.out.kn.at3 rfl rfl rfl Tryz.underlying44 rfl size_inst ?_)
    | ((with_reducible refine Step.gate_load (t := 40) rfl ?_); refine Step.loadAll ST.out.kn.at1 rfl rfl rfl Tryz.underlying40 rfl size_two ?_)
    | (go_at_call 28; (with_reducible refine (Duo.wboth4 ST.out.duo 2147483648 u (by decide) (by have := HW.out.out; omega) (by decide)).mono ?_); rintro e w9 ⟨rfl, F1', F2', hd, f1, f2, m⟩; replace ST := Lib.hid (ST.out.duoTurn hd f1 f2 m); clear hd f1 f2 m)
    | ((with_reducible refine Step.gate_load (t := 37) rfl ?_); refine Step.load ST.out.kn.at1 rfl rfl rfl pl_pm rfl ?_)
    | (go_at_call 37; (with_reducible refine (core_new _ _ _).mono ?_); rintro e w' ⟨gc, rfl, hg, b, hb⟩; replace ST := Lib.hid (ST.out.made b hg hb); clear hg b hb))
  obtain ⟨mw, hm⟩ : ∃ x, x = wr (cm 1 f len) ((2147483648 : Int) - 2147483648).toNat 4 u := ⟨_, rfl⟩
  have hm2 : mw = wr (cm 1 f len) 0 4 u := hm
  rw [← hm] at ST
  clear hm
  ((with_reducible refine Sq.regionJ (id := 8) (J := fun j X => DK W X h1 h2 2147483648 1 mw mw F1' F2' [(gc, ccg h1 (.pointer (some ⟨gt, 0, none⟩)) 0 0 0 0 (.map none), TC), (gt, #[.int .i64 1, .slice none 0 0], 115), (g7, #[.pointer (some ⟨h1, 0, none⟩), .pointer (some ⟨h2, 0, none⟩)], 40), (g5, (match j with | 0 => #[.pointer none, .pointer none] | _ => #[.pointer (some ⟨h1, 0, none⟩), .pointer (some ⟨h2, 0, none⟩)]), 40), (g2, #[.int .i64 k, .int .i64 fn, .int .i64 rd, .int .i64 rs1, .int .i64 rs2, .int .i64 imm, .int .i64 sz, .bool sg], 44)]) ?hm1 7 [5] [.keep 0 0, .keep 0 0, .keep 0 1, .keep 0 1, .keep 0 0, .eff 0, .keep 1 1] ?hi1 ?hp1 ?hf1 ?hs1); (case hm1 => rfl); (case hi1 => exact (show DK W _ h1 h2 2147483648 1 mw mw F1' F2' [(gc, ccg h1 (.pointer (some ⟨gt, 0, none⟩)) 0 0 0 0 (.map none), TC), (gt, #[.int .i64 1, .slice none 0 0], 115), (g7, #[.pointer (some ⟨h1, 0, none⟩), .pointer (some ⟨h2, 0, none⟩)], 40), (g5, #[.pointer none, .pointer none], 40), (g2, #[.int .i64 k, .int .i64 fn, .int .i64 rd, .int .i64 rs1, .int .i64 rs2, .int .i64 imm, .int .i64 sz, .bool sg], 44)] from ST.out.call (Below.drew (Below.refl _ _)))); (case hp1 => kernel_rfl); (case hf1 => kernel_rfl); intro ops K hops hK; clear hops; dsimp only [List.take]; (repeat (first | (refine Sq.seqJ_move rfl rfl ?_; simp only [Act.put, Act.eval, Array.getD_eq_getD_getElem?, List.getElem?_toArray, List.getElem?_cons_zero, List.getElem?_cons_succ, Option.getD_some, List.setIfInBounds_toArray, List.set_cons_zero, List.set_cons_succ]) | (refine Sq.seqJ_check rfl rfl rfl ?_; simp only [Act.put, Act.eval, Array.getD_eq_getD_getElem?, List.getElem?_toArray, List.getElem?_cons_zero, List.getElem?_cons_succ, Option.getD_some, List.setIfInBounds_toArray, List.set_cons_zero, List.set_cons_succ]) | (refine Sq.seqJ_row (t := 40) (cs := fun _ => #[.pointer (some ⟨h1, 0, none⟩), .pointer (some ⟨h2, 0, none⟩)]) (fun j _ _ X hX => (DK.kn hX).at2) (Sq.wanted_none rfl) rfl rfl (fun _ => Sq.row_all _) Tryz.underlying40 rfl size_two ?_; simp only [Act.put, Act.eval, Array.getD_eq_getD_getElem?, List.getElem?_toArray, List.getElem?_cons_zero, List.getElem?_cons_succ, Option.getD_some, List.setIfInBounds_toArray, List.set_cons_zero, List.set_cons_succ]) | (refine Sq.seqJ_storeRow (g := g5) (k := 0) (cs := #[.pointer none, .pointer none]) (vs := #[.pointer (some ⟨h1, 0, none⟩), .pointer (some ⟨h2, 0, none⟩)]) (fun X hX => (DK.kn hX).at3) rfl rfl rfl rfl rfl size_two rfl rfl (fun X X' hX nb m => ?_) ?_; · exact DK.set hX (Kn.set3 (DK.kn hX) (show Blk X' g5 #[.pointer (some ⟨h1, 0, none⟩), .pointer (some ⟨h2, 0, none⟩)] 40 from nb) m) m ⟨_, List.mem_of_getElem? (i := 3) rfl, rfl⟩ rfl) | (refine' Sq.seqJ_pure rfl (fun X => _) _; rotate_left; (first | (go_simp; done) | (go_simp; rfl)); simp only [Act.put, Act.eval, Array.getD_eq_getD_getElem?, List.getElem?_toArray, List.getElem?_cons_zero, List.getElem?_cons_succ, Option.getD_some, List.setIfInBounds_toArray, List.set_cons_zero, List.set_cons_succ]))); refine Sq.seqJ_nil ?_; refine hK.out _ fun w1 hk => ?_; clear hK; replace ST := Lib.hid (show DK W w1 h1 h2 2147483648 1 mw mw F1' F2' [(gc, ccg h1 (.pointer (some ⟨gt, 0, none⟩)) 0 0 0 0 (.map none), TC), (gt, #[.int .i64 1, .slice none 0 0], 115), (g7, #[.pointer (some ⟨h1, 0, none⟩), .pointer (some ⟨h2, 0, none⟩)], 40), (g5, #[.pointer (some ⟨h1, 0, none⟩), .pointer (some ⟨h2, 0, none⟩)], 40), (g2, #[.int .i64 k, .int .i64 fn, .int .i64 rd, .int .i64 rs1, .int .i64 rs2, .int .i64 imm, .int .i64 sz, .bool sg], 44)] from hk); clear hk; dsimp only [List.drop])
  go_wp2
  all_goals subst hm2
  all_goals exact bodyPost_ret (results_t3 rfl _ _ _ _ _ _ rfl ST.out.kn.at3 Tryz.underlying40 rfl size_two) rfl ⟨gc, gt, h1, h2, F1', F2', rfl, ST.out.sub (List.Sublist.cons_cons _ (List.Sublist.cons_cons _ (List.nil_sublist _)))⟩
end Go.Proofs.YthkodjkkcgdmfaaGreat.Hart
end
section
namespace Go.Proofs.YthkodjkkcgdmfaaGreat.Hart
open Go Go.RowKit Go.Proofs.YthkodjkkcgdmfaaGreat.Step Go.Proofs.YthkodjkkcgdmfaaGreat.Enc Go.Proofs.YthkodjkkcgdmfaaGreat.Kn
open Go.Proofs.YthkodjkkcgdmfaaGreat.Mem (Ram Grow hasB wholeB num wr Rd fl Arg lst)
open Go.Proofs.YthkodjkkcgdmfaaGreat.Duo (Duo RdC cm size_two)
set_option linter.unusedVariables false
set_option linter.unusedSimpArgs false
set_option maxRecDepth 100000
theorem aw_alu : aluV 1 0 5 = 5 := by unfold aluV; rw [if_pos rfl]; decide
theorem aw_x1 (gc : Nat) : (zeroX (awS gc)).h.x 1 = 5 := by
  show aluV 1 0 5 = 5
  exact aw_alu
theorem aw_pc (gc : Nat) : (zeroX (awS gc)).h.pc = 2147483652 := by
  show addW (ord (resetH 2147483648 0 0)).pc 4 = 2147483652
  decide +kernel
theorem aw_c1 (gc : Nat) : (hc (zeroX (awS gc)).h)[1]? = some (.int .u64 5) := by
  show some (Value.int .u64 ((zeroX (awS gc)).h.x 1)) = _
  rw [aw_x1]
theorem aw_c32 (gc : Nat) : (hc (zeroX (awS gc)).h)[32]? = some (.int .u64 2147483652) := by
  show some (Value.int .u64 (zeroX (awS gc)).h.pc) = _
  rw [aw_pc]
section
variable {W X w w' : World} {h1 h2 n g : Nat} {base : Int} {m1 m2 : Nat → Int} {F1 F2 : Nat → Prop} {L : Blks} {p0 p1 : Nat × Array Value × TypeId} {c : Array Value} {T : TypeId}
theorem DK.core2 {tv : Value} {vmid : Int} {km : Value} (d : DK W w h1 h2 base n m1 m2 F1 F2 (p0 :: p1 :: (g, ccg h1 tv 0 vmid 0 0 km, TC) :: L)) : Kor w g h1 tv vmid base n m1 F1 := d.drop.drop.core (done := 0) (st := 0)
theorem DK.gone (K0 : Below W.heap.size W X) (d : DK X w h1 h2 base n m1 m2 F1 F2 (p0 :: p1 :: (g, c, T) :: L)) (m : Mod (fun k => k = g ∨ F1 k) w w') : Kn Step.Nil W w' [] := by
  have hz := K0.size
  have ho : ¬ g < X.heap.size := fun h => d.drop.drop.kn.own (g, c, T) (List.mem_cons_self ..) h
  refine ⟨((Mod.of_below K0 Step.Nil).trans d.kn.mod).trans_new m fun i hi e => ?_, (fun _ h => nomatch h), (fun _ h => nomatch h), List.Pairwise.nil⟩
  rcases e with e | e
  · have e' : i = g := e
    exact absurd hi (by omega)
  · have := d.new i (.inl e)
    exact absurd hi (by omega)
end
set_option maxHeartbeats 8000000 in
theorem awake_any (W : World) : Calls Tryz.prog 15 #[] W fun e w' => e = .returned (.bool true) ∧ Below W.heap.size W w' := by
  go_enter Tryz.func15, Tryz.ntmps15
  have ST := Lib.hid (Kn.nil (S := Step.Nil) (W := W))
  go_wp2_with (first
    | ((with_reducible refine Step.gate_alloc (t := 25) rfl ?_); refine Step.freshAlloc rfl rfl (alloc_agg zero_hart) ?_; intro g7 w2 b hg hb; replace ST := Lib.hid (ST.out.made b hg hb); clear b hb; clear hg)
    | ((with_reducible refine Step.gate_alloc (t := 46) rfl ?_); refine Step.freshAlloc rfl rfl (alloc_agg zero_ev) ?_; intro g8 w2 b hg hb; replace ST := Lib.hid (ST.out.made b hg hb); clear b hb; clear hg)
    | ((with_reducible refine Step.gate_store (t := 25) rfl ?_); refine Step.storeAll ST.out.at1 rfl rfl rfl rfl rfl (size_hart _) rfl (hc_all _) ?_; intro w3 nb m; replace ST := Lib.hid (ST.out.set1 nb m); clear nb m)
    | ((with_reducible refine Step.gate_store (t := 46) rfl ?_); refine Step.storeAll (vs := #[.int .i64 0, .int .i64 0, .int .u64 0, .int .u64 0, .bool false, .bool false]) ST.out.at0 rfl rfl rfl rfl rfl size_ev rfl rfl ?_; intro w3 nb m; replace ST := Lib.hid (ST.out.set0 nb m); clear nb m)
    | ((with_reducible refine Step.gate_load (t := 46) rfl ?_); refine Step.loadAll ST.out.at0 rfl rfl rfl Tryz.underlying46 rfl size_ev ?_)
    | ((with_reducible refine Step.gate_load (t := 22) rfl ?_); refine Step.loadG ST.out.at1 rfl rfl rfl pl_u64 (aw_c1 gc) ?_)
    | ((with_reducible refine Step.gate_load (t := 22) rfl ?_); refine Step.loadG ST.out.at1 rfl rfl rfl pl_u64 (aw_c32 gc) ?_)
    | ((with_reducible refine Step.gate_build (t := 66) rfl ?_); refine Step.freshSlice (cs := #[.int .u8 147, .int .u8 0, .int .u8 80, .int .u8 0]) (T := 5) (n := 4) (m := 4) rfl ?hr ?_; (case hr => first | (go_simp; done) | (go_simp; rfl)); intro gs w1 b hg hb; replace ST := Lib.hid (ST.out.made b hg hb); clear b hg hb)
    | (go_at_call 20; (with_reducible refine (reset_any 2147483648 0 0 ⟨by decide, by decide⟩ _).mono ?_); rintro e w' ⟨rfl, hb⟩; replace ST := Lib.hid (ST.out.call hb); clear hb)
    | ((with_reducible refine gate_buildS (t := 69) rfl ?_); refine Step.value (v := .agg (zC 2147483648 (some ⟨gs, 0, none⟩) 4 4 (resetH 2147483648 0 0))) rfl (build_case rfl rfl rfl rfl _) ?_)
    | ((with_reducible refine Step.gate_alloc (t := 69) rfl ?_); refine Step.freshAlloc rfl rfl (alloc_agg zero_case) ?_; intro g1 w2 b hg hb; replace ST := Lib.hid (ST.out.made b hg hb); clear b hb; clear hg)
    | ((with_reducible refine Step.gate_store (t := 69) rfl ?_); refine Step.storeAll ST.out.at0 rfl rfl rfl rfl rfl (size_case _ _ _ _ _) rfl (case_all _ _ _ _ _) ?_; intro w3 nb m; replace ST := Lib.hid (ST.out.set0 nb m); clear nb m)
    | ((with_reducible refine Step.gate_load (t := 69) rfl ?_); refine Step.loadAll ST.out.at0 rfl rfl rfl Tryz.underlying69 rfl (size_case _ _ _ _ _) ?_)
    | (go_at_call 32; (with_reducible refine (both_aw ST.out.at1 _).mono ?_); rintro e w9 ⟨gc, gcr, gt, gtr, h1, h2, F1, F2, L, rfl, d⟩; have B1 := Lib.hid (d.kn.stood ST.out.at0 (fun h => h)); have D := Lib.hid d; have K0 := Lib.hid ST.out.below; clear d)
    | ((with_reducible refine Step.gate_alloc (t := 40) rfl ?_); refine Step.freshAlloc rfl rfl (Duo.alloc_agg Duo.zero_two) ?_; intro g5 w2 b hg hb; have N5 := Lib.hid (show g1 ≠ g5 from fun e => by have := B1.out.lt; omega); replace B1 := Lib.hid (B1.out.below hb); replace D := Lib.hid (D.out.made b hg hb); clear b hg hb)
    | ((with_reducible refine Step.gate_store (t := 40) rfl ?_); refine Step.storeAll D.out.kn.at0 rfl rfl rfl rfl rfl size_two rfl rfl ?_; intro w3 nb m; replace B1 := Lib.hid (B1.out.one m N5.out); replace D := Lib.hid (D.out.set (D.out.kn.set0 nb m) m ⟨_, List.mem_cons_self .., rfl⟩ rfl); clear nb m)
    | ((with_reducible refine Step.gate_load (t := 25) rfl ?_); refine Step.loadMid B1.out rfl rfl rfl (row_case _ _ _ _ _) Tryz.underlying25 rfl (size_hart _) ?_)
    | (go_at_call 23; (with_reducible refine (step_aw (gc := gc) D.out.core2).mono ?_); rintro e w10 ⟨rfl, F3, hk, m, hF⟩; replace ST := Lib.hid (D.out.gone K0.out m); clear hk m hF))
  go_ret
  exact ⟨rfl, ST.out.below⟩
end Go.Proofs.YthkodjkkcgdmfaaGreat.Hart
end
