/- Parts of the walks and laws for the claim: LawA, LawM, OpenM; no conditions beyond the theorems' own. -/
import Derived.Test.YtecpkipgkaaefaaP6
import Derived.Test.YtecpkipgkaaefaaP7
import Derived.Test.YtecpkipgkaaefaaP8
import Derived.Test.YtecpkipgkaaefaaP17
section
namespace Go.Proofs.Ytecpkipgkaaefaa.Hart
open Go Go.RowKit Go.Proofs.Ytecpkipgkaaefaa.Step Go.Proofs.Ytecpkipgkaaefaa.Enc Go.Proofs.Ytecpkipgkaaefaa.Kn
set_option linter.unusedVariables false
set_option linter.unusedSimpArgs false
set_option maxRecDepth 100000
theorem forIn_list {β : Type} (P : Program) (w : World) (b : β) (f : Nat → β → Sem (ForInStep β)) : ∀ (l : List Nat), (∀ i ∈ l, (f i b).run P w = .ok (.yield b) w) → (forIn l b f).run P w = .ok b w
  | [], _ => by simp
  | i :: l, h => by
    simp only [List.forIn_cons, Sem.run_bind, h i (List.mem_cons_self ..), Result.andThen_ok]
    exact forIn_list P w b f l fun j hj => h j (List.mem_cons_of_mem _ hj)
theorem forIn_upto {β : Type} (P : Program) (w : World) (n : Nat) (b : β) (f : Nat → β → Sem (ForInStep β)) (h : ∀ i, i < n → (f i b).run P w = .ok (.yield b) w) : (forIn [:n] b f).run P w = .ok b w := by
  first
    | rw [Std.Range.forIn_eq_forIn_range']
    | rw [Std.Legacy.Range.forIn_eq_forIn_range']
  refine forIn_list P w b f _ fun i hi => h i ?_
  simp [Std.Legacy.Range.size, List.mem_range'] at hi
  omega
set_option maxHeartbeats 4000000 in
theorem arr_same (d : Nat) (x : Nat → Int) (w : World) : (Op.equalIn (d + 2) 23 (.agg ((Array.range 32).map fun i => .int .u64 (x i))) (.agg ((Array.range 32).map fun i => .int .u64 (x i)))).run Try.prog w = .ok true w := by
  have hu := Try.underlying23
  have hu2 := Try.underlying22
  have hs : (sizeOf 22).run Try.prog w = .ok 1 w := by first | (go_simp; done) | (go_simp; rfl)
  unfold Op.equalIn
  simp only [Sem.run_bind, run_underlying hu, Result.andThen_ok, hs]
  rw [forIn_upto _ _ _ _ _ fun i hi => ?_]
  · simp
  · simp only [Nat.mul_one]
    have hg : ((Array.range 32).map fun i => Value.int .u64 (x i))[i]? = some (.int .u64 (x i)) := by simp [hi]
    have hz : ((Array.range 32).map fun i => Value.int .u64 (x i)).size = 32 := by simp
    generalize ((Array.range 32).map fun i => Value.int .u64 (x i)) = arr at hg hz ⊢
    have hp : (part 22 arr i).run Try.prog w = .ok (.int .u64 (x i)) w := by
      go_simp
      exact (Array.getElem?_eq_some_iff.1 hg).2
    have he : (Op.equalIn (d + 1) 22 (.int .u64 (x i)) (.int .u64 (x i))).run Try.prog w = .ok true w := by
      unfold Op.equalIn
      simp [Sem.run_bind, run_underlying hu2, Result.andThen_ok]
    simp [Sem.run_bind, hp, he, Result.andThen_ok]
theorem eqf_all {P : Program} {w : World} {d : Nat} {xs : Array Value} : ∀ (fs : List Field), (∀ f ∈ fs, ∃ v, (part f.type xs f.offset).run P w = .ok v w ∧ (Op.equalIn d f.type v v).run P w = .ok true w) → (Op.eqFields d xs xs fs).run P w = .ok true w
  | [], _ => by simp [Op.eqFields]
  | f :: fs, h => by
    obtain ⟨v, h1, h2⟩ := h f (List.mem_cons_self ..)
    have ih := eqf_all fs fun g hg => h g (List.mem_cons_of_mem _ hg)
    simp only [Op.eqFields]
    split
    · simp [Sem.run_bind, h1, h2, ih, Result.andThen_ok]
    · exact ih
theorem part_u (xs : Array Value) (i : Nat) (v : Value) (h : xs[i]? = some v) (w : World) : (part 22 xs i).run Try.prog w = .ok v w := by
  have hu2 := Try.underlying22
  go_simp
theorem part_b (xs : Array Value) (i : Nat) (v : Value) (h : xs[i]? = some v) (w : World) : (part 4 xs i).run Try.prog w = .ok v w := by
  have hu2 := Try.underlying4
  go_simp
theorem hart_arr (h : Hrt) (w : World) : (part 23 (hc h) 0).run Try.prog w = .ok (.agg ((Array.range 32).map fun i => .int .u64 (h.x i))) w := by
  have ha : (isAgg 23).run Try.prog w = .ok true w := by
    have hu := Try.underlying23
    first | (go_simp; done) | (go_simp; rfl)
  have hs : (sizeOf 23).run Try.prog w = .ok 32 w := by first | (go_simp; done) | (go_simp; rfl)
  have e : (hc h).extract 0 (0 + 32) = (Array.range 32).map fun i => Value.int .u64 (h.x i) := by
    have hz : (hc h).size = 49 := rfl
    apply Array.ext_getElem?
    intro i
    rw [Array.getElem?_extract]
    by_cases hi : i < 32
    · simp [hi, hc_x h hi, hz]
    · simp [hi, hz]
  unfold part
  simp only [Sem.run_bind, ha, hs, Result.andThen_ok, if_true, Sem.run_pure, e]
theorem eq_u (d : Nat) (v : Int) (w : World) : (Op.equalIn (d + 1) 22 (.int .u64 v) (.int .u64 v)).run Try.prog w = .ok true w := by
  have hu2 := Try.underlying22
  unfold Op.equalIn
  simp [Sem.run_bind, run_underlying hu2, Result.andThen_ok]
theorem eq_b (d : Nat) (v : Bool) (w : World) : (Op.equalIn (d + 1) 4 (.bool v) (.bool v)).run Try.prog w = .ok true w := by
  have hu2 := Try.underlying4
  unfold Op.equalIn
  simp [Sem.run_bind, run_underlying hu2, Result.andThen_ok]
set_option maxHeartbeats 4000000 in
theorem hart_same (d : Nat) (h : Hrt) (w : World) : (Op.equalIn (d + 3) 25 (.agg (hc h)) (.agg (hc h))).run Try.prog w = .ok true w := by
  have hp : Try.prog.stoodInHeld 25 = false := by kernel_rfl
  have hu := Try.underlying25
  rw [run_equalIn_struct w (d + 2) 25 _ _ (by rw [hu]; simp [Program.fieldsOf, hu]) hp]
  simp only [Program.fieldsOf, hu]
  refine eqf_all _ fun f hf => ?_
  simp only [List.mem_cons, List.not_mem_nil, or_false] at hf
  rcases hf with rfl | rfl | rfl | rfl | rfl | rfl | rfl | rfl | rfl | rfl | rfl | rfl | rfl | rfl | rfl | rfl | rfl | rfl
  · exact ⟨_, hart_arr h w, arr_same d h.x w⟩
  all_goals first
    | exact ⟨_, part_u _ _ _ rfl w, eq_u (d + 1) _ w⟩
    | exact ⟨_, part_b _ _ _ rfl w, eq_b (d + 1) _ w⟩
theorem row_hc (h : Hrt) : Row (hc h) 0 (hc h) := fun j v hv => by rw [Nat.zero_add]; simpa using hv
theorem gate_bin {P : Program} {ops : Array Oper} {rest : List Oper} {o : Oper} {a : Act} {W : World} {Q : Exit → Act → World → Prop} {b : BinOp} {t t2 : TypeId} {x y : Operand} (_ : o.op = .binOp b t x y t2) (h : wpList P ops Q (o :: rest) a W) : wpList P ops Q (o :: rest) a W := h
theorem eql_hart {a : Act} {o : Oper} {x y : Operand} {h : Hrt} (ho : o.op = .binOp .eql 25 x y 25) (hx : a.eval x = .agg (hc h)) (hy : a.eval y = .agg (hc h)) (W : World) : (execOp a.eval o).run Try.prog W = .ok (.value (.bool true)) W := by
  have hg := run_eqGuard_agg (P := Try.prog) (w := W) .eql 25 x y (hc h) (hc h) (by kernel_rfl)
  have he : (Op.equal 25 (.agg (hc h)) (.agg (hc h))).run Try.prog W = .ok true W := hart_same 9997 h W
  simp only [execOp, ho, hx, hy]
  simp [binOp, hg, he, Sem.run_bind, Result.andThen]
end Go.Proofs.Ytecpkipgkaaefaa.Hart
end
section
namespace Go.Proofs.Ytecpkipgkaaefaa.Hart
open Go Go.RowKit Go.Proofs.Ytecpkipgkaaefaa.Step Go.Proofs.Ytecpkipgkaaefaa.Enc Go.Proofs.Ytecpkipgkaaefaa.Kn
set_option linter.unusedVariables false
set_option linter.unusedSimpArgs false
set_option maxRecDepth 100000
section
variable {P : Program} {ops : Array Oper} {rest : List Oper} {o : Oper} {a : Act} {W : World} {Q : Exit → Act → World → Prop}
theorem midW {t : TypeId} {x : Operand} {g k : Nat} {cs ds : Array Value} {T : TypeId} {d : TypeDesc} (hB : Blk W g cs T) (hw : Region.wanted o (yielded ops a.tmps) = true) (ho : o.op = .load t x) (hx : a.eval x = .pointer (some ⟨g, k, none⟩)) (hr : Row cs k ds) (hu : P.underlying t = some d)
    (hd : d.isRow = true) (hi : (P.info? t).map (·.size) = some ds.size) (h : wpList P ops Q rest (a.put o.dst (.agg ds)) W) : wpList P ops Q (o :: rest) a W := by
  unfold wpList
  rw [if_pos hw]
  refine .inl ?_
  have h2 := run_loadAt_mid (P := P) W g k t ds.toList d (fun j v hv => (hB.cell (k + j)).trans (hr j v hv)) hu hd (by simpa using hi)
  have h3 : (execOp a.eval o).run P W = .ok (.value (.agg ds)) W := by simp [execOp, ho, hx, h2, Result.andThen]
  unfold Oper.wp; rw [h3]; exact h
theorem valW {v : Value} (hw : Region.wanted o (yielded ops a.tmps) = true) (hr : (execOp a.eval o).run P W = .ok (.value v) W) (h : wpList P ops Q rest (a.put o.dst v) W) : wpList P ops Q (o :: rest) a W := by
  unfold wpList
  rw [if_pos hw]
  refine .inl ?_
  unfold Oper.wp; rw [hr]; exact h
end
theorem part_i (xs : Array Value) (i : Nat) (v : Value) (h : xs[i]? = some v) (w : World) : (part 3 xs i).run Try.prog w = .ok v w := by
  have hu2 := Try.underlying3
  go_simp
theorem eq_i (d : Nat) (v : Int) (w : World) : (Op.equalIn (d + 1) 3 (.int .i64 v) (.int .i64 v)).run Try.prog w = .ok true w := by
  have hu2 := Try.underlying3
  unfold Op.equalIn
  simp [Sem.run_bind, run_underlying hu2, Result.andThen_ok]
theorem acc_same (d : Nat) (a : Acc) (w : World) : (Op.equalIn (d + 3) 30 (.agg a.cells) (.agg a.cells)).run Try.prog w = .ok true w := by
  have hp : Try.prog.stoodInHeld 30 = false := by kernel_rfl
  have hu := Try.underlying30
  rw [run_equalIn_struct w (d + 2) 30 _ _ (by rw [hu]; simp [Program.fieldsOf, hu]) hp]
  simp only [Program.fieldsOf, hu]
  refine eqf_all _ fun f hf => ?_
  simp only [List.mem_cons, List.not_mem_nil, or_false] at hf
  rcases hf with rfl | rfl | rfl | rfl | rfl | rfl | rfl
  all_goals first
    | exact ⟨_, part_u _ _ _ rfl w, eq_u (d + 1) _ w⟩
    | exact ⟨_, part_b _ _ _ rfl w, eq_b (d + 1) _ w⟩
    | exact ⟨_, part_i _ _ _ rfl w, eq_i (d + 1) _ w⟩
theorem eql_acc {a : Act} {o : Oper} {x y : Operand} {c : Acc} (ho : o.op = .binOp .eql 30 x y 30) (hx : a.eval x = .agg c.cells) (hy : a.eval y = .agg c.cells) (W : World) : (execOp a.eval o).run Try.prog W = .ok (.value (.bool true)) W := by
  have hg := run_eqGuard_agg (P := Try.prog) (w := W) .eql 30 x y c.cells c.cells (by kernel_rfl)
  have he : (Op.equal 30 (.agg c.cells) (.agg c.cells)).run Try.prog W = .ok true W := acc_same 9997 c W
  simp only [execOp, ho, hx, hy]
  simp [binOp, hg, he, Sem.run_bind, Result.andThen]
theorem neq_acc {a : Act} {o : Oper} {x y : Operand} {c : Acc} (ho : o.op = .binOp .neq 30 x y 30) (hx : a.eval x = .agg c.cells) (hy : a.eval y = .agg c.cells) (W : World) : (execOp a.eval o).run Try.prog W = .ok (.value (.bool false)) W := by
  have hg := run_eqGuard_agg (P := Try.prog) (w := W) .neq 30 x y c.cells c.cells (by kernel_rfl)
  have he : (Op.equal 30 (.agg c.cells) (.agg c.cells)).run Try.prog W = .ok true W := acc_same 9997 c W
  simp only [execOp, ho, hx, hy]
  simp [binOp, hg, he, Sem.run_bind, Result.andThen]
theorem set_x11 (h : Hrt) (v : Int) : (hc h).setIfInBounds 11 (.int .u64 v) = hc { h with x := xup h.x 11 v } := set_x h (by decide) v
theorem fit_aw : Fit { zh with x := xup zh.x 11 268435461 } := by
  have z : U64 0 := ⟨by decide⟩
  refine ⟨fun i hi => ?_, z, z, z, z, z, z, z, z, z, z⟩
  show U64 (xup zh.x 11 268435461 i)
  unfold xup
  split
  · exact ⟨by decide⟩
  · exact z
theorem plan_aw : planV (ord { zh with x := xup zh.x 11 268435461 }) (dec 369923) 4 = ((⟨false, true, 4, 10, 4, 268435461, 0⟩ : Acc), true) := by kernel_rfl
set_option maxHeartbeats 4000000 in
theorem mawake_any (w : World) : Calls Try.prog 9 #[] w fun e w' => e = .returned (.bool true) ∧ Below w.heap.size w w' := by
  have T0 := Lib.hid (plan_any { zh with x := xup zh.x 11 268435461 } fit_aw 369923 4 ⟨by decide⟩)
  rw [plan_aw] at T0
  have T0 : Hid (∀ w, Calls Try.prog 5 #[.agg (hc { zh with x := xup zh.x 11 268435461 }), .int .u32 369923, .int .i64 4] w fun e w' => e = .returned (.tuple #[.agg (Acc.cells (⟨false, true, 4, 10, 4, 268435461, 0⟩ : Acc)), .bool true]) ∧ Below w.heap.size w w') := T0
  go_enter Try.func9, Try.ntmps9
  have ST := Lib.hid (Kn.nil (S := Step.Nil) (W := w))
  go_wp2_with (first
    | ((with_reducible refine Step.gate_alloc (t := 25) rfl ?_); refine Step.freshAlloc rfl rfl (alloc_agg zero_hart) ?_; intro g1 w2 b hg hb; replace ST := Lib.hid (ST.out.made b hg hb); clear b hb; clear hg)
    | ((with_reducible refine Step.gate_alloc (t := 30) rfl ?_); refine Step.freshAlloc rfl rfl (alloc_agg zero_acc) ?_; intro g2 w2 b hg hb; replace ST := Lib.hid (ST.out.made b hg hb); clear b hb; clear hg)
    | ((with_reducible refine Step.gate_store (t := 22) rfl ?_); refine Step.store ST.out.at0 rfl rfl rfl rfl rfl pl_u64 rfl rfl ?_; intro w3 nb m; simp only [Act.eval, Array.getD_eq_getD_getElem?, List.getElem?_toArray, List.getElem?_cons_zero, List.getElem?_cons_succ, Option.getD_some] at nb; rw [set_x11] at nb; replace ST := Lib.hid (ST.out.set0 nb m); clear nb m)
    | ((with_reducible refine Step.gate_load (t := 25) rfl ?_); refine Step.loadAll ST.out.at0 rfl rfl rfl Try.underlying25 rfl (size_hart _) ?_)
    | (go_at_call 5; (with_reducible refine (T0.out _).mono ?_); rintro e w' ⟨rfl, hb⟩; replace ST := Lib.hid (ST.out.call hb); clear hb)
    | ((with_reducible refine Step.gate_store (t := 30) rfl ?_); refine Step.storeAll ST.out.at0 rfl rfl rfl rfl rfl size_acc rfl rfl ?_; intro w3 nb m; replace ST := Lib.hid (ST.out.set0 nb m); clear nb m)
    | ((with_reducible refine Step.gate_load (t := 30) rfl ?_); refine midW ST.out.at0 rfl rfl rfl (Sq.row_all _) Try.underlying30 rfl size_acc ?_)
    | ((with_reducible refine gate_bin (t := 30) rfl ?_); refine valW rfl (eql_acc (c := (⟨false, true, 4, 10, 4, 268435461, 0⟩ : Acc)) rfl rfl rfl _) ?_))
  all_goals (go_ret; exact ⟨rfl, ST.out.below⟩)
set_option maxHeartbeats 4000000 in
theorem plans_any (h : Hrt) (hf : Fit h) (a : Int) (ha : W32 a) (ln : Int) (v : Evt) (w : World) : Calls Try.prog 3 #[.agg (hc h), .int .u32 a, .int .i64 ln, .agg v.cells] w fun e w' => e = .returned (.bool true) ∧ Below w.heap.size w w' := by
  have T0 := Lib.hid (plan_any h hf a ln ha)
  have T1 := Lib.hid (rplan_any h hf a ln ha)
  clear hf ha
  generalize planV (ord h) (dec a) ln = q at *
  obtain ⟨p, b⟩ := q
  replace T0 : Hid (∀ w, Calls Try.prog 5 #[.agg (hc h), .int .u32 a, .int .i64 ln] w fun e w' => e = .returned (.tuple #[.agg p.cells, .bool b]) ∧ Below w.heap.size w w') := T0
  replace T1 : Hid (∀ w, Calls Try.prog 6 #[.agg (hc h), .int .u32 a, .int .i64 ln] w fun e w' => e = .returned (.tuple #[.agg p.cells, .bool b]) ∧ Below w.heap.size w w') := T1
  go_enter Try.func3, Try.ntmps3
  have ST := Lib.hid (Kn.nil (S := Step.Nil) (W := w))
  go_wp2_with (first
    | ((with_reducible refine Sq.region (id := 5) (I := fun X => Kn _ _ X _) ?hm1 10 ST.out.drew ?hp1 ?hs1); (case hm1 => rfl); (case hp1 => kernel_rfl); intro ops K hops hK; dsimp only [List.take]; (repeat (first | (refine Sq.seq_move rfl rfl ?_; simp only [Act.put, Act.eval, Array.getD_eq_getD_getElem?, List.getElem?_toArray, List.getElem?_cons_zero, List.getElem?_cons_succ, Option.getD_some, List.setIfInBounds_toArray, List.set_cons_zero, List.set_cons_succ]) | (refine Sq.seq_check rfl rfl rfl ?_; simp only [Act.put, Act.eval, Array.getD_eq_getD_getElem?, List.getElem?_toArray, List.getElem?_cons_zero, List.getElem?_cons_succ, Option.getD_some, List.setIfInBounds_toArray, List.set_cons_zero, List.set_cons_succ]) | (refine Sq.seq_row (t := 30) (fun X hX => hX.at1) (Sq.wanted_none rfl) rfl rfl (Sq.row_all _) Try.underlying30 rfl size_acc ?_; simp only [Act.put, Act.eval, Array.getD_eq_getD_getElem?, List.getElem?_toArray, List.getElem?_cons_zero, List.getElem?_cons_succ, Option.getD_some, List.setIfInBounds_toArray, List.set_cons_zero, List.set_cons_succ]) | (refine Sq.seq_row (t := 28) (fun X hX => hX.at2) (Sq.wanted_none rfl) rfl rfl (Sq.row_all _) Try.underlying28 rfl size_evt ?_; simp only [Act.put, Act.eval, Array.getD_eq_getD_getElem?, List.getElem?_toArray, List.getElem?_cons_zero, List.getElem?_cons_succ, Option.getD_some, List.setIfInBounds_toArray, List.set_cons_zero, List.set_cons_succ]) | (refine Sq.seq_call 7 rfl (Sq.wanted_none rfl) (fun X => ?_) (fun X hX => (match_any p v X).mono fun e w' h => ⟨h.1, hX.call h.2⟩) ?_; (focus (first | (go_simp; done) | (go_simp; rfl))); simp only [Act.put, Act.eval, Array.getD_eq_getD_getElem?, List.getElem?_toArray, List.getElem?_cons_zero, List.getElem?_cons_succ, Option.getD_some, List.setIfInBounds_toArray, List.set_cons_zero, List.set_cons_succ]) | (refine Sq.seq_call 8 rfl (Sq.wanted_none rfl) (fun X => ?_) (fun X hX => (rmatch_any p v X).mono fun e w' h => ⟨h.1, hX.call h.2⟩) ?_; (focus (first | (go_simp; done) | (go_simp; rfl))); simp only [Act.put, Act.eval, Array.getD_eq_getD_getElem?, List.getElem?_toArray, List.getElem?_cons_zero, List.getElem?_cons_succ, Option.getD_some, List.setIfInBounds_toArray, List.set_cons_zero, List.set_cons_succ]) | (refine Sq.seq_call 9 rfl (by rw [hops]; rfl) (fun X => ?_) (fun X hX => (mawake_any X).mono fun e w' h => ⟨h.1, hX.call h.2⟩) ?_; (focus (first | (go_simp; done) | (go_simp; rfl))); simp only [Act.put, Act.eval, Array.getD_eq_getD_getElem?, List.getElem?_toArray, List.getElem?_cons_zero, List.getElem?_cons_succ, Option.getD_some, List.setIfInBounds_toArray, List.set_cons_zero, List.set_cons_succ]) | (refine' Sq.seq_pure rfl (fun X => _) _; rotate_left; (first | (go_simp; done) | (go_simp; rfl)); simp only [Act.put, Act.eval, Array.getD_eq_getD_getElem?, List.getElem?_toArray, List.getElem?_cons_zero, List.getElem?_cons_succ, Option.getD_some, List.setIfInBounds_toArray, List.set_cons_zero, List.set_cons_succ]))); refine Sq.seq_nil ?_; clear hops; refine hK.out _ fun w1 hk => ?_; clear hK; replace ST := Lib.hid hk; clear hk; dsimp only [List.drop])
    | (go_at_call 5; (with_reducible refine (T0.out _).mono ?_); rintro e w' ⟨rfl, hb⟩; replace ST := Lib.hid (ST.out.call hb); clear hb)
    | (go_at_call 6; (with_reducible refine (T1.out _).mono ?_); rintro e w' ⟨rfl, hb⟩; replace ST := Lib.hid (ST.out.call hb); clear hb)
    | ((with_reducible refine Step.gate_box (t := 25) rfl ?_); refine Step.fresh (cs := hc h) (T := 25) rfl ?hr ?_; (case hr => first | (go_simp; done) | (go_simp; rfl)); intro g1 w1 b hg hb; replace ST := Lib.hid (ST.out.made b hg hb); clear b hb; clear hg)
    | ((with_reducible refine Step.gate_box (t := 28) rfl ?_); refine Step.fresh (cs := v.cells) (T := 28) rfl ?hr ?_; (case hr => first | (go_simp; done) | (go_simp; rfl)); intro g2 w1 b hg hb; replace ST := Lib.hid (ST.out.made b hg hb); clear b hb; clear hg)
    | ((with_reducible refine Step.gate_alloc (t := 30) rfl ?_); refine Step.freshAlloc rfl rfl (alloc_agg zero_acc) ?_; intro g3 w2 b hg hb; replace ST := Lib.hid (ST.out.made b hg hb); clear b hb; clear hg)
    | ((with_reducible refine Step.gate_store (t := 30) rfl ?_); refine Step.storeAll ST.out.at0 rfl rfl rfl rfl rfl size_acc rfl rfl ?_; intro w3 nb m; replace ST := Lib.hid (ST.out.set0 nb m); clear nb m)
    | ((with_reducible refine Step.gate_load (t := 25) rfl ?_); refine Step.loadAll ST.out.at1 rfl rfl rfl Try.underlying25 rfl (size_hart _) ?_)
    | ((with_reducible refine Step.gate_load (t := 25) rfl ?_); refine Step.loadAll ST.out.at2 rfl rfl rfl Try.underlying25 rfl (size_hart _) ?_)
    | ((with_reducible refine Step.gate_load (t := 30) rfl ?_); refine Step.loadAll ST.out.at0 rfl rfl rfl Try.underlying30 rfl size_acc ?_)
    | ((with_reducible refine Step.gate_load (t := 30) rfl ?_); refine Step.loadAll ST.out.at1 rfl rfl rfl Try.underlying30 rfl size_acc ?_)
    | ((with_reducible refine gate_bin (t := 30) rfl ?_); refine valW rfl (neq_acc (c := p) rfl rfl rfl _) ?_))
  all_goals (go_ret; exact ⟨rfl, ST.out.below⟩)
set_option maxHeartbeats 4000000 in
theorem ends_any (h : Hrt) (hf : Fit h) (a : Acc) (x : Int) (hx : U64 x) (v : Evt) (hv : U64 v.va) (w : World) : Calls Try.prog 4 #[.agg (hc h), .agg a.cells, .int .u64 x, .agg v.cells] w fun e w' => e = .returned (.bool true) ∧ Below w.heap.size w w' := by
  have T0 := Lib.hid (finish_any h hf a hx)
  have T1 := Lib.hid (rfinish_any h hf a hx)
  have T2 := Lib.hid (refuse_any h hf v hv)
  have T3 := Lib.hid (rrefuse_any h hf v hv)
  clear hf hx hv
  generalize fin h a x = r1 at *
  generalize trg (ord h) (cau v.ak) v.va = r2 at *
  go_enter Try.func4, Try.ntmps4
  have ST := Lib.hid (Kn.nil (S := Step.Nil) (W := w))
  go_wp2_with (first
    | ((with_reducible refine Sq.region (id := 1) (I := fun X => Kn _ _ X _) ?hm2 21 ST.out.drew ?hp2 ?hs2); (case hm2 => rfl); (case hp2 => kernel_rfl); intro ops K hops hK; dsimp only [List.take]; (repeat (first | (refine Sq.seq_move rfl rfl ?_; simp only [Act.put, Act.eval, Array.getD_eq_getD_getElem?, List.getElem?_toArray, List.getElem?_cons_zero, List.getElem?_cons_succ, Option.getD_some, List.setIfInBounds_toArray, List.set_cons_zero, List.set_cons_succ]) | (refine Sq.seq_check rfl rfl rfl ?_; simp only [Act.put, Act.eval, Array.getD_eq_getD_getElem?, List.getElem?_toArray, List.getElem?_cons_zero, List.getElem?_cons_succ, Option.getD_some, List.setIfInBounds_toArray, List.set_cons_zero, List.set_cons_succ]) | (refine Sq.seq_row (t := 25) (fun X hX => hX.at2) (Sq.wanted_none rfl) rfl rfl (row_hc h) Try.underlying25 rfl (size_hart _) ?_; simp only [Act.put, Act.eval, Array.getD_eq_getD_getElem?, List.getElem?_toArray, List.getElem?_cons_zero, List.getElem?_cons_succ, Option.getD_some, List.setIfInBounds_toArray, List.set_cons_zero, List.set_cons_succ]) | (refine Sq.seq_row (t := 30) (fun X hX => hX.at1) (Sq.wanted_none rfl) rfl rfl (Sq.row_all _) Try.underlying30 rfl size_acc ?_; simp only [Act.put, Act.eval, Array.getD_eq_getD_getElem?, List.getElem?_toArray, List.getElem?_cons_zero, List.getElem?_cons_succ, Option.getD_some, List.setIfInBounds_toArray, List.set_cons_zero, List.set_cons_succ]) | (refine Sq.seq_row (t := 28) (fun X hX => hX.at0) (Sq.wanted_none rfl) rfl rfl (Sq.row_all _) Try.underlying28 rfl size_evt ?_; simp only [Act.put, Act.eval, Array.getD_eq_getD_getElem?, List.getElem?_toArray, List.getElem?_cons_zero, List.getElem?_cons_succ, Option.getD_some, List.setIfInBounds_toArray, List.set_cons_zero, List.set_cons_succ]) | (refine Sq.seq_row (t := 25) (fun X hX => hX.at2) (by rw [hops]; rfl) rfl rfl (row_hc h) Try.underlying25 rfl (size_hart _) ?_; simp only [Act.put, Act.eval, Array.getD_eq_getD_getElem?, List.getElem?_toArray, List.getElem?_cons_zero, List.getElem?_cons_succ, Option.getD_some, List.setIfInBounds_toArray, List.set_cons_zero, List.set_cons_succ]) | (refine Sq.seq_row (t := 30) (fun X hX => hX.at1) (by rw [hops]; rfl) rfl rfl (Sq.row_all _) Try.underlying30 rfl size_acc ?_; simp only [Act.put, Act.eval, Array.getD_eq_getD_getElem?, List.getElem?_toArray, List.getElem?_cons_zero, List.getElem?_cons_succ, Option.getD_some, List.setIfInBounds_toArray, List.set_cons_zero, List.set_cons_succ]) | (refine Sq.seq_row (t := 28) (fun X hX => hX.at0) (by rw [hops]; rfl) rfl rfl (Sq.row_all _) Try.underlying28 rfl size_evt ?_; simp only [Act.put, Act.eval, Array.getD_eq_getD_getElem?, List.getElem?_toArray, List.getElem?_cons_zero, List.getElem?_cons_succ, Option.getD_some, List.setIfInBounds_toArray, List.set_cons_zero, List.set_cons_succ]) | (refine Sq.seq_call 10 rfl (Sq.wanted_none rfl) (fun X => ?_) (fun X hX => (T0.out X).mono fun e w' h => ⟨h.1, hX.call h.2⟩) ?_; (focus (first | (go_simp; done) | (go_simp; rfl))); simp only [Act.put, Act.eval, Array.getD_eq_getD_getElem?, List.getElem?_toArray, List.getElem?_cons_zero, List.getElem?_cons_succ, Option.getD_some, List.setIfInBounds_toArray, List.set_cons_zero, List.set_cons_succ]) | (refine Sq.seq_call 11 rfl (Sq.wanted_none rfl) (fun X => ?_) (fun X hX => (T1.out X).mono fun e w' h => ⟨h.1, hX.call h.2⟩) ?_; (focus (first | (go_simp; done) | (go_simp; rfl))); simp only [Act.put, Act.eval, Array.getD_eq_getD_getElem?, List.getElem?_toArray, List.getElem?_cons_zero, List.getElem?_cons_succ, Option.getD_some, List.setIfInBounds_toArray, List.set_cons_zero, List.set_cons_succ]) | (refine Sq.seq_call 12 rfl (by rw [hops]; rfl) (fun X => ?_) (fun X hX => (T2.out X).mono fun e w' h => ⟨h.1, hX.call h.2⟩) ?_; (focus (first | (go_simp; done) | (go_simp; rfl))); simp only [Act.put, Act.eval, Array.getD_eq_getD_getElem?, List.getElem?_toArray, List.getElem?_cons_zero, List.getElem?_cons_succ, Option.getD_some, List.setIfInBounds_toArray, List.set_cons_zero, List.set_cons_succ]) | (refine Sq.seq_call 13 rfl (by rw [hops]; rfl) (fun X => ?_) (fun X hX => (T3.out X).mono fun e w' h => ⟨h.1, hX.call h.2⟩) ?_; (focus (first | (go_simp; done) | (go_simp; rfl))); simp only [Act.put, Act.eval, Array.getD_eq_getD_getElem?, List.getElem?_toArray, List.getElem?_cons_zero, List.getElem?_cons_succ, Option.getD_some, List.setIfInBounds_toArray, List.set_cons_zero, List.set_cons_succ]) | (refine Sq.seq_call 9 rfl (by rw [hops]; rfl) (fun X => ?_) (fun X hX => (mawake_any X).mono fun e w' h => ⟨h.1, hX.call h.2⟩) ?_; (focus (first | (go_simp; done) | (go_simp; rfl))); simp only [Act.put, Act.eval, Array.getD_eq_getD_getElem?, List.getElem?_toArray, List.getElem?_cons_zero, List.getElem?_cons_succ, Option.getD_some, List.setIfInBounds_toArray, List.set_cons_zero, List.set_cons_succ]) | (refine Sq.seq_val (v := .bool true) (Sq.wanted_none rfl) (fun X _ => eql_hart (h := r1) rfl rfl rfl X) ?_; simp only [Act.put, Act.eval, Array.getD_eq_getD_getElem?, List.getElem?_toArray, List.getElem?_cons_zero, List.getElem?_cons_succ, Option.getD_some, List.setIfInBounds_toArray, List.set_cons_zero, List.set_cons_succ]) | (refine Sq.seq_val (v := .bool true) (by rw [hops]; rfl) (fun X _ => eql_hart (h := r2) rfl rfl rfl X) ?_; simp only [Act.put, Act.eval, Array.getD_eq_getD_getElem?, List.getElem?_toArray, List.getElem?_cons_zero, List.getElem?_cons_succ, Option.getD_some, List.setIfInBounds_toArray, List.set_cons_zero, List.set_cons_succ]) | (refine' Sq.seq_pure rfl (fun X => _) _; rotate_left; (first | (go_simp; done) | (go_simp; rfl)); simp only [Act.put, Act.eval, Array.getD_eq_getD_getElem?, List.getElem?_toArray, List.getElem?_cons_zero, List.getElem?_cons_succ, Option.getD_some, List.setIfInBounds_toArray, List.set_cons_zero, List.set_cons_succ]))); refine Sq.seq_nil ?_; clear hops; refine hK.out _ fun w1 hk => ?_; clear hK; replace ST := Lib.hid hk; clear hk; dsimp only [List.drop])
    | ((with_reducible refine Step.gate_box (t := 25) rfl ?_); refine Step.fresh (cs := hc h) (T := 25) rfl ?hr ?_; (case hr => first | (go_simp; done) | (go_simp; rfl)); intro g1 w1 b hg hb; replace ST := Lib.hid (ST.out.made b hg hb); clear b hb; clear hg)
    | ((with_reducible refine Step.gate_box (t := 30) rfl ?_); refine Step.fresh (cs := a.cells) (T := 30) rfl ?hr ?_; (case hr => first | (go_simp; done) | (go_simp; rfl)); intro g2 w1 b hg hb; replace ST := Lib.hid (ST.out.made b hg hb); clear b hb; clear hg)
    | ((with_reducible refine Step.gate_box (t := 28) rfl ?_); refine Step.fresh (cs := v.cells) (T := 28) rfl ?hr ?_; (case hr => first | (go_simp; done) | (go_simp; rfl)); intro g3 w1 b hg hb; replace ST := Lib.hid (ST.out.made b hg hb); clear b hb; clear hg))
  all_goals (go_ret; exact ⟨rfl, ST.out.below⟩)
end Go.Proofs.Ytecpkipgkaaefaa.Hart
end
section
namespace Go.Proofs.Ytecpkipgkaaefaa.Hart
open Go Go.RowKit Go.ChangeShapes Go.WideShapes Go.ChangeAt Go.Proofs.Ytecpkipgkaaefaa.Enc
set_option linter.unusedVariables false
set_option linter.unusedSimpArgs false
set_option maxRecDepth 100000
section
variable {H : Type} {enc : TypeId × Value → H} {W : World} {base : Nat} {sp : Nat → Bool} {held : Bool}
theorem co_access : Try.prog.cellsOf 30 = 7 := by kernel_rfl
theorem open_access {r : Reach} {b0 : Nat} {v : Value} {d : DataW H} {ps : List MemPlace} (hval : Value.okWide Try.prog W r b0 30 v) (h : DataW.Trod enc Try.prog W base sp held 30 v d ps) :
    ∃ a : Acc, v = .agg a.cells ∧ U64 a.va ∧ U64 a.vl := by
  simp only [Value.okWide, Try.underlying30] at hval
  obtain ⟨cs, rfl, hsz, _⟩ := hval
  rw [co_access] at hsz
  obtain ⟨l⟩ := cs
  obtain ⟨fuel, hf⟩ := h
  match l, hsz with
  | [a0, a1, a2, a3, a4, a5, a6], _ =>
    obtain ⟨xs, n, _, _, _, hxl, hfl⟩ := DataW.trod_struct Try.underlying30 hf
    match xs, hxl with
    | [y0, y1, y2, y3, y4, y5, y6], _ =>
      have g0 : DataW.trod enc Try.prog W base sp held n 4 [a0] = some y0 := by simpa [co_int, co_bool, co_u64, Value.cells] using hfl 0 _ rfl
      have g1 : DataW.trod enc Try.prog W base sp held n 4 [a1] = some y1 := by simpa [co_int, co_bool, co_u64, Value.cells] using hfl 1 _ rfl
      have g2 : DataW.trod enc Try.prog W base sp held n 3 [a2] = some y2 := by simpa [co_int, co_bool, co_u64, Value.cells] using hfl 2 _ rfl
      have g3 : DataW.trod enc Try.prog W base sp held n 3 [a3] = some y3 := by simpa [co_int, co_bool, co_u64, Value.cells] using hfl 3 _ rfl
      have g4 : DataW.trod enc Try.prog W base sp held n 3 [a4] = some y4 := by simpa [co_int, co_bool, co_u64, Value.cells] using hfl 4 _ rfl
      have g5 : DataW.trod enc Try.prog W base sp held n 22 [a5] = some y5 := by simpa [co_int, co_bool, co_u64, Value.cells] using hfl 5 _ rfl
      have g6 : DataW.trod enc Try.prog W base sp held n 22 [a6] = some y6 := by simpa [co_int, co_bool, co_u64, Value.cells] using hfl 6 _ rfl
      obtain ⟨n0, e0, _⟩ := DataW.trod_bool Try.underlying4 g0
      obtain ⟨n1, e1, _⟩ := DataW.trod_bool Try.underlying4 g1
      obtain ⟨n2, e2, _, w2⟩ := DataW.trod_int Try.underlying3 g2
      obtain ⟨n3, e3, _, w3⟩ := DataW.trod_int Try.underlying3 g3
      obtain ⟨n4, e4, _, w4⟩ := DataW.trod_int Try.underlying3 g4
      obtain ⟨n5, e5, _, w5⟩ := DataW.trod_int Try.underlying22 g5
      obtain ⟨n6, e6, _, w6⟩ := DataW.trod_int Try.underlying22 g6
      simp at e0 e1 e2 e3 e4 e5 e6
      subst e0 e1 e2 e3 e4 e5 e6
      exact ⟨⟨n0, n1, n2, n3, n4, n5, n6⟩, rfl, bd_u64 w5, bd_u64 w6⟩
theorem co_event : Try.prog.cellsOf 28 = 6 := by kernel_rfl
theorem open_event {r : Reach} {b0 : Nat} {v : Value} {d : DataW H} {ps : List MemPlace} (hval : Value.okWide Try.prog W r b0 28 v) (h : DataW.Trod enc Try.prog W base sp held 28 v d ps) :
    ∃ a : Evt, v = .agg a.cells ∧ U64 a.va ∧ U64 a.gpa := by
  simp only [Value.okWide, Try.underlying28] at hval
  obtain ⟨cs, rfl, hsz, _⟩ := hval
  rw [co_event] at hsz
  obtain ⟨l⟩ := cs
  obtain ⟨fuel, hf⟩ := h
  match l, hsz with
  | [a0, a1, a2, a3, a4, a5], _ =>
    obtain ⟨xs, n, _, _, _, hxl, hfl⟩ := DataW.trod_struct Try.underlying28 hf
    match xs, hxl with
    | [y0, y1, y2, y3, y4, y5], _ =>
      have g0 : DataW.trod enc Try.prog W base sp held n 3 [a0] = some y0 := by simpa [co_int, co_bool, co_u64, Value.cells] using hfl 0 _ rfl
      have g1 : DataW.trod enc Try.prog W base sp held n 3 [a1] = some y1 := by simpa [co_int, co_bool, co_u64, Value.cells] using hfl 1 _ rfl
      have g2 : DataW.trod enc Try.prog W base sp held n 22 [a2] = some y2 := by simpa [co_int, co_bool, co_u64, Value.cells] using hfl 2 _ rfl
      have g3 : DataW.trod enc Try.prog W base sp held n 22 [a3] = some y3 := by simpa [co_int, co_bool, co_u64, Value.cells] using hfl 3 _ rfl
      have g4 : DataW.trod enc Try.prog W base sp held n 4 [a4] = some y4 := by simpa [co_int, co_bool, co_u64, Value.cells] using hfl 4 _ rfl
      have g5 : DataW.trod enc Try.prog W base sp held n 4 [a5] = some y5 := by simpa [co_int, co_bool, co_u64, Value.cells] using hfl 5 _ rfl
      obtain ⟨n0, e0, _, w0⟩ := DataW.trod_int Try.underlying3 g0
      obtain ⟨n1, e1, _, w1⟩ := DataW.trod_int Try.underlying3 g1
      obtain ⟨n2, e2, _, w2⟩ := DataW.trod_int Try.underlying22 g2
      obtain ⟨n3, e3, _, w3⟩ := DataW.trod_int Try.underlying22 g3
      obtain ⟨n4, e4, _⟩ := DataW.trod_bool Try.underlying4 g4
      obtain ⟨n5, e5, _⟩ := DataW.trod_bool Try.underlying4 g5
      simp at e0 e1 e2 e3 e4 e5
      subst e0 e1 e2 e3 e4 e5
      exact ⟨⟨n0, n1, n2, n3, n4, n5⟩, rfl, bd_u64 w2, bd_u64 w3⟩
end
theorem plans_row (h : Hrt) (a ln : Int) (v : Evt) (W : World) (hf : Fit h) (ha : (Lit.int .u32 a).wf = true) (hl : (Lit.int .i64 ln).wf = true) (hv : U64 v.va ∧ U64 v.gpa) : Calls Try.prog 3 #[.agg (hc h), .int .u32 a, .int .i64 ln, .agg v.cells] W fun e w' => e = .returned (.bool true) ∧ Below W.heap.size W w' :=
  plans_any h hf a ⟨by have := bounds_u32 ha; omega⟩ ln v W
theorem ends_row (h : Hrt) (a : Acc) (x : Int) (v : Evt) (W : World) (hf : Fit h) (wa : U64 a.va ∧ U64 a.vl) (hx : (Lit.int .u64 x).wf = true) (hv : U64 v.va ∧ U64 v.gpa) : Calls Try.prog 4 #[.agg (hc h), .agg a.cells, .int .u64 x, .agg v.cells] W fun e w' => e = .returned (.bool true) ∧ Below W.heap.size W w' :=
  ends_any h hf a x (bd_u64 hx) v hv.1 W
end Go.Proofs.Ytecpkipgkaaefaa.Hart
end
