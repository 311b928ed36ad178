/- Parts of the walks and laws for the claim: LawA, LawM, LawMK, NumS, DecSz, Loads; no conditions beyond the theorems' own. -/
import Derived.Test.YtidiojhefjhojaaGreatQ2
import Derived.Test.YtidiojhefjhojaaGreatQ3
import Derived.Test.YtidiojhefjhojaaGreatQ17
import Derived.Test.YtidiojhefjhojaaGreatQ19
import Derived.Test.YtidiojhefjhojaaGreatQ20
import Derived.Test.YtidiojhefjhojaaGreatQ21
import Derived.Test.YtidiojhefjhojaaGreatQ22
section
namespace Go.Proofs.YtidiojhefjhojaaGreat.Hart
open Go Go.RowKit Go.Proofs.YtidiojhefjhojaaGreat.Step Go.Proofs.YtidiojhefjhojaaGreat.Enc Go.Proofs.YtidiojhefjhojaaGreat.Kn
set_option linter.unusedVariables false
set_option linter.unusedSimpArgs false
set_option maxRecDepth 100000
theorem forIn_list {β : Type} (P : Program) (w : World) (b : β) (f : Nat → β → Sem (ForInStep β)) : ∀ (l : List Nat), (∀ i ∈ l, (f i b).run P w = .ok (.yield b) w) → (forIn l b f).run P w = .ok b w
  | [], _ => by simp
  | i :: l, h => by
    simp only [List.forIn_cons, Sem.run_bind, h i (List.mem_cons_self ..), Result.andThen_ok]
    exact forIn_list P w b f l fun j hj => h j (List.mem_cons_of_mem _ hj)
theorem forIn_upto {β : Type} (P : Program) (w : World) (n : Nat) (b : β) (f : Nat → β → Sem (ForInStep β)) (h : ∀ i, i < n → (f i b).run P w = .ok (.yield b) w) : (forIn [:n] b f).run P w = .ok b w := by
  first
    | rw [Std.Range.forIn_eq_forIn_range']
    | rw [Std.Legacy.Range.forIn_eq_forIn_range']
  refine forIn_list P w b f _ fun i hi => h i ?_
  simp [Std.Legacy.Range.size, List.mem_range'] at hi
  omega
set_option maxHeartbeats 4000000 in
theorem arr_same (d : Nat) (x : Nat → Int) (w : World) : (Op.equalIn (d + 2) 25 (.agg ((Array.range 32).map fun i => .int .u64 (x i))) (.agg ((Array.range 32).map fun i => .int .u64 (x i)))).run Tryz.prog w = .ok true w := by
  have hu := Tryz.underlying25
  have hu2 := Tryz.underlying22
  have hs : (sizeOf 22).run Tryz.prog w = .ok 1 w := by first | (go_simp; done) | (go_simp; rfl)
  unfold Op.equalIn
  simp only [Sem.run_bind, run_underlying hu, Result.andThen_ok, hs]
  rw [forIn_upto _ _ _ _ _ fun i hi => ?_]
  · simp
  · simp only [Nat.mul_one]
    have hg : ((Array.range 32).map fun i => Value.int .u64 (x i))[i]? = some (.int .u64 (x i)) := by simp [hi]
    have hz : ((Array.range 32).map fun i => Value.int .u64 (x i)).size = 32 := by simp
    generalize ((Array.range 32).map fun i => Value.int .u64 (x i)) = arr at hg hz ⊢
    have hp : (part 22 arr i).run Tryz.prog w = .ok (.int .u64 (x i)) w := by
      go_simp
      exact (Array.getElem?_eq_some_iff.1 hg).2
    have he : (Op.equalIn (d + 1) 22 (.int .u64 (x i)) (.int .u64 (x i))).run Tryz.prog w = .ok true w := by
      unfold Op.equalIn
      simp [Sem.run_bind, run_underlying hu2, Result.andThen_ok]
    simp [Sem.run_bind, hp, he, Result.andThen_ok]
theorem eqf_all {P : Program} {w : World} {d : Nat} {xs : Array Value} : ∀ (fs : List Field), (∀ f ∈ fs, ∃ v, (part f.type xs f.offset).run P w = .ok v w ∧ (Op.equalIn d f.type v v).run P w = .ok true w) → (Op.eqFields d xs xs fs).run P w = .ok true w
  | [], _ => by simp [Op.eqFields]
  | f :: fs, h => by
    obtain ⟨v, h1, h2⟩ := h f (List.mem_cons_self ..)
    have ih := eqf_all fs fun g hg => h g (List.mem_cons_of_mem _ hg)
    simp only [Op.eqFields]
    split
    · simp [Sem.run_bind, h1, h2, ih, Result.andThen_ok]
    · exact ih
theorem part_u (xs : Array Value) (i : Nat) (v : Value) (h : xs[i]? = some v) (w : World) : (part 22 xs i).run Tryz.prog w = .ok v w := by
  have hu2 := Tryz.underlying22
  go_simp
theorem part_b (xs : Array Value) (i : Nat) (v : Value) (h : xs[i]? = some v) (w : World) : (part 4 xs i).run Tryz.prog w = .ok v w := by
  have hu2 := Tryz.underlying4
  go_simp
theorem hart_arr (h : Hrt) (w : World) : (part 25 (hc h) 0).run Tryz.prog w = .ok (.agg ((Array.range 32).map fun i => .int .u64 (h.x i))) w := by
  have ha : (isAgg 25).run Tryz.prog w = .ok true w := by
    have hu := Tryz.underlying25
    first | (go_simp; done) | (go_simp; rfl)
  have hs : (sizeOf 25).run Tryz.prog w = .ok 32 w := by first | (go_simp; done) | (go_simp; rfl)
  have e : (hc h).extract 0 (0 + 32) = (Array.range 32).map fun i => Value.int .u64 (h.x i) := by
    have hz : (hc h).size = 49 := rfl
    apply Array.ext_getElem?
    intro i
    rw [Array.getElem?_extract]
    by_cases hi : i < 32
    · simp [hi, hc_x h hi, hz]
    · simp [hi, hz]
  unfold part
  simp only [Sem.run_bind, ha, hs, Result.andThen_ok, if_true, Sem.run_pure, e]
theorem eq_u (d : Nat) (v : Int) (w : World) : (Op.equalIn (d + 1) 22 (.int .u64 v) (.int .u64 v)).run Tryz.prog w = .ok true w := by
  have hu2 := Tryz.underlying22
  unfold Op.equalIn
  simp [Sem.run_bind, run_underlying hu2, Result.andThen_ok]
theorem eq_b (d : Nat) (v : Bool) (w : World) : (Op.equalIn (d + 1) 4 (.bool v) (.bool v)).run Tryz.prog w = .ok true w := by
  have hu2 := Tryz.underlying4
  unfold Op.equalIn
  simp [Sem.run_bind, run_underlying hu2, Result.andThen_ok]
set_option maxHeartbeats 4000000 in
theorem hart_same (d : Nat) (h : Hrt) (w : World) : (Op.equalIn (d + 3) 27 (.agg (hc h)) (.agg (hc h))).run Tryz.prog w = .ok true w := by
  have hp : Tryz.prog.stoodInHeld 27 = false := by kernel_rfl
  have hu := Tryz.underlying27
  rw [run_equalIn_struct w (d + 2) 27 _ _ (by rw [hu]; simp [Program.fieldsOf, hu]) hp]
  simp only [Program.fieldsOf, hu]
  refine eqf_all _ fun f hf => ?_
  simp only [List.mem_cons, List.not_mem_nil, or_false] at hf
  rcases hf with rfl | rfl | rfl | rfl | rfl | rfl | rfl | rfl | rfl | rfl | rfl | rfl | rfl | rfl | rfl | rfl | rfl | rfl
  · exact ⟨_, hart_arr h w, arr_same d h.x w⟩
  all_goals first
    | exact ⟨_, part_u _ _ _ rfl w, eq_u (d + 1) _ w⟩
    | exact ⟨_, part_b _ _ _ rfl w, eq_b (d + 1) _ w⟩
theorem row_hc (h : Hrt) : Row (hc h) 0 (hc h) := fun j v hv => by rw [Nat.zero_add]; simpa using hv
theorem gate_bin {P : Program} {ops : Array Oper} {rest : List Oper} {o : Oper} {a : Act} {W : World} {Q : Exit → Act → World → Prop} {b : BinOp} {t t2 : TypeId} {x y : Operand} (_ : o.op = .binOp b t x y t2) (h : wpList P ops Q (o :: rest) a W) : wpList P ops Q (o :: rest) a W := h
theorem eql_hart {a : Act} {o : Oper} {x y : Operand} {h : Hrt} (ho : o.op = .binOp .eql 27 x y 27) (hx : a.eval x = .agg (hc h)) (hy : a.eval y = .agg (hc h)) (W : World) : (execOp a.eval o).run Tryz.prog W = .ok (.value (.bool true)) W := by
  have hg := run_eqGuard_agg (P := Tryz.prog) (w := W) .eql 27 x y (hc h) (hc h) (by kernel_rfl)
  have he : (Op.equal 27 (.agg (hc h)) (.agg (hc h))).run Tryz.prog W = .ok true W := hart_same 9997 h W
  simp only [execOp, ho, hx, hy]
  simp [binOp, hg, he, Sem.run_bind, Result.andThen]
end Go.Proofs.YtidiojhefjhojaaGreat.Hart
end
section
namespace Go.Proofs.YtidiojhefjhojaaGreat.Hart
open Go Go.RowKit Go.Proofs.YtidiojhefjhojaaGreat.Step Go.Proofs.YtidiojhefjhojaaGreat.Enc Go.Proofs.YtidiojhefjhojaaGreat.Kn
set_option linter.unusedVariables false
set_option linter.unusedSimpArgs false
set_option maxRecDepth 100000
section
variable {P : Program} {ops : Array Oper} {rest : List Oper} {o : Oper} {a : Act} {W : World} {Q : Exit → Act → World → Prop}
theorem midW {t : TypeId} {x : Operand} {g k : Nat} {cs ds : Array Value} {T : TypeId} {d : TypeDesc} (hB : Blk W g cs T) (hw : Region.wanted o (yielded ops a.tmps) = true) (ho : o.op = .load t x) (hx : a.eval x = .pointer (some ⟨g, k, none⟩)) (hr : Row cs k ds) (hu : P.underlying t = some d)
    (hd : d.isRow = true) (hi : (P.info? t).map (·.size) = some ds.size) (h : wpList P ops Q rest (a.put o.dst (.agg ds)) W) : wpList P ops Q (o :: rest) a W := by
  unfold wpList
  rw [if_pos hw]
  refine .inl ?_
  have h2 := run_loadAt_mid (P := P) W g k t ds.toList d (fun j v hv => (hB.cell (k + j)).trans (hr j v hv)) hu hd (by simpa using hi)
  have h3 : (execOp a.eval o).run P W = .ok (.value (.agg ds)) W := by simp [execOp, ho, hx, h2, Result.andThen]
  unfold Oper.wp; rw [h3]; exact h
theorem valW {v : Value} (hw : Region.wanted o (yielded ops a.tmps) = true) (hr : (execOp a.eval o).run P W = .ok (.value v) W) (h : wpList P ops Q rest (a.put o.dst v) W) : wpList P ops Q (o :: rest) a W := by
  unfold wpList
  rw [if_pos hw]
  refine .inl ?_
  unfold Oper.wp; rw [hr]; exact h
end
theorem part_i (xs : Array Value) (i : Nat) (v : Value) (h : xs[i]? = some v) (w : World) : (part 3 xs i).run Tryz.prog w = .ok v w := by
  have hu2 := Tryz.underlying3
  go_simp
theorem eq_i (d : Nat) (v : Int) (w : World) : (Op.equalIn (d + 1) 3 (.int .i64 v) (.int .i64 v)).run Tryz.prog w = .ok true w := by
  have hu2 := Tryz.underlying3
  unfold Op.equalIn
  simp [Sem.run_bind, run_underlying hu2, Result.andThen_ok]
theorem acc_same (d : Nat) (a : Acc) (w : World) : (Op.equalIn (d + 3) 45 (.agg a.cells) (.agg a.cells)).run Tryz.prog w = .ok true w := by
  have hp : Tryz.prog.stoodInHeld 45 = false := by kernel_rfl
  have hu := Tryz.underlying45
  rw [run_equalIn_struct w (d + 2) 45 _ _ (by rw [hu]; simp [Program.fieldsOf, hu]) hp]
  simp only [Program.fieldsOf, hu]
  refine eqf_all _ fun f hf => ?_
  simp only [List.mem_cons, List.not_mem_nil, or_false] at hf
  rcases hf with rfl | rfl | rfl | rfl | rfl | rfl | rfl
  all_goals first
    | exact ⟨_, part_u _ _ _ rfl w, eq_u (d + 1) _ w⟩
    | exact ⟨_, part_b _ _ _ rfl w, eq_b (d + 1) _ w⟩
    | exact ⟨_, part_i _ _ _ rfl w, eq_i (d + 1) _ w⟩
theorem eql_acc {a : Act} {o : Oper} {x y : Operand} {c : Acc} (ho : o.op = .binOp .eql 45 x y 45) (hx : a.eval x = .agg c.cells) (hy : a.eval y = .agg c.cells) (W : World) : (execOp a.eval o).run Tryz.prog W = .ok (.value (.bool true)) W := by
  have hg := run_eqGuard_agg (P := Tryz.prog) (w := W) .eql 45 x y c.cells c.cells (by kernel_rfl)
  have he : (Op.equal 45 (.agg c.cells) (.agg c.cells)).run Tryz.prog W = .ok true W := acc_same 9997 c W
  simp only [execOp, ho, hx, hy]
  simp [binOp, hg, he, Sem.run_bind, Result.andThen]
theorem set_x11 (h : Hrt) (v : Int) : (hc h).setIfInBounds 11 (.int .u64 v) = hc { h with x := xup h.x 11 v } := set_x h (by decide) v
theorem fit_aw : Fit { zh with x := xup zh.x 11 268435461 } := by
  have z : U64 0 := ⟨by decide⟩
  refine ⟨fun i hi => ?_, z, z, z, z, z, z, z, z, z, z⟩
  show U64 (xup zh.x 11 268435461 i)
  unfold xup
  split
  · exact ⟨by decide⟩
  · exact z
end Go.Proofs.YtidiojhefjhojaaGreat.Hart
end
section
namespace Go.Proofs.YtidiojhefjhojaaGreat.Hart
open Go Go.RowKit Go.Proofs.YtidiojhefjhojaaGreat.Step Go.Proofs.YtidiojhefjhojaaGreat.Enc Go.Proofs.YtidiojhefjhojaaGreat.Kn
set_option linter.unusedVariables false
set_option linter.unusedSimpArgs false
set_option maxRecDepth 100000
theorem dec_aw : dec 369923 = some ⟨6, 0, 10, ((11 : Nat) : Int), 0, 0, 4, true⟩ := by kernel_rfl
theorem va_aw : IntKind.u64.wrap ((ord { zh with x := xup zh.x 11 268435461 }).x 11 + IntKind.u64.wrap 0) = 268435461 := by kernel_rfl
theorem plan_awK (w : World) : Calls Tryz.prog 8 #[.agg (hc { zh with x := xup zh.x 11 268435461 }), .int .u32 369923, .int .i64 4] w fun e w' => e = .returned (.tuple #[.agg (Acc.cells (⟨false, true, 4, 10, 4, 268435461, 0⟩ : Acc)), .bool true]) ∧ Below w.heap.size w w' := by
  have D := Lib.hid (Dec_3 369923 ⟨by decide, by decide⟩ (by kernel_rfl))
  rw [dec_aw] at D
  have C := plan_6 (h := { zh with x := xup zh.x 11 268435461 }) (h2 := ord { zh with x := xup zh.x 11 268435461 }) (a := 369923) (n := 11) 0 10 0 4 4 true (by decide) (Lib.hid (morder_any { zh with x := xup zh.x 11 268435461 } fit_aw)) 0 D w
  rw [va_aw] at C
  exact C
set_option maxHeartbeats 4000000 in
theorem mawakeK_any (w : World) : Calls Tryz.prog 7 #[] w fun e w' => e = .returned (.bool true) ∧ Below w.heap.size w w' := by
  have T0 : Hid (∀ w, Calls Tryz.prog 8 #[.agg (hc { zh with x := xup zh.x 11 268435461 }), .int .u32 369923, .int .i64 4] w fun e w' => e = .returned (.tuple #[.agg (Acc.cells (⟨false, true, 4, 10, 4, 268435461, 0⟩ : Acc)), .bool true]) ∧ Below w.heap.size w w') := Lib.hid plan_awK
  go_enter Tryz.func7, Tryz.ntmps7
  have ST := Lib.hid (Kn.nil (S := Step.Nil) (W := w))
  go_wp2_with (first
    | ((with_reducible refine Step.gate_alloc (t := 27) rfl ?_); refine Step.freshAlloc rfl rfl (alloc_agg zero_hart) ?_; intro g1 w2 b hg hb; replace ST := Lib.hid (ST.out.made b hg hb); clear b hb; clear hg)
    | ((with_reducible refine Step.gate_alloc (t := 45) rfl ?_); refine Step.freshAlloc rfl rfl (alloc_agg zero_acc) ?_; intro g2 w2 b hg hb; replace ST := Lib.hid (ST.out.made b hg hb); clear b hb; clear hg)
    | ((with_reducible refine Step.gate_store (t := 22) rfl ?_); refine Step.store ST.out.at0 rfl rfl rfl rfl rfl pl_u64 rfl rfl ?_; intro w3 nb m; simp only [Act.eval, Array.getD_eq_getD_getElem?, List.getElem?_toArray, List.getElem?_cons_zero, List.getElem?_cons_succ, Option.getD_some] at nb; rw [set_x11] at nb; replace ST := Lib.hid (ST.out.set0 nb m); clear nb m)
    | ((with_reducible refine Step.gate_load (t := 27) rfl ?_); refine Step.loadAll ST.out.at0 rfl rfl rfl Tryz.underlying27 rfl (size_hart _) ?_)
    | (go_at_call 8; (with_reducible refine (T0.out _).mono ?_); rintro e w' ⟨rfl, hb⟩; replace ST := Lib.hid (ST.out.call hb); clear hb)
    | ((with_reducible refine Step.gate_store (t := 45) rfl ?_); refine Step.storeAll ST.out.at0 rfl rfl rfl rfl rfl size_acc rfl rfl ?_; intro w3 nb m; replace ST := Lib.hid (ST.out.set0 nb m); clear nb m)
    | ((with_reducible refine Step.gate_load (t := 45) rfl ?_); refine midW ST.out.at0 rfl rfl rfl (Sq.row_all _) Tryz.underlying45 rfl size_acc ?_)
    | ((with_reducible refine gate_bin (t := 45) rfl ?_); refine valW rfl (eql_acc (c := (⟨false, true, 4, 10, 4, 268435461, 0⟩ : Acc)) rfl rfl rfl _) ?_))
  all_goals (go_ret; exact ⟨rfl, ST.out.below⟩)
end Go.Proofs.YtidiojhefjhojaaGreat.Hart
end
section
namespace Go.Proofs.YtidiojhefjhojaaGreat.Hart
open Go Go.RowKit Go.Proofs.YtidiojhefjhojaaGreat.Step
open Go.Proofs.YtidiojhefjhojaaGreat.Mem (num wr wholeB)
set_option linter.unusedVariables false
set_option linter.unusedSimpArgs false
theorem num_kept (mem : Nat → Int) (o s : Nat) (v : Int) : ∀ l k, k + l = s → num (wr mem o s v) (o + k) l = v / 256 ^ k % 256 ^ l
  | 0, k, h => by simp [num, Int.emod_one]
  | l + 1, k, h => by
    have ih := num_kept mem o s v l (k + 1) (by omega)
    have h1 : wr mem o s v (o + k) = v / 256 ^ k % 256 := by unfold wr; rw [if_pos (by omega), Nat.add_sub_cancel_left]
    show wr mem o s v (o + k) + 256 * num (wr mem o s v) (o + k + 1) l = _
    rw [h1, show o + k + 1 = o + (k + 1) by omega, ih, Int.pow_succ 256 k, ← Int.ediv_ediv_of_nonneg (Int.pow_nonneg (by decide)), Int.pow_succ, Int.mul_comm (256 ^ l) 256]
    generalize v / 256 ^ k = x
    generalize hy : (256 : Int) ^ l = y
    have hy0 : 0 < y := by rw [← hy]; exact Int.pow_pos (by decide)
    have e1 := Int.mul_ediv_add_emod x 256
    have e2 := Int.mul_ediv_add_emod (x / 256) y
    have b1 := Int.emod_nonneg x (show (256 : Int) ≠ 0 by decide)
    have b2 := Int.emod_lt_of_pos x (show (0 : Int) < 256 by decide)
    have b3 := Int.emod_nonneg (x / 256) (Int.ne_of_gt hy0)
    have b4 := Int.emod_lt_of_pos (x / 256) hy0
    have e3 : x = (x % 256 + 256 * (x / 256 % y)) + (256 * y) * (x / 256 / y) := by
      rw [Int.mul_assoc]
      generalize y * (x / 256 / y) = z at *
      omega
    have e4 := congrArg (· % (256 * y)) e3
    rw [show x % (256 * y) = _ from e4, Int.add_mul_emod_self_left, Int.emod_eq_of_lt (a := x % 256 + 256 * (x / 256 % y)) (b := 256 * y) (by omega) (by omega)]
theorem num_stored (mem : Nat → Int) (o k : Nat) {v : Int} (hv : U64 v) (hw : wholeB k = true) : num (wr mem o k v) o k = extV v k false := by
  have h := num_kept mem o k v k 0 (by omega)
  rw [Nat.add_zero] at h
  have hz : (k : Int) = 1 ∨ (k : Int) = 2 ∨ (k : Int) = 4 ∨ (k : Int) = 8 := of_decide_eq_true hw
  have hv := hv.out
  rw [h]
  obtain e | e | e | e : k = 1 ∨ k = 2 ∨ k = 4 ∨ k = 8 := by omega
  · subst e; simp [extV]
  · subst e; simp [extV]
  · subst e; simp [extV]
  · subst e
    simp [extV]
    omega
end Go.Proofs.YtidiojhefjhojaaGreat.Hart
end
section
namespace Go.Proofs.YtidiojhefjhojaaGreat.Enc
open Go Go.RowKit
set_option linter.unusedVariables false
set_option linter.unusedSimpArgs false
set_option maxRecDepth 100000
theorem dec_size {a : Int} {i : Ins} (h : dec a = some i) (hk : i.k = 6 ∨ i.k = 7) : i.sz = 1 ∨ i.sz = 2 ∨ i.sz = 4 ∨ i.sz = 8 := by
  have b4 := fd_lit (a := a) (h := 14) (l := 12) (n := 8) rfl
  unfold dec decOp at h
  rcases ite_some h with ⟨c, h⟩ | ⟨_, h⟩
  · injection h with h; subst h; simp at hk
  rcases ite_some h with ⟨c, h⟩ | ⟨_, h⟩
  · injection h with h; subst h; simp at hk
  rcases ite_some h with ⟨c, h⟩ | ⟨_, h⟩
  · injection h with h; subst h; simp at hk
  rcases ite_some h with ⟨c, h⟩ | ⟨_, h⟩
  · rcases ite_some h with ⟨c2, h⟩ | ⟨_, h⟩
    · injection h with h; subst h; simp at hk
    · cases h
  rcases ite_some h with ⟨c, h⟩ | ⟨_, h⟩
  · rcases ite_some h with ⟨_, h⟩ | ⟨c2, h⟩
    · cases h
    · injection h with h; subst h; simp at hk
  rcases ite_some h with ⟨c, h⟩ | ⟨_, h⟩
  · rcases ite_some h with ⟨c2, h⟩ | ⟨_, h⟩
    · injection h with h
      subst h
      dsimp only
      generalize fd a 14 12 = x at *
      obtain h | h | h | h | h | h | h : x = 0 ∨ x = 1 ∨ x = 2 ∨ x = 3 ∨ x = 4 ∨ x = 5 ∨ x = 6 := by omega
      all_goals (subst h; decide)
    · cases h
  rcases ite_some h with ⟨c, h⟩ | ⟨_, h⟩
  · rcases ite_some h with ⟨c2, h⟩ | ⟨_, h⟩
    · injection h with h
      subst h
      dsimp only
      generalize fd a 14 12 = x at *
      obtain h | h | h | h : x = 0 ∨ x = 1 ∨ x = 2 ∨ x = 3 := by omega
      all_goals (subst h; decide)
    · cases h
  rcases ite_some h with ⟨c, h⟩ | ⟨_, h⟩
  · rcases ite_some h with ⟨c2, h⟩ | ⟨_, h⟩
    · injection h with h; subst h; simp at hk
    · cases h
  rcases ite_some h with ⟨c, h⟩ | ⟨_, h⟩
  · rcases ite_some h with ⟨c2, h⟩ | ⟨_, h⟩
    · injection h with h; subst h; simp at hk
    · cases h
  rcases ite_some h with ⟨c, h⟩ | ⟨_, h⟩
  · rcases ite_some h with ⟨_, h⟩ | ⟨c2, h⟩
    · cases h
    · injection h with h; subst h; simp at hk
  rcases ite_some h with ⟨c, h⟩ | ⟨_, h⟩
  · rcases ite_some h with ⟨_, h⟩ | ⟨c2, h⟩
    · cases h
    · injection h with h; subst h; simp at hk
  rcases ite_some h with ⟨c, h⟩ | ⟨_, h⟩
  · rcases ite_some h with ⟨c2, h⟩ | ⟨_, h⟩
    · injection h with h; subst h; simp at hk
    · cases h
  rcases ite_some h with ⟨c, h⟩ | ⟨_, h⟩
  · have h : sysD a = some i := h
    unfold sysD at h
    rcases ite_some h with ⟨c, h⟩ | ⟨_, h⟩
    · injection h with h; subst h; simp at hk
    rcases ite_some h with ⟨c, h⟩ | ⟨_, h⟩
    · injection h with h; subst h; simp at hk
    rcases ite_some h with ⟨c, h⟩ | ⟨_, h⟩
    · injection h with h; subst h; simp at hk
    rcases ite_some h with ⟨c, h⟩ | ⟨_, h⟩
    · injection h with h; subst h; simp at hk
    rcases ite_some h with ⟨h0, h⟩ | ⟨h0, h⟩
    · rcases ite_some h with ⟨c, h⟩ | ⟨_, h⟩
      · injection h with h; subst h; simp at hk
      · cases h
    rcases ite_some h with ⟨_, h⟩ | ⟨c, h⟩
    · cases h
    · injection h with h
      subst h
      dsimp only at hk
      split at hk <;> simp at hk
  rcases ite_some h with ⟨c, h⟩ | ⟨_, h⟩
  · have h : atD a = some i := h
    unfold atD at h
    rcases ite_some h with ⟨hx, h⟩ | ⟨_, h⟩
    · rcases ite_some h with ⟨c, h⟩ | ⟨_, h⟩
      · injection h with h
        have q := atF_k c
        have : i.k = (atF (fd a 31 27) (fd a 24 20)).1 := by rw [← h]
        omega
      · cases h
    · cases h
  · cases h
end Go.Proofs.YtidiojhefjhojaaGreat.Enc
namespace Go.Proofs.YtidiojhefjhojaaGreat.Hart
open Go Go.RowKit Go.Proofs.YtidiojhefjhojaaGreat.Step Go.Proofs.YtidiojhefjhojaaGreat.Enc Go.Proofs.YtidiojhefjhojaaGreat.Kn
/-- A plan that is one: a load, or a store, of registers and a size that there are. -/
theorem plan_is {h : Hrt} {u L : Int} {a : Acc} (e : planV h (dec u) L = (a, true)) :
    (∃ (fn rs2 imm : Int) (sg : Bool) (nd n1 k : Nat), nd < 32 ∧ n1 < 32 ∧ Mem.wholeB k = true ∧ dec u = some ⟨6, fn, nd, n1, rs2, imm, k, sg⟩ ∧ a = ⟨false, sg, k, nd, L, IntKind.u64.wrap (h.x n1 + IntKind.u64.wrap imm), 0⟩) ∨
    (∃ (fn rd imm : Int) (sg : Bool) (n1 n2 k : Nat), n1 < 32 ∧ n2 < 32 ∧ Mem.wholeB k = true ∧ dec u = some ⟨7, fn, rd, n1, n2, imm, k, sg⟩ ∧ a = ⟨true, false, k, 0, L, IntKind.u64.wrap (h.x n1 + IntKind.u64.wrap imm), extV (h.x n2) k false⟩) := by
  cases hd : dec u with
  | none => rw [hd] at e; simp [planV] at e
  | some i =>
    have hi := dec_fits hd
    have hz := dec_size hd
    rw [hd] at e
    obtain ⟨k, fn, rd, rs1, rs2, imm, sz, sg⟩ := i
    have h0 := hi.rd
    have h1 := hi.rs1
    have h2 := hi.rs2
    dsimp only at h0 h1 h2 hz
    obtain ⟨nd, rfl⟩ := Int.eq_ofNat_of_zero_le h0.1
    obtain ⟨n1, rfl⟩ := Int.eq_ofNat_of_zero_le h1.1
    obtain ⟨n2, rfl⟩ := Int.eq_ofNat_of_zero_le h2.1
    by_cases k6 : k = 6
    · subst k6
      have hz := hz (.inl rfl)
      obtain ⟨s, rfl⟩ := Int.eq_ofNat_of_zero_le (show 0 ≤ sz by omega)
      simp only [planV, if_true, Prod.mk.injEq, and_true] at e
      subst e
      exact .inl ⟨fn, n2, imm, sg, nd, n1, s, by omega, by omega, decide_eq_true (by omega), rfl, rfl⟩
    · by_cases k7 : k = 7
      · subst k7
        have hz := hz (.inr rfl)
        obtain ⟨s, rfl⟩ := Int.eq_ofNat_of_zero_le (show 0 ≤ sz by omega)
        simp only [planV, Int.reduceEq, if_true, if_false, Prod.mk.injEq, and_true] at e
        subst e
        exact .inr ⟨fn, nd, imm, sg, n1, n2, s, by omega, by omega, decide_eq_true (by omega), rfl, rfl⟩
      · simp [planV, k6, k7] at e
end Go.Proofs.YtidiojhefjhojaaGreat.Hart
end
section
namespace Go.Proofs.YtidiojhefjhojaaGreat.Hart
open Go Go.RowKit Go.ChangeShapes Go.WideShapes Go.ChangeAt Go.Proofs.YtidiojhefjhojaaGreat.Step Go.Proofs.YtidiojhefjhojaaGreat.Enc Go.Proofs.YtidiojhefjhojaaGreat.Kn
set_option linter.unusedVariables false
set_option linter.unusedSimpArgs false
set_option maxRecDepth 100000
open Go.Proofs.YtidiojhefjhojaaGreat.Mem (Ram Grow hasB wholeB num wr Rd Arg)
open Go.Proofs.YtidiojhefjhojaaGreat.Duo (Duo RdC size_two)
section
variable {W X w w' : World} {h1 h2 n g : Nat} {base : Int} {m1 m2 m1' : Nat → Int} {F1 F2 F1' : Nat → Prop} {L L' L0 : Blks} {c : Array Value} {T : TypeId} {tv : Value} {vmid : Int}
/-- A step of the core turned its memory. -/
theorem DK.step (d : DK W w h1 h2 base n m1 m2 F1 F2 ((g, c, T) :: L)) (hk : Kor w' g h1 tv vmid base n m1' F1') (m : Mod (fun k => k = g ∨ F1 k) w w') (hF : ∀ k, F1' k → F1 k ∨ w.heap.size ≤ k) : DK W w' h1 h2 base n m1' m2 F1' F2 L := by
  have hg := fun k hk => (d.ap k (.inr hk) (g, c, T) (List.mem_cons_self ..))
  have hnod := List.pairwise_cons.1 d.kn.nod
  have hW := d.kn.mod.size
  refine ⟨hk.ram, d.two.mod m fun k h2 h => ?_, fun k h1 h2 => ?_, fun k h => ?_, d.kn.drop.turn m (fun p hp h => ?_) (fun i hi h => ?_), fun k h p hp e => ?_⟩
  · rcases h with h | h
    · exact hg k h2 h.symm
    · exact d.apart k h h2
  · rcases hF k h1 with h | h
    · exact d.apart k h h2
    · have := d.two.bound k h2; omega
  · rcases h with h | h
    · rcases hF k h with h | h
      · exact d.new k (.inl h)
      · omega
    · exact d.new k (.inr h)
  · rcases h with h | h
    · exact hnod.1 p hp (h : p.1 = g).symm
    · exact d.ap p.1 (.inl h) p (List.mem_cons_of_mem _ hp) rfl
  · rcases h with h | h
    · have h' : i = g := h
      subst h'
      exact (d.kn.own (i, c, T) (List.mem_cons_self ..) hi).elim
    · have := d.new i (.inl h); omega
  · have hb := (d.kn.blk p (List.mem_cons_of_mem _ hp)).lt
    rcases h with h | h
    · rcases hF k h with h | h
      · exact d.ap k (.inl h) p (List.mem_cons_of_mem _ hp) e
      · omega
    · exact d.ap k (.inr h) p (List.mem_cons_of_mem _ hp) e
/-- A step of a core of it. -/
theorem DK.core {tv : Value} {vmid : Int} {done st : Int} {km : Value} (d : DK W w h1 h2 base n m1 m2 F1 F2 ((g, ccg h1 tv 0 vmid 0 0 km, TC) :: L)) : Kor w g h1 tv vmid base n m1 F1 := ⟨.inl ⟨km, d.kn.at0⟩, d.one, fun hf => d.ap g (.inl hf) _ (List.mem_cons_self ..) rfl⟩
end
def offH (h : Hrt) : Hrt := { { h with satp := 0 } with sie := 0 }
theorem set_cs_off {b fr : Int} {A A2 : Option Addr} {s c len cap : Nat} {root : Int} {h : Hrt} : (cs15 b fr A s c A2 len cap root { h with satp := 0 }).setIfInBounds 50 (.int .u64 0) = cs15 b fr A s c A2 len cap root (offH h) := rfl
theorem fetO_w {base : Int} {n : Nat} {mem : Nat → Int} (hm : ∀ i, i < n * 4096 → 0 ≤ mem i ∧ mem i < 256) {pc u L : Int} (e : fetO base n mem pc = (u, L, true)) : W32 u ∧ (L = 2 ∨ L = 4) := by
  have h1 := halfO_lt (base := base) hm pc
  have h2 := halfO_lt (base := base) hm (IntKind.u64.wrap (pc + 2))
  unfold fetO at e
  split at e
  · simp at e
  split at e
  · split at e
    · simp at e
    · simp only [Prod.mk.injEq] at e
      obtain ⟨rfl, rfl, _⟩ := e
      exact ⟨⟨by omega⟩, .inr rfl⟩
  · split at e
    · simp at e
    · simp only [Prod.mk.injEq] at e
      obtain ⟨rfl, rfl, _⟩ := e
      refine ⟨?_, .inl rfl⟩
      unfold exV
      split
      · exact ⟨by decide⟩
      · split
        · exact encP_w _
        · exact ⟨by decide⟩
set_option maxHeartbeats 40000000 in
theorem loads_any (W : World) (k : C15) (q : k.Ok W) (now : Int) : Calls Tryz.prog 3 #[.agg k.cells, .int .u64 now] W fun e w' => e = .returned (.bool true) ∧ Below W.heap.size W w' := by
  have q2 := q.off
  have TC := Lib.hid (fun X (bl : Below W.heap.size W X) => casem_any X k.off { b := q2.b, fr := q2.fr, arg := ⟨fun i hi => (q2.arg.rd.below bl fun k h => h) i hi |>.imp fun ad ha => ⟨ha.1, Nat.lt_of_lt_of_le ha.2.1 bl.size, ha.2.2⟩, q2.arg.nil_⟩, le := q2.le, rd := (q2.rd.mod (Mod.of_below bl Step.Nil) (fun _ _ h => h) fun _ h => h).wide fun k hk => Nat.lt_of_lt_of_le hk bl.size, len := q2.len, root := q2.root, h := q2.h })
  have HFit := Lib.hid (show Fit (offH k.h) from q2.h)
  clear q q2
  obtain ⟨b, fr, A, s, c, f, A2, len, cap, f2, root, h⟩ := k
  replace TC : Hid (∀ X, Below W.heap.size W X → Calls Tryz.prog 4 #[.agg (cs15 b fr A s c A2 len cap 0 (offH h))] X fun e w' => ∃ h1 h2 base n mem F1 F2, e = .returned (.tuple #[.agg #[.pointer (some ⟨h1, 0, none⟩), .pointer (some ⟨h2, 0, none⟩)], .bool true]) ∧ Duo X w' h1 h2 base n mem F1 F2) := TC
  simp only [C15.cells] at HFit ⊢
  go_enter Tryz.func3, Tryz.ntmps3
  have ST := Lib.hid (Kn.nil (S := Step.Nil) (W := W))
  go_upto_region 8 with (first
    | ((with_reducible refine Step.gate_box (t := 29) rfl ?_); refine Step.fresh (cs := cs15 b fr A s c A2 len cap root h) (T := 29) rfl ?hr ?_; (case hr => first | (go_simp; done) | (go_simp; rfl)); intro g1 w1 b hg hb; replace ST := Lib.hid (ST.out.made b hg hb); clear b hb; clear hg)
    | ((with_reducible refine Step.gate_store (t := 22) rfl ?_); refine Step.store ST.out.at0 rfl rfl rfl rfl rfl pl_u64 rfl rfl ?_; intro w3 nb m; simp only [Act.eval, Array.getD_eq_getD_getElem?, List.getElem?_toArray, List.getElem?_cons_zero, List.getElem?_cons_succ, Option.getD_some] at nb; (first | rw [set_cs_root] at nb | rw [set_cs_satp] at nb | rw [set_cs_off] at nb); replace ST := Lib.hid (ST.out.set0 nb m); clear nb m)
    | ((with_reducible refine Step.gate_load (t := 29) rfl ?_); refine Step.loadAll ST.out.at0 rfl rfl rfl Tryz.underlying29 rfl size_case15 ?_)
    | (go_at_call 4; (with_reducible refine (TC.out _ ST.out.below).mono ?_); rintro e w3 ⟨h1, h2, base, n, mem, F1, F2, rfl, d⟩; have ST' := Lib.hid (DK.begin ST.out d); clear ST d; have ST := ST'; clear ST')
    | ((with_reducible refine Step.gate_alloc (t := 33) rfl ?_); refine Step.freshAlloc rfl rfl (Duo.alloc_agg Duo.zero_two) ?_; intro g2 w2 b hg hb; replace ST := Lib.hid (ST.out.made b hg hb); clear b hb; clear hg)
    | ((with_reducible refine Step.gate_store (t := 33) rfl ?_); refine Step.storeAll ST.out.kn.at0 rfl rfl rfl rfl rfl size_two rfl rfl ?_; intro w3 nb m; replace ST := Lib.hid (ST.out.set (ST.out.kn.set0 nb m) m ⟨_, List.mem_cons_self .., rfl⟩ rfl); clear nb m)
    | (go_at_call 5; (with_reducible refine (tlb_new4 _).mono ?_); rintro e w' ⟨gt, rfl, hg, b, hb⟩; replace ST := Lib.hid (ST.out.made b hg hb); clear hg b hb))
  have hfit := HFit.out
  have hm : ∀ i, i < n * 4096 → 0 ≤ mem i ∧ mem i < 256 := fun i hi => ST.out.one.byte hi
  have hsz := ST.out.one.size
  have TF := Lib.hid (fun X F (r : Ram X h1 base n mem F) => fetchO_any r (offH h) hfit rfl)
  rcases hq : fetO base n mem (ord (offH h)).pc with ⟨u, L, ok⟩
  rw [hq] at TF
  replace TF : Hid (∀ X F, Ram X h1 base n mem F → Calls Tryz.prog 6 #[.pointer (some ⟨h1, 0, none⟩), .int .u64 0, .agg (hc (offH h))] X fun e w' => e = .returned (.tuple #[.int .u32 u, .int .i64 L, .bool ok]) ∧ Below X.heap.size X w') := TF
  cases ok with
  | false =>
    clear HFit hfit hm hsz hq TC
    as_aux_lemma =>
      go_wp2_with (first
        | ((with_reducible refine Step.gate_load (t := 30) rfl ?_); refine Step.loadG ST.out.kn.at1 rfl rfl rfl pl_pm rfl ?_)
        | ((with_reducible refine Step.gate_load (t := 27) rfl ?_); refine Step.loadMid ST.out.kn.at2 rfl rfl rfl row_cs Tryz.underlying27 rfl (size_hart _) ?_)
        | (go_at_call 6; (with_reducible refine (TF.out _ _ ST.out.one).mono ?_); rintro e w' ⟨rfl, hb⟩; replace ST := Lib.hid (ST.out.call hb); clear hb)
        | (go_at_call 7; (with_reducible refine (mawakeK_any _).mono ?_); rintro e w' ⟨rfl, hb⟩; replace ST := Lib.hid (ST.out.call hb); clear hb))
      all_goals (go_ret; exact ⟨rfl, ST.out.below⟩)
  | true =>
    obtain ⟨hw32, hL⟩ := fetO_w hm hq
    have TP := Lib.hid (plan_any (offH h) hfit u L hw32)
    rcases hp : planV (ord (offH h)) (dec u) L with ⟨a, ok2⟩
    rw [hp] at TP
    replace TP : Hid (∀ X, Calls Tryz.prog 8 #[.agg (hc (offH h)), .int .u32 u, .int .i64 L] X fun e w' => e = .returned (.tuple #[.agg (a.cells), .bool ok2]) ∧ Below X.heap.size X w') := TP
    cases ok2 with
    | false =>
      clear HFit hfit hm hsz hq hp hw32 hL TC
      as_aux_lemma =>
        go_wp2_with (first
          | ((with_reducible refine Step.gate_load (t := 30) rfl ?_); refine Step.loadG ST.out.kn.at1 rfl rfl rfl pl_pm rfl ?_)
          | ((with_reducible refine Step.gate_load (t := 27) rfl ?_); refine Step.loadMid ST.out.kn.at2 rfl rfl rfl row_cs Tryz.underlying27 rfl (size_hart _) ?_)
          | (go_at_call 6; (with_reducible refine (TF.out _ _ ST.out.one).mono ?_); rintro e w' ⟨rfl, hb⟩; replace ST := Lib.hid (ST.out.call hb); clear hb)
          | (go_at_call 8; (with_reducible refine (TP.out _).mono ?_); rintro e w' ⟨rfl, hb⟩; replace ST := Lib.hid (ST.out.call hb); clear hb)
          | ((with_reducible refine Step.gate_alloc (t := 45) rfl ?_); refine Step.freshAlloc rfl rfl (alloc_agg zero_acc) ?_; intro g3 w2 b hg hb; replace ST := Lib.hid (ST.out.made b hg hb); clear b hb hg)
          | ((with_reducible refine Step.gate_store (t := 45) rfl ?_); refine Step.storeAll (vs := a.cells) ST.out.kn.at0 rfl rfl rfl rfl rfl size_acc rfl rfl ?_; intro w3 nb m; replace ST := Lib.hid (ST.out.set (ST.out.kn.set0 nb m) m ⟨_, List.mem_of_getElem? (i := 0) rfl, rfl⟩ rfl); clear nb m)
          | (go_at_call 7; (with_reducible refine (mawakeK_any _).mono ?_); rintro e w' ⟨rfl, hb⟩; replace ST := Lib.hid (ST.out.call hb); clear hb))
        all_goals (go_ret; exact ⟨rfl, ST.out.below⟩)
    | true =>
      obtain ⟨st, sg, z, rg, ln, va, vl⟩ := a
      have key : ln = L ∧ U64 va ∧ ∃ k : Nat, z = k ∧ wholeB k = true := by
        rcases plan_is hp with ⟨_, _, _, _, _, _, k, _, _, hw, _, e⟩ | ⟨_, _, _, _, _, _, k, _, _, hw, _, e⟩
        · injection e with _ _ e3 _ e5 e6 _
          exact ⟨e5, e6 ▸ wrap_w _, k, e3, hw⟩
        · injection e with _ _ e3 _ e5 e6 _
          exact ⟨e5, e6 ▸ wrap_w _, k, e3, hw⟩
      obtain ⟨rfl, hva, k, hz, hw⟩ := key
      have hk8 := of_decide_eq_true hw
      have hvo := hva.out
      have e0 : IntKind.u64.wrap z = z := IntWalk.u64_in _ (by omega)
      have e1 : Int.tmod va z = va % z := Int.tmod_eq_emod_of_nonneg hvo.1
      have e2 : (z = 0) = False := eq_false (by omega)
      have e3 : (z == 0) = false := beq_eq_false_iff_ne.2 (by omega)
      by_cases hal : va % z = 0
      case neg =>
        have e4 : (va % z == 0) = false := beq_eq_false_iff_ne.2 hal
        have e5 : (va % z != 0) = true := bne_iff_ne.2 hal
        clear HFit hfit hm hsz hq hp hw32 hL hva hz hw hk8 hvo hal TC
        as_aux_lemma =>
          go_wp2_with (first
            | ((with_reducible refine Step.gate_load (t := 30) rfl ?_); refine Step.loadG ST.out.kn.at1 rfl rfl rfl pl_pm rfl ?_)
            | ((with_reducible refine Step.gate_load (t := 27) rfl ?_); refine Step.loadMid ST.out.kn.at2 rfl rfl rfl row_cs Tryz.underlying27 rfl (size_hart _) ?_)
            | (go_at_call 6; (with_reducible refine (TF.out _ _ ST.out.one).mono ?_); rintro e w' ⟨rfl, hb⟩; replace ST := Lib.hid (ST.out.call hb); clear hb)
            | (go_at_call 8; (with_reducible refine (TP.out _).mono ?_); rintro e w' ⟨rfl, hb⟩; replace ST := Lib.hid (ST.out.call hb); clear hb)
            | ((with_reducible refine Step.gate_alloc (t := 45) rfl ?_); refine Step.freshAlloc rfl rfl (alloc_agg zero_acc) ?_; intro g3 w2 b hg hb; replace ST := Lib.hid (ST.out.made b hg hb); clear b hb hg)
            | ((with_reducible refine Step.gate_store (t := 45) rfl ?_); refine Step.storeAll (vs := #[.bool st, .bool sg, .int .i64 z, .int .i64 rg, .int .i64 ln, .int .u64 va, .int .u64 vl]) ST.out.kn.at0 rfl rfl rfl rfl rfl size_acc rfl rfl ?_; intro w3 nb m; replace ST := Lib.hid (ST.out.set (ST.out.kn.set0 nb m) m ⟨_, List.mem_of_getElem? (i := 0) rfl, rfl⟩ rfl); clear nb m)
            | ((with_reducible refine Step.gate_load (t := 22) rfl ?_); refine Step.loadG ST.out.kn.at0 rfl rfl rfl pl_u64 rfl ?_)
            | ((with_reducible refine Step.gate_load (t := 3) rfl ?_); refine Step.loadG ST.out.kn.at0 rfl rfl rfl pl_int rfl ?_)
            | ((with_reducible refine Step.gate_load (t := 30) rfl ?_); refine Step.loadG ST.out.kn.at2 rfl rfl rfl pl_pm rfl ?_)
            | (go_at_call 9; (with_reducible refine (TH.out _ _ ST.out.one).mono ?_); rintro e w' ⟨rfl, hb⟩; replace ST := Lib.hid (ST.out.call hb); clear hb)
            | (go_at_call 7; (with_reducible refine (mawakeK_any _).mono ?_); rintro e w' ⟨rfl, hb⟩; replace ST := Lib.hid (ST.out.call hb); clear hb))
          all_goals (go_ret; exact ⟨rfl, ST.out.below⟩)
      case pos =>
        have e4 : (va % z == 0) = true := beq_iff_eq.2 hal
        have e5 : (va % z != 0) = false := by rw [hal]; rfl
        have TH := Lib.hid (fun X F (r : Ram X h1 base n mem F) => (Mem.has_any r va z hvo (by omega)).mono fun e w' h => And.intro h.1 (Mem.below_drawn h.2))
        cases hh : hasB base n va z with
        | false =>
          rw [hh] at TH
          clear HFit hfit hm hsz hq hp hw32 hL hva hz hw hk8 hvo hal hh TC
          as_aux_lemma =>
            go_wp2_with (first
              | ((with_reducible refine Step.gate_load (t := 30) rfl ?_); refine Step.loadG ST.out.kn.at1 rfl rfl rfl pl_pm rfl ?_)
              | ((with_reducible refine Step.gate_load (t := 27) rfl ?_); refine Step.loadMid ST.out.kn.at2 rfl rfl rfl row_cs Tryz.underlying27 rfl (size_hart _) ?_)
              | (go_at_call 6; (with_reducible refine (TF.out _ _ ST.out.one).mono ?_); rintro e w' ⟨rfl, hb⟩; replace ST := Lib.hid (ST.out.call hb); clear hb)
              | (go_at_call 8; (with_reducible refine (TP.out _).mono ?_); rintro e w' ⟨rfl, hb⟩; replace ST := Lib.hid (ST.out.call hb); clear hb)
              | ((with_reducible refine Step.gate_alloc (t := 45) rfl ?_); refine Step.freshAlloc rfl rfl (alloc_agg zero_acc) ?_; intro g3 w2 b hg hb; replace ST := Lib.hid (ST.out.made b hg hb); clear b hb hg)
              | ((with_reducible refine Step.gate_store (t := 45) rfl ?_); refine Step.storeAll (vs := #[.bool st, .bool sg, .int .i64 z, .int .i64 rg, .int .i64 ln, .int .u64 va, .int .u64 vl]) ST.out.kn.at0 rfl rfl rfl rfl rfl size_acc rfl rfl ?_; intro w3 nb m; replace ST := Lib.hid (ST.out.set (ST.out.kn.set0 nb m) m ⟨_, List.mem_of_getElem? (i := 0) rfl, rfl⟩ rfl); clear nb m)
              | ((with_reducible refine Step.gate_load (t := 22) rfl ?_); refine Step.loadG ST.out.kn.at0 rfl rfl rfl pl_u64 rfl ?_)
              | ((with_reducible refine Step.gate_load (t := 3) rfl ?_); refine Step.loadG ST.out.kn.at0 rfl rfl rfl pl_int rfl ?_)
              | ((with_reducible refine Step.gate_load (t := 30) rfl ?_); refine Step.loadG ST.out.kn.at2 rfl rfl rfl pl_pm rfl ?_)
              | (go_at_call 9; (with_reducible refine (TH.out _ _ ST.out.one).mono ?_); rintro e w' ⟨rfl, hb⟩; replace ST := Lib.hid (ST.out.call hb); clear hb)
              | (go_at_call 7; (with_reducible refine (mawakeK_any _).mono ?_); rintro e w' ⟨rfl, hb⟩; replace ST := Lib.hid (ST.out.call hb); clear hb))
            all_goals (go_ret; exact ⟨rfl, ST.out.below⟩)
        | true =>
          rw [hh] at TH
          subst hz
          have TR := Lib.hid (fun X F (r : Ram X h1 base n mem F) => (Mem.read_yes r va k hvo hw hh).mono fun e w' h => And.intro h.1 (Mem.below_drawn h.2))
          obtain ⟨n1, n2, b1, b2⟩ := hsz
          obtain ⟨hh1, hh2, hh3⟩ := of_decide_eq_true hh
          have hnum : U64 (num mem (va - base).toNat k) := by
            have hr := Mem.num_range (mem := mem) k (va - base).toNat fun i h1 h2 => hm i (by omega)
            have hp : (256 : Int) ^ k ≤ 18446744073709551616 := by
              rcases (show k = 1 ∨ k = 2 ∨ k = 4 ∨ k = 8 by omega) with rfl | rfl | rfl | rfl <;> decide
            exact ⟨by omega, by omega⟩
          have TN := Lib.hid (finish_any (offH h) hfit ⟨st, sg, k, rg, ln, va, vl⟩ hnum)
          have DD := Decode_any u hw32
          rcases plan_is hp with ⟨fn, rs2, imm, sg', nd, n1', k', hn, hn1, hw', hd, e⟩ | ⟨fn, rd, imm, sg', n1', n2', k', hn1, hn2, hw', hd, e⟩
          · injection e with a1 a2 a3 a4 a5 a6 a7
            have hkk : k = k' := by omega
            subst hkk a1 a2 a4 a7
            rw [hd] at DD
            have TS := Lib.hid (fun X gc tv (hk : Kor X gc h1 tv 0 base n mem F1) => by
              obtain ⟨_, bt, HF⟩ := fetches_of (gc := gc) (gm := h1) (tv := tv) (vmid := 0) hm ⟨b1, by omega⟩ (by omega) (offH h) rfl now u ln hq
              have hs := step_ld hk (offH h) hfit now rfl rfl HF fn rs2 imm sg hn hn1 hw (Lib.hid DD) va a6 hva hal hh hnum
              rw [← fin_ld (offH h) sg k ln va 0 _ nd hn hL] at hs
              exact hs)
            generalize num mem (va - base).toNat k = nv at *
            generalize fin (offH h) ⟨false, sg, k, nd, ln, va, 0⟩ nv = r1 at *
            clear HFit hfit hm n1 n2 b1 b2 hh1 hh2 hh3 hnum hq hp hw32 hL hva hw hk8 hvo hal hh DD hd hn hn1 hw' a3 a5 a6 TC
            generalize ((k : Nat) : Int) = z at *
            generalize ((nd : Nat) : Int) = rg at *
            replace TR : Hid (∀ X F, Ram X h1 base n mem F → Calls Tryz.prog 10 #[.pointer (some ⟨h1, 0, none⟩), .int .u64 va, .int .i64 z] X fun e w' => e = .returned (.tuple #[.int .u64 nv, .bool true]) ∧ Below X.heap.size X w') := TR
            replace TS : Hid (∀ X gc tv, Kor X gc h1 tv 0 base n mem F1 → Calls Tryz.prog 12 #[.pointer (some ⟨gc, 0, none⟩), .agg (hc (offH h)), .int .u64 now] X fun e w' => e = .returned (.tuple #[.agg (hc r1), .agg #[.int .i64 0, .int .i64 0, .int .u64 0, .int .u64 0, .bool false, .bool false]]) ∧ ∃ F', Kor w' gc h1 tv 0 base n mem F' ∧ Mod (fun k => k = gc ∨ F1 k) X w' ∧ ∀ k, F' k → F1 k ∨ X.heap.size ≤ k) := TS
            replace TN : Hid (∀ X, Calls Tryz.prog 13 #[.agg (hc (offH h)), .agg #[.bool false, .bool sg, .int .i64 z, .int .i64 rg, .int .i64 ln, .int .u64 va, .int .u64 0], .int .u64 nv] X fun e w' => e = .returned (.agg (hc r1)) ∧ Below X.heap.size X w') := TN
            as_aux_lemma =>
              go_wp2_with (first
                | ((with_reducible refine Step.gate_load (t := 30) rfl ?_); refine Step.loadG ST.out.kn.at1 rfl rfl rfl pl_pm rfl ?_)
                | ((with_reducible refine Step.gate_load (t := 27) rfl ?_); refine Step.loadMid ST.out.kn.at2 rfl rfl rfl row_cs Tryz.underlying27 rfl (size_hart _) ?_)
                | (go_at_call 6; (with_reducible refine (TF.out _ _ ST.out.one).mono ?_); rintro e w' ⟨rfl, hb⟩; replace ST := Lib.hid (ST.out.call hb); clear hb)
                | (go_at_call 8; (with_reducible refine (TP.out _).mono ?_); rintro e w' ⟨rfl, hb⟩; replace ST := Lib.hid (ST.out.call hb); clear hb)
                | ((with_reducible refine Step.gate_alloc (t := 45) rfl ?_); refine Step.freshAlloc rfl rfl (alloc_agg zero_acc) ?_; intro g3 w2 b hg hb; replace ST := Lib.hid (ST.out.made b hg hb); clear b hb hg)
                | ((with_reducible refine Step.gate_store (t := 45) rfl ?_); refine Step.storeAll (vs := #[.bool false, .bool sg, .int .i64 z, .int .i64 rg, .int .i64 ln, .int .u64 va, .int .u64 0]) ST.out.kn.at0 rfl rfl rfl rfl rfl size_acc rfl rfl ?_; intro w3 nb m; replace ST := Lib.hid (ST.out.set (ST.out.kn.set0 nb m) m ⟨_, List.mem_of_getElem? (i := 0) rfl, rfl⟩ rfl); clear nb m)
                | ((with_reducible refine Step.gate_load (t := 22) rfl ?_); refine Step.loadG ST.out.kn.at0 rfl rfl rfl pl_u64 rfl ?_)
                | ((with_reducible refine Step.gate_load (t := 3) rfl ?_); refine Step.loadG ST.out.kn.at0 rfl rfl rfl pl_int rfl ?_)
                | ((with_reducible refine Step.gate_load (t := 30) rfl ?_); refine Step.loadG ST.out.kn.at2 rfl rfl rfl pl_pm rfl ?_)
                | (go_at_call 9; (with_reducible refine (TH.out _ _ ST.out.one).mono ?_); rintro e w' ⟨rfl, hb⟩; replace ST := Lib.hid (ST.out.call hb); clear hb)
                | (go_at_call 10; (first | (with_reducible refine (TR.out _ _ ST.out.one).mono ?_) | (with_reducible refine (TR2.out _ _ ST.out.one).mono ?_)); rintro e w' ⟨rfl, hb⟩; replace ST := Lib.hid (ST.out.call hb); clear hb)
                | (go_at_call 11; (with_reducible refine (core_new _ _ _).mono ?_); rintro e w' ⟨gc, rfl, hg, b, hb⟩; replace ST := Lib.hid (ST.out.made b hg hb); clear hg b hb)
                | ((with_reducible refine Step.gate_load (t := 27) rfl ?_); refine Step.loadMid ST.out.kn.at4 rfl rfl rfl row_cs Tryz.underlying27 rfl (size_hart _) ?_)
                | (go_at_call 12; (with_reducible refine (TS.out _ _ _ (ST.out.core (done := 0) (st := 0))).mono ?_); rintro e w10 ⟨rfl, F3, hk, m, hF⟩; replace ST := Lib.hid (ST.out.step hk m hF); clear hk m hF)
                | ((with_reducible refine Step.gate_alloc (t := 27) rfl ?_); refine Step.freshAlloc rfl rfl (alloc_agg zero_hart) ?_; intro g6 w2 b hg hb; replace ST := Lib.hid (ST.out.made b hg hb); clear b hb hg)
                | ((with_reducible refine Step.gate_alloc (t := 54) rfl ?_); refine Step.freshAlloc rfl rfl (alloc_agg zero_ev) ?_; intro g7 w2 b hg hb; replace ST := Lib.hid (ST.out.made b hg hb); clear b hb hg)
                | ((with_reducible refine Step.gate_store (t := 27) rfl ?_); refine Step.storeAll ST.out.kn.at1 rfl rfl rfl rfl rfl (size_hart _) rfl (hc_all _) ?_; intro w3 nb m; replace ST := Lib.hid (ST.out.set (ST.out.kn.set1 nb m) m ⟨_, List.mem_of_getElem? (i := 1) rfl, rfl⟩ rfl); clear nb m)
                | ((with_reducible refine Step.gate_store (t := 54) rfl ?_); refine Step.storeAll (vs := #[.int .i64 0, .int .i64 0, .int .u64 0, .int .u64 0, .bool false, .bool false]) ST.out.kn.at0 rfl rfl rfl rfl rfl size_ev rfl rfl ?_; intro w3 nb m; replace ST := Lib.hid (ST.out.set (ST.out.kn.set0 nb m) m ⟨_, List.mem_of_getElem? (i := 0) rfl, rfl⟩ rfl); clear nb m)
                | ((with_reducible refine Step.gate_load (t := 30) rfl ?_); refine Step.loadG ST.out.kn.at4 rfl rfl rfl pl_pm rfl ?_)
                | ((with_reducible refine Step.gate_load (t := 22) rfl ?_); refine Step.loadG ST.out.kn.at2 rfl rfl rfl pl_u64 rfl ?_)
                | ((with_reducible refine Step.gate_load (t := 3) rfl ?_); refine Step.loadG ST.out.kn.at2 rfl rfl rfl pl_int rfl ?_)
                | ((with_reducible refine Step.gate_load (t := 4) rfl ?_); refine Step.loadG ST.out.kn.at2 rfl rfl rfl pl_bool rfl ?_)
                | ((with_reducible refine Sq.region (id := 22) (I := fun X => Kn _ _ X _) ?hm1 23 ST.out.kn.drew ?hp1 ?hs1); (case hm1 => rfl); (case hp1 => kernel_rfl); intro ops K hops hK; dsimp only [List.take]; (repeat (first | (refine Sq.seq_move rfl rfl ?_; simp only [Act.put, Act.eval, Array.getD_eq_getD_getElem?, List.getElem?_toArray, List.getElem?_cons_zero, List.getElem?_cons_succ, Option.getD_some, List.setIfInBounds_toArray, List.set_cons_zero, List.set_cons_succ]) | (refine Sq.seq_check rfl rfl rfl ?_; simp only [Act.put, Act.eval, Array.getD_eq_getD_getElem?, List.getElem?_toArray, List.getElem?_cons_zero, List.getElem?_cons_succ, Option.getD_some, List.setIfInBounds_toArray, List.set_cons_zero, List.set_cons_succ]) | (refine Sq.seq_load (t := 3) (fun X hX => hX.at0) (by rw [hops]; rfl) rfl rfl pl_int rfl ?_; simp only [Act.put, Act.eval, Array.getD_eq_getD_getElem?, List.getElem?_toArray, List.getElem?_cons_zero, List.getElem?_cons_succ, Option.getD_some, List.setIfInBounds_toArray, List.set_cons_zero, List.set_cons_succ]) | (refine Sq.seq_load (t := 4) (fun X hX => hX.at0) (by rw [hops]; rfl) rfl rfl pl_bool rfl ?_; simp only [Act.put, Act.eval, Array.getD_eq_getD_getElem?, List.getElem?_toArray, List.getElem?_cons_zero, List.getElem?_cons_succ, Option.getD_some, List.setIfInBounds_toArray, List.set_cons_zero, List.set_cons_succ]) | (refine Sq.seq_load (t := 4) (fun X hX => hX.at2) (by rw [hops]; rfl) rfl rfl pl_bool rfl ?_; simp only [Act.put, Act.eval, Array.getD_eq_getD_getElem?, List.getElem?_toArray, List.getElem?_cons_zero, List.getElem?_cons_succ, Option.getD_some, List.setIfInBounds_toArray, List.set_cons_zero, List.set_cons_succ]) | (refine Sq.seq_row (t := 27) (fun X hX => hX.at1) (by rw [hops]; rfl) rfl rfl (row_hc _) Tryz.underlying27 rfl (size_hart _) ?_; simp only [Act.put, Act.eval, Array.getD_eq_getD_getElem?, List.getElem?_toArray, List.getElem?_cons_zero, List.getElem?_cons_succ, Option.getD_some, List.setIfInBounds_toArray, List.set_cons_zero, List.set_cons_succ]) | (refine Sq.seq_row (t := 27) (fun X hX => hX.at5) (by rw [hops]; rfl) rfl rfl row_cs Tryz.underlying27 rfl (size_hart _) ?_; simp only [Act.put, Act.eval, Array.getD_eq_getD_getElem?, List.getElem?_toArray, List.getElem?_cons_zero, List.getElem?_cons_succ, Option.getD_some, List.setIfInBounds_toArray, List.set_cons_zero, List.set_cons_succ]) | (refine Sq.seq_row (t := 45) (fun X hX => hX.at2) (by rw [hops]; rfl) rfl rfl (Sq.row_all _) Tryz.underlying45 rfl size_acc ?_; simp only [Act.put, Act.eval, Array.getD_eq_getD_getElem?, List.getElem?_toArray, List.getElem?_cons_zero, List.getElem?_cons_succ, Option.getD_some, List.setIfInBounds_toArray, List.set_cons_zero, List.set_cons_succ]) | (refine Sq.seq_call 13 rfl (by rw [hops]; rfl) (fun X => ?_) (fun X hX => (TN.out X).mono fun e w' h => ⟨h.1, hX.call h.2⟩) ?_; (focus (first | (go_simp; done) | (go_simp; rfl))); simp only [Act.put, Act.eval, Array.getD_eq_getD_getElem?, List.getElem?_toArray, List.getElem?_cons_zero, List.getElem?_cons_succ, Option.getD_some, List.setIfInBounds_toArray, List.set_cons_zero, List.set_cons_succ]) | (refine Sq.seq_call 7 rfl (by rw [hops]; rfl) (fun X => ?_) (fun X hX => (mawakeK_any X).mono fun e w' h => ⟨h.1, hX.call h.2⟩) ?_; (focus (first | (go_simp; done) | (go_simp; rfl))); simp only [Act.put, Act.eval, Array.getD_eq_getD_getElem?, List.getElem?_toArray, List.getElem?_cons_zero, List.getElem?_cons_succ, Option.getD_some, List.setIfInBounds_toArray, List.set_cons_zero, List.set_cons_succ]) | (refine Sq.seq_val (v := .bool true) (by rw [hops]; rfl) (fun X _ => eql_hart (h := r1) rfl rfl rfl X) ?_; simp only [Act.put, Act.eval, Array.getD_eq_getD_getElem?, List.getElem?_toArray, List.getElem?_cons_zero, List.getElem?_cons_succ, Option.getD_some, List.setIfInBounds_toArray, List.set_cons_zero, List.set_cons_succ]) | (refine' Sq.seq_pure_g (by rw [hops]; rfl) (fun X => _) _; rotate_left; (first | (go_simp; done) | (go_simp; rfl)); simp only [Act.put, Act.eval, Array.getD_eq_getD_getElem?, List.getElem?_toArray, List.getElem?_cons_zero, List.getElem?_cons_succ, Option.getD_some, List.setIfInBounds_toArray, List.set_cons_zero, List.set_cons_succ]) | (refine Sq.seq_not (by rw [hops]; rfl) ?_; simp only [Act.put, Act.eval, Array.getD_eq_getD_getElem?, List.getElem?_toArray, List.getElem?_cons_zero, List.getElem?_cons_succ, Option.getD_some, List.setIfInBounds_toArray, List.set_cons_zero, List.set_cons_succ]) | (refine' Sq.seq_pure rfl (fun X => _) _; rotate_left; (first | (go_simp; done) | (go_simp; rfl)); simp only [Act.put, Act.eval, Array.getD_eq_getD_getElem?, List.getElem?_toArray, List.getElem?_cons_zero, List.getElem?_cons_succ, Option.getD_some, List.setIfInBounds_toArray, List.set_cons_zero, List.set_cons_succ]))); refine Sq.seq_nil ?_; clear hops; refine hK.out _ fun w1 hk => ?_; clear hK; replace ST := Lib.hid hk; clear hk; dsimp only [List.drop]))
              all_goals (go_ret; exact ⟨rfl, ST.out.below⟩)
          · injection e with a1 a2 a3 a4 a5 a6 a7
            have hkk : k = k' := by omega
            subst hkk a1 a2 a4 a7
            rw [hd] at DD
            have hx := (ord_fit hfit).x n2' hn2
            have TR2 := Lib.hid (fun X F (r : Ram X h1 base n (wr mem (va - base).toNat k ((ord (offH h)).x n2')) F) => (Mem.read_yes r va k hvo hw hh).mono fun e w' h => And.intro h.1 (Mem.below_drawn h.2))
            rw [num_stored mem (va - base).toNat k hx hw] at TR2
            have TS := Lib.hid (fun X gc tv (hk : Kor X gc h1 tv 0 base n mem F1) => by
              obtain ⟨_, bt, HF⟩ := fetches_of (gc := gc) (gm := h1) (tv := tv) (vmid := 0) hm ⟨b1, by omega⟩ (by omega) (offH h) rfl now u ln hq
              have hs := step_st hk (offH h) hfit now rfl rfl HF fn rd imm sg' hn1 hn2 hw (Lib.hid DD) va a6 hva hal hh
              rw [← fin_st (offH h) false k 0 ln va (extV ((ord (offH h)).x n2') k false) (num mem (va - base).toNat k) hL] at hs
              exact hs)
            generalize num mem (va - base).toNat k = nv at *
            generalize extV ((ord (offH h)).x n2') k false = vl at *
            generalize wr mem (va - base).toNat k ((ord (offH h)).x n2') = mem2 at *
            generalize fin (offH h) ⟨true, false, k, 0, ln, va, vl⟩ nv = r1 at *
            clear HFit hfit hm n1 n2 b1 b2 hh1 hh2 hh3 hnum hq hp hw32 hL hva hw hk8 hvo hal hh DD hd hn1 hn2 hw' a3 a5 a6 hx TC
            generalize ((k : Nat) : Int) = z at *
            replace TR : Hid (∀ X F, Ram X h1 base n mem F → Calls Tryz.prog 10 #[.pointer (some ⟨h1, 0, none⟩), .int .u64 va, .int .i64 z] X fun e w' => e = .returned (.tuple #[.int .u64 nv, .bool true]) ∧ Below X.heap.size X w') := TR
            replace TR2 : Hid (∀ X F, Ram X h1 base n mem2 F → Calls Tryz.prog 10 #[.pointer (some ⟨h1, 0, none⟩), .int .u64 va, .int .i64 z] X fun e w' => e = .returned (.tuple #[.int .u64 vl, .bool true]) ∧ Below X.heap.size X w') := TR2
            replace TS : Hid (∀ X gc tv, Kor X gc h1 tv 0 base n mem F1 → Calls Tryz.prog 12 #[.pointer (some ⟨gc, 0, none⟩), .agg (hc (offH h)), .int .u64 now] X fun e w' => e = .returned (.tuple #[.agg (hc r1), .agg #[.int .i64 0, .int .i64 0, .int .u64 0, .int .u64 va, .bool false, .bool true]]) ∧ ∃ F', Kor w' gc h1 tv 0 base n mem2 F' ∧ Mod (fun k => k = gc ∨ F1 k) X w' ∧ ∀ k, F' k → F1 k ∨ X.heap.size ≤ k) := TS
            replace TN : Hid (∀ X, Calls Tryz.prog 13 #[.agg (hc (offH h)), .agg #[.bool true, .bool false, .int .i64 z, .int .i64 0, .int .i64 ln, .int .u64 va, .int .u64 vl], .int .u64 nv] X fun e w' => e = .returned (.agg (hc r1)) ∧ Below X.heap.size X w') := TN
            as_aux_lemma =>
              go_wp2_with (first
                | ((with_reducible refine Step.gate_load (t := 30) rfl ?_); refine Step.loadG ST.out.kn.at1 rfl rfl rfl pl_pm rfl ?_)
                | ((with_reducible refine Step.gate_load (t := 27) rfl ?_); refine Step.loadMid ST.out.kn.at2 rfl rfl rfl row_cs Tryz.underlying27 rfl (size_hart _) ?_)
                | (go_at_call 6; (with_reducible refine (TF.out _ _ ST.out.one).mono ?_); rintro e w' ⟨rfl, hb⟩; replace ST := Lib.hid (ST.out.call hb); clear hb)
                | (go_at_call 8; (with_reducible refine (TP.out _).mono ?_); rintro e w' ⟨rfl, hb⟩; replace ST := Lib.hid (ST.out.call hb); clear hb)
                | ((with_reducible refine Step.gate_alloc (t := 45) rfl ?_); refine Step.freshAlloc rfl rfl (alloc_agg zero_acc) ?_; intro g3 w2 b hg hb; replace ST := Lib.hid (ST.out.made b hg hb); clear b hb hg)
                | ((with_reducible refine Step.gate_store (t := 45) rfl ?_); refine Step.storeAll (vs := #[.bool true, .bool false, .int .i64 z, .int .i64 0, .int .i64 ln, .int .u64 va, .int .u64 vl]) ST.out.kn.at0 rfl rfl rfl rfl rfl size_acc rfl rfl ?_; intro w3 nb m; replace ST := Lib.hid (ST.out.set (ST.out.kn.set0 nb m) m ⟨_, List.mem_of_getElem? (i := 0) rfl, rfl⟩ rfl); clear nb m)
                | ((with_reducible refine Step.gate_load (t := 22) rfl ?_); refine Step.loadG ST.out.kn.at0 rfl rfl rfl pl_u64 rfl ?_)
                | ((with_reducible refine Step.gate_load (t := 3) rfl ?_); refine Step.loadG ST.out.kn.at0 rfl rfl rfl pl_int rfl ?_)
                | ((with_reducible refine Step.gate_load (t := 30) rfl ?_); refine Step.loadG ST.out.kn.at2 rfl rfl rfl pl_pm rfl ?_)
                | (go_at_call 9; (with_reducible refine (TH.out _ _ ST.out.one).mono ?_); rintro e w' ⟨rfl, hb⟩; replace ST := Lib.hid (ST.out.call hb); clear hb)
                | (go_at_call 10; (first | (with_reducible refine (TR.out _ _ ST.out.one).mono ?_) | (with_reducible refine (TR2.out _ _ ST.out.one).mono ?_)); rintro e w' ⟨rfl, hb⟩; replace ST := Lib.hid (ST.out.call hb); clear hb)
                | (go_at_call 11; (with_reducible refine (core_new _ _ _).mono ?_); rintro e w' ⟨gc, rfl, hg, b, hb⟩; replace ST := Lib.hid (ST.out.made b hg hb); clear hg b hb)
                | ((with_reducible refine Step.gate_load (t := 27) rfl ?_); refine Step.loadMid ST.out.kn.at4 rfl rfl rfl row_cs Tryz.underlying27 rfl (size_hart _) ?_)
                | (go_at_call 12; (with_reducible refine (TS.out _ _ _ (ST.out.core (done := 0) (st := 0))).mono ?_); rintro e w10 ⟨rfl, F3, hk, m, hF⟩; replace ST := Lib.hid (ST.out.step hk m hF); clear hk m hF)
                | ((with_reducible refine Step.gate_alloc (t := 27) rfl ?_); refine Step.freshAlloc rfl rfl (alloc_agg zero_hart) ?_; intro g6 w2 b hg hb; replace ST := Lib.hid (ST.out.made b hg hb); clear b hb hg)
                | ((with_reducible refine Step.gate_alloc (t := 54) rfl ?_); refine Step.freshAlloc rfl rfl (alloc_agg zero_ev) ?_; intro g7 w2 b hg hb; replace ST := Lib.hid (ST.out.made b hg hb); clear b hb hg)
                | ((with_reducible refine Step.gate_store (t := 27) rfl ?_); refine Step.storeAll ST.out.kn.at1 rfl rfl rfl rfl rfl (size_hart _) rfl (hc_all _) ?_; intro w3 nb m; replace ST := Lib.hid (ST.out.set (ST.out.kn.set1 nb m) m ⟨_, List.mem_of_getElem? (i := 1) rfl, rfl⟩ rfl); clear nb m)
                | ((with_reducible refine Step.gate_store (t := 54) rfl ?_); refine Step.storeAll (vs := #[.int .i64 0, .int .i64 0, .int .u64 0, .int .u64 va, .bool false, .bool true]) ST.out.kn.at0 rfl rfl rfl rfl rfl size_ev rfl rfl ?_; intro w3 nb m; replace ST := Lib.hid (ST.out.set (ST.out.kn.set0 nb m) m ⟨_, List.mem_of_getElem? (i := 0) rfl, rfl⟩ rfl); clear nb m)
                | ((with_reducible refine Step.gate_load (t := 30) rfl ?_); refine Step.loadG ST.out.kn.at4 rfl rfl rfl pl_pm rfl ?_)
                | ((with_reducible refine Step.gate_load (t := 22) rfl ?_); refine Step.loadG ST.out.kn.at2 rfl rfl rfl pl_u64 rfl ?_)
                | ((with_reducible refine Step.gate_load (t := 3) rfl ?_); refine Step.loadG ST.out.kn.at2 rfl rfl rfl pl_int rfl ?_)
                | ((with_reducible refine Step.gate_load (t := 4) rfl ?_); refine Step.loadG ST.out.kn.at2 rfl rfl rfl pl_bool rfl ?_)
                | ((with_reducible refine Sq.region (id := 22) (I := fun X => Kn _ _ X _) ?hm2 23 ST.out.kn.drew ?hp2 ?hs2); (case hm2 => rfl); (case hp2 => kernel_rfl); intro ops K hops hK; dsimp only [List.take]; (repeat (first | (refine Sq.seq_move rfl rfl ?_; simp only [Act.put, Act.eval, Array.getD_eq_getD_getElem?, List.getElem?_toArray, List.getElem?_cons_zero, List.getElem?_cons_succ, Option.getD_some, List.setIfInBounds_toArray, List.set_cons_zero, List.set_cons_succ]) | (refine Sq.seq_check rfl rfl rfl ?_; simp only [Act.put, Act.eval, Array.getD_eq_getD_getElem?, List.getElem?_toArray, List.getElem?_cons_zero, List.getElem?_cons_succ, Option.getD_some, List.setIfInBounds_toArray, List.set_cons_zero, List.set_cons_succ]) | (refine Sq.seq_load (t := 3) (fun X hX => hX.at0) (by rw [hops]; rfl) rfl rfl pl_int rfl ?_; simp only [Act.put, Act.eval, Array.getD_eq_getD_getElem?, List.getElem?_toArray, List.getElem?_cons_zero, List.getElem?_cons_succ, Option.getD_some, List.setIfInBounds_toArray, List.set_cons_zero, List.set_cons_succ]) | (refine Sq.seq_load (t := 4) (fun X hX => hX.at0) (by rw [hops]; rfl) rfl rfl pl_bool rfl ?_; simp only [Act.put, Act.eval, Array.getD_eq_getD_getElem?, List.getElem?_toArray, List.getElem?_cons_zero, List.getElem?_cons_succ, Option.getD_some, List.setIfInBounds_toArray, List.set_cons_zero, List.set_cons_succ]) | (refine Sq.seq_load (t := 4) (fun X hX => hX.at2) (by rw [hops]; rfl) rfl rfl pl_bool rfl ?_; simp only [Act.put, Act.eval, Array.getD_eq_getD_getElem?, List.getElem?_toArray, List.getElem?_cons_zero, List.getElem?_cons_succ, Option.getD_some, List.setIfInBounds_toArray, List.set_cons_zero, List.set_cons_succ]) | (refine Sq.seq_row (t := 27) (fun X hX => hX.at1) (by rw [hops]; rfl) rfl rfl (row_hc _) Tryz.underlying27 rfl (size_hart _) ?_; simp only [Act.put, Act.eval, Array.getD_eq_getD_getElem?, List.getElem?_toArray, List.getElem?_cons_zero, List.getElem?_cons_succ, Option.getD_some, List.setIfInBounds_toArray, List.set_cons_zero, List.set_cons_succ]) | (refine Sq.seq_row (t := 27) (fun X hX => hX.at5) (by rw [hops]; rfl) rfl rfl row_cs Tryz.underlying27 rfl (size_hart _) ?_; simp only [Act.put, Act.eval, Array.getD_eq_getD_getElem?, List.getElem?_toArray, List.getElem?_cons_zero, List.getElem?_cons_succ, Option.getD_some, List.setIfInBounds_toArray, List.set_cons_zero, List.set_cons_succ]) | (refine Sq.seq_row (t := 45) (fun X hX => hX.at2) (by rw [hops]; rfl) rfl rfl (Sq.row_all _) Tryz.underlying45 rfl size_acc ?_; simp only [Act.put, Act.eval, Array.getD_eq_getD_getElem?, List.getElem?_toArray, List.getElem?_cons_zero, List.getElem?_cons_succ, Option.getD_some, List.setIfInBounds_toArray, List.set_cons_zero, List.set_cons_succ]) | (refine Sq.seq_call 13 rfl (by rw [hops]; rfl) (fun X => ?_) (fun X hX => (TN.out X).mono fun e w' h => ⟨h.1, hX.call h.2⟩) ?_; (focus (first | (go_simp; done) | (go_simp; rfl))); simp only [Act.put, Act.eval, Array.getD_eq_getD_getElem?, List.getElem?_toArray, List.getElem?_cons_zero, List.getElem?_cons_succ, Option.getD_some, List.setIfInBounds_toArray, List.set_cons_zero, List.set_cons_succ]) | (refine Sq.seq_call 7 rfl (by rw [hops]; rfl) (fun X => ?_) (fun X hX => (mawakeK_any X).mono fun e w' h => ⟨h.1, hX.call h.2⟩) ?_; (focus (first | (go_simp; done) | (go_simp; rfl))); simp only [Act.put, Act.eval, Array.getD_eq_getD_getElem?, List.getElem?_toArray, List.getElem?_cons_zero, List.getElem?_cons_succ, Option.getD_some, List.setIfInBounds_toArray, List.set_cons_zero, List.set_cons_succ]) | (refine Sq.seq_val (v := .bool true) (by rw [hops]; rfl) (fun X _ => eql_hart (h := r1) rfl rfl rfl X) ?_; simp only [Act.put, Act.eval, Array.getD_eq_getD_getElem?, List.getElem?_toArray, List.getElem?_cons_zero, List.getElem?_cons_succ, Option.getD_some, List.setIfInBounds_toArray, List.set_cons_zero, List.set_cons_succ]) | (refine' Sq.seq_pure_g (by rw [hops]; rfl) (fun X => _) _; rotate_left; (first | (go_simp; done) | (go_simp; rfl)); simp only [Act.put, Act.eval, Array.getD_eq_getD_getElem?, List.getElem?_toArray, List.getElem?_cons_zero, List.getElem?_cons_succ, Option.getD_some, List.setIfInBounds_toArray, List.set_cons_zero, List.set_cons_succ]) | (refine Sq.seq_not (by rw [hops]; rfl) ?_; simp only [Act.put, Act.eval, Array.getD_eq_getD_getElem?, List.getElem?_toArray, List.getElem?_cons_zero, List.getElem?_cons_succ, Option.getD_some, List.setIfInBounds_toArray, List.set_cons_zero, List.set_cons_succ]) | (refine' Sq.seq_pure rfl (fun X => _) _; rotate_left; (first | (go_simp; done) | (go_simp; rfl)); simp only [Act.put, Act.eval, Array.getD_eq_getD_getElem?, List.getElem?_toArray, List.getElem?_cons_zero, List.getElem?_cons_succ, Option.getD_some, List.setIfInBounds_toArray, List.set_cons_zero, List.set_cons_succ]))); refine Sq.seq_nil ?_; clear hops; refine hK.out _ fun w1 hk => ?_; clear hK; replace ST := Lib.hid hk; clear hk; dsimp only [List.drop]))
              all_goals (go_ret; exact ⟨rfl, ST.out.below⟩)
theorem loads_row (k : C15) (now : Int) (W : World) (q : k.Ok W) (_ : (Lit.int .u64 now).wf = true) : Calls Tryz.prog 3 #[.agg k.cells, .int .u64 now] W fun e w' => e = .returned (.bool true) ∧ Below W.heap.size W w' := loads_any W k q now
end Go.Proofs.YtidiojhefjhojaaGreat.Hart
end
