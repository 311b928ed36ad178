/- Parts of the walks and laws for the claim: UseB, LawA, UseC, AluW, LawF; no conditions beyond the theorems' own. -/
import Derived.Test.YthkodjkkcgdmfaaGreatT4
import Derived.Test.YthkodjkkcgdmfaaGreatT24
section
namespace Go.Proofs.YthkodjkkcgdmfaaGreat.Hart
open Go Go.RowKit Go.Proofs.YthkodjkkcgdmfaaGreat.Step Go.Proofs.YthkodjkkcgdmfaaGreat.Enc Go.Proofs.YthkodjkkcgdmfaaGreat.Kn
open Go.Proofs.YthkodjkkcgdmfaaGreat.Mem (Ram Grow hasB newB wholeB num wr Rd fl Arg lst)
open Go.Proofs.YthkodjkkcgdmfaaGreat.Duo (Duo RdC cm size_two)
set_option linter.unusedVariables false
set_option linter.unusedSimpArgs false
set_option maxRecDepth 100000
section
variable {W w w' : World} {h1 h2 n g : Nat} {base : Int} {m1 m2 m1' : Nat → Int} {F1 F2 F1' : Nat → Prop} {L : Blks} {c : Array Value} {T : TypeId} {tv km : Value} {vmid : Int} {p q : Nat × Array Value × TypeId}
theorem DK.swap (d : DK W w h1 h2 base n m1 m2 F1 F2 (p :: q :: L)) : DK W w h1 h2 base n m1 m2 F1 F2 (q :: p :: L) := by
  have hm : ∀ r, r ∈ q :: p :: L → r ∈ p :: q :: L := fun r h => by
    rcases List.mem_cons.1 h with h | h
    · exact List.mem_cons_of_mem _ (h ▸ List.mem_cons_self ..)
    · rcases List.mem_cons.1 h with h | h
      · exact h ▸ List.mem_cons_self ..
      · exact List.mem_cons_of_mem _ (List.mem_cons_of_mem _ h)
  have h1 := List.pairwise_cons.1 d.kn.nod
  have h2 := List.pairwise_cons.1 h1.2
  refine ⟨d.one, d.two, d.apart, d.new, ⟨d.kn.mod, fun r h => d.kn.blk r (hm r h), fun r h => d.kn.own r (hm r h), List.pairwise_cons.2 ⟨fun r hr => ?_, List.pairwise_cons.2 ⟨fun r hr => h1.1 r (List.mem_cons_of_mem _ hr), h2.2⟩⟩⟩, fun k hk r h => d.ap k hk r (hm r h)⟩
  rcases List.mem_cons.1 hr with rfl | hr
  · exact (h1.1 q (List.mem_cons_self ..)).symm
  · exact h2.1 r hr
theorem DK.core1 (d : DK W w h1 h2 base n m1 m2 F1 F2 (p :: (g, ccg h1 tv 0 vmid 0 0 km, TC) :: L)) : Kor w g h1 tv vmid base n m1 F1 := d.drop.core (done := 0) (st := 0)
theorem DK.step1 (d : DK W w h1 h2 base n m1 m2 F1 F2 (p :: (g, c, T) :: L)) (hk : Kor w' g h1 tv vmid base n m1' F1') (m : Mod (fun k => k = g ∨ F1 k) w w') (hF : ∀ k, F1' k → F1 k ∨ w.heap.size ≤ k) : DK W w' h1 h2 base n m1' m2 F1' F2 (p :: L) := d.swap.step hk m hF
theorem same_dk (d : DK W w h1 h2 base n m1 m1 F1 F2 L) : Calls Tryz.prog 26 #[.agg #[.pointer (some ⟨h1, 0, none⟩), .pointer (some ⟨h2, 0, none⟩)]] w fun e w' => e = .returned (.bool true) ∧ Below w.heap.size w w' := Ref.same_two d.one d.two
end
/-- A calm hart. -/
def calmH (h : Hrt) : Hrt := { h with pc := 2147483648, user := false, sie := 0, satp := 0, x := xup h.x 0 0, sepc := h.sepc / 2 * 2, stvec := h.stvec / 4 * 4, sip := msk h.sip }
theorem calm_fit {h : Hrt} (hf : Fit h) : Fit (calmH h) := by
  have z : U64 0 := ⟨by decide, by decide⟩
  refine ⟨fun i hi => ?_, (⟨by decide, by decide⟩ : U64 2147483648), ?_, hf.sscr, ?_, hf.scause, hf.stval, z, msk_w _, z, hf.resv⟩
  · show U64 (xup h.x 0 0 i)
    unfold xup
    split
    · exact z
    · exact hf.x i hi
  · exact ⟨by have := hf.stvec.out; show 0 ≤ h.stvec / 4 * 4 ∧ h.stvec / 4 * 4 < 18446744073709551616; omega⟩
  · exact ⟨by have := hf.sepc.out; show 0 ≤ h.sepc / 2 * 2 ∧ h.sepc / 2 * 2 < 18446744073709551616; omega⟩
set_option maxHeartbeats 4000000 in
theorem calm_any (h : Hrt) (hf : Fit h) (w : World) : Calls Tryz.prog 24 #[.agg (hc h)] w fun e w' => e = .returned (.agg (hc (calmH h))) ∧ Below w.heap.size w w' := by
  have p2 := hf.sepc.out
  have p3 := hf.stvec.out
  have e5 : bits .and .u64 h.sip 546 = msk h.sip := rfl
  have q2 : IntKind.u64.wrap (h.sepc / 2 * 2) = h.sepc / 2 * 2 := IntWalk.u64_in _ (by omega)
  have q3 : IntKind.u64.wrap (h.stvec / 4 * 4) = h.stvec / 4 * 4 := IntWalk.u64_in _ (by omega)
  clear hf
  unfold calmH
  go_enter Tryz.func24, Tryz.ntmps24
  have ST := Lib.hid (Kn.nil (S := Step.Nil) (W := w))
  go_wp2_with (first
    | ((with_reducible refine Step.gate_box (t := 25) rfl ?_); refine Step.fresh (cs := hc h) (T := 25) rfl ?hr ?_; (case hr => first | (go_simp; done) | (go_simp; rfl)); intro g3 w1 b hg hb; replace ST := Lib.hid (ST.out.made b hg hb); clear b hb; clear hg)
    | ((with_reducible refine Step.gate_alloc (t := 25) rfl ?_); refine Step.freshAlloc rfl rfl (alloc_agg zero_hart) ?_; intro g6 w2 b hg hb; replace ST := Lib.hid (ST.out.made b hg hb); clear b hb; clear hg)
    | ((with_reducible refine Step.gate_store (t := 25) rfl ?_); refine Step.storeAll ST.out.at0 rfl rfl rfl rfl rfl (size_hart _) rfl (hc_all _) ?_; intro w3 nb m; replace ST := Lib.hid (ST.out.set0 nb m); clear nb m)
    | ((with_reducible refine Step.gate_load (t := 25) rfl ?_); refine Step.loadAll ST.out.at0 rfl rfl rfl Tryz.underlying25 rfl (size_hart _) ?_)
    | ((with_reducible refine Step.gate_store (t := 25) rfl ?_); refine Step.storeAll ST.out.at1 rfl rfl rfl rfl rfl (size_hart _) rfl (hc_all _) ?_; intro w3 nb m; replace ST := Lib.hid (ST.out.set1 nb m); clear nb m)
    | ((with_reducible refine Step.gate_load (t := 25) rfl ?_); refine Step.loadAll ST.out.at1 rfl rfl rfl Tryz.underlying25 rfl (size_hart _) ?_)
    | ((with_reducible refine Step.gate_store (t := 22) rfl ?_); refine Step.store ST.out.at1 rfl rfl rfl rfl rfl pl_u64 rfl rfl ?_; intro w3 nb m; simp [go_sem, set_x0, set_pc, set_user, set_on, set_spie, set_spp, set_sum, set_mxr, set_rsv, set_stvec, set_sscr, set_sepc, set_scause, set_stval, set_sie, set_sip, set_satp, set_resv] at nb; replace ST := Lib.hid (ST.out.set1 nb m); clear nb m)
    | ((with_reducible refine Step.gate_store (t := 4) rfl ?_); refine Step.store ST.out.at1 rfl rfl rfl rfl rfl pl_bool rfl rfl ?_; intro w3 nb m; simp [go_sem, set_x0, set_pc, set_user, set_on, set_spie, set_spp, set_sum, set_mxr, set_rsv, set_stvec, set_sscr, set_sepc, set_scause, set_stval, set_sie, set_sip, set_satp, set_resv] at nb; replace ST := Lib.hid (ST.out.set1 nb m); clear nb m)
    | ((with_reducible refine Step.gate_load (t := 22) rfl ?_); refine Step.load ST.out.at1 rfl rfl rfl pl_u64 (hv_ok _ (by decide)) ?_; simp only [hv_x0, hv_pc, hv_user, hv_on, hv_spie, hv_spp, hv_sum, hv_mxr, hv_rsv, hv_stvec, hv_sscr, hv_sepc, hv_scause, hv_stval, hv_sie, hv_sip, hv_satp, hv_resv])
    | ((with_reducible refine Step.gate_load (t := 4) rfl ?_); refine Step.load ST.out.at1 rfl rfl rfl pl_bool (hv_ok _ (by decide)) ?_; simp only [hv_x0, hv_pc, hv_user, hv_on, hv_spie, hv_spp, hv_sum, hv_mxr, hv_rsv, hv_stvec, hv_sscr, hv_sepc, hv_scause, hv_stval, hv_sie, hv_sip, hv_satp, hv_resv]))
  all_goals exact bodyPost_ret (results_row rfl _ _ _ _ _ _ rfl ST.out.at0 Tryz.underlying25 rfl (size_hart _)) rfl ⟨rfl, ST.out.below⟩
end Go.Proofs.YthkodjkkcgdmfaaGreat.Hart
end
section
namespace Go.Proofs.YthkodjkkcgdmfaaGreat.Hart
open Go Go.RowKit Go.Proofs.YthkodjkkcgdmfaaGreat.Step Go.Proofs.YthkodjkkcgdmfaaGreat.Enc Go.Proofs.YthkodjkkcgdmfaaGreat.Kn
set_option linter.unusedVariables false
set_option linter.unusedSimpArgs false
set_option maxRecDepth 100000
theorem forIn_list {β : Type} (P : Program) (w : World) (b : β) (f : Nat → β → Sem (ForInStep β)) : ∀ (l : List Nat), (∀ i ∈ l, (f i b).run P w = .ok (.yield b) w) → (forIn l b f).run P w = .ok b w
  | [], _ => by simp
  | i :: l, h => by
    simp only [List.forIn_cons, Sem.run_bind, h i (List.mem_cons_self ..), Result.andThen_ok]
    exact forIn_list P w b f l fun j hj => h j (List.mem_cons_of_mem _ hj)
theorem forIn_upto {β : Type} (P : Program) (w : World) (n : Nat) (b : β) (f : Nat → β → Sem (ForInStep β)) (h : ∀ i, i < n → (f i b).run P w = .ok (.yield b) w) : (forIn [:n] b f).run P w = .ok b w := by
  first
    | rw [Std.Range.forIn_eq_forIn_range']
    | rw [Std.Legacy.Range.forIn_eq_forIn_range']
  refine forIn_list P w b f _ fun i hi => h i ?_
  simp [Std.Legacy.Range.size, List.mem_range'] at hi
  omega
set_option maxHeartbeats 4000000 in
theorem arr_same (d : Nat) (x : Nat → Int) (w : World) : (Op.equalIn (d + 2) 23 (.agg ((Array.range 32).map fun i => .int .u64 (x i))) (.agg ((Array.range 32).map fun i => .int .u64 (x i)))).run Tryz.prog w = .ok true w := by
  have hu := Tryz.underlying23
  have hu2 := Tryz.underlying22
  have hs : (sizeOf 22).run Tryz.prog w = .ok 1 w := by first | (go_simp; done) | (go_simp; rfl)
  unfold Op.equalIn
  simp only [Sem.run_bind, run_underlying hu, Result.andThen_ok, hs]
  rw [forIn_upto _ _ _ _ _ fun i hi => ?_]
  · simp
  · simp only [Nat.mul_one]
    have hg : ((Array.range 32).map fun i => Value.int .u64 (x i))[i]? = some (.int .u64 (x i)) := by simp [hi]
    have hz : ((Array.range 32).map fun i => Value.int .u64 (x i)).size = 32 := by simp
    generalize ((Array.range 32).map fun i => Value.int .u64 (x i)) = arr at hg hz ⊢
    have hp : (part 22 arr i).run Tryz.prog w = .ok (.int .u64 (x i)) w := by
      go_simp
      exact (Array.getElem?_eq_some_iff.1 hg).2
    have he : (Op.equalIn (d + 1) 22 (.int .u64 (x i)) (.int .u64 (x i))).run Tryz.prog w = .ok true w := by
      unfold Op.equalIn
      simp [Sem.run_bind, run_underlying hu2, Result.andThen_ok]
    simp [Sem.run_bind, hp, he, Result.andThen_ok]
theorem eqf_all {P : Program} {w : World} {d : Nat} {xs : Array Value} : ∀ (fs : List Field), (∀ f ∈ fs, ∃ v, (part f.type xs f.offset).run P w = .ok v w ∧ (Op.equalIn d f.type v v).run P w = .ok true w) → (Op.eqFields d xs xs fs).run P w = .ok true w
  | [], _ => by simp [Op.eqFields]
  | f :: fs, h => by
    obtain ⟨v, h1, h2⟩ := h f (List.mem_cons_self ..)
    have ih := eqf_all fs fun g hg => h g (List.mem_cons_of_mem _ hg)
    simp only [Op.eqFields]
    split
    · simp [Sem.run_bind, h1, h2, ih, Result.andThen_ok]
    · exact ih
theorem part_u (xs : Array Value) (i : Nat) (v : Value) (h : xs[i]? = some v) (w : World) : (part 22 xs i).run Tryz.prog w = .ok v w := by
  have hu2 := Tryz.underlying22
  go_simp
theorem part_b (xs : Array Value) (i : Nat) (v : Value) (h : xs[i]? = some v) (w : World) : (part 4 xs i).run Tryz.prog w = .ok v w := by
  have hu2 := Tryz.underlying4
  go_simp
theorem hart_arr (h : Hrt) (w : World) : (part 23 (hc h) 0).run Tryz.prog w = .ok (.agg ((Array.range 32).map fun i => .int .u64 (h.x i))) w := by
  have ha : (isAgg 23).run Tryz.prog w = .ok true w := by
    have hu := Tryz.underlying23
    first | (go_simp; done) | (go_simp; rfl)
  have hs : (sizeOf 23).run Tryz.prog w = .ok 32 w := by first | (go_simp; done) | (go_simp; rfl)
  have e : (hc h).extract 0 (0 + 32) = (Array.range 32).map fun i => Value.int .u64 (h.x i) := by
    have hz : (hc h).size = 49 := rfl
    apply Array.ext_getElem?
    intro i
    rw [Array.getElem?_extract]
    by_cases hi : i < 32
    · simp [hi, hc_x h hi, hz]
    · simp [hi, hz]
  unfold part
  simp only [Sem.run_bind, ha, hs, Result.andThen_ok, if_true, Sem.run_pure, e]
theorem eq_u (d : Nat) (v : Int) (w : World) : (Op.equalIn (d + 1) 22 (.int .u64 v) (.int .u64 v)).run Tryz.prog w = .ok true w := by
  have hu2 := Tryz.underlying22
  unfold Op.equalIn
  simp [Sem.run_bind, run_underlying hu2, Result.andThen_ok]
theorem eq_b (d : Nat) (v : Bool) (w : World) : (Op.equalIn (d + 1) 4 (.bool v) (.bool v)).run Tryz.prog w = .ok true w := by
  have hu2 := Tryz.underlying4
  unfold Op.equalIn
  simp [Sem.run_bind, run_underlying hu2, Result.andThen_ok]
set_option maxHeartbeats 4000000 in
theorem hart_same (d : Nat) (h : Hrt) (w : World) : (Op.equalIn (d + 3) 25 (.agg (hc h)) (.agg (hc h))).run Tryz.prog w = .ok true w := by
  have hp : Tryz.prog.stoodInHeld 25 = false := by kernel_rfl
  have hu := Tryz.underlying25
  rw [run_equalIn_struct w (d + 2) 25 _ _ (by rw [hu]; simp [Program.fieldsOf, hu]) hp]
  simp only [Program.fieldsOf, hu]
  refine eqf_all _ fun f hf => ?_
  simp only [List.mem_cons, List.not_mem_nil, or_false] at hf
  rcases hf with rfl | rfl | rfl | rfl | rfl | rfl | rfl | rfl | rfl | rfl | rfl | rfl | rfl | rfl | rfl | rfl | rfl | rfl
  · exact ⟨_, hart_arr h w, arr_same d h.x w⟩
  all_goals first
    | exact ⟨_, part_u _ _ _ rfl w, eq_u (d + 1) _ w⟩
    | exact ⟨_, part_b _ _ _ rfl w, eq_b (d + 1) _ w⟩
theorem gate_bin {P : Program} {ops : Array Oper} {rest : List Oper} {o : Oper} {a : Act} {W : World} {Q : Exit → Act → World → Prop} {b : BinOp} {t t2 : TypeId} {x y : Operand} (_ : o.op = .binOp b t x y t2) (h : wpList P ops Q (o :: rest) a W) : wpList P ops Q (o :: rest) a W := h
theorem eql_hart {a : Act} {o : Oper} {x y : Operand} {h : Hrt} (ho : o.op = .binOp .eql 25 x y 25) (hx : a.eval x = .agg (hc h)) (hy : a.eval y = .agg (hc h)) (W : World) : (execOp a.eval o).run Tryz.prog W = .ok (.value (.bool true)) W := by
  have hg := run_eqGuard_agg (P := Tryz.prog) (w := W) .eql 25 x y (hc h) (hc h) (by kernel_rfl)
  have he : (Op.equal 25 (.agg (hc h)) (.agg (hc h))).run Tryz.prog W = .ok true W := hart_same 9997 h W
  simp only [execOp, ho, hx, hy]
  simp [binOp, hg, he, Sem.run_bind, Result.andThen]
end Go.Proofs.YthkodjkkcgdmfaaGreat.Hart
end
section
namespace Go.Proofs.YthkodjkkcgdmfaaGreat.Hart
open Go Go.RowKit Go.Proofs.YthkodjkkcgdmfaaGreat.Step Go.Proofs.YthkodjkkcgdmfaaGreat.Enc Go.Proofs.YthkodjkkcgdmfaaGreat.Kn
open Go.Proofs.YthkodjkkcgdmfaaGreat.Mem (Ram Grow hasB newB wholeB num wr Rd fl Arg lst)
open Go.Proofs.YthkodjkkcgdmfaaGreat.Duo (Duo RdC cm size_two)
set_option linter.unusedVariables false
set_option linter.unusedSimpArgs false
set_option maxRecDepth 100000
theorem no_cells (W : World) (G : Nat → Prop) : RdC W none 0 (fun _ => (0, 0)) G := fun i hi => absurd hi (Nat.not_lt_zero i)
section
variable {P : Program} {ops : Array Oper} {rest : List Oper} {o : Oper} {a : Act} {W : World} {Q : Exit → Act → World → Prop}
end
theorem set_x5 (h : Hrt) (v : Int) : (hc h).setIfInBounds 5 (.int .u64 v) = hc { h with x := xup h.x 5 v } := set_x h (by decide) v
theorem set_x6 (h : Hrt) (v : Int) : (hc h).setIfInBounds 6 (.int .u64 v) = hc { h with x := xup h.x 6 v } := set_x h (by decide) v
theorem DK.solo {W w : World} {h1 h2 n : Nat} {base : Int} {m1 m2 : Nat → Int} {F1 F2 : Nat → Prop} {p q : Nat × Array Value × TypeId} (d : DK W w h1 h2 base n m1 m2 F1 F2 [p, q]) : DK W w h1 h2 base n m1 m2 F1 F2 [p] := d.sub (List.Sublist.cons_cons _ (List.nil_sublist _))
theorem xup_at (x : Nat → Int) (i : Nat) (v : Int) : xup x i v i = v := if_pos rfl
theorem xup_ne (x : Nat → Int) {i j : Nat} (v : Int) (h : j ≠ i) : xup x i v j = x j := if_neg h
theorem addW_zero {v : Int} (h : U64 v) : addW v (IntKind.u64.wrap 0) = v := by
  have := h.out
  show IntKind.u64.wrap (v + IntKind.u64.wrap 0) = v
  rw [show IntKind.u64.wrap 0 = 0 from by decide, Int.add_zero]
  exact IntWalk.u64_in _ (by omega)
end Go.Proofs.YthkodjkkcgdmfaaGreat.Hart
end
section
namespace Go.Proofs.YthkodjkkcgdmfaaGreat.Enc
open Go Go.RowKit Go.Proofs.YthkodjkkcgdmfaaGreat.Step
set_option linter.unusedVariables false
set_option linter.unusedSimpArgs false
set_option maxRecDepth 100000
/-- The word. -/
def aluU (fn rd rs1 rs2 : Int) : Int := pk rwL fn + rd * 128 + rs1 * 32768 + rs2 * 1048576
theorem fd_of {a : Int} {h l : Nat} {n m : Int} (hn : n = ((2 ^ l : Nat) : Int)) (hm : m = ((2 ^ (h - l + 1) : Nat) : Int)) : fd a h l = a / n % m := by
  subst hn hm
  rfl
set_option maxHeartbeats 4000000 in
theorem alu_word (fn rd rs1 rs2 : Int) (hf : 1 ≤ fn ∧ fn ≤ 28) (hd : 0 ≤ rd ∧ rd < 32) (h1 : 0 ≤ rs1 ∧ rs1 < 32) (h2 : 0 ≤ rs2 ∧ rs2 < 32) : W32 (aluU fn rd rs1 rs2) ∧ (fd (aluU fn rd rs1 rs2) 6 0 = 51 ∨ fd (aluU fn rd rs1 rs2) 6 0 = 59) ∧ dec (aluU fn rd rs1 rs2) = some ⟨8, fn, rd, rs1, rs2, 0, 0, false⟩ := by
  have key : ∀ (c : Int) (wide : Bool) (f3 f7 : Int), c = (if wide then 51 else 59) + f3 * 4096 + f7 * 33554432 → (0 ≤ f3 ∧ f3 < 8) → (0 ≤ f7 ∧ f7 < 128) → regF wide f7 f3 = fn → W32 (c + rd * 128 + rs1 * 32768 + rs2 * 1048576) ∧ (fd (c + rd * 128 + rs1 * 32768 + rs2 * 1048576) 6 0 = 51 ∨ fd (c + rd * 128 + rs1 * 32768 + rs2 * 1048576) 6 0 = 59) ∧ dec (c + rd * 128 + rs1 * 32768 + rs2 * 1048576) = some ⟨8, fn, rd, rs1, rs2, 0, 0, false⟩ := by
    intro c wide f3 f7 hc h3 h7 hr
    obtain ⟨op, hop, ho⟩ : ∃ op : Int, op = (if wide then 51 else 59) ∧ (op = 51 ∨ op = 59) := ⟨_, rfl, by cases wide <;> simp⟩
    rw [← hop] at hc
    obtain ⟨a, ha⟩ : ∃ a, a = c + rd * 128 + rs1 * 32768 + rs2 * 1048576 := ⟨_, rfl⟩
    rw [← ha]
    have e0 : fd a 6 0 = op := by rw [fd_of (n := 1) (m := 128) rfl rfl]; omega
    have e1 : fd a 11 7 = rd := by rw [fd_of (n := 128) (m := 32) rfl rfl]; omega
    have e2 : fd a 14 12 = f3 := by rw [fd_of (n := 4096) (m := 8) rfl rfl]; omega
    have e3 : fd a 19 15 = rs1 := by rw [fd_of (n := 32768) (m := 32) rfl rfl]; omega
    have e4 : fd a 24 20 = rs2 := by rw [fd_of (n := 1048576) (m := 32) rfl rfl]; omega
    have e5 : fd a 31 25 = f7 := by rw [fd_of (n := 33554432) (m := 128) rfl rfl]; omega
    refine ⟨⟨by omega, by omega⟩, by rw [e0]; exact ho, ?_⟩
    have hne : ¬ fn = 0 := by omega
    unfold dec decOp
    rw [e0, e1, e2, e3, e4, e5]
    cases wide
    · obtain rfl : op = 59 := hop
      simp [hr, hne]
    · obtain rfl : op = 51 := hop
      simp [hr, hne]
  unfold aluU
  have hcase : fn = 1 ∨ fn = 2 ∨ fn = 3 ∨ fn = 4 ∨ fn = 5 ∨ fn = 6 ∨ fn = 7 ∨ fn = 8 ∨ fn = 9 ∨ fn = 10 ∨ fn = 11 ∨ fn = 12 ∨ fn = 13 ∨ fn = 14 ∨ fn = 15 ∨ fn = 16 ∨ fn = 17 ∨ fn = 18 ∨ fn = 19 ∨ fn = 20 ∨ fn = 21 ∨ fn = 22 ∨ fn = 23 ∨ fn = 24 ∨ fn = 25 ∨ fn = 26 ∨ fn = 27 ∨ fn = 28 := by omega
  rcases hcase with rfl | rfl | rfl | rfl | rfl | rfl | rfl | rfl | rfl | rfl | rfl | rfl | rfl | rfl | rfl | rfl | rfl | rfl | rfl | rfl | rfl | rfl | rfl | rfl | rfl | rfl | rfl | rfl
  all_goals first
    | exact key _ true 0 0 (by decide) (by decide) (by decide) (by decide)
    | exact key _ true 0 32 (by decide) (by decide) (by decide) (by decide)
    | exact key _ true 0 1 (by decide) (by decide) (by decide) (by decide)
    | exact key _ true 1 0 (by decide) (by decide) (by decide) (by decide)
    | exact key _ true 1 32 (by decide) (by decide) (by decide) (by decide)
    | exact key _ true 1 1 (by decide) (by decide) (by decide) (by decide)
    | exact key _ true 2 0 (by decide) (by decide) (by decide) (by decide)
    | exact key _ true 2 32 (by decide) (by decide) (by decide) (by decide)
    | exact key _ true 2 1 (by decide) (by decide) (by decide) (by decide)
    | exact key _ true 3 0 (by decide) (by decide) (by decide) (by decide)
    | exact key _ true 3 32 (by decide) (by decide) (by decide) (by decide)
    | exact key _ true 3 1 (by decide) (by decide) (by decide) (by decide)
    | exact key _ true 4 0 (by decide) (by decide) (by decide) (by decide)
    | exact key _ true 4 32 (by decide) (by decide) (by decide) (by decide)
    | exact key _ true 4 1 (by decide) (by decide) (by decide) (by decide)
    | exact key _ true 5 0 (by decide) (by decide) (by decide) (by decide)
    | exact key _ true 5 32 (by decide) (by decide) (by decide) (by decide)
    | exact key _ true 5 1 (by decide) (by decide) (by decide) (by decide)
    | exact key _ true 6 0 (by decide) (by decide) (by decide) (by decide)
    | exact key _ true 6 32 (by decide) (by decide) (by decide) (by decide)
    | exact key _ true 6 1 (by decide) (by decide) (by decide) (by decide)
    | exact key _ true 7 0 (by decide) (by decide) (by decide) (by decide)
    | exact key _ true 7 32 (by decide) (by decide) (by decide) (by decide)
    | exact key _ true 7 1 (by decide) (by decide) (by decide) (by decide)
    | exact key _ false 0 0 (by decide) (by decide) (by decide) (by decide)
    | exact key _ false 0 32 (by decide) (by decide) (by decide) (by decide)
    | exact key _ false 0 1 (by decide) (by decide) (by decide) (by decide)
    | exact key _ false 1 0 (by decide) (by decide) (by decide) (by decide)
    | exact key _ false 1 32 (by decide) (by decide) (by decide) (by decide)
    | exact key _ false 1 1 (by decide) (by decide) (by decide) (by decide)
    | exact key _ false 2 0 (by decide) (by decide) (by decide) (by decide)
    | exact key _ false 2 32 (by decide) (by decide) (by decide) (by decide)
    | exact key _ false 2 1 (by decide) (by decide) (by decide) (by decide)
    | exact key _ false 3 0 (by decide) (by decide) (by decide) (by decide)
    | exact key _ false 3 32 (by decide) (by decide) (by decide) (by decide)
    | exact key _ false 3 1 (by decide) (by decide) (by decide) (by decide)
    | exact key _ false 4 0 (by decide) (by decide) (by decide) (by decide)
    | exact key _ false 4 32 (by decide) (by decide) (by decide) (by decide)
    | exact key _ false 4 1 (by decide) (by decide) (by decide) (by decide)
    | exact key _ false 5 0 (by decide) (by decide) (by decide) (by decide)
    | exact key _ false 5 32 (by decide) (by decide) (by decide) (by decide)
    | exact key _ false 5 1 (by decide) (by decide) (by decide) (by decide)
    | exact key _ false 6 0 (by decide) (by decide) (by decide) (by decide)
    | exact key _ false 6 32 (by decide) (by decide) (by decide) (by decide)
    | exact key _ false 6 1 (by decide) (by decide) (by decide) (by decide)
    | exact key _ false 7 0 (by decide) (by decide) (by decide) (by decide)
    | exact key _ false 7 32 (by decide) (by decide) (by decide) (by decide)
    | exact key _ false 7 1 (by decide) (by decide) (by decide) (by decide)
theorem alu_wordP {fn rd rs1 rs2 : Int} (hf : 1 ≤ fn ∧ fn ≤ 28) (hd : 0 ≤ rd ∧ rd < 32) (h1 : 0 ≤ rs1 ∧ rs1 < 32) (h2 : 0 ≤ rs2 ∧ rs2 < 32) : wordP ⟨8, fn, rd, rs1, rs2, 0, 0, false⟩ = aluU fn rd rs1 rs2 := by
  obtain ⟨hw, ho, hd'⟩ := alu_word fn rd rs1 rs2 hf hd h1 h2
  rw [word_enc hw hd', enc_dec hw hd']
  rcases ho with ho | ho <;> exact cn_eq ho (by decide) (by decide)
end Go.Proofs.YthkodjkkcgdmfaaGreat.Enc
end
section
namespace Go.Proofs.YthkodjkkcgdmfaaGreat.Hart
open Go Go.RowKit Go.Proofs.YthkodjkkcgdmfaaGreat.Step Go.Proofs.YthkodjkkcgdmfaaGreat.Enc Go.Proofs.YthkodjkkcgdmfaaGreat.Kn
open Go.Proofs.YthkodjkkcgdmfaaGreat.Mem (Ram Grow hasB newB wholeB num wr Rd fl Arg lst)
open Go.Proofs.YthkodjkkcgdmfaaGreat.Duo (Duo RdC cm size_two)
set_option linter.unusedVariables false
set_option linter.unusedSimpArgs false
set_option maxRecDepth 100000
theorem DK.drew {W w : World} {h1 h2 n : Nat} {base : Int} {m1 m2 : Nat → Int} {F1 F2 : Nat → Prop} {L : Blks} (d : DK W w h1 h2 base n m1 m2 F1 F2 L) : DK W { w with drawn := w.drawn + 1 } h1 h2 base n m1 m2 F1 F2 L := d.call ⟨rfl, rfl, rfl, Nat.le_refl _, fun _ _ => rfl⟩
theorem calm_ord (h : Hrt) : ord (calmH h) = calmH h := by
  refine ord_of (xup_xup _) ?_ ?_ ?_ ?_ (msk_msk _)
  · show (2147483648 : Int) / 2 * 2 = 2147483648; decide
  · show h.sepc / 2 * 2 / 2 * 2 = h.sepc / 2 * 2; omega
  · show h.stvec / 4 * 4 / 4 * 4 + h.stvec / 4 * 4 % 2 = h.stvec / 4 * 4; omega
  · show msk 0 = 0; kernel_rfl
theorem one_alu (fn n1 n2 : Int) (n : Nat) (hf : 1 ≤ fn ∧ fn ≤ 28) (hd : 0 ≤ (n : Int) ∧ (n : Int) < 32) (h1 : 0 ≤ n1 ∧ n1 < 32) (h2 : 0 ≤ n2 ∧ n2 < 32) (W : World) : Calls Tryz.prog 22 #[.agg #[.int .i64 8, .int .i64 fn, .int .i64 (n : Int), .int .i64 n1, .int .i64 n2, .int .i64 0, .int .i64 0, .bool false], .slice none 0 0] W fun e w' => ∃ gc gt h1 h2 F1 F2, e = .returned (.tuple #[.pointer (some ⟨gc, 0, none⟩), .agg #[.pointer (some ⟨h1, 0, none⟩), .pointer (some ⟨h2, 0, none⟩)], .bool true]) ∧ DK W w' h1 h2 2147483648 1 (wr (cm 1 (fun _ => (0, 0)) 0) 0 4 (aluU fn n n1 n2)) (wr (cm 1 (fun _ => (0, 0)) 0) 0 4 (aluU fn n n1 n2)) F1 F2 ((gc, ccg h1 (.pointer (some ⟨gt, 0, none⟩)) 0 0 0 0 (.map none), TC) :: []) := by
  have hw := alu_wordP hf hd h1 h2
  obtain ⟨hu, ho, hdec⟩ := alu_word fn n n1 n2 hf hd h1 h2
  have hT : ∀ w, Calls Tryz.prog 45 #[.int .u32 (aluU fn n n1 n2)] w fun e w' => e = .returned (told (dec (aluU fn n n1 n2))) ∧ Below w.heap.size w w' := fun w => by
    rcases ho with ho | ho
    · exact rDec_51 _ hu ho w
    · exact rDec_59 _ hu ho w
  have h := one_any W ⟨8, fn, n, n1, n2, 0, 0, false⟩ (by unfold InR; dsimp only; omega) (by rw [hw]; exact hu) (by rw [hw]; exact hdec) (Lib.hid (by rw [hw]; exact hT)) none 0 0 (fun _ => (0, 0)) (no_cells _ _) (by decide)
  rw [hw] at h
  refine h.mono fun e w' q => ?_
  obtain ⟨gc, gt, h1, h2, F1, F2, rfl, d⟩ := q
  exact ⟨gc, gt, h1, h2, F1, F2, rfl, d.solo⟩
def aluH (C : Hrt) (n : Nat) (v : Int) : Hrt := { ord C with pc := addW (ord C).pc 4, x := xup (xup (ord C).x n v) 0 0 }
theorem step_reg {W : World} {gc gm : Nat} {tv : Value} {m0 : Nat → Int} {F : Nat → Prop} {fn : Int} {n n1 n2 : Nat} (hk : Kor W gc gm tv 0 2147483648 1 (wr m0 0 4 (aluU fn n n1 n2)) F) (C : Hrt) (hf : Fit C) (hpc : C.pc = 2147483648) (hsie : C.sie = 0) (hsat : C.satp = 0) (hfn : 1 ≤ fn ∧ fn ≤ 28) (hd : n < 32) (h1 : n1 < 32) (h2 : n2 < 32) :
    Calls Tryz.prog 23 #[.pointer (some ⟨gc, 0, none⟩), .agg (hc C), .int .u64 0] W fun e w' => e = .returned (.tuple #[.agg (hc (aluH C n (aluV fn ((ord C).x n1) ((ord C).x n2)))), .agg #[.int .i64 0, .int .i64 0, .int .u64 0, .int .u64 0, .bool false, .bool false]]) ∧ ∃ F', Kor w' gc gm tv 0 2147483648 1 (wr m0 0 4 (aluU fn n n1 n2)) F' ∧ Mod (fun k => k = gc ∨ F k) W w' ∧ ∀ k, F' k → F k ∨ W.heap.size ≤ k := by
  obtain ⟨hu, ho, hdec⟩ := alu_word fn n n1 n2 hfn (by omega) (by omega) (by omega)
  have hT : ∀ w, Calls Tryz.prog 63 #[.int .u32 (aluU fn n n1 n2)] w fun e w' => e = .returned (told (dec (aluU fn n n1 n2))) ∧ Below w.heap.size w w' := fun w => by
    rcases ho with ho | ho
    · exact Dec_51 _ hu ho w
    · exact Dec_59 _ hu ho w
  refine step_alu (s2 := rdP (decP (newS gc 0 (ord C)) (aluU fn n n1 n2) ⟨8, fn, n, n1, n2, 0, 0, false⟩) n (aluV fn ((ord C).x n1) ((ord C).x n2))) hk C hf 0 hpc hsie hsat hu hdec (Lib.hid hT) rfl fun W' gs r F' y => ?_
  refine (salu_any y.step (n := n) (n1 := n1) (n2 := n2) rfl hd rfl h1 rfl h2 (fun i hi => (ord_fit hf).x i hi)).mono ?_
  rintro e w' ⟨rfl, nb, m⟩
  exact ⟨rfl, y.out.set nb m rfl⟩
theorem alu_x {C : Hrt} (h0 : C.x 0 = 0) (ho : ord C = C) (n : Nat) (v : Int) {k : Nat} (hk : k ≠ n) : (aluH C n v).x k = C.x k := by
  show xup (xup (ord C).x n v) 0 0 k = C.x k
  rw [ho]
  by_cases e : k = 0
  · rw [e, xup_at, h0]
  · rw [xup_ne _ _ e, xup_ne _ _ hk]
theorem alu_fin {C : Hrt} (h0 : C.x 0 = 0) (ho : ord C = C) (n : Nat) (v : Int) : { aluH C n v with x := xup (aluH C n v).x n (C.x n), pc := C.pc } = C := by
  have e : xup (aluH C n v).x n (C.x n) = C.x := by
    funext k
    by_cases hk : k = n
    · rw [hk, xup_at]
    · rw [xup_ne _ _ hk, alu_x h0 ho n v hk]
  rw [e]
  unfold aluH
  rw [ho]
theorem hc_i (h : Hrt) {i : Nat} (hi : i < 32) : (hc h)[i]? = some (.int .u64 (h.x i)) := hc_x h hi
set_option maxHeartbeats 8000000 in
theorem reg_law (h C H2 : Hrt) (fa ra sa ta p fn : Int) (n n1 n2 : Nat) (u : Int) (hp : IntKind.i64.wrap (1 + p) = fn) (hn : n < 32) (TP1 : Hid (∀ w, Calls Tryz.prog 25 #[.int .i64 fa, .int .i64 28] w fun e w' => e = .returned (.int .i64 p) ∧ w = w')) (TP2 : Hid (∀ w, Calls Tryz.prog 25 #[.int .i64 ra, .int .i64 32] w fun e w' => e = .returned (.int .i64 (n : Int)) ∧ w = w')) (TP3 : Hid (∀ w, Calls Tryz.prog 25 #[.int .i64 sa, .int .i64 32] w fun e w' => e = .returned (.int .i64 (n1 : Int)) ∧ w = w')) (TP4 : Hid (∀ w, Calls Tryz.prog 25 #[.int .i64 ta, .int .i64 32] w fun e w' => e = .returned (.int .i64 (n2 : Int)) ∧ w = w'))
    (TC0 : Hid (∀ w, Calls Tryz.prog 24 #[.agg (hc h)] w fun e w' => e = .returned (.agg (hc C)) ∧ Below w.heap.size w w'))
    (TO : Hid (∀ W, Calls Tryz.prog 22 #[.agg #[.int .i64 8, .int .i64 fn, .int .i64 (n : Int), .int .i64 n1, .int .i64 n2, .int .i64 0, .int .i64 0, .bool false], .slice none 0 0] W fun e w' => ∃ gc gt h1 h2 F1 F2, e = .returned (.tuple #[.pointer (some ⟨gc, 0, none⟩), .agg #[.pointer (some ⟨h1, 0, none⟩), .pointer (some ⟨h2, 0, none⟩)], .bool true]) ∧ DK W w' h1 h2 2147483648 1 (wr (cm 1 (fun _ => (0, 0)) 0) 0 4 u) (wr (cm 1 (fun _ => (0, 0)) 0) 0 4 u) F1 F2 ((gc, ccg h1 (.pointer (some ⟨gt, 0, none⟩)) 0 0 0 0 (.map none), TC) :: [])))
    (TS : Hid (∀ (X : World) (gc gm : Nat) (tv : Value) (m0 : Nat → Int) (F : Nat → Prop), Kor X gc gm tv 0 2147483648 1 (wr m0 0 4 u) F → Calls Tryz.prog 23 #[.pointer (some ⟨gc, 0, none⟩), .agg (hc C), .int .u64 0] X fun e w' => e = .returned (.tuple #[.agg (hc H2), .agg #[.int .i64 0, .int .i64 0, .int .u64 0, .int .u64 0, .bool false, .bool false]]) ∧ ∃ F', Kor w' gc gm tv 0 2147483648 1 (wr m0 0 4 u) F' ∧ Mod (fun k => k = gc ∨ F k) X w' ∧ ∀ k, F' k → F k ∨ X.heap.size ≤ k))
    (r32 : (hc H2)[32]? = some (.int .u64 2147483652)) (c32 : (hc C)[32]? = some (.int .u64 2147483648)) (hx : ∀ k, k ≠ n → H2.x k = C.x k) (hfin : { H2 with x := xup H2.x n (C.x n), pc := 2147483648 } = C) (W : World) :
    Calls Tryz.prog 8 #[.agg (hc h), .int .i64 fa, .int .i64 ra, .int .i64 sa, .int .i64 ta] W fun e w' => e = .returned (.bool true) ∧ Below W.heap.size W w' := by
  obtain ⟨mw, hm⟩ : ∃ x, x = wr (cm 1 (fun _ => (0, 0)) 0) 0 4 u := ⟨_, rfl⟩
  have hni : (n : Int) < 32 := by omega
  have hb49 : Nat.blt n (hc H2).size = true := blt_of (show n < 49 by omega)
  go_enter Tryz.func8, Tryz.ntmps8
  have ST := Lib.hid (Kn.nil (S := Step.Nil) (W := W))
  go_wp2_with (first
    | ((with_reducible refine Step.gate_box (t := 25) rfl ?_); refine Step.fresh (cs := hc h) (T := 25) rfl ?hr ?_; (case hr => first | (go_simp; done) | (go_simp; rfl)); intro g5 w1 b hg hb; replace ST := Lib.hid (ST.out.made b hg hb); clear b hb; clear hg)
    | ((with_reducible refine Step.gate_load (t := 25) rfl ?_); refine Step.loadAll ST.out.at0 rfl rfl rfl Tryz.underlying25 rfl (size_hart _) ?_)
    | (go_at_call 24; (with_reducible refine (TC0.out _).mono ?_); rintro e w' ⟨rfl, hb⟩; replace ST := Lib.hid (ST.out.call hb); clear hb)
    | ((with_reducible refine Step.gate_store (t := 25) rfl ?_); refine Step.storeAll ST.out.at0 rfl rfl rfl rfl rfl (size_hart _) rfl (hc_all _) ?_; intro w3 nb m; replace ST := Lib.hid (ST.out.set0 nb m); clear nb m)
    | (go_at_call 25; (with_reducible refine (TP1.out _).mono ?_); rintro e w' ⟨rfl, rfl⟩)
    | (go_at_call 25; (with_reducible refine (TP2.out _).mono ?_); rintro e w' ⟨rfl, rfl⟩)
    | (go_at_call 25; (with_reducible refine (TP3.out _).mono ?_); rintro e w' ⟨rfl, rfl⟩)
    | (go_at_call 25; (with_reducible refine (TP4.out _).mono ?_); rintro e w' ⟨rfl, rfl⟩)
    | ((with_reducible refine Step.gate_alloc (t := 44) rfl ?_); refine Step.freshAlloc rfl rfl (alloc_agg zero_inst) ?_; intro g11 w2 b hg hb; replace ST := Lib.hid (ST.out.made b hg hb); clear b hb hg)
    | ((with_reducible refine Step.gate_store (t := 44) rfl ?_); refine Step.storeAll ST.out.at0 rfl rfl rfl rfl rfl size_inst rfl rfl ?_; intro w3 nb m; replace ST := Lib.hid (ST.out.set0 nb m); clear nb m)
    | ((with_reducible refine Step.gate_load (t := 44) rfl ?_); refine Step.loadAll ST.out.at0 rfl rfl rfl Tryz.underlying44 rfl size_inst ?_)
    | (go_at_call 22; (with_reducible refine (TO.out _).mono ?_); rintro e w9 ⟨gc, gt, h1, h2, F1, F2, rfl, d⟩; replace ST := Lib.hid (DK.join ST.out d); clear d)
    | ((with_reducible refine Step.gate_alloc (t := 40) rfl ?_); refine Step.freshAlloc rfl rfl (Duo.alloc_agg Duo.zero_two) ?_; intro g13 w2 b hg hb; replace ST := Lib.hid (ST.out.made b hg hb); clear b hb hg)
    | ((with_reducible refine Step.gate_store (t := 40) rfl ?_); refine Step.storeAll (vs := #[.pointer (some ⟨h1, 0, none⟩), .pointer (some ⟨h2, 0, none⟩)]) ST.out.kn.at0 rfl rfl rfl rfl rfl size_two rfl rfl ?_; intro w3 nb m; replace ST := Lib.hid (ST.out.set (ST.out.kn.set0 nb m) m ⟨_, List.mem_of_getElem? (i := 0) rfl, rfl⟩ rfl); clear nb m)
    | ((with_reducible refine Step.gate_load (t := 25) rfl ?_); refine Step.loadAll ST.out.kn.at3 rfl rfl rfl Tryz.underlying25 rfl (size_hart _) ?_)
    | (go_at_call 23; (with_reducible refine (TS.out _ _ _ _ _ _ ST.out.core1).mono ?_); rintro e w10 ⟨rfl, F3, hk, m, hF⟩; replace ST := Lib.hid (ST.out.step1 hk m hF); clear hk m hF)
    | ((with_reducible refine Step.gate_alloc (t := 25) rfl ?_); refine Step.freshAlloc rfl rfl (alloc_agg zero_hart) ?_; intro g15 w2 b hg hb; replace ST := Lib.hid (ST.out.made b hg hb); clear b hb hg)
    | ((with_reducible refine Step.gate_alloc (t := 46) rfl ?_); refine Step.freshAlloc rfl rfl (alloc_agg zero_ev) ?_; intro g16 w2 b hg hb; replace ST := Lib.hid (ST.out.made b hg hb); clear b hb hg)
    | ((with_reducible refine Step.gate_store (t := 25) rfl ?_); refine Step.storeAll ST.out.kn.at1 rfl rfl rfl rfl rfl (size_hart _) rfl (hc_all _) ?_; intro w3 nb m; replace ST := Lib.hid (ST.out.set (ST.out.kn.set1 nb m) m ⟨_, List.mem_of_getElem? (i := 1) rfl, rfl⟩ rfl); clear nb m)
    | ((with_reducible refine Step.gate_store (t := 46) rfl ?_); refine Step.storeAll (vs := #[.int .i64 0, .int .i64 0, .int .u64 0, .int .u64 0, .bool false, .bool false]) ST.out.kn.at0 rfl rfl rfl rfl rfl size_ev rfl rfl ?_; intro w3 nb m; replace ST := Lib.hid (ST.out.set (ST.out.kn.set0 nb m) m ⟨_, List.mem_of_getElem? (i := 0) rfl, rfl⟩ rfl); clear nb m)
    | ((with_reducible refine Step.gate_load (t := 46) rfl ?_); refine Step.loadAll ST.out.kn.at0 rfl rfl rfl Tryz.underlying46 rfl size_ev ?_)
    | ((with_reducible refine Step.gate_load (t := 22) rfl ?_); refine Step.loadG ST.out.kn.at1 rfl rfl rfl pl_u64 r32 ?_)
    | ((with_reducible refine Step.gate_load (t := 22) rfl ?_); refine Step.loadG ST.out.kn.at4 rfl rfl rfl pl_u64 c32 ?_)
    | ((with_reducible refine Step.gate_load (t := 40) rfl ?_); refine loadAllW ST.out.kn.at2 rfl rfl rfl Tryz.underlying40 rfl size_two ?_)
    | (go_at_call 26; (with_reducible refine (same_dk ST.out).mono ?_); rintro e w' ⟨rfl, hb⟩; replace ST := Lib.hid (ST.out.call hb); clear hb))
  rw [← hm] at ST
  go_loopw [17] (fun i w => ∃ k : Nat, k ≤ 32 ∧ i = .int .i64 k ∧ DK W w h1 h2 2147483648 1 mw mw F3 F2 [(g16, #[.int .i64 0, .int .i64 0, .int .u64 0, .int .u64 0, .bool false, .bool false], 46), (g15, hc H2, 25), (g13, #[.pointer (some ⟨h1, 0, none⟩), .pointer (some ⟨h2, 0, none⟩)], 40), (g11, #[.int .i64 8, .int .i64 fn, .int .i64 (n : Int), .int .i64 n1, .int .i64 n2, .int .i64 0, .int .i64 0, .bool false], 44), (g5, hc C, 25)]) (fun i _ => (32 - intOf i).toNat)
  case atStart => exact ⟨0, by omega, rfl, ST.out⟩
  case round =>
    clear ST
    obtain ⟨k, hk, rfl, hD⟩ := hrel
    have ST := Lib.hid hD
    clear hD
    by_cases hk32 : k < 32
    · by_cases hkn' : k = n
      · have hkn : ((k : Int) != (n : Int)) = false := by simp [hkn']
        go_wp2_with (first
          | ((with_reducible refine Sq.region (id := 12) (I := fun X => DK W X h1 h2 2147483648 1 mw mw F3 F2 [(g16, #[.int .i64 0, .int .i64 0, .int .u64 0, .int .u64 0, .bool false, .bool false], 46), (g15, hc H2, 25), (g13, #[.pointer (some ⟨h1, 0, none⟩), .pointer (some ⟨h2, 0, none⟩)], 40), (g11, #[.int .i64 8, .int .i64 fn, .int .i64 (n : Int), .int .i64 n1, .int .i64 n2, .int .i64 0, .int .i64 0, .bool false], 44), (g5, hc C, 25)]) ?hma 15 ST.out.drew ?hpa ?hsa); (case hma => rfl); (case hpa => kernel_rfl); intro ops K hops hK; dsimp only [List.take]; (repeat (first | (refine Sq.seq_move rfl rfl ?_; simp only [Act.put, Act.eval, Array.getD_eq_getD_getElem?, List.getElem?_toArray, List.getElem?_cons_zero, List.getElem?_cons_succ, Option.getD_some, List.setIfInBounds_toArray, List.set_cons_zero, List.set_cons_succ]) | (refine Sq.seq_load (t := 3) (fun X hX => (DK.kn hX).at3) (Sq.wanted_none rfl) rfl rfl pl_int rfl ?_; simp only [Act.put, Act.eval, Array.getD_eq_getD_getElem?, List.getElem?_toArray, List.getElem?_cons_zero, List.getElem?_cons_succ, Option.getD_some, List.setIfInBounds_toArray, List.set_cons_zero, List.set_cons_succ]) | (refine Sq.seq_not (by rw [hops]; rfl) ?_; simp only [Act.put, Act.eval, Array.getD_eq_getD_getElem?, List.getElem?_toArray, List.getElem?_cons_zero, List.getElem?_cons_succ, Option.getD_some, List.setIfInBounds_toArray, List.set_cons_zero, List.set_cons_succ]) | (refine' Sq.seq_pure rfl (fun X => _) _; rotate_left; (first | (go_simp; done) | (go_simp; rfl)); simp only [Act.put, Act.eval, Array.getD_eq_getD_getElem?, List.getElem?_toArray, List.getElem?_cons_zero, List.getElem?_cons_succ, Option.getD_some, List.setIfInBounds_toArray, List.set_cons_zero, List.set_cons_succ, hkn]))); refine Sq.seq_nil ?_; clear hops; refine hK.out _ fun w1 hk => ?_; clear hK; replace ST := Lib.hid hk; clear hk; dsimp only [List.drop]))
        refine ⟨⟨k + 1, by omega, by go_num, ST.out⟩, by simp [intOf]; omega⟩
      · have hkn : ((k : Int) != (n : Int)) = true := by simp; omega
        have hxk : (hc H2)[k]? = some (.int .u64 (C.x k)) := by rw [hc_i H2 hk32, hx k hkn']
        go_wp2_with (first
          | ((with_reducible refine Sq.region (id := 12) (I := fun X => DK W X h1 h2 2147483648 1 mw mw F3 F2 [(g16, #[.int .i64 0, .int .i64 0, .int .u64 0, .int .u64 0, .bool false, .bool false], 46), (g15, hc H2, 25), (g13, #[.pointer (some ⟨h1, 0, none⟩), .pointer (some ⟨h2, 0, none⟩)], 40), (g11, #[.int .i64 8, .int .i64 fn, .int .i64 (n : Int), .int .i64 n1, .int .i64 n2, .int .i64 0, .int .i64 0, .bool false], 44), (g5, hc C, 25)]) ?hmb 15 ST.out.drew ?hpb ?hsb); (case hmb => rfl); (case hpb => kernel_rfl); intro ops K hops hK; dsimp only [List.take]; (repeat (first | (refine Sq.seq_move rfl rfl ?_; simp only [Act.put, Act.eval, Array.getD_eq_getD_getElem?, List.getElem?_toArray, List.getElem?_cons_zero, List.getElem?_cons_succ, Option.getD_some, List.setIfInBounds_toArray, List.set_cons_zero, List.set_cons_succ]) | (refine Sq.seq_load (t := 3) (fun X hX => (DK.kn hX).at3) (Sq.wanted_none rfl) rfl rfl pl_int rfl ?_; simp only [Act.put, Act.eval, Array.getD_eq_getD_getElem?, List.getElem?_toArray, List.getElem?_cons_zero, List.getElem?_cons_succ, Option.getD_some, List.setIfInBounds_toArray, List.set_cons_zero, List.set_cons_succ]) | (refine Sq.seq_load (t := 22) (fun X hX => (DK.kn hX).at1) (by rw [hops]; rfl) rfl rfl pl_u64 hxk ?_; simp only [Act.put, Act.eval, Array.getD_eq_getD_getElem?, List.getElem?_toArray, List.getElem?_cons_zero, List.getElem?_cons_succ, Option.getD_some, List.setIfInBounds_toArray, List.set_cons_zero, List.set_cons_succ]) | (refine Sq.seq_load (t := 22) (fun X hX => (DK.kn hX).at4) (by rw [hops]; rfl) rfl rfl pl_u64 (hc_i C hk32) ?_; simp only [Act.put, Act.eval, Array.getD_eq_getD_getElem?, List.getElem?_toArray, List.getElem?_cons_zero, List.getElem?_cons_succ, Option.getD_some, List.setIfInBounds_toArray, List.set_cons_zero, List.set_cons_succ]) | (refine' Sq.seq_pure_g (by rw [hops]; rfl) (fun X => _) _; rotate_left; (first | (go_simp; done) | (go_simp; rfl)); simp only [Act.put, Act.eval, Array.getD_eq_getD_getElem?, List.getElem?_toArray, List.getElem?_cons_zero, List.getElem?_cons_succ, Option.getD_some, List.setIfInBounds_toArray, List.set_cons_zero, List.set_cons_succ, hkn]) | (refine' Sq.seq_pure rfl (fun X => _) _; rotate_left; (first | (go_simp; done) | (go_simp; rfl)); simp only [Act.put, Act.eval, Array.getD_eq_getD_getElem?, List.getElem?_toArray, List.getElem?_cons_zero, List.getElem?_cons_succ, Option.getD_some, List.setIfInBounds_toArray, List.set_cons_zero, List.set_cons_succ, hkn]))); refine Sq.seq_nil ?_; clear hops; refine hK.out _ fun w1 hk => ?_; clear hK; replace ST := Lib.hid hk; clear hk; dsimp only [List.drop]))
        refine ⟨⟨k + 1, by omega, by go_num, ST.out⟩, by simp [intOf]; omega⟩
    · obtain rfl : k = 32 := by omega
      go_wp2
      ((with_reducible refine Sq.regionJ (id := 14) (J := fun j X => DK W X h1 h2 2147483648 1 mw mw F3 F2 [(g16, #[.int .i64 0, .int .i64 0, .int .u64 0, .int .u64 0, .bool false, .bool false], 46), (g15, (match j with | 0 => hc H2 | _ => hc { H2 with x := xup H2.x n (C.x n) }), 25), (g13, #[.pointer (some ⟨h1, 0, none⟩), .pointer (some ⟨h2, 0, none⟩)], 40), (g11, #[.int .i64 8, .int .i64 fn, .int .i64 (n : Int), .int .i64 n1, .int .i64 n2, .int .i64 0, .int .i64 0, .bool false], 44), (g5, hc C, 25)]) ?hm1 10 [9] [.keep 0 0, .keep 0 0, .keep 0 0, .keep 0 0, .keep 0 0, .keep 0 0, .keep 0 0, .keep 0 0, .keep 0 0, .eff 0] ?hi1 ?hp1 ?hf1 ?hs1); (case hm1 => rfl); (case hi1 => exact (show DK W _ h1 h2 2147483648 1 mw mw F3 F2 [(g16, #[.int .i64 0, .int .i64 0, .int .u64 0, .int .u64 0, .bool false, .bool false], 46), (g15, hc H2, 25), (g13, #[.pointer (some ⟨h1, 0, none⟩), .pointer (some ⟨h2, 0, none⟩)], 40), (g11, #[.int .i64 8, .int .i64 fn, .int .i64 (n : Int), .int .i64 n1, .int .i64 n2, .int .i64 0, .int .i64 0, .bool false], 44), (g5, hc C, 25)] from ST.out.call (Below.drew (Below.refl _ _)))); (case hp1 => kernel_rfl); (case hf1 => kernel_rfl); intro ops K hops hK; clear hops; dsimp only [List.take]; (repeat (first | (refine Sq.seqJ_move rfl rfl ?_; simp only [Act.put, Act.eval, Array.getD_eq_getD_getElem?, List.getElem?_toArray, List.getElem?_cons_zero, List.getElem?_cons_succ, Option.getD_some, List.setIfInBounds_toArray, List.set_cons_zero, List.set_cons_succ]) | (refine Sq.seqJ_check rfl rfl rfl ?_; simp only [Act.put, Act.eval, Array.getD_eq_getD_getElem?, List.getElem?_toArray, List.getElem?_cons_zero, List.getElem?_cons_succ, Option.getD_some, List.setIfInBounds_toArray, List.set_cons_zero, List.set_cons_succ]) | (refine Sq.seqJ_cell (t := 3) (fun j _ _ X hX => (((DK.kn hX).at3).cell _).trans rfl) (Sq.wanted_none rfl) rfl rfl pl_int ?_; simp only [Act.put, Act.eval, Array.getD_eq_getD_getElem?, List.getElem?_toArray, List.getElem?_cons_zero, List.getElem?_cons_succ, Option.getD_some, List.setIfInBounds_toArray, List.set_cons_zero, List.set_cons_succ]) | (refine Sq.seqJ_cell (t := 22) (fun j _ _ X hX => (((DK.kn hX).at4).cell _).trans (hc_i C hn)) (Sq.wanted_none rfl) rfl rfl pl_u64 ?_; simp only [Act.put, Act.eval, Array.getD_eq_getD_getElem?, List.getElem?_toArray, List.getElem?_cons_zero, List.getElem?_cons_succ, Option.getD_some, List.setIfInBounds_toArray, List.set_cons_zero, List.set_cons_succ]) | (refine Sq.seqJ_store (t := 22) (g := g15) (i := n) (cs := hc H2) (v := .int .u64 (C.x n)) (fun X hX => (DK.kn hX).at1) rfl rfl rfl rfl rfl pl_u64 rfl hb49 (fun X X' hX nb m => ?_) ?_; · exact DK.set hX (Kn.set1 (DK.kn hX) (show Blk X' g15 (hc { H2 with x := xup H2.x n (C.x n) }) 25 from (set_x H2 hn (C.x n)) ▸ nb) m) m ⟨_, List.mem_of_getElem? (i := 1) rfl, rfl⟩ rfl) | (refine' Sq.seqJ_pure rfl (fun X => _) _; rotate_left; (first | (go_simp; done) | (go_simp; rfl) | (go_simp; rw [if_pos hni])); simp only [Act.put, Act.eval, Array.getD_eq_getD_getElem?, List.getElem?_toArray, List.getElem?_cons_zero, List.getElem?_cons_succ, Option.getD_some, List.setIfInBounds_toArray, List.set_cons_zero, List.set_cons_succ]))); refine Sq.seqJ_nil ?_; refine hK.out _ fun w1 hk => ?_; clear hK; replace ST := Lib.hid (show DK W w1 h1 h2 2147483648 1 mw mw F3 F2 [(g16, #[.int .i64 0, .int .i64 0, .int .u64 0, .int .u64 0, .bool false, .bool false], 46), (g15, hc { H2 with x := xup H2.x n (C.x n) }, 25), (g13, #[.pointer (some ⟨h1, 0, none⟩), .pointer (some ⟨h2, 0, none⟩)], 40), (g11, #[.int .i64 8, .int .i64 fn, .int .i64 (n : Int), .int .i64 n1, .int .i64 n2, .int .i64 0, .int .i64 0, .bool false], 44), (g5, hc C, 25)] from hk); clear hk; dsimp only [List.drop])
      go_wp2_with (first
        | ((with_reducible refine Step.gate_load (t := 22) rfl ?_); refine Step.loadG ST.out.kn.at4 rfl rfl rfl pl_u64 c32 ?_)
        | ((with_reducible refine Step.gate_store (t := 22) rfl ?_); refine Step.store ST.out.kn.at1 rfl rfl rfl rfl rfl pl_u64 rfl rfl ?_; intro w3 nb m; simp [go_sem, set_pc] at nb; rw [hfin] at nb; replace ST := Lib.hid (ST.out.set (ST.out.kn.set1 nb m) m ⟨_, List.mem_of_getElem? (i := 1) rfl, rfl⟩ rfl); clear nb m)
        | ((with_reducible refine Step.gate_load (t := 25) rfl ?_); refine Step.loadAll ST.out.kn.at1 rfl rfl rfl Tryz.underlying25 rfl (size_hart _) ?_)
        | ((with_reducible refine Step.gate_load (t := 25) rfl ?_); refine Step.loadAll ST.out.kn.at4 rfl rfl rfl Tryz.underlying25 rfl (size_hart _) ?_)
        | ((with_reducible refine gate_bin (t := 25) rfl ?_); refine Step.value (v := .bool true) rfl (eql_hart rfl rfl rfl _) ?_)
        | (go_at_call 15; (with_reducible refine (awake_any _).mono ?_); rintro e w' ⟨rfl, hb⟩; replace ST := Lib.hid (ST.out.call hb); clear hb))
      go_ret
      exact ⟨rfl, ST.out.below⟩
theorem registers_any (h : Hrt) (hf : Fit h) (fa ra sa ta : Int) (h1 : -9223372036854775808 ≤ fa ∧ fa < 9223372036854775808) (h2 : -9223372036854775808 ≤ ra ∧ ra < 9223372036854775808) (h3 : -9223372036854775808 ≤ sa ∧ sa < 9223372036854775808) (h4 : -9223372036854775808 ≤ ta ∧ ta < 9223372036854775808) (W : World) :
    Calls Tryz.prog 8 #[.agg (hc h), .int .i64 fa, .int .i64 ra, .int .i64 sa, .int .i64 ta] W fun e w' => e = .returned (.bool true) ∧ Below W.heap.size W w' := by
  have P : ∀ x m q, 0 < m → m < 9223372036854775808 → x % m = q → -9223372036854775808 ≤ x ∧ x < 9223372036854775808 → ∀ w, Calls Tryz.prog 25 #[.int .i64 x, .int .i64 m] w fun e w' => e = .returned (.int .i64 q) ∧ w = w' := fun x m q h0 hm e hx w => e ▸ Mem.place_any x m h0 hx hm w
  obtain ⟨n, en⟩ := Int.eq_ofNat_of_zero_le (show 0 ≤ ra % 32 by omega)
  obtain ⟨n1, en1⟩ := Int.eq_ofNat_of_zero_le (show 0 ≤ sa % 32 by omega)
  obtain ⟨n2, en2⟩ := Int.eq_ofNat_of_zero_le (show 0 ≤ ta % 32 by omega)
  have hn : n < 32 := by omega
  have hn1 : n1 < 32 := by omega
  have hn2 : n2 < 32 := by omega
  have hfn : 1 ≤ 1 + fa % 28 ∧ 1 + fa % 28 ≤ 28 := by omega
  have c0 : (calmH h).x 0 = 0 := (show xup h.x 0 0 0 = 0 from xup_at _ _ _)
  have F := calm_fit hf
  refine reg_law h (calmH h) (aluH (calmH h) n (aluV (1 + fa % 28) ((ord (calmH h)).x n1) ((ord (calmH h)).x n2))) fa ra sa ta (fa % 28) (1 + fa % 28) n n1 n2 (aluU (1 + fa % 28) n n1 n2) (IntWalk.i64_in _ (by omega)) hn (Lib.hid (P fa 28 _ (by decide) (by decide) rfl h1)) (Lib.hid (P ra 32 _ (by decide) (by decide) en h2)) (Lib.hid (P sa 32 _ (by decide) (by decide) en1 h3)) (Lib.hid (P ta 32 _ (by decide) (by decide) en2 h4)) (Lib.hid (calm_any h hf)) (Lib.hid (one_alu _ _ _ n hfn (by omega) (by omega) (by omega))) (Lib.hid (fun X gc gm tv m0 F1 hk => step_reg hk (calmH h) F rfl rfl rfl hfn hn hn1 hn2)) (by kernel_rfl) rfl (fun k hk => alu_x c0 (calm_ord h) n _ hk) (alu_fin c0 (calm_ord h) n _) W
end Go.Proofs.YthkodjkkcgdmfaaGreat.Hart
end
