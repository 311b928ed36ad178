/- Parts of the walks and laws for the claim: Drawn, DecC, Dec, EncA, One; no conditions beyond the theorems' own. -/
import Derived.Test.YtchpnbckgofiaaaGreatQ2
import Derived.Test.YtchpnbckgofiaaaGreatQ12
section
namespace Go.Proofs.YtchpnbckgofiaaaGreat.Enc
open Go Go.RowKit Go.Proofs.YtchpnbckgofiaaaGreat.Step
set_option linter.unusedVariables false
set_option linter.unusedSimpArgs false
set_option maxRecDepth 100000
section
variable {P : Program} {ops : Array Oper} {fin : Act} {W : World} {o : Oper}
theorem calm_load {t : TypeId} {x : Operand} {g i : Nat} {cs : Array Value} {T : TypeId} {v : Value} (hB : Blk W g cs T) (hg : o.guard = none) (ho : o.op = .load t x) (hx : fin.eval x = .pointer (some ⟨g, i, none⟩)) (ht : plainT P t = true) (hv : cs[i]? = some v)
    (hp : fin.put o.dst v = fin) : Calm.Calm P ops fin W o :=
  Calm.calm_value hg (fun X hX => by
    have := run_load1 (P := P) ht (((hB.below hX).cell i).trans hv)
    simp [execOp, ho, hx, this, Result.andThen]) hp
end
section
variable {P : Program} {ops : Array Oper} {fin : Act} {W : World} {o : Oper} {T : TypeId} {g r : Nat} {c dn : Array Value}
/-- An operation that leaves the two as they are, whenever it comes up. -/
def Stays (P : Program) (fin : Act) (W : World) (T : TypeId) (g r : Nat) (c : Array Value) (o : Oper) : Prop :=
  o.guard = none ∧ ∀ X d, S2 W X T g r c d → o.wp P fin X (fun a' X' => a' = fin ∧ S2 W X' T g r c d) (fun _ _ _ => False)
theorem stays_value {v : Value} (hg : o.guard = none) (h : ∀ X, (execOp fin.eval o).run P X = .ok (.value v) X) (hp : fin.put o.dst v = fin) : Stays P fin W T g r c o :=
  ⟨hg, fun X d hX => by unfold Oper.wp; rw [h X]; exact ⟨hp, hX⟩⟩
theorem put_self (a : Act) (t : Nat) : a.put (some t) (a.tmps.getD t undef) = a := by
  cases a with
  | mk tm df =>
    simp only [Act.put, Act.mk.injEq, and_true]
    apply Array.ext_getElem?
    intro i
    rw [Array.getElem?_setIfInBounds]
    split
    · rename_i h; subst h
      split
      · rename_i h2; simp [Array.getD_eq_getD_getElem?, Array.getElem?_eq_getElem h2]
      · rename_i h2; rw [Array.getElem?_eq_none (by omega)]
    · rfl
theorem stays_slot {t : Nat} (hg : o.guard = none) (hd : o.dst = some t) (h : ∀ X, (execOp fin.eval o).run P X = .ok (.value (fin.tmps.getD t undef)) X) : Stays P fin W T g r c o :=
  stays_value hg h (by rw [hd]; exact put_self fin t)
theorem stays_call {f : FuncId} {args : Array Value} {v : Value} {cc : Call} (_ : o.op = .call cc) (hg : o.guard = none) (h : ∀ X, (execOp fin.eval o).run P X = .ok (.enter f args) X) (hc : ∀ X, Calls P f args X fun e X' => e = .returned v ∧ Below X.heap.size X X') (hp : fin.put o.dst v = fin) :
    Stays P fin W T g r c o :=
  ⟨hg, fun X d hX => by
    unfold Oper.wp; rw [h X]
    refine Calls.mono (hc X) fun e X' he => ?_
    obtain ⟨rfl, hb⟩ := he
    exact ⟨hp, hX.call hb⟩⟩
theorem stays_loadAll {t : TypeId} {x : Operand} {d : TypeDesc} (hg : o.guard = none) (ho : o.op = .load t x) (hx : fin.eval x = .pointer (some ⟨g, 0, none⟩)) (hu : P.underlying t = some d)
    (hd : (match d with | .struct _ | .array _ _ => true | _ => false) = true) (hi : (P.info? t).map (·.size) = some c.size) (hp : fin.put o.dst (.agg c) = fin) : Stays P fin W T g r c o :=
  ⟨hg, fun X d' hX => by
    have h := run_loadVar_row (P := P) X g T t c (0, 0) d hX.one.out hu hd hi
    have h2 : (execOp fin.eval o).run P X = .ok (.value (.agg c)) X := by simp [execOp, ho, hx, Instr.loadAt, Instr.sureAddr, h, Result.andThen]
    unfold Oper.wp; rw [h2]; exact ⟨hp, hX⟩⟩
theorem stays_load {t : TypeId} {x : Operand} {i : Nat} {v : Value} (hg : o.guard = none) (ho : o.op = .load t x) (hx : fin.eval x = .pointer (some ⟨g, i, none⟩)) (ht : plainT P t = true) (hv : c[i]? = some v) (hp : fin.put o.dst v = fin) : Stays P fin W T g r c o :=
  ⟨hg, fun X d' hX => by
    have h := run_load1 (P := P) ht ((hX.one.cell i).trans hv)
    have h2 : (execOp fin.eval o).run P X = .ok (.value v) X := by simp [execOp, ho, hx, h, Result.andThen]
    unfold Oper.wp; rw [h2]; exact ⟨hp, hX⟩⟩
/-- The operation that writes the second whole. -/
def Sets (P : Program) (fin : Act) (W : World) (T : TypeId) (g r : Nat) (c dn : Array Value) (o : Oper) : Prop :=
  o.guard = none ∧ ∀ X d, d.size = dn.size → S2 W X T g r c d → o.wp P fin X (fun a' X' => a' = fin ∧ S2 W X' T g r c dn) (fun _ _ _ => False)
theorem sets_all {t : TypeId} {x y : Operand} (hg : o.guard = none) (ho : o.op = .store t x y) (hn : o.dst = none) (hx : fin.eval x = .pointer (some ⟨r, 0, none⟩)) (hy : fin.eval y = .agg dn) (hi : (P.info? t).map (·.size) = some dn.size)
    (h1 : dn.toList.all (·.oneCell') = true) : Sets P fin W T g r c dn o :=
  ⟨hg, fun X d hs hX => by
    have hrun := run_storeVar_row (P := P) X r T t d dn hX.two.out hi hs (by rw [← Array.all_toList]; exact h1)
    unfold Oper.wp
    simp [execOp, ho, hx, hy, Instr.storeAt, Instr.sureAddr, hrun, Result.andThen]
    simp only [Oper.upon, hn, Act.put]
    exact ⟨trivial, hX.set2 (setRow_out _ _ _ _ _ hX.two) (setRow_mod _ _ _)⟩⟩
/-- **A region in any order, of operations that leave the two as they are, and one that writes the second.** -/
theorem two_region {l : List Oper} {id : Nat} {a : Act} {w : World} {d : Array Value} {Q : Exit → Act → World → Prop} {k : Nat} {ok : Oper} (hS : S2 W w T g r c d) (hm : P.follows .mixedOrders = true) (vs : List (Tmp × Value)) (hsz : d.size = dn.size)
    (hord : Reg.ordered l.toArray = true) (hin : Reg.within l.toArray vs = true) (hfin : Reg.puts a vs = fin) (hk : l[k]? = some ok) (hset : Sets P fin W T g r c dn ok) (hdo : ∀ o ∈ l.eraseIdx k, Stays P fin W T g r c o)
    (hQ : ∀ w', S2 W w' T g r c dn → Q .normal fin w') : (Code.region id l.toArray true).wp P Q a w := by
  subst hfin
  refine Reg.region hm vs (fun L w => ∃ d, d.size = dn.size ∧ S2 W w T g r c d ∧ (L.getD k false = true → d = dn)) hord hin ⟨d, hsz, hS.call (below_drawn ⟨1, rfl⟩), fun h => ?_⟩ (fun i o ho L w hL hLi hdep hI => ?_) (fun L w hL hall hI => ?_)
  · exfalso
    simp only [Array.getD_eq_getD_getElem?, Array.getElem?_replicate] at h
    split at h <;> simp at h
  · obtain ⟨d, hd, h2, h3⟩ := hI
    have ho' : l[i]? = some o := by simpa using ho
    by_cases e : i = k
    · subst e
      obtain rfl : ok = o := by rw [hk] at ho'; simpa using ho'
      refine Reg.does_plain hset.1 (Oper.wp_mono (fun a' X' h => ?_) (hset.2 w d hd h2))
      exact ⟨h.1, dn, rfl, h.2, fun _ => rfl⟩
    · have hmem : o ∈ l.eraseIdx k := by
        rw [List.mem_eraseIdx_iff_getElem?]
        exact ⟨i, e, ho'⟩
      have hs := hdo o hmem
      refine Reg.does_plain hs.1 (Oper.wp_mono (fun a' X' h => ?_) (hs.2 w d h2))
      refine ⟨h.1, d, hd, h.2, fun h4 => h3 ?_⟩
      simpa [Array.getD_eq_getD_getElem?, Array.getElem?_setIfInBounds_ne e] using h4
  · obtain ⟨d, hd, h2, h3⟩ := hI
    have hkl : k < l.toArray.size := by simpa using (List.getElem?_eq_some_iff.1 hk).1
    have h4 := hall k hkl
    have h5 : L.getD k false = true := by
      simp only [Array.getD_eq_getD_getElem?] at h4 ⊢
      rw [Array.getElem?_eq_getElem (by rw [hL]; exact hkl)] at h4 ⊢
      exact h4
    obtain rfl := h3 h5
    exact hQ w h2
theorem stays_nil : ∀ o ∈ ([] : List Oper), Stays P fin W T g r c o := fun _ h => nomatch h
theorem stays_cons {l : List Oper} (h : Stays P fin W T g r c o) (hl : ∀ o ∈ l, Stays P fin W T g r c o) : ∀ o' ∈ o :: l, Stays P fin W T g r c o' := fun o' ho => by
  rcases List.mem_cons.1 ho with rfl | h'
  · exact h
  · exact hl o' h'
/-- An operation that turns one cell of the first. -/
def SetsA (P : Program) (fin : Act) (W : World) (T : TypeId) (g r : Nat) (c cn : Array Value) (o : Oper) : Prop :=
  o.guard = none ∧ ∀ X d, S2 W X T g r c d → o.wp P fin X (fun a' X' => a' = fin ∧ S2 W X' T g r cn d) (fun _ _ _ => False)
theorem setsA_cell {c : Array Value} {t : TypeId} {x y : Operand} {i : Nat} {v : Value} (hg : o.guard = none) (ho : o.op = .store t x y) (hn : o.dst = none) (hx : fin.eval x = .pointer (some ⟨g, i, none⟩)) (hy : fin.eval y = v) (ht : plainT P t = true) (hv : v.oneCell' = true) (hi' : Nat.blt i c.size = true) {cn : Array Value} (hcn : c.setIfInBounds i v = cn) :
    SetsA P fin W T g r c cn o :=
  ⟨hg, fun X d hX => by
    subst hcn
    have hi : i < c.size := Nat.le_of_ble_eq_true hi'
    have hrun := run_store1 (P := P) ht hv ((hX.one.cell i).trans (Array.getElem?_eq_getElem hi)) (hX.one.frozen i)
    unfold Oper.wp
    simp [execOp, ho, hx, hy, hrun, Result.andThen]
    simp only [Oper.upon, hn, Act.put]
    exact ⟨trivial, hX.set1 (setCell_out _ _ _ _ _ _ hX.one) (setCell_mod _ _ _ _)⟩⟩
def Calms (P : Program) (fin : Act) (W : World) (T : TypeId) (g r : Nat) (o : Oper) : Prop := ∀ c, Stays P fin W T g r c o
theorem calms_nil : ∀ o ∈ ([] : List Oper), Calms P fin W T g r o := fun _ h => nomatch h
theorem calms_cons {l : List Oper} (h : Calms P fin W T g r o) (hl : ∀ o ∈ l, Calms P fin W T g r o) : ∀ o' ∈ o :: l, Calms P fin W T g r o' := fun o' ho => by
  rcases List.mem_cons.1 ho with rfl | h'
  · exact h
  · exact hl o' h'
/-- **A region in any order, of calm operations and two that turn cells of the first, one behind the other.** -/
theorem twice_region {l : List Oper} {id : Nat} {a : Act} {w : World} {d c0 c1 c2 : Array Value} {Q : Exit → Act → World → Prop} {k1 k2 : Nat} {o1 o2 : Oper} (hS : S2 W w T g r c0 d) (hm : P.follows .mixedOrders = true) (vs : List (Tmp × Value))
    (hord : Reg.ordered l.toArray = true) (hin : Reg.within l.toArray vs = true) (hfin : Reg.puts a vs = fin) (hk1 : l[k1]? = some o1) (hk2 : l[k2]? = some o2) (hne : k1 ≠ k2) (hw : (o2.after.any fun e => e.on == k1 && Region.binds .any e) = true)
    (hs1 : SetsA P fin W T g r c0 c1 o1) (hs2 : SetsA P fin W T g r c1 c2 o2) (hdo : ∀ o ∈ (l.eraseIdx k2).eraseIdx k1, Calms P fin W T g r o) (hlt : k1 < k2)
    (hQ : ∀ w', S2 W w' T g r c2 d → Q .normal fin w') : (Code.region id l.toArray true).wp P Q a w := by
  subst hfin
  have hother : ∀ (L : Array Bool) (i j : Nat), i ≠ j → ((L.setIfInBounds i true).getD j false = true ↔ L.getD j false = true) := by
    intro L i j e
    simp [Array.getD_eq_getD_getElem?, Array.getElem?_setIfInBounds_ne e]
  have hself : ∀ (L : Array Bool) (i : Nat), i < L.size → (L.setIfInBounds i true).getD i false = true := by
    intro L i h
    simp [Array.getD_eq_getD_getElem?, h]
  have hl1 : k1 < l.length := (List.getElem?_eq_some_iff.1 hk1).1
  have hl2 : k2 < l.length := (List.getElem?_eq_some_iff.1 hk2).1
  refine Reg.region hm vs (fun L w => (S2 W w T g r c0 d ∧ ¬ L.getD k1 false = true ∧ ¬ L.getD k2 false = true) ∨ (S2 W w T g r c1 d ∧ L.getD k1 false = true ∧ ¬ L.getD k2 false = true) ∨ (S2 W w T g r c2 d ∧ L.getD k1 false = true ∧ L.getD k2 false = true)) hord hin
    (.inl ⟨hS.call (below_drawn ⟨1, rfl⟩), ?_, ?_⟩) (fun i o ho L w hL hLi hdep hI => ?_) (fun L w hL hall hI => ?_)
  · simp [Array.getD_eq_getD_getElem?, hl1]
  · simp [Array.getD_eq_getD_getElem?, hl2]
  · have ho' : l[i]? = some o := by simpa using ho
    have hiL : i < L.size := by rw [hL]; exact (Array.getElem?_eq_some_iff.1 ho).1
    have hLi' : ¬ L.getD i false = true := by
      simp only [Array.getD_eq_getD_getElem?] at hLi ⊢
      rw [Array.getElem?_eq_getElem hiL] at hLi ⊢
      simpa using hLi
    by_cases e1 : i = k1
    · subst e1
      obtain rfl : o1 = o := by rw [hk1] at ho'; simpa using ho'
      rcases hI with ⟨h, _, h2⟩ | ⟨_, h1, _⟩ | ⟨_, h1, _⟩
      · refine Reg.does_plain hs1.1 (Oper.wp_mono (fun a' X' h => ?_) (hs1.2 w d h))
        exact ⟨h.1, .inr (.inl ⟨h.2, hself L i hiL, fun h3 => h2 ((hother L i k2 hne).1 h3)⟩)⟩
      · exact (hLi' h1).elim
      · exact (hLi' h1).elim
    · by_cases e2 : i = k2
      · subst e2
        obtain rfl : o2 = o := by rw [hk2] at ho'; simpa using ho'
        obtain ⟨e, he, hb⟩ := Array.any_eq_true'.1 hw
        simp only [Bool.and_eq_true, beq_iff_eq] at hb
        have h4 := hdep e he hb.2
        rw [hb.1] at h4
        have h5 : L.getD k1 false = true := by
          simp only [Array.getD_eq_getD_getElem?] at h4 ⊢
          rw [Array.getElem?_eq_getElem (by rw [hL]; simpa using hl1)] at h4 ⊢
          exact h4
        rcases hI with ⟨_, h1, _⟩ | ⟨h, h1, _⟩ | ⟨_, _, h2⟩
        · exact (h1 h5).elim
        · refine Reg.does_plain hs2.1 (Oper.wp_mono (fun a' X' h => ?_) (hs2.2 w d h))
          exact ⟨h.1, .inr (.inr ⟨h.2, (hother L i k1 (fun e => hne e.symm)).2 h5, hself L i hiL⟩)⟩
        · exact (hLi' h2).elim
      · have hmem : o ∈ (l.eraseIdx k2).eraseIdx k1 := by
          rw [List.mem_eraseIdx_iff_getElem?]
          by_cases h : i < k2
          · exact ⟨i, e1, by rw [List.getElem?_eraseIdx_of_lt h]; exact ho'⟩
          · exact ⟨i - 1, by omega, by rw [List.getElem?_eraseIdx_of_ge (by omega), show i - 1 + 1 = i by omega]; exact ho'⟩
        have hs := hdo o hmem
        rcases hI with ⟨h, h1, h2⟩ | ⟨h, h1, h2⟩ | ⟨h, h1, h2⟩
        · refine Reg.does_plain (hs c0).1 (Oper.wp_mono (fun a' X' h => ?_) ((hs c0).2 w d h))
          exact ⟨h.1, .inl ⟨h.2, fun h3 => h1 ((hother L i k1 e1).1 h3), fun h3 => h2 ((hother L i k2 e2).1 h3)⟩⟩
        · refine Reg.does_plain (hs c1).1 (Oper.wp_mono (fun a' X' h => ?_) ((hs c1).2 w d h))
          exact ⟨h.1, .inr (.inl ⟨h.2, (hother L i k1 e1).2 h1, fun h3 => h2 ((hother L i k2 e2).1 h3)⟩)⟩
        · refine Reg.does_plain (hs c2).1 (Oper.wp_mono (fun a' X' h => ?_) ((hs c2).2 w d h))
          exact ⟨h.1, .inr (.inr ⟨h.2, (hother L i k1 e1).2 h1, (hother L i k2 e2).2 h2⟩)⟩
  · have h4 := hall k2 (by simpa using hl2)
    have h5 : L.getD k2 false = true := by
      simp only [Array.getD_eq_getD_getElem?] at h4 ⊢
      rw [Array.getElem?_eq_getElem (by rw [hL]; simpa using hl2)] at h4 ⊢
      exact h4
    rcases hI with ⟨_, _, h2⟩ | ⟨_, _, h2⟩ | ⟨h, _, _⟩
    · exact (h2 h5).elim
    · exact (h2 h5).elim
    · exact hQ w h
end
theorem alloc_run {t : TypeId} {cs : Array Value} {oa : Oper} (ho : oa.op = .alloc t) (hz : (Tryz.prog.info? t).bind (·.zero) = some (.agg cs)) (b : Act) (X : World) : (execOp b.eval oa).run Tryz.prog X = .ok (.value (Calm.ptr X.heap.size)) (X.alloc (.cells cs t (0, 0))) := by
  simp [execOp, ho, alloc_agg hz X, Result.andThen, Calm.ptr]
theorem calm_slot {P : Program} {ops : Array Oper} {fin : Act} {W : World} {o : Oper} {t : Nat} (hg : o.guard = none) (hd : o.dst = some t) (h : ∀ X, (execOp fin.eval o).run P X = .ok (.value (fin.tmps.getD t undef)) X) : Calm.Calm P ops fin W o :=
  Calm.calm_value hg (fun X _ => h X) (by rw [hd]; exact put_self fin t)
theorem calm_callg {P : Program} {ops : Array Oper} {fin : Act} {W : World} {o : Oper} {f : FuncId} {args : Array Value} {v : Value} {cc : Call} (_ : o.op = .call cc) (hg : o.guard = none) (h : ∀ X, (execOp fin.eval o).run P X = .ok (.enter f args) X)
    (hc : ∀ X, Calls P f args X fun e X' => e = .returned v ∧ Below X.heap.size X X') (hp : fin.put o.dst v = fin) : Calm.Calm P ops fin W o := Calm.calm_call hg h (fun X _ => hc X) hp
end Go.Proofs.YtchpnbckgofiaaaGreat.Enc
end
section
namespace Go.Proofs.YtchpnbckgofiaaaGreat.Enc
open Go Go.RowKit Go.Proofs.YtchpnbckgofiaaaGreat.Step
set_option linter.unusedVariables false
set_option linter.unusedSimpArgs false
set_option maxRecDepth 100000
theorem system_12 (w : World) : Calls Tryz.prog 103 #[.int .u32 1048691] w fun e w' => e = .returned (.tuple #[.agg #[.int .i64 12, .int .i64 0, .int .i64 0, .int .i64 0, .int .i64 0, .int .i64 0, .int .i64 0, .bool false], .bool true]) ∧ Below w.heap.size w w' := by
  go_enter Tryz.func103, Tryz.ntmps103
  go_wp2_with (first
 | (refine Step.freshAlloc rfl rfl (alloc_agg zero_inst) ?_; intro g1 w1 b hg hb; have ST := Lib.hid (S1.made b hg hb); clear b hg hb)
 | (refine Step.storeAll ST.out.one rfl rfl rfl rfl rfl size_inst rfl rfl ?_; intro w3 nb m; replace ST := Lib.hid (ST.out.set1 nb m); clear nb m))
  refine bodyPost_ret (results_row_tmp rfl _ _ g1 _ _ _ rfl ST.out.one Tryz.underlying85 rfl size_inst) rfl ⟨rfl, ST.out.below⟩
/-- What an atomic is: kind, operation, whether it is one. -/
def atF (f rs2 : Int) : Int × Int × Bool :=
  if f = 2 then (15, 0, rs2 == 0) else if f = 3 then (16, 0, true) else if f = 1 then (17, 1, true) else if f % 4 = 0 then (17, pk ([2, 3, 5, 4, 6, 7, 8, 9] : List Int) (f / 4), true) else (0, 0, false)
end Go.Proofs.YtchpnbckgofiaaaGreat.Enc
end
section
namespace Go.Proofs.YtchpnbckgofiaaaGreat.Enc
open Go Go.RowKit
set_option linter.unusedVariables false
/-- An instruction's fields. -/
structure Ins where
  k : Int
  fn : Int
  rd : Int
  rs1 : Int
  rs2 : Int
  imm : Int
  sz : Int
  sg : Bool
def Ins.cells (i : Ins) : Array Value := #[.int .i64 i.k, .int .i64 i.fn, .int .i64 i.rd, .int .i64 i.rs1, .int .i64 i.rs2, .int .i64 i.imm, .int .i64 i.sz, .bool i.sg]
def Ins.zero : Ins := ⟨0, 0, 0, 0, 0, 0, 0, false⟩
/-- What Decode tells. -/
def told : Option Ins → Value
  | none => .tuple #[.agg Ins.zero.cells, .bool false]
  | some i => .tuple #[.agg i.cells, .bool true]
def brL : List Int := [1, 2, 0, 0, 3, 4, 5, 6]
def ldL : List Int := [1, 2, 4, 8, 1, 2, 4, 8]
def stL : List Int := [1, 2, 4, 8, 16, 32, 64, 128]
def csL : List Int := [0, 1, 2, 3, 0, 1, 2, 3]
def sysD (a : Int) : Option Ins :=
  if a = 115 then some ⟨11, 0, 0, 0, 0, 0, 0, false⟩
  else if a = 1048691 then some ⟨12, 0, 0, 0, 0, 0, 0, false⟩
  else if a = 270532723 then some ⟨18, 0, 0, 0, 0, 0, 0, false⟩
  else if a = 273678451 then some ⟨19, 0, 0, 0, 0, 0, 0, false⟩
  else if fd a 14 12 = 0 then (if fd a 31 25 = 9 ∧ fd a 11 7 = 0 then some ⟨20, 0, 0, fd a 19 15, fd a 24 20, 0, 0, false⟩ else none)
  else if pk csL (fd a 14 12) = 0 then none
  else some ⟨if fd a 14 12 < 4 then 13 else 14, pk csL (fd a 14 12), fd a 11 7, fd a 19 15, 0, fd a 31 20, 0, false⟩
def atD (a : Int) : Option Ins :=
  if fd a 14 12 = 2 ∨ fd a 14 12 = 3 then
    (if (atF (fd a 31 27) (fd a 24 20)).2.2 then some ⟨(atF (fd a 31 27) (fd a 24 20)).1, (atF (fd a 31 27) (fd a 24 20)).2.1, fd a 11 7, fd a 19 15, fd a 24 20, 0, if fd a 14 12 = 2 then 4 else 8, false⟩ else none)
  else none
/-- What a word says as an instruction, by its lowest bits. -/
def decOp (op a : Int) : Option Ins :=
  if op = 55 then some ⟨1, 0, fd a 11 7, 0, 0, immU a, 0, false⟩
  else if op = 23 then some ⟨2, 0, fd a 11 7, 0, 0, immU a, 0, false⟩
  else if op = 111 then some ⟨3, 0, fd a 11 7, 0, 0, immJ a, 0, false⟩
  else if op = 103 then (if fd a 14 12 = 0 then some ⟨4, 0, fd a 11 7, fd a 19 15, 0, immI a, 0, false⟩ else none)
  else if op = 99 then (if pk brL (fd a 14 12) = 0 then none else some ⟨5, pk brL (fd a 14 12), 0, fd a 19 15, fd a 24 20, immB a, 0, false⟩)
  else if op = 3 then (if fd a 14 12 < 7 then some ⟨6, 0, fd a 11 7, fd a 19 15, 0, immI a, pk ldL (fd a 14 12), decide (fd a 14 12 < 4)⟩ else none)
  else if op = 35 then (if fd a 14 12 < 4 then some ⟨7, 0, 0, fd a 19 15, fd a 24 20, immS a, pk stL (fd a 14 12), false⟩ else none)
  else if op = 19 then (if (im13 (fd a 31 26) (fd a 14 12) (fd a 25 20) (immI a)).2.2 then some ⟨9, (im13 (fd a 31 26) (fd a 14 12) (fd a 25 20) (immI a)).1, fd a 11 7, fd a 19 15, 0, (im13 (fd a 31 26) (fd a 14 12) (fd a 25 20) (immI a)).2.1, 0, false⟩ else none)
  else if op = 27 then (if (im1b (fd a 31 25) (fd a 14 12) (fd a 24 20) (immI a)).2.2 then some ⟨9, (im1b (fd a 31 25) (fd a 14 12) (fd a 24 20) (immI a)).1, fd a 11 7, fd a 19 15, 0, (im1b (fd a 31 25) (fd a 14 12) (fd a 24 20) (immI a)).2.1, 0, false⟩ else none)
  else if op = 51 then (if regF true (fd a 31 25) (fd a 14 12) = 0 then none else some ⟨8, regF true (fd a 31 25) (fd a 14 12), fd a 11 7, fd a 19 15, fd a 24 20, 0, 0, false⟩)
  else if op = 59 then (if regF false (fd a 31 25) (fd a 14 12) = 0 then none else some ⟨8, regF false (fd a 31 25) (fd a 14 12), fd a 11 7, fd a 19 15, fd a 24 20, 0, 0, false⟩)
  else if op = 15 then (if fd a 14 12 < 2 then some ⟨10, 0, 0, 0, 0, 0, 0, false⟩ else none)
  else if op = 115 then sysD a
  else if op = 47 then atD a
  else none
def dec (a : Int) : Option Ins := decOp (fd a 6 0) a
/-- A result of the inner readers: what stands there counts where they say so. -/
def Says (d : Option Ins) (e : Ending) : Prop := ∃ j ok, e = .returned (.tuple #[.agg (Ins.cells j), .bool ok]) ∧ d = if ok then some j else none
end Go.Proofs.YtchpnbckgofiaaaGreat.Enc
end
section
namespace Go.Proofs.YtchpnbckgofiaaaGreat.Enc
open Go Go.RowKit Go.Proofs.YtchpnbckgofiaaaGreat.Step
set_option linter.unusedVariables false
set_option linter.unusedSimpArgs false
set_option maxRecDepth 100000
/-- The low n bits of a number, at a place. -/
def pt (v : Int) (n l : Nat) : Int := v % (2 ^ n : Nat) * (2 ^ l : Nat)
theorem pt_bd (v : Int) (n l : Nat) (h : n + l ≤ 32) : 0 ≤ pt v n l ∧ pt v n l < 4294967296 := by
  have hp : (0 : Int) < (2 ^ n : Nat) := by exact_mod_cast Nat.two_pow_pos n
  have hq : (0 : Int) < (2 ^ l : Nat) := by exact_mod_cast Nat.two_pow_pos l
  have h1 := Int.emod_nonneg v (show ((2 ^ n : Nat) : Int) ≠ 0 by omega)
  have h2 := Int.emod_lt_of_pos v hp
  have h3 : 2 ^ n * 2 ^ l ≤ 4294967296 := by rw [← Nat.pow_add]; exact Nat.pow_le_pow_right (n := 2) (j := 32) (by decide) h
  have h4 : ((2 ^ n : Nat) : Int) * ((2 ^ l : Nat) : Int) ≤ 4294967296 := by rw [← Int.natCast_mul]; generalize 2 ^ n * 2 ^ l = q at h3 ⊢; omega
  unfold pt
  refine ⟨Int.mul_nonneg h1 (by omega), ?_⟩
  have h5 : v % ((2 ^ n : Nat) : Int) * ((2 ^ l : Nat) : Int) < ((2 ^ n : Nat) : Int) * ((2 ^ l : Nat) : Int) := Int.mul_lt_mul_of_pos_right h2 hq
  omega
theorem u32_mask (x : Int) (n : Nat) (hn : n ≤ 32) (hx : 0 ≤ x ∧ x < 4294967296) : bits .and .u32 x ((2 ^ n - 1 : Nat) : Int) = x % (2 ^ n : Nat) := by
  have hp : 2 ^ n ≤ 4294967296 := Nat.pow_le_pow_right (n := 2) (j := 32) (by decide) hn
  have hp0 := Nat.two_pow_pos n
  obtain ⟨X, rfl⟩ := Int.eq_ofNat_of_zero_le hx.1
  rw [u32_and_nat _ _ (by omega) (by omega), Nat.and_two_pow_sub_one_eq_mod]; rfl
theorem put_any (v z1 z2 : Int) (h l : Nat) (hz1 : z1 = h) (hz2 : z2 = l) (hh : h ≤ 31) (hl : l ≤ h) (w : World) :
    Calls Tryz.prog 88 #[.int .i64 v, .int .i64 z1, .int .i64 z2] w fun e w' => e = .returned (.int .u32 (pt v (h - l + 1) l)) ∧ w = w' := by
  subst hz1; subst hz2
  have hp : 2 ^ (h - l + 1) ≤ 4294967296 := Nat.pow_le_pow_right (n := 2) (j := 32) (by decide) (by omega)
  have hv : bits .and .u32 (v % 4294967296) ((2 ^ (h - l + 1) - 1) % 4294967296) * 2 ^ l % 4294967296 = pt v (h - l + 1) l := by
    have h0 := Nat.two_pow_pos (h - l + 1)
    have e1 : ((2 : Int) ^ (h - l + 1) - 1) % 4294967296 = ((2 ^ (h - l + 1) - 1 : Nat) : Int) := by rw [pow_nat]; generalize 2 ^ (h - l + 1) = p at *; omega
    rw [e1, u32_mask _ _ (by omega) (by omega)]
    have e2 : v % 4294967296 % ((2 ^ (h - l + 1) : Nat) : Int) = v % ((2 ^ (h - l + 1) : Nat) : Int) := by
      refine Int.emod_emod_of_dvd v ?_
      have hd : 2 ^ (h - l + 1) ∣ 2 ^ 32 := Nat.pow_dvd_pow 2 (by omega)
      exact Int.natCast_dvd_natCast.2 hd
    rw [e2, pow_nat l]
    have := pt_bd v (h - l + 1) l (by omega)
    exact Int.emod_eq_of_lt this.1 this.2
  go_enter Tryz.func88, Tryz.ntmps88
  go_wp2
  go_ret
  exact ⟨congrArg (fun x => Ending.returned (.int .u32 x)) hv, rfl⟩
theorem tmod_fix (v p : Int) (hp : 0 < p) : (v.tmod p < 0 → v.tmod p + p = v % p) ∧ (0 ≤ v.tmod p → v.tmod p = v % p) := by
  have h := Int.tmod_eq_emod (a := v) (b := p)
  have h1 := Int.emod_nonneg v (show p ≠ 0 by omega)
  have h2 := Int.emod_lt_of_pos v hp
  split at h <;> omega
theorem at_any (v z1 z2 : Int) (n l : Nat) (hz1 : z1 = n) (hz2 : z2 = l) (hn : 1 ≤ n) (hl : n + l ≤ 32) (w : World) :
    Calls Tryz.prog 117 #[.int .i64 v, .int .i64 z1, .int .i64 z2] w fun e w' => e = .returned (.int .u32 (pt v n l)) ∧ w = w' := by
  subst hz1; subst hz2
  have hw : wrap64 (2 ^ n) = ((2 ^ n : Nat) : Int) := by rw [pow_nat]; exact wrap_pow n (by omega)
  have h0 := Nat.two_pow_pos n
  have hp : 2 ^ n ≤ 4294967296 := Nat.pow_le_pow_right (n := 2) (j := 32) (by decide) (by omega)
  have hne : ¬ wrap64 (2 ^ n) = 0 := by rw [hw]; omega
  have hf := tmod_fix v ((2 ^ n : Nat) : Int) (by omega)
  have hb := pt_bd v n l hl
  have he1 := Int.emod_nonneg v (show ((2 ^ n : Nat) : Int) ≠ 0 by omega)
  have he2 := Int.emod_lt_of_pos v (show (0 : Int) < ((2 ^ n : Nat) : Int) by omega)
  have key : ∀ q : Int, q = v % ((2 ^ n : Nat) : Int) → q % 4294967296 * 2 ^ l % 4294967296 = pt v n l := by
    intro q hq
    rw [show q % 4294967296 = q by omega, pow_nat l, hq]
    exact Int.emod_eq_of_lt hb.1 hb.2
  obtain ⟨t, ht⟩ : ∃ t, v.tmod (wrap64 (2 ^ n)) = t := ⟨_, rfl⟩
  rw [hw] at ht
  rw [ht] at hf
  have ht' : v.tmod (wrap64 (2 ^ n)) = t := by rw [hw]; exact ht
  by_cases hneg : t < 0
  · have hk := key (wrap64 (t + wrap64 (2 ^ n))) (by rw [hw, ← hf.1 hneg]; generalize 2 ^ n = p at *; unfold wrap64; omega)
    clear key hf hb he1 he2 ht hp hw h0
    go_enter Tryz.func117, Tryz.ntmps117
    go_wp2
    go_ret
    exact ⟨by first | rfl | exact congrArg (fun x => Ending.returned (.int .u32 x)) hk, rfl⟩
  · have hk := key t (hf.2 (by omega))
    have hnn : 0 ≤ t := by omega
    clear key hf hb he1 he2 ht hp hw h0
    go_enter Tryz.func117, Tryz.ntmps117
    go_wp2
    go_ret
    exact ⟨by first | rfl | exact congrArg (fun x => Ending.returned (.int .u32 x)) hk, rfl⟩
/-- Where a number stands in a list first; -1: nowhere. -/
def ix (L : List Int) (v : Int) : Int := match L.findIdx? (· == v) with | some i => (i : Int) | none => -1
theorem ix_hit {L : List Int} {v : Int} {k : Nat} (h : k < L.length) (hk : L.getD k 0 = v) (hm : ∀ j, j < k → L.getD j 0 ≠ v) : ix L v = k := by
  have h0 : L.findIdx? (· == v) = some k := by
    rw [List.findIdx?_eq_some_iff_getElem]
    refine ⟨h, ?_, fun j hj => ?_⟩
    · simpa [List.getD, List.getElem?_eq_getElem h] using hk
    · have := hm j hj
      simpa [List.getD, List.getElem?_eq_getElem (show j < L.length by omega)] using this
  unfold ix; rw [h0]
theorem ix_miss {L : List Int} {v : Int} (hm : ∀ j, j < L.length → L.getD j 0 ≠ v) : ix L v = -1 := by
  have h0 : L.findIdx? (· == v) = none := by
    rw [List.findIdx?_eq_none_iff]
    intro x hx
    obtain ⟨j, hj, rfl⟩ := List.getElem_of_mem hx
    have := hm j hj
    simpa [List.getD, List.getElem?_eq_getElem hj] using this
  unfold ix; rw [h0]
theorem index_any {W : World} {g n : Nat} {cs : Array Value} {T : TypeId} (hb : Blk W g cs T) (L : List Int) (hcs : cs = ints L) (hn : n = L.length) (hl : L.length ≤ 1000) (v : Int) :
    Calls Tryz.prog 89 #[.slice (some ⟨g, 0, none⟩) n n, .int .i64 v] W fun e w' => e = .returned (.int .i64 (ix L v)) ∧ W = w' := by
  subst hn hcs
  have HB := Lib.hid hb
  clear hb
  go_enter Tryz.func89, Tryz.ntmps89
  go_wp2
  go_loopw [8] (fun i w_ => ∃ k : Nat, k ≤ L.length ∧ i = .int .i64 k ∧ w_ = W ∧ ∀ j, j < k → L.getD j 0 ≠ v) (fun i _ => (L.length - intOf i).toNat)
  case atStart => exact ⟨0, Nat.zero_le _, rfl, rfl, fun j h => absurd h (Nat.not_lt_zero j)⟩
  case round =>
    obtain ⟨k, hk, rfl, rfl, hm⟩ := hrel
    have HM := Lib.hid hm
    clear hm
    by_cases hlt : k < L.length
    · have hc := (HB.out.cell k).trans (ints_at L k hlt)
      by_cases hv : L.getD k 0 = v
      · have HI := Lib.hid (ix_hit hlt hv HM.out)
        rw [hv] at hc
        clear HM hv
        go_wp2
        go_ret
        exact ⟨by rw [HI.out]; rfl, rfl⟩
      · obtain ⟨u, hu⟩ : ∃ u, L.getD k 0 = u := ⟨_, rfl⟩
        rw [hu] at hc hv
        have cv : (v == u) = false := beq_eq_false_iff_ne.2 (Ne.symm hv)
        clear hv
        have HU := Lib.hid hu
        clear hu
        go_wp2
        refine ⟨⟨k + 1, by omega, by go_num, by first | rfl | trivial, fun j hj => ?_⟩, by simp [intOf]; omega⟩
        by_cases e : j = k
        · subst e; rw [HU.out]; exact fun h => by simp [h] at cv
        · exact HM.out j (by omega)
    · obtain rfl : k = L.length := by omega
      have HI := Lib.hid (ix_miss HM.out)
      clear HM
      go_wp2
      go_ret
      exact ⟨by rw [HI.out]; rfl, rfl⟩
end Go.Proofs.YtchpnbckgofiaaaGreat.Enc
end
section
namespace Go.Proofs.YtchpnbckgofiaaaGreat.Enc
open Go Go.RowKit Go.Proofs.YtchpnbckgofiaaaGreat.Step
set_option linter.unusedVariables false
set_option linter.unusedSimpArgs false
set_option maxRecDepth 100000
section
variable {P : Program} {ops : Array Oper} {fin : Act} {W : World} {o : Oper} {T : TypeId} {g : Nat} {c : Array Value}
def Stay1 (P : Program) (ops : Array Oper) (fin : Act) (W : World) (T : TypeId) (g : Nat) (c : Array Value) (o : Oper) : Prop :=
  (Region.wanted o (yielded ops fin.tmps) = true ∧ ∀ X, S1 W X T g c → o.wp P fin X (fun a' X' => a' = fin ∧ S1 W X' T g c) (fun _ _ _ => False)) ∨ (Region.wanted o (yielded ops fin.tmps) = false ∧ fin.put o.dst undef = fin)
theorem stay1_slot {t : Nat} (hg : Region.wanted o (yielded ops fin.tmps) = true) (hd : o.dst = some t) (h : ∀ X, (execOp fin.eval o).run P X = .ok (.value (fin.tmps.getD t undef)) X) : Stay1 P ops fin W T g c o :=
  .inl ⟨hg, fun X hX => by unfold Oper.wp; rw [h X]; exact ⟨by rw [hd]; exact put_self fin t, hX⟩⟩
theorem stay1_call {f : FuncId} {args : Array Value} {v : Value} {cc : Call} (_ : o.op = .call cc) (hg : Region.wanted o (yielded ops fin.tmps) = true) (h : ∀ X, (execOp fin.eval o).run P X = .ok (.enter f args) X)
    (hc : ∀ X, Calls P f args X fun e X' => e = .returned v ∧ Below X.heap.size X X') (hp : fin.put o.dst v = fin) : Stay1 P ops fin W T g c o :=
  .inl ⟨hg, fun X hX => by
    unfold Oper.wp; rw [h X]
    refine Calls.mono (hc X) fun e X' he => ?_
    obtain ⟨rfl, hb⟩ := he
    exact ⟨hp, hX.call hb⟩⟩
theorem stay1_load {t : TypeId} {x : Operand} {i : Nat} {v : Value} (hg : Region.wanted o (yielded ops fin.tmps) = true) (ho : o.op = .load t x) (hx : fin.eval x = .pointer (some ⟨g, i, none⟩)) (ht : plainT P t = true) (hv : c[i]? = some v) (hp : fin.put o.dst v = fin) : Stay1 P ops fin W T g c o :=
  .inl ⟨hg, fun X hX => by
    have h := run_load1 (P := P) ht ((hX.one.cell i).trans hv)
    have h2 : (execOp fin.eval o).run P X = .ok (.value v) X := by simp [execOp, ho, hx, h, Result.andThen]
    unfold Oper.wp; rw [h2]; exact ⟨hp, hX⟩⟩
/-- A slice's elements are laid: a block of its own, which no other operation may know but by what is told. -/
theorem one_region {l : List Oper} {id : Nat} {a : Act} {w : World} {Q : Exit → Act → World → Prop} (hS : S1 W w T g c) (hm : P.follows .mixedOrders = true) (vs : List (Tmp × Value))
    (hord : Reg.ordered l.toArray = true) (hin : Reg.within l.toArray vs = true) (hfin : Reg.puts a vs = fin) (hdo : ∀ o ∈ l, Stay1 P l.toArray fin W T g c o)
    (hQ : ∀ w', S1 W w' T g c → Q .normal fin w') : (Code.region id l.toArray true).wp P Q a w := by
  subst hfin
  refine Reg.region hm vs (fun L w => S1 W w T g c) hord hin (hS.call (below_drawn ⟨1, rfl⟩)) (fun i o ho L w hL hLi hdep hI => ?_) (fun L w hL hall hI => hQ w hI)
  have ho' : l[i]? = some o := by simpa using ho
  rcases hdo o (List.mem_of_getElem? ho') with ⟨hg, h⟩ | ⟨hg, hp⟩
  · exact Reg.does_go hg (h w hI)
  · exact Reg.does_not hg hp hI
theorem stay1_nil : ∀ o ∈ ([] : List Oper), Stay1 P ops fin W T g c o := fun _ h => nomatch h
theorem stay1_cons {l : List Oper} (h : Stay1 P ops fin W T g c o) (hl : ∀ o ∈ l, Stay1 P ops fin W T g c o) : ∀ o' ∈ o :: l, Stay1 P ops fin W T g c o' := fun o' ho => by
  rcases List.mem_cons.1 ho with rfl | h'
  · exact h
  · exact hl o' h'
/-- An operation of a region in which one (at kb) lays something: it leaves what stands, ahead of that one (or waits for it) and behind it. -/
def StayL (P : Program) (fin : Act) (I0 I1 : World → Prop) (kb : Nat) (o : Oper) : Prop :=
  o.guard = none ∧ ((o.after.any fun e => e.on == kb && Region.binds .any e) = true ∨ ∀ X, I0 X → o.wp P fin X (fun a' X' => a' = fin ∧ I0 X') (fun _ _ _ => False)) ∧ ∀ X, I1 X → o.wp P fin X (fun a' X' => a' = fin ∧ I1 X') (fun _ _ _ => False)
theorem laid_region {l : List Oper} {id : Nat} {a : Act} {w : World} {I0 I1 : World → Prop} {Q : Exit → Act → World → Prop} {kb : Nat} {ob : Oper} (hS : I0 { w with drawn := w.drawn + 1 }) (hm : P.follows .mixedOrders = true) (vs : List (Tmp × Value))
    (hord : Reg.ordered l.toArray = true) (hin : Reg.within l.toArray vs = true) (hfin : Reg.puts a vs = fin) (hk : l[kb]? = some ob) (hgb : ob.guard = none) (hb : ∀ X, I0 X → ob.wp P fin X (fun a' X' => a' = fin ∧ I1 X') (fun _ _ _ => False))
    (hdo : ∀ o ∈ l.eraseIdx kb, StayL P fin I0 I1 kb o) (hQ : ∀ w', I1 w' → Q .normal fin w') : (Code.region id l.toArray true).wp P Q a w := by
  subst hfin
  have hl : kb < l.length := (List.getElem?_eq_some_iff.1 hk).1
  have hother : ∀ (L : Array Bool) (i j : Nat), i ≠ j → ((L.setIfInBounds i true).getD j false = true ↔ L.getD j false = true) := by
    intro L i j e
    simp [Array.getD_eq_getD_getElem?, Array.getElem?_setIfInBounds_ne e]
  refine Reg.region hm vs (fun L w => (I0 w ∧ ¬ L.getD kb false = true) ∨ (I1 w ∧ L.getD kb false = true)) hord hin (.inl ⟨hS, ?_⟩) (fun i o ho L w hL hLi hdep hI => ?_) (fun L w hL hall hI => ?_)
  · simp [Array.getD_eq_getD_getElem?, hl]
  · have ho' : l[i]? = some o := by simpa using ho
    have hiL : i < L.size := by rw [hL]; exact (Array.getElem?_eq_some_iff.1 ho).1
    by_cases e1 : i = kb
    · subst e1
      obtain rfl : ob = o := by rw [hk] at ho'; simpa using ho'
      rcases hI with ⟨h, _⟩ | ⟨_, h1⟩
      · refine Reg.does_plain hgb (Oper.wp_mono (fun a' X' h => ?_) (hb w h))
        exact ⟨h.1, .inr ⟨h.2, by simp [Array.getD_eq_getD_getElem?, hiL]⟩⟩
      · exfalso
        simp only [Array.getD_eq_getD_getElem?] at hLi h1
        rw [Array.getElem?_eq_getElem hiL] at hLi h1
        simp at hLi h1
        rw [hLi] at h1; cases h1
    · have hmem : o ∈ l.eraseIdx kb := by
        rw [List.mem_eraseIdx_iff_getElem?]
        exact ⟨i, e1, ho'⟩
      obtain ⟨hg, h0, h1⟩ := hdo o hmem
      rcases hI with ⟨h, hn⟩ | ⟨h, hy⟩
      · rcases h0 with hw | h0
        · exfalso
          obtain ⟨e, he, hb'⟩ := Array.any_eq_true'.1 hw
          simp only [Bool.and_eq_true, beq_iff_eq] at hb'
          have h4 := hdep e he hb'.2
          rw [hb'.1] at h4
          refine hn ?_
          simp only [Array.getD_eq_getD_getElem?] at h4 ⊢
          rw [Array.getElem?_eq_getElem (by rw [hL]; simpa using hl)] at h4 ⊢
          exact h4
        · refine Reg.does_plain hg (Oper.wp_mono (fun a' X' h => ?_) (h0 w h))
          exact ⟨h.1, .inl ⟨h.2, fun h3 => hn ((hother L i kb e1).1 h3)⟩⟩
      · refine Reg.does_plain hg (Oper.wp_mono (fun a' X' h => ?_) (h1 w h))
        exact ⟨h.1, .inr ⟨h.2, (hother L i kb e1).2 hy⟩⟩
  · have h4 := hall kb (by simpa using hl)
    have h5 : L.getD kb false = true := by
      simp only [Array.getD_eq_getD_getElem?] at h4 ⊢
      rw [Array.getElem?_eq_getElem (by rw [hL]; simpa using hl)] at h4 ⊢
      exact h4
    rcases hI with ⟨_, h⟩ | ⟨h, _⟩
    · exact (h h5).elim
    · exact hQ w h
/-- Ahead of the laying: one instruction at g, and so many blocks; behind it, the list stands at that number. -/
def L0 (W : World) (T : TypeId) (g : Nat) (c : Array Value) (n : Nat) (X : World) : Prop := S1 W X T g c ∧ X.heap.size = n
def L1 (W : World) (T : TypeId) (g : Nat) (c : Array Value) (n : Nat) (L : Array Value) (TL : TypeId) (X : World) : Prop := S1 W X T g c ∧ Blk X n L TL
section
variable {n : Nat} {L : Array Value} {TL : TypeId} {kb : Nat}
theorem stayL_slot {t : Nat} (hg : o.guard = none) (hd : o.dst = some t) (h : ∀ X, (execOp fin.eval o).run P X = .ok (.value (fin.tmps.getD t undef)) X) : StayL P fin (L0 W T g c n) (L1 W T g c n L TL) kb o :=
  ⟨hg, .inr fun X hX => by unfold Oper.wp; rw [h X]; exact ⟨by rw [hd]; exact put_self fin t, hX⟩, fun X hX => by unfold Oper.wp; rw [h X]; exact ⟨by rw [hd]; exact put_self fin t, hX⟩⟩
theorem stayL_load {t : TypeId} {x : Operand} {i : Nat} {v : Value} (hg : o.guard = none) (ho : o.op = .load t x) (hx : fin.eval x = .pointer (some ⟨g, i, none⟩)) (ht : plainT P t = true) (hv : c[i]? = some v) (hp : fin.put o.dst v = fin) : StayL P fin (L0 W T g c n) (L1 W T g c n L TL) kb o := by
  have key : ∀ X, S1 W X T g c → (execOp fin.eval o).run P X = .ok (.value v) X := fun X hX => by
    have h := run_load1 (P := P) ht ((hX.one.cell i).trans hv)
    simp [execOp, ho, hx, h, Result.andThen]
  exact ⟨hg, .inr fun X hX => by unfold Oper.wp; rw [key X hX.1]; exact ⟨hp, hX⟩, fun X hX => by unfold Oper.wp; rw [key X hX.1]; exact ⟨hp, hX⟩⟩
/-- A call that lays nothing. -/
theorem stayL_call {f : FuncId} {args : Array Value} {v : Value} {cc : Call} (_ : o.op = .call cc) (hg : o.guard = none) (h : ∀ X, (execOp fin.eval o).run P X = .ok (.enter f args) X)
    (hc : ∀ X, Calls P f args X fun e X' => e = .returned v ∧ Below X.heap.size X X' ∧ X'.heap.size = X.heap.size) (hp : fin.put o.dst v = fin) : StayL P fin (L0 W T g c n) (L1 W T g c n L TL) kb o :=
  ⟨hg, .inr fun X hX => by
    unfold Oper.wp; rw [h X]
    refine Calls.mono (hc X) fun e X' he => ?_
    obtain ⟨rfl, hb, hz⟩ := he
    exact ⟨hp, hX.1.call hb, hz.trans hX.2⟩, fun X hX => by
    unfold Oper.wp; rw [h X]
    refine Calls.mono (hc X) fun e X' he => ?_
    obtain ⟨rfl, hb, hz⟩ := he
    exact ⟨hp, hX.1.call hb, hX.2.below hb⟩⟩
/-- A call that reads the list. -/
theorem stayL_read {f : FuncId} {args : Array Value} {v : Value} {cc : Call} (_ : o.op = .call cc) (hw : (o.after.any fun e => e.on == kb && Region.binds .any e) = true) (hg : o.guard = none) (h : ∀ X, (execOp fin.eval o).run P X = .ok (.enter f args) X)
    (hc : ∀ X, Blk X n L TL → Calls P f args X fun e X' => e = .returned v ∧ Below X.heap.size X X') (hp : fin.put o.dst v = fin) : StayL P fin (L0 W T g c n) (L1 W T g c n L TL) kb o :=
  ⟨hg, .inl hw, fun X hX => by
    unfold Oper.wp; rw [h X]
    refine Calls.mono (hc X hX.2) fun e X' he => ?_
    obtain ⟨rfl, hb⟩ := he
    exact ⟨hp, hX.1.call hb, hX.2.below hb⟩⟩
theorem lays_list {m : Nat} (hr : ∀ X : World, (execOp fin.eval o).run P X = .ok (.value (.slice (some ⟨X.heap.size, 0, none⟩) m m)) (X.alloc (.cells L TL (0, 0)))) (hp : fin.put o.dst (.slice (some ⟨n, 0, none⟩) m m) = fin) :
    ∀ X, L0 W T g c n X → o.wp P fin X (fun a' X' => a' = fin ∧ L1 W T g c n L TL X') (fun _ _ _ => False) := fun X hX => by
  obtain ⟨h1, h2⟩ := hX
  subst h2
  unfold Oper.wp; rw [hr X]
  exact ⟨hp, h1.call (alloc_below _ _), alloc_out _ _ _⟩
end
end
end Go.Proofs.YtchpnbckgofiaaaGreat.Enc
end
