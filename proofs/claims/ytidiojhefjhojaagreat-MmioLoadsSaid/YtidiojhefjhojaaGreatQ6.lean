/- Parts of the walks and laws for the claim: Drawn; no conditions beyond the theorems' own. -/
import Derived.Test.YtidiojhefjhojaaGreatQ1
section
namespace Go.Proofs.YtidiojhefjhojaaGreat.Enc
open Go Go.RowKit Go.Proofs.YtidiojhefjhojaaGreat.Step
set_option linter.unusedVariables false
set_option linter.unusedSimpArgs false
set_option maxRecDepth 100000
section
variable {P : Program} {ops : Array Oper} {fin : Act} {W : World} {o : Oper}
theorem calm_load {t : TypeId} {x : Operand} {g i : Nat} {cs : Array Value} {T : TypeId} {v : Value} (hB : Blk W g cs T) (hg : o.guard = none) (ho : o.op = .load t x) (hx : fin.eval x = .pointer (some ⟨g, i, none⟩)) (ht : plainT P t = true) (hv : cs[i]? = some v)
    (hp : fin.put o.dst v = fin) : Calm.Calm P ops fin W o :=
  Calm.calm_value hg (fun X hX => by
    have := run_load1 (P := P) ht (((hB.below hX).cell i).trans hv)
    simp [execOp, ho, hx, this, Result.andThen]) hp
end
section
variable {P : Program} {ops : Array Oper} {fin : Act} {W : World} {o : Oper} {T : TypeId} {g r : Nat} {c dn : Array Value}
/-- An operation that leaves the two as they are, whenever it comes up. -/
def Stays (P : Program) (fin : Act) (W : World) (T : TypeId) (g r : Nat) (c : Array Value) (o : Oper) : Prop :=
  o.guard = none ∧ ∀ X d, S2 W X T g r c d → o.wp P fin X (fun a' X' => a' = fin ∧ S2 W X' T g r c d) (fun _ _ _ => False)
theorem stays_value {v : Value} (hg : o.guard = none) (h : ∀ X, (execOp fin.eval o).run P X = .ok (.value v) X) (hp : fin.put o.dst v = fin) : Stays P fin W T g r c o :=
  ⟨hg, fun X d hX => by unfold Oper.wp; rw [h X]; exact ⟨hp, hX⟩⟩
theorem put_self (a : Act) (t : Nat) : a.put (some t) (a.tmps.getD t undef) = a := by
  cases a with
  | mk tm df =>
    simp only [Act.put, Act.mk.injEq, and_true]
    apply Array.ext_getElem?
    intro i
    rw [Array.getElem?_setIfInBounds]
    split
    · rename_i h; subst h
      split
      · rename_i h2; simp [Array.getD_eq_getD_getElem?, Array.getElem?_eq_getElem h2]
      · rename_i h2; rw [Array.getElem?_eq_none (by omega)]
    · rfl
theorem stays_slot {t : Nat} (hg : o.guard = none) (hd : o.dst = some t) (h : ∀ X, (execOp fin.eval o).run P X = .ok (.value (fin.tmps.getD t undef)) X) : Stays P fin W T g r c o :=
  stays_value hg h (by rw [hd]; exact put_self fin t)
theorem stays_call {f : FuncId} {args : Array Value} {v : Value} {cc : Call} (_ : o.op = .call cc) (hg : o.guard = none) (h : ∀ X, (execOp fin.eval o).run P X = .ok (.enter f args) X) (hc : ∀ X, Calls P f args X fun e X' => e = .returned v ∧ Below X.heap.size X X') (hp : fin.put o.dst v = fin) :
    Stays P fin W T g r c o :=
  ⟨hg, fun X d hX => by
    unfold Oper.wp; rw [h X]
    refine Calls.mono (hc X) fun e X' he => ?_
    obtain ⟨rfl, hb⟩ := he
    exact ⟨hp, hX.call hb⟩⟩
theorem stays_loadAll {t : TypeId} {x : Operand} {d : TypeDesc} (hg : o.guard = none) (ho : o.op = .load t x) (hx : fin.eval x = .pointer (some ⟨g, 0, none⟩)) (hu : P.underlying t = some d)
    (hd : (match d with | .struct _ | .array _ _ => true | _ => false) = true) (hi : (P.info? t).map (·.size) = some c.size) (hp : fin.put o.dst (.agg c) = fin) : Stays P fin W T g r c o :=
  ⟨hg, fun X d' hX => by
    have h := run_loadVar_row (P := P) X g T t c (0, 0) d hX.one.out hu hd hi
    have h2 : (execOp fin.eval o).run P X = .ok (.value (.agg c)) X := by simp [execOp, ho, hx, Instr.loadAt, Instr.sureAddr, h, Result.andThen]
    unfold Oper.wp; rw [h2]; exact ⟨hp, hX⟩⟩
theorem stays_load {t : TypeId} {x : Operand} {i : Nat} {v : Value} (hg : o.guard = none) (ho : o.op = .load t x) (hx : fin.eval x = .pointer (some ⟨g, i, none⟩)) (ht : plainT P t = true) (hv : c[i]? = some v) (hp : fin.put o.dst v = fin) : Stays P fin W T g r c o :=
  ⟨hg, fun X d' hX => by
    have h := run_load1 (P := P) ht ((hX.one.cell i).trans hv)
    have h2 : (execOp fin.eval o).run P X = .ok (.value v) X := by simp [execOp, ho, hx, h, Result.andThen]
    unfold Oper.wp; rw [h2]; exact ⟨hp, hX⟩⟩
/-- The operation that writes the second whole. -/
def Sets (P : Program) (fin : Act) (W : World) (T : TypeId) (g r : Nat) (c dn : Array Value) (o : Oper) : Prop :=
  o.guard = none ∧ ∀ X d, d.size = dn.size → S2 W X T g r c d → o.wp P fin X (fun a' X' => a' = fin ∧ S2 W X' T g r c dn) (fun _ _ _ => False)
theorem sets_all {t : TypeId} {x y : Operand} (hg : o.guard = none) (ho : o.op = .store t x y) (hn : o.dst = none) (hx : fin.eval x = .pointer (some ⟨r, 0, none⟩)) (hy : fin.eval y = .agg dn) (hi : (P.info? t).map (·.size) = some dn.size)
    (h1 : dn.toList.all (·.oneCell') = true) : Sets P fin W T g r c dn o :=
  ⟨hg, fun X d hs hX => by
    have hrun := run_storeVar_row (P := P) X r T t d dn hX.two.out hi hs (by rw [← Array.all_toList]; exact h1)
    unfold Oper.wp
    simp [execOp, ho, hx, hy, Instr.storeAt, Instr.sureAddr, hrun, Result.andThen]
    simp only [Oper.upon, hn, Act.put]
    exact ⟨trivial, hX.set2 (setRow_out _ _ _ _ _ hX.two) (setRow_mod _ _ _)⟩⟩
/-- **A region in any order, of operations that leave the two as they are, and one that writes the second.** -/
theorem two_region {l : List Oper} {id : Nat} {a : Act} {w : World} {d : Array Value} {Q : Exit → Act → World → Prop} {k : Nat} {ok : Oper} (hS : S2 W w T g r c d) (hm : P.follows .mixedOrders = true) (vs : List (Tmp × Value)) (hsz : d.size = dn.size)
    (hord : Reg.ordered l.toArray = true) (hin : Reg.within l.toArray vs = true) (hfin : Reg.puts a vs = fin) (hk : l[k]? = some ok) (hset : Sets P fin W T g r c dn ok) (hdo : ∀ o ∈ l.eraseIdx k, Stays P fin W T g r c o)
    (hQ : ∀ w', S2 W w' T g r c dn → Q .normal fin w') : (Code.region id l.toArray true).wp P Q a w := by
  subst hfin
  refine Reg.region hm vs (fun L w => ∃ d, d.size = dn.size ∧ S2 W w T g r c d ∧ (L.getD k false = true → d = dn)) hord hin ⟨d, hsz, hS.call (below_drawn ⟨1, rfl⟩), fun h => ?_⟩ (fun i o ho L w hL hLi hdep hI => ?_) (fun L w hL hall hI => ?_)
  · exfalso
    simp only [Array.getD_eq_getD_getElem?, Array.getElem?_replicate] at h
    split at h <;> simp at h
  · obtain ⟨d, hd, h2, h3⟩ := hI
    have ho' : l[i]? = some o := by simpa using ho
    by_cases e : i = k
    · subst e
      obtain rfl : ok = o := by rw [hk] at ho'; simpa using ho'
      refine Reg.does_plain hset.1 (Oper.wp_mono (fun a' X' h => ?_) (hset.2 w d hd h2))
      exact ⟨h.1, dn, rfl, h.2, fun _ => rfl⟩
    · have hmem : o ∈ l.eraseIdx k := by
        rw [List.mem_eraseIdx_iff_getElem?]
        exact ⟨i, e, ho'⟩
      have hs := hdo o hmem
      refine Reg.does_plain hs.1 (Oper.wp_mono (fun a' X' h => ?_) (hs.2 w d h2))
      refine ⟨h.1, d, hd, h.2, fun h4 => h3 ?_⟩
      simpa [Array.getD_eq_getD_getElem?, Array.getElem?_setIfInBounds_ne e] using h4
  · obtain ⟨d, hd, h2, h3⟩ := hI
    have hkl : k < l.toArray.size := by simpa using (List.getElem?_eq_some_iff.1 hk).1
    have h4 := hall k hkl
    have h5 : L.getD k false = true := by
      simp only [Array.getD_eq_getD_getElem?] at h4 ⊢
      rw [Array.getElem?_eq_getElem (by rw [hL]; exact hkl)] at h4 ⊢
      exact h4
    obtain rfl := h3 h5
    exact hQ w h2
theorem stays_nil : ∀ o ∈ ([] : List Oper), Stays P fin W T g r c o := fun _ h => nomatch h
theorem stays_cons {l : List Oper} (h : Stays P fin W T g r c o) (hl : ∀ o ∈ l, Stays P fin W T g r c o) : ∀ o' ∈ o :: l, Stays P fin W T g r c o' := fun o' ho => by
  rcases List.mem_cons.1 ho with rfl | h'
  · exact h
  · exact hl o' h'
/-- An operation that turns one cell of the first. -/
def SetsA (P : Program) (fin : Act) (W : World) (T : TypeId) (g r : Nat) (c cn : Array Value) (o : Oper) : Prop :=
  o.guard = none ∧ ∀ X d, S2 W X T g r c d → o.wp P fin X (fun a' X' => a' = fin ∧ S2 W X' T g r cn d) (fun _ _ _ => False)
theorem setsA_cell {c : Array Value} {t : TypeId} {x y : Operand} {i : Nat} {v : Value} (hg : o.guard = none) (ho : o.op = .store t x y) (hn : o.dst = none) (hx : fin.eval x = .pointer (some ⟨g, i, none⟩)) (hy : fin.eval y = v) (ht : plainT P t = true) (hv : v.oneCell' = true) (hi' : Nat.blt i c.size = true) {cn : Array Value} (hcn : c.setIfInBounds i v = cn) :
    SetsA P fin W T g r c cn o :=
  ⟨hg, fun X d hX => by
    subst hcn
    have hi : i < c.size := Nat.le_of_ble_eq_true hi'
    have hrun := run_store1 (P := P) ht hv ((hX.one.cell i).trans (Array.getElem?_eq_getElem hi)) (hX.one.frozen i)
    unfold Oper.wp
    simp [execOp, ho, hx, hy, hrun, Result.andThen]
    simp only [Oper.upon, hn, Act.put]
    exact ⟨trivial, hX.set1 (setCell_out _ _ _ _ _ _ hX.one) (setCell_mod _ _ _ _)⟩⟩
def Calms (P : Program) (fin : Act) (W : World) (T : TypeId) (g r : Nat) (o : Oper) : Prop := ∀ c, Stays P fin W T g r c o
theorem calms_nil : ∀ o ∈ ([] : List Oper), Calms P fin W T g r o := fun _ h => nomatch h
theorem calms_cons {l : List Oper} (h : Calms P fin W T g r o) (hl : ∀ o ∈ l, Calms P fin W T g r o) : ∀ o' ∈ o :: l, Calms P fin W T g r o' := fun o' ho => by
  rcases List.mem_cons.1 ho with rfl | h'
  · exact h
  · exact hl o' h'
/-- **A region in any order, of calm operations and two that turn cells of the first, one behind the other.** -/
theorem twice_region {l : List Oper} {id : Nat} {a : Act} {w : World} {d c0 c1 c2 : Array Value} {Q : Exit → Act → World → Prop} {k1 k2 : Nat} {o1 o2 : Oper} (hS : S2 W w T g r c0 d) (hm : P.follows .mixedOrders = true) (vs : List (Tmp × Value))
    (hord : Reg.ordered l.toArray = true) (hin : Reg.within l.toArray vs = true) (hfin : Reg.puts a vs = fin) (hk1 : l[k1]? = some o1) (hk2 : l[k2]? = some o2) (hne : k1 ≠ k2) (hw : (o2.after.any fun e => e.on == k1 && Region.binds .any e) = true)
    (hs1 : SetsA P fin W T g r c0 c1 o1) (hs2 : SetsA P fin W T g r c1 c2 o2) (hdo : ∀ o ∈ (l.eraseIdx k2).eraseIdx k1, Calms P fin W T g r o) (hlt : k1 < k2)
    (hQ : ∀ w', S2 W w' T g r c2 d → Q .normal fin w') : (Code.region id l.toArray true).wp P Q a w := by
  subst hfin
  have hother : ∀ (L : Array Bool) (i j : Nat), i ≠ j → ((L.setIfInBounds i true).getD j false = true ↔ L.getD j false = true) := by
    intro L i j e
    simp [Array.getD_eq_getD_getElem?, Array.getElem?_setIfInBounds_ne e]
  have hself : ∀ (L : Array Bool) (i : Nat), i < L.size → (L.setIfInBounds i true).getD i false = true := by
    intro L i h
    simp [Array.getD_eq_getD_getElem?, h]
  have hl1 : k1 < l.length := (List.getElem?_eq_some_iff.1 hk1).1
  have hl2 : k2 < l.length := (List.getElem?_eq_some_iff.1 hk2).1
  refine Reg.region hm vs (fun L w => (S2 W w T g r c0 d ∧ ¬ L.getD k1 false = true ∧ ¬ L.getD k2 false = true) ∨ (S2 W w T g r c1 d ∧ L.getD k1 false = true ∧ ¬ L.getD k2 false = true) ∨ (S2 W w T g r c2 d ∧ L.getD k1 false = true ∧ L.getD k2 false = true)) hord hin
    (.inl ⟨hS.call (below_drawn ⟨1, rfl⟩), ?_, ?_⟩) (fun i o ho L w hL hLi hdep hI => ?_) (fun L w hL hall hI => ?_)
  · simp [Array.getD_eq_getD_getElem?, hl1]
  · simp [Array.getD_eq_getD_getElem?, hl2]
  · have ho' : l[i]? = some o := by simpa using ho
    have hiL : i < L.size := by rw [hL]; exact (Array.getElem?_eq_some_iff.1 ho).1
    have hLi' : ¬ L.getD i false = true := by
      simp only [Array.getD_eq_getD_getElem?] at hLi ⊢
      rw [Array.getElem?_eq_getElem hiL] at hLi ⊢
      simpa using hLi
    by_cases e1 : i = k1
    · subst e1
      obtain rfl : o1 = o := by rw [hk1] at ho'; simpa using ho'
      rcases hI with ⟨h, _, h2⟩ | ⟨_, h1, _⟩ | ⟨_, h1, _⟩
      · refine Reg.does_plain hs1.1 (Oper.wp_mono (fun a' X' h => ?_) (hs1.2 w d h))
        exact ⟨h.1, .inr (.inl ⟨h.2, hself L i hiL, fun h3 => h2 ((hother L i k2 hne).1 h3)⟩)⟩
      · exact (hLi' h1).elim
      · exact (hLi' h1).elim
    · by_cases e2 : i = k2
      · subst e2
        obtain rfl : o2 = o := by rw [hk2] at ho'; simpa using ho'
        obtain ⟨e, he, hb⟩ := Array.any_eq_true'.1 hw
        simp only [Bool.and_eq_true, beq_iff_eq] at hb
        have h4 := hdep e he hb.2
        rw [hb.1] at h4
        have h5 : L.getD k1 false = true := by
          simp only [Array.getD_eq_getD_getElem?] at h4 ⊢
          rw [Array.getElem?_eq_getElem (by rw [hL]; simpa using hl1)] at h4 ⊢
          exact h4
        rcases hI with ⟨_, h1, _⟩ | ⟨h, h1, _⟩ | ⟨_, _, h2⟩
        · exact (h1 h5).elim
        · refine Reg.does_plain hs2.1 (Oper.wp_mono (fun a' X' h => ?_) (hs2.2 w d h))
          exact ⟨h.1, .inr (.inr ⟨h.2, (hother L i k1 (fun e => hne e.symm)).2 h5, hself L i hiL⟩)⟩
        · exact (hLi' h2).elim
      · have hmem : o ∈ (l.eraseIdx k2).eraseIdx k1 := by
          rw [List.mem_eraseIdx_iff_getElem?]
          by_cases h : i < k2
          · exact ⟨i, e1, by rw [List.getElem?_eraseIdx_of_lt h]; exact ho'⟩
          · exact ⟨i - 1, by omega, by rw [List.getElem?_eraseIdx_of_ge (by omega), show i - 1 + 1 = i by omega]; exact ho'⟩
        have hs := hdo o hmem
        rcases hI with ⟨h, h1, h2⟩ | ⟨h, h1, h2⟩ | ⟨h, h1, h2⟩
        · refine Reg.does_plain (hs c0).1 (Oper.wp_mono (fun a' X' h => ?_) ((hs c0).2 w d h))
          exact ⟨h.1, .inl ⟨h.2, fun h3 => h1 ((hother L i k1 e1).1 h3), fun h3 => h2 ((hother L i k2 e2).1 h3)⟩⟩
        · refine Reg.does_plain (hs c1).1 (Oper.wp_mono (fun a' X' h => ?_) ((hs c1).2 w d h))
          exact ⟨h.1, .inr (.inl ⟨h.2, (hother L i k1 e1).2 h1, fun h3 => h2 ((hother L i k2 e2).1 h3)⟩)⟩
        · refine Reg.does_plain (hs c2).1 (Oper.wp_mono (fun a' X' h => ?_) ((hs c2).2 w d h))
          exact ⟨h.1, .inr (.inr ⟨h.2, (hother L i k1 e1).2 h1, (hother L i k2 e2).2 h2⟩)⟩
  · have h4 := hall k2 (by simpa using hl2)
    have h5 : L.getD k2 false = true := by
      simp only [Array.getD_eq_getD_getElem?] at h4 ⊢
      rw [Array.getElem?_eq_getElem (by rw [hL]; simpa using hl2)] at h4 ⊢
      exact h4
    rcases hI with ⟨_, _, h2⟩ | ⟨_, _, h2⟩ | ⟨h, _, _⟩
    · exact (h2 h5).elim
    · exact (h2 h5).elim
    · exact hQ w h
end
theorem S2.swap {W w : World} {T : TypeId} {g r : Nat} {c d : Array Value} (h : S2 W w T g r c d) : S2 W w T r g d c := ⟨h.below, h.two, h.one, fun e => h.ne e.symm, h.lo2, h.lo⟩
theorem alloc_run {t : TypeId} {cs : Array Value} {oa : Oper} (ho : oa.op = .alloc t) (hz : (Tryz.prog.info? t).bind (·.zero) = some (.agg cs)) (b : Act) (X : World) : (execOp b.eval oa).run Tryz.prog X = .ok (.value (Calm.ptr X.heap.size)) (X.alloc (.cells cs t (0, 0))) := by
  simp [execOp, ho, alloc_agg hz X, Result.andThen, Calm.ptr]
theorem calm_slot {P : Program} {ops : Array Oper} {fin : Act} {W : World} {o : Oper} {t : Nat} (hg : o.guard = none) (hd : o.dst = some t) (h : ∀ X, (execOp fin.eval o).run P X = .ok (.value (fin.tmps.getD t undef)) X) : Calm.Calm P ops fin W o :=
  Calm.calm_value hg (fun X _ => h X) (by rw [hd]; exact put_self fin t)
theorem calm_callg {P : Program} {ops : Array Oper} {fin : Act} {W : World} {o : Oper} {f : FuncId} {args : Array Value} {v : Value} {cc : Call} (_ : o.op = .call cc) (hg : o.guard = none) (h : ∀ X, (execOp fin.eval o).run P X = .ok (.enter f args) X)
    (hc : ∀ X, Calls P f args X fun e X' => e = .returned v ∧ Below X.heap.size X X') (hp : fin.put o.dst v = fin) : Calm.Calm P ops fin W o := Calm.calm_call hg h (fun X _ => hc X) hp
end Go.Proofs.YtidiojhefjhojaaGreat.Enc
end
