/- Regions that draw their order, with one block of the call's own that all operations leave. -/
import Derived.Test.YtdhmfjcijcdnjaaDrawn
namespace Go.Proofs.Ytdhmfjcijcdnjaa.Enc
open Go Go.RowKit Go.Proofs.Ytdhmfjcijcdnjaa.Step
set_option linter.unusedVariables false
set_option linter.unusedSimpArgs false
set_option maxRecDepth 100000
section
variable {P : Program} {ops : Array Oper} {fin : Act} {W : World} {o : Oper} {T : TypeId} {g : Nat} {c : Array Value}
def Stay1 (P : Program) (ops : Array Oper) (fin : Act) (W : World) (T : TypeId) (g : Nat) (c : Array Value) (o : Oper) : Prop :=
  (Region.wanted o (yielded ops fin.tmps) = true ∧ ∀ X, S1 W X T g c → o.wp P fin X (fun a' X' => a' = fin ∧ S1 W X' T g c) (fun _ _ _ => False)) ∨ (Region.wanted o (yielded ops fin.tmps) = false ∧ fin.put o.dst undef = fin)
theorem stay1_slot {t : Nat} (hg : Region.wanted o (yielded ops fin.tmps) = true) (hd : o.dst = some t) (h : ∀ X, (execOp fin.eval o).run P X = .ok (.value (fin.tmps.getD t undef)) X) : Stay1 P ops fin W T g c o :=
  .inl ⟨hg, fun X hX => by unfold Oper.wp; rw [h X]; exact ⟨by rw [hd]; exact put_self fin t, hX⟩⟩
theorem stay1_not (hg : Region.wanted o (yielded ops fin.tmps) = false) (hp : fin.put o.dst undef = fin) : Stay1 P ops fin W T g c o := .inr ⟨hg, hp⟩
theorem stay1_call {f : FuncId} {args : Array Value} {v : Value} {cc : Call} (_ : o.op = .call cc) (hg : Region.wanted o (yielded ops fin.tmps) = true) (h : ∀ X, (execOp fin.eval o).run P X = .ok (.enter f args) X)
    (hc : ∀ X, Calls P f args X fun e X' => e = .returned v ∧ Below X.heap.size X X') (hp : fin.put o.dst v = fin) : Stay1 P ops fin W T g c o :=
  .inl ⟨hg, fun X hX => by
    unfold Oper.wp; rw [h X]
    refine Calls.mono (hc X) fun e X' he => ?_
    obtain ⟨rfl, hb⟩ := he
    exact ⟨hp, hX.call hb⟩⟩
theorem stay1_load {t : TypeId} {x : Operand} {i : Nat} {v : Value} (hg : Region.wanted o (yielded ops fin.tmps) = true) (ho : o.op = .load t x) (hx : fin.eval x = .pointer (some ⟨g, i, none⟩)) (ht : plainT P t = true) (hv : c[i]? = some v) (hp : fin.put o.dst v = fin) : Stay1 P ops fin W T g c o :=
  .inl ⟨hg, fun X hX => by
    have h := run_load1 (P := P) ht ((hX.one.cell i).trans hv)
    have h2 : (execOp fin.eval o).run P X = .ok (.value v) X := by simp [execOp, ho, hx, h, Result.andThen]
    unfold Oper.wp; rw [h2]; exact ⟨hp, hX⟩⟩
/-- A slice's elements are laid: a block of its own, which no other operation may know but by what is told. -/
theorem one_region {l : List Oper} {id : Nat} {a : Act} {w : World} {Q : Exit → Act → World → Prop} (hS : S1 W w T g c) (hm : P.follows .mixedOrders = true) (vs : List (Tmp × Value))
    (hord : Reg.ordered l.toArray = true) (hin : Reg.within l.toArray vs = true) (hfin : Reg.puts a vs = fin) (hdo : ∀ o ∈ l, Stay1 P l.toArray fin W T g c o)
    (hQ : ∀ w', S1 W w' T g c → Q .normal fin w') : (Code.region id l.toArray true).wp P Q a w := by
  subst hfin
  refine Reg.region hm vs (fun L w => S1 W w T g c) hord hin (hS.call (below_drawn ⟨1, rfl⟩)) (fun i o ho L w hL hLi hdep hI => ?_) (fun L w hL hall hI => hQ w hI)
  have ho' : l[i]? = some o := by simpa using ho
  rcases hdo o (List.mem_of_getElem? ho') with ⟨hg, h⟩ | ⟨hg, hp⟩
  · exact Reg.does_go hg (h w hI)
  · exact Reg.does_not hg hp hI
theorem stay1_nil : ∀ o ∈ ([] : List Oper), Stay1 P ops fin W T g c o := fun _ h => nomatch h
theorem stay1_cons {l : List Oper} (h : Stay1 P ops fin W T g c o) (hl : ∀ o ∈ l, Stay1 P ops fin W T g c o) : ∀ o' ∈ o :: l, Stay1 P ops fin W T g c o' := fun o' ho => by
  rcases List.mem_cons.1 ho with rfl | h'
  · exact h
  · exact hl o' h'
/-- An operation of a region in which one (at kb) lays something: it leaves what stands, ahead of that one (or waits for it) and behind it. -/
def StayL (P : Program) (fin : Act) (I0 I1 : World → Prop) (kb : Nat) (o : Oper) : Prop :=
  o.guard = none ∧ ((o.after.any fun e => e.on == kb && Region.binds .any e) = true ∨ ∀ X, I0 X → o.wp P fin X (fun a' X' => a' = fin ∧ I0 X') (fun _ _ _ => False)) ∧ ∀ X, I1 X → o.wp P fin X (fun a' X' => a' = fin ∧ I1 X') (fun _ _ _ => False)
theorem laid_region {l : List Oper} {id : Nat} {a : Act} {w : World} {I0 I1 : World → Prop} {Q : Exit → Act → World → Prop} {kb : Nat} {ob : Oper} (hS : I0 { w with drawn := w.drawn + 1 }) (hm : P.follows .mixedOrders = true) (vs : List (Tmp × Value))
    (hord : Reg.ordered l.toArray = true) (hin : Reg.within l.toArray vs = true) (hfin : Reg.puts a vs = fin) (hk : l[kb]? = some ob) (hgb : ob.guard = none) (hb : ∀ X, I0 X → ob.wp P fin X (fun a' X' => a' = fin ∧ I1 X') (fun _ _ _ => False))
    (hdo : ∀ o ∈ l.eraseIdx kb, StayL P fin I0 I1 kb o) (hQ : ∀ w', I1 w' → Q .normal fin w') : (Code.region id l.toArray true).wp P Q a w := by
  subst hfin
  have hl : kb < l.length := (List.getElem?_eq_some_iff.1 hk).1
  have hother : ∀ (L : Array Bool) (i j : Nat), i ≠ j → ((L.setIfInBounds i true).getD j false = true ↔ L.getD j false = true) := by
    intro L i j e
    simp [Array.getD_eq_getD_getElem?, Array.getElem?_setIfInBounds_ne e]
  refine Reg.region hm vs (fun L w => (I0 w ∧ ¬ L.getD kb false = true) ∨ (I1 w ∧ L.getD kb false = true)) hord hin (.inl ⟨hS, ?_⟩) (fun i o ho L w hL hLi hdep hI => ?_) (fun L w hL hall hI => ?_)
  · simp [Array.getD_eq_getD_getElem?, hl]
  · have ho' : l[i]? = some o := by simpa using ho
    have hiL : i < L.size := by rw [hL]; exact (Array.getElem?_eq_some_iff.1 ho).1
    by_cases e1 : i = kb
    · subst e1
      obtain rfl : ob = o := by rw [hk] at ho'; simpa using ho'
      rcases hI with ⟨h, _⟩ | ⟨_, h1⟩
      · refine Reg.does_plain hgb (Oper.wp_mono (fun a' X' h => ?_) (hb w h))
        exact ⟨h.1, .inr ⟨h.2, by simp [Array.getD_eq_getD_getElem?, hiL]⟩⟩
      · exfalso
        simp only [Array.getD_eq_getD_getElem?] at hLi h1
        rw [Array.getElem?_eq_getElem hiL] at hLi h1
        simp at hLi h1
        rw [hLi] at h1; cases h1
    · have hmem : o ∈ l.eraseIdx kb := by
        rw [List.mem_eraseIdx_iff_getElem?]
        exact ⟨i, e1, ho'⟩
      obtain ⟨hg, h0, h1⟩ := hdo o hmem
      rcases hI with ⟨h, hn⟩ | ⟨h, hy⟩
      · rcases h0 with hw | h0
        · exfalso
          obtain ⟨e, he, hb'⟩ := Array.any_eq_true'.1 hw
          simp only [Bool.and_eq_true, beq_iff_eq] at hb'
          have h4 := hdep e he hb'.2
          rw [hb'.1] at h4
          refine hn ?_
          simp only [Array.getD_eq_getD_getElem?] at h4 ⊢
          rw [Array.getElem?_eq_getElem (by rw [hL]; simpa using hl)] at h4 ⊢
          exact h4
        · refine Reg.does_plain hg (Oper.wp_mono (fun a' X' h => ?_) (h0 w h))
          exact ⟨h.1, .inl ⟨h.2, fun h3 => hn ((hother L i kb e1).1 h3)⟩⟩
      · refine Reg.does_plain hg (Oper.wp_mono (fun a' X' h => ?_) (h1 w h))
        exact ⟨h.1, .inr ⟨h.2, (hother L i kb e1).2 hy⟩⟩
  · have h4 := hall kb (by simpa using hl)
    have h5 : L.getD kb false = true := by
      simp only [Array.getD_eq_getD_getElem?] at h4 ⊢
      rw [Array.getElem?_eq_getElem (by rw [hL]; simpa using hl)] at h4 ⊢
      exact h4
    rcases hI with ⟨_, h⟩ | ⟨h, _⟩
    · exact (h h5).elim
    · exact hQ w h
/-- Ahead of the laying: one instruction at g, and so many blocks; behind it, the list stands at that number. -/
def L0 (W : World) (T : TypeId) (g : Nat) (c : Array Value) (n : Nat) (X : World) : Prop := S1 W X T g c ∧ X.heap.size = n
def L1 (W : World) (T : TypeId) (g : Nat) (c : Array Value) (n : Nat) (L : Array Value) (TL : TypeId) (X : World) : Prop := S1 W X T g c ∧ Blk X n L TL
section
variable {n : Nat} {L : Array Value} {TL : TypeId} {kb : Nat}
theorem stayL_slot {t : Nat} (hg : o.guard = none) (hd : o.dst = some t) (h : ∀ X, (execOp fin.eval o).run P X = .ok (.value (fin.tmps.getD t undef)) X) : StayL P fin (L0 W T g c n) (L1 W T g c n L TL) kb o :=
  ⟨hg, .inr fun X hX => by unfold Oper.wp; rw [h X]; exact ⟨by rw [hd]; exact put_self fin t, hX⟩, fun X hX => by unfold Oper.wp; rw [h X]; exact ⟨by rw [hd]; exact put_self fin t, hX⟩⟩
theorem stayL_load {t : TypeId} {x : Operand} {i : Nat} {v : Value} (hg : o.guard = none) (ho : o.op = .load t x) (hx : fin.eval x = .pointer (some ⟨g, i, none⟩)) (ht : plainT P t = true) (hv : c[i]? = some v) (hp : fin.put o.dst v = fin) : StayL P fin (L0 W T g c n) (L1 W T g c n L TL) kb o := by
  have key : ∀ X, S1 W X T g c → (execOp fin.eval o).run P X = .ok (.value v) X := fun X hX => by
    have h := run_load1 (P := P) ht ((hX.one.cell i).trans hv)
    simp [execOp, ho, hx, h, Result.andThen]
  exact ⟨hg, .inr fun X hX => by unfold Oper.wp; rw [key X hX.1]; exact ⟨hp, hX⟩, fun X hX => by unfold Oper.wp; rw [key X hX.1]; exact ⟨hp, hX⟩⟩
/-- A call that lays nothing. -/
theorem stayL_call {f : FuncId} {args : Array Value} {v : Value} {cc : Call} (_ : o.op = .call cc) (hg : o.guard = none) (h : ∀ X, (execOp fin.eval o).run P X = .ok (.enter f args) X)
    (hc : ∀ X, Calls P f args X fun e X' => e = .returned v ∧ Below X.heap.size X X' ∧ X'.heap.size = X.heap.size) (hp : fin.put o.dst v = fin) : StayL P fin (L0 W T g c n) (L1 W T g c n L TL) kb o :=
  ⟨hg, .inr fun X hX => by
    unfold Oper.wp; rw [h X]
    refine Calls.mono (hc X) fun e X' he => ?_
    obtain ⟨rfl, hb, hz⟩ := he
    exact ⟨hp, hX.1.call hb, hz.trans hX.2⟩, fun X hX => by
    unfold Oper.wp; rw [h X]
    refine Calls.mono (hc X) fun e X' he => ?_
    obtain ⟨rfl, hb, hz⟩ := he
    exact ⟨hp, hX.1.call hb, hX.2.below hb⟩⟩
/-- A call that reads the list. -/
theorem stayL_read {f : FuncId} {args : Array Value} {v : Value} {cc : Call} (_ : o.op = .call cc) (hw : (o.after.any fun e => e.on == kb && Region.binds .any e) = true) (hg : o.guard = none) (h : ∀ X, (execOp fin.eval o).run P X = .ok (.enter f args) X)
    (hc : ∀ X, Blk X n L TL → Calls P f args X fun e X' => e = .returned v ∧ Below X.heap.size X X') (hp : fin.put o.dst v = fin) : StayL P fin (L0 W T g c n) (L1 W T g c n L TL) kb o :=
  ⟨hg, .inl hw, fun X hX => by
    unfold Oper.wp; rw [h X]
    refine Calls.mono (hc X hX.2) fun e X' he => ?_
    obtain ⟨rfl, hb⟩ := he
    exact ⟨hp, hX.1.call hb, hX.2.below hb⟩⟩
theorem lays_list {m : Nat} (hr : ∀ X : World, (execOp fin.eval o).run P X = .ok (.value (.slice (some ⟨X.heap.size, 0, none⟩) m m)) (X.alloc (.cells L TL (0, 0)))) (hp : fin.put o.dst (.slice (some ⟨n, 0, none⟩) m m) = fin) :
    ∀ X, L0 W T g c n X → o.wp P fin X (fun a' X' => a' = fin ∧ L1 W T g c n L TL X') (fun _ _ _ => False) := fun X hX => by
  obtain ⟨h1, h2⟩ := hX
  subst h2
  unfold Oper.wp; rw [hr X]
  exact ⟨hp, h1.call (alloc_below _ _), alloc_out _ _ _⟩
end
end
end Go.Proofs.Ytdhmfjcijcdnjaa.Enc
