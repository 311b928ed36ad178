/- Parts of the walks and laws for the claim: EncA, One; no conditions beyond the theorems' own. -/
import Derived.Test.YtidiojhefjhojaaGreatQ6
import Derived.Test.YtidiojhefjhojaaGreatQ8
section
namespace Go.Proofs.YtidiojhefjhojaaGreat.Enc
open Go Go.RowKit Go.Proofs.YtidiojhefjhojaaGreat.Step
set_option linter.unusedVariables false
set_option linter.unusedSimpArgs false
set_option maxRecDepth 100000
/-- The low n bits of a number, at a place. -/
def pt (v : Int) (n l : Nat) : Int := v % (2 ^ n : Nat) * (2 ^ l : Nat)
theorem pt_bd (v : Int) (n l : Nat) (h : n + l ≤ 32) : 0 ≤ pt v n l ∧ pt v n l < 4294967296 := by
  have hp : (0 : Int) < (2 ^ n : Nat) := by exact_mod_cast Nat.two_pow_pos n
  have hq : (0 : Int) < (2 ^ l : Nat) := by exact_mod_cast Nat.two_pow_pos l
  have h1 := Int.emod_nonneg v (show ((2 ^ n : Nat) : Int) ≠ 0 by omega)
  have h2 := Int.emod_lt_of_pos v hp
  have h3 : 2 ^ n * 2 ^ l ≤ 4294967296 := by rw [← Nat.pow_add]; exact Nat.pow_le_pow_right (n := 2) (j := 32) (by decide) h
  have h4 : ((2 ^ n : Nat) : Int) * ((2 ^ l : Nat) : Int) ≤ 4294967296 := by rw [← Int.natCast_mul]; generalize 2 ^ n * 2 ^ l = q at h3 ⊢; omega
  unfold pt
  refine ⟨Int.mul_nonneg h1 (by omega), ?_⟩
  have h5 : v % ((2 ^ n : Nat) : Int) * ((2 ^ l : Nat) : Int) < ((2 ^ n : Nat) : Int) * ((2 ^ l : Nat) : Int) := Int.mul_lt_mul_of_pos_right h2 hq
  omega
theorem u32_mask (x : Int) (n : Nat) (hn : n ≤ 32) (hx : 0 ≤ x ∧ x < 4294967296) : bits .and .u32 x ((2 ^ n - 1 : Nat) : Int) = x % (2 ^ n : Nat) := by
  have hp : 2 ^ n ≤ 4294967296 := Nat.pow_le_pow_right (n := 2) (j := 32) (by decide) hn
  have hp0 := Nat.two_pow_pos n
  obtain ⟨X, rfl⟩ := Int.eq_ofNat_of_zero_le hx.1
  rw [u32_and_nat _ _ (by omega) (by omega), Nat.and_two_pow_sub_one_eq_mod]; rfl
theorem put_any (v z1 z2 : Int) (h l : Nat) (hz1 : z1 = h) (hz2 : z2 = l) (hh : h ≤ 31) (hl : l ≤ h) (w : World) :
    Calls Tryz.prog 112 #[.int .i64 v, .int .i64 z1, .int .i64 z2] w fun e w' => e = .returned (.int .u32 (pt v (h - l + 1) l)) ∧ w = w' := by
  subst hz1; subst hz2
  have hp : 2 ^ (h - l + 1) ≤ 4294967296 := Nat.pow_le_pow_right (n := 2) (j := 32) (by decide) (by omega)
  have hv : bits .and .u32 (v % 4294967296) ((2 ^ (h - l + 1) - 1) % 4294967296) * 2 ^ l % 4294967296 = pt v (h - l + 1) l := by
    have h0 := Nat.two_pow_pos (h - l + 1)
    have e1 : ((2 : Int) ^ (h - l + 1) - 1) % 4294967296 = ((2 ^ (h - l + 1) - 1 : Nat) : Int) := by rw [pow_nat]; generalize 2 ^ (h - l + 1) = p at *; omega
    rw [e1, u32_mask _ _ (by omega) (by omega)]
    have e2 : v % 4294967296 % ((2 ^ (h - l + 1) : Nat) : Int) = v % ((2 ^ (h - l + 1) : Nat) : Int) := by
      refine Int.emod_emod_of_dvd v ?_
      have hd : 2 ^ (h - l + 1) ∣ 2 ^ 32 := Nat.pow_dvd_pow 2 (by omega)
      exact Int.natCast_dvd_natCast.2 hd
    rw [e2, pow_nat l]
    have := pt_bd v (h - l + 1) l (by omega)
    exact Int.emod_eq_of_lt this.1 this.2
  go_enter Tryz.func112, Tryz.ntmps112
  go_wp2
  go_ret
  exact ⟨congrArg (fun x => Ending.returned (.int .u32 x)) hv, rfl⟩
/-- Where a number stands in a list first; -1: nowhere. -/
def ix (L : List Int) (v : Int) : Int := match L.findIdx? (· == v) with | some i => (i : Int) | none => -1
theorem ix_hit {L : List Int} {v : Int} {k : Nat} (h : k < L.length) (hk : L.getD k 0 = v) (hm : ∀ j, j < k → L.getD j 0 ≠ v) : ix L v = k := by
  have h0 : L.findIdx? (· == v) = some k := by
    rw [List.findIdx?_eq_some_iff_getElem]
    refine ⟨h, ?_, fun j hj => ?_⟩
    · simpa [List.getD, List.getElem?_eq_getElem h] using hk
    · have := hm j hj
      simpa [List.getD, List.getElem?_eq_getElem (show j < L.length by omega)] using this
  unfold ix; rw [h0]
theorem ix_miss {L : List Int} {v : Int} (hm : ∀ j, j < L.length → L.getD j 0 ≠ v) : ix L v = -1 := by
  have h0 : L.findIdx? (· == v) = none := by
    rw [List.findIdx?_eq_none_iff]
    intro x hx
    obtain ⟨j, hj, rfl⟩ := List.getElem_of_mem hx
    have := hm j hj
    simpa [List.getD, List.getElem?_eq_getElem hj] using this
  unfold ix; rw [h0]
theorem index_any {W : World} {g n : Nat} {cs : Array Value} {T : TypeId} (hb : Blk W g cs T) (L : List Int) (hcs : cs = ints L) (hn : n = L.length) (hl : L.length ≤ 1000) (v : Int) :
    Calls Tryz.prog 113 #[.slice (some ⟨g, 0, none⟩) n n, .int .i64 v] W fun e w' => e = .returned (.int .i64 (ix L v)) ∧ W = w' := by
  subst hn hcs
  have HB := Lib.hid hb
  clear hb
  go_enter Tryz.func113, Tryz.ntmps113
  go_wp2
  go_loopw [8] (fun i w_ => ∃ k : Nat, k ≤ L.length ∧ i = .int .i64 k ∧ w_ = W ∧ ∀ j, j < k → L.getD j 0 ≠ v) (fun i _ => (L.length - intOf i).toNat)
  case atStart => exact ⟨0, Nat.zero_le _, rfl, rfl, fun j h => absurd h (Nat.not_lt_zero j)⟩
  case round =>
    obtain ⟨k, hk, rfl, rfl, hm⟩ := hrel
    have HM := Lib.hid hm
    clear hm
    by_cases hlt : k < L.length
    · have hc := (HB.out.cell k).trans (ints_at L k hlt)
      by_cases hv : L.getD k 0 = v
      · have HI := Lib.hid (ix_hit hlt hv HM.out)
        rw [hv] at hc
        clear HM hv
        go_wp2
        go_ret
        exact ⟨by rw [HI.out]; rfl, rfl⟩
      · obtain ⟨u, hu⟩ : ∃ u, L.getD k 0 = u := ⟨_, rfl⟩
        rw [hu] at hc hv
        have cv : (v == u) = false := beq_eq_false_iff_ne.2 (Ne.symm hv)
        clear hv
        have HU := Lib.hid hu
        clear hu
        go_wp2
        refine ⟨⟨k + 1, by omega, by go_num, by first | trivial, fun j hj => ?_⟩, by simp [intOf]; omega⟩
        by_cases e : j = k
        · subst e; rw [HU.out]; exact fun h => by simp [h] at cv
        · exact HM.out j (by omega)
    · obtain rfl : k = L.length := by omega
      have HI := Lib.hid (ix_miss HM.out)
      clear HM
      go_wp2
      go_ret
      exact ⟨by rw [HI.out]; rfl, rfl⟩
end Go.Proofs.YtidiojhefjhojaaGreat.Enc
end
section
namespace Go.Proofs.YtidiojhefjhojaaGreat.Enc
open Go Go.RowKit Go.Proofs.YtidiojhefjhojaaGreat.Step
set_option linter.unusedVariables false
set_option linter.unusedSimpArgs false
set_option maxRecDepth 100000
section
variable {P : Program} {ops : Array Oper} {fin : Act} {W : World} {o : Oper} {T : TypeId} {g : Nat} {c : Array Value}
def Stay1 (P : Program) (ops : Array Oper) (fin : Act) (W : World) (T : TypeId) (g : Nat) (c : Array Value) (o : Oper) : Prop :=
  (Region.wanted o (yielded ops fin.tmps) = true ∧ ∀ X, S1 W X T g c → o.wp P fin X (fun a' X' => a' = fin ∧ S1 W X' T g c) (fun _ _ _ => False)) ∨ (Region.wanted o (yielded ops fin.tmps) = false ∧ fin.put o.dst undef = fin)
theorem stay1_slot {t : Nat} (hg : Region.wanted o (yielded ops fin.tmps) = true) (hd : o.dst = some t) (h : ∀ X, (execOp fin.eval o).run P X = .ok (.value (fin.tmps.getD t undef)) X) : Stay1 P ops fin W T g c o :=
  .inl ⟨hg, fun X hX => by unfold Oper.wp; rw [h X]; exact ⟨by rw [hd]; exact put_self fin t, hX⟩⟩
theorem stay1_call {f : FuncId} {args : Array Value} {v : Value} {cc : Call} (_ : o.op = .call cc) (hg : Region.wanted o (yielded ops fin.tmps) = true) (h : ∀ X, (execOp fin.eval o).run P X = .ok (.enter f args) X)
    (hc : ∀ X, Calls P f args X fun e X' => e = .returned v ∧ Below X.heap.size X X') (hp : fin.put o.dst v = fin) : Stay1 P ops fin W T g c o :=
  .inl ⟨hg, fun X hX => by
    unfold Oper.wp; rw [h X]
    refine Calls.mono (hc X) fun e X' he => ?_
    obtain ⟨rfl, hb⟩ := he
    exact ⟨hp, hX.call hb⟩⟩
theorem stay1_load {t : TypeId} {x : Operand} {i : Nat} {v : Value} (hg : Region.wanted o (yielded ops fin.tmps) = true) (ho : o.op = .load t x) (hx : fin.eval x = .pointer (some ⟨g, i, none⟩)) (ht : plainT P t = true) (hv : c[i]? = some v) (hp : fin.put o.dst v = fin) : Stay1 P ops fin W T g c o :=
  .inl ⟨hg, fun X hX => by
    have h := run_load1 (P := P) ht ((hX.one.cell i).trans hv)
    have h2 : (execOp fin.eval o).run P X = .ok (.value v) X := by simp [execOp, ho, hx, h, Result.andThen]
    unfold Oper.wp; rw [h2]; exact ⟨hp, hX⟩⟩
/-- A slice's elements are laid: a block of its own, which no other operation may know but by what is told. -/
theorem one_region {l : List Oper} {id : Nat} {a : Act} {w : World} {Q : Exit → Act → World → Prop} (hS : S1 W w T g c) (hm : P.follows .mixedOrders = true) (vs : List (Tmp × Value))
    (hord : Reg.ordered l.toArray = true) (hin : Reg.within l.toArray vs = true) (hfin : Reg.puts a vs = fin) (hdo : ∀ o ∈ l, Stay1 P l.toArray fin W T g c o)
    (hQ : ∀ w', S1 W w' T g c → Q .normal fin w') : (Code.region id l.toArray true).wp P Q a w := by
  subst hfin
  refine Reg.region hm vs (fun L w => S1 W w T g c) hord hin (hS.call (below_drawn ⟨1, rfl⟩)) (fun i o ho L w hL hLi hdep hI => ?_) (fun L w hL hall hI => hQ w hI)
  have ho' : l[i]? = some o := by simpa using ho
  rcases hdo o (List.mem_of_getElem? ho') with ⟨hg, h⟩ | ⟨hg, hp⟩
  · exact Reg.does_go hg (h w hI)
  · exact Reg.does_not hg hp hI
theorem stay1_nil : ∀ o ∈ ([] : List Oper), Stay1 P ops fin W T g c o := fun _ h => nomatch h
theorem stay1_cons {l : List Oper} (h : Stay1 P ops fin W T g c o) (hl : ∀ o ∈ l, Stay1 P ops fin W T g c o) : ∀ o' ∈ o :: l, Stay1 P ops fin W T g c o' := fun o' ho => by
  rcases List.mem_cons.1 ho with rfl | h'
  · exact h
  · exact hl o' h'
/-- An operation of a region in which one (at kb) lays something: it leaves what stands, ahead of that one (or waits for it) and behind it. -/
def StayL (P : Program) (fin : Act) (I0 I1 : World → Prop) (kb : Nat) (o : Oper) : Prop :=
  o.guard = none ∧ ((o.after.any fun e => e.on == kb && Region.binds .any e) = true ∨ ∀ X, I0 X → o.wp P fin X (fun a' X' => a' = fin ∧ I0 X') (fun _ _ _ => False)) ∧ ∀ X, I1 X → o.wp P fin X (fun a' X' => a' = fin ∧ I1 X') (fun _ _ _ => False)
theorem laid_region {l : List Oper} {id : Nat} {a : Act} {w : World} {I0 I1 : World → Prop} {Q : Exit → Act → World → Prop} {kb : Nat} {ob : Oper} (hS : I0 { w with drawn := w.drawn + 1 }) (hm : P.follows .mixedOrders = true) (vs : List (Tmp × Value))
    (hord : Reg.ordered l.toArray = true) (hin : Reg.within l.toArray vs = true) (hfin : Reg.puts a vs = fin) (hk : l[kb]? = some ob) (hgb : ob.guard = none) (hb : ∀ X, I0 X → ob.wp P fin X (fun a' X' => a' = fin ∧ I1 X') (fun _ _ _ => False))
    (hdo : ∀ o ∈ l.eraseIdx kb, StayL P fin I0 I1 kb o) (hQ : ∀ w', I1 w' → Q .normal fin w') : (Code.region id l.toArray true).wp P Q a w := by
  subst hfin
  have hl : kb < l.length := (List.getElem?_eq_some_iff.1 hk).1
  have hother : ∀ (L : Array Bool) (i j : Nat), i ≠ j → ((L.setIfInBounds i true).getD j false = true ↔ L.getD j false = true) := by
    intro L i j e
    simp [Array.getD_eq_getD_getElem?, Array.getElem?_setIfInBounds_ne e]
  refine Reg.region hm vs (fun L w => (I0 w ∧ ¬ L.getD kb false = true) ∨ (I1 w ∧ L.getD kb false = true)) hord hin (.inl ⟨hS, ?_⟩) (fun i o ho L w hL hLi hdep hI => ?_) (fun L w hL hall hI => ?_)
  · simp [Array.getD_eq_getD_getElem?, hl]
  · have ho' : l[i]? = some o := by simpa using ho
    have hiL : i < L.size := by rw [hL]; exact (Array.getElem?_eq_some_iff.1 ho).1
    by_cases e1 : i = kb
    · subst e1
      obtain rfl : ob = o := by rw [hk] at ho'; simpa using ho'
      rcases hI with ⟨h, _⟩ | ⟨_, h1⟩
      · refine Reg.does_plain hgb (Oper.wp_mono (fun a' X' h => ?_) (hb w h))
        exact ⟨h.1, .inr ⟨h.2, by simp [Array.getD_eq_getD_getElem?, hiL]⟩⟩
      · exfalso
        simp only [Array.getD_eq_getD_getElem?] at hLi h1
        rw [Array.getElem?_eq_getElem hiL] at hLi h1
        simp at hLi h1
        rw [hLi] at h1; cases h1
    · have hmem : o ∈ l.eraseIdx kb := by
        rw [List.mem_eraseIdx_iff_getElem?]
        exact ⟨i, e1, ho'⟩
      obtain ⟨hg, h0, h1⟩ := hdo o hmem
      rcases hI with ⟨h, hn⟩ | ⟨h, hy⟩
      · rcases h0 with hw | h0
        · exfalso
          obtain ⟨e, he, hb'⟩ := Array.any_eq_true'.1 hw
          simp only [Bool.and_eq_true, beq_iff_eq] at hb'
          have h4 := hdep e he hb'.2
          rw [hb'.1] at h4
          refine hn ?_
          simp only [Array.getD_eq_getD_getElem?] at h4 ⊢
          rw [Array.getElem?_eq_getElem (by rw [hL]; simpa using hl)] at h4 ⊢
          exact h4
        · refine Reg.does_plain hg (Oper.wp_mono (fun a' X' h => ?_) (h0 w h))
          exact ⟨h.1, .inl ⟨h.2, fun h3 => hn ((hother L i kb e1).1 h3)⟩⟩
      · refine Reg.does_plain hg (Oper.wp_mono (fun a' X' h => ?_) (h1 w h))
        exact ⟨h.1, .inr ⟨h.2, (hother L i kb e1).2 hy⟩⟩
  · have h4 := hall kb (by simpa using hl)
    have h5 : L.getD kb false = true := by
      simp only [Array.getD_eq_getD_getElem?] at h4 ⊢
      rw [Array.getElem?_eq_getElem (by rw [hL]; simpa using hl)] at h4 ⊢
      exact h4
    rcases hI with ⟨_, h⟩ | ⟨h, _⟩
    · exact (h h5).elim
    · exact hQ w h
/-- Ahead of the laying: one instruction at g, and so many blocks; behind it, the list stands at that number. -/
def L0 (W : World) (T : TypeId) (g : Nat) (c : Array Value) (n : Nat) (X : World) : Prop := S1 W X T g c ∧ X.heap.size = n
def L1 (W : World) (T : TypeId) (g : Nat) (c : Array Value) (n : Nat) (L : Array Value) (TL : TypeId) (X : World) : Prop := S1 W X T g c ∧ Blk X n L TL
section
variable {n : Nat} {L : Array Value} {TL : TypeId} {kb : Nat}
theorem stayL_slot {t : Nat} (hg : o.guard = none) (hd : o.dst = some t) (h : ∀ X, (execOp fin.eval o).run P X = .ok (.value (fin.tmps.getD t undef)) X) : StayL P fin (L0 W T g c n) (L1 W T g c n L TL) kb o :=
  ⟨hg, .inr fun X hX => by unfold Oper.wp; rw [h X]; exact ⟨by rw [hd]; exact put_self fin t, hX⟩, fun X hX => by unfold Oper.wp; rw [h X]; exact ⟨by rw [hd]; exact put_self fin t, hX⟩⟩
theorem stayL_load {t : TypeId} {x : Operand} {i : Nat} {v : Value} (hg : o.guard = none) (ho : o.op = .load t x) (hx : fin.eval x = .pointer (some ⟨g, i, none⟩)) (ht : plainT P t = true) (hv : c[i]? = some v) (hp : fin.put o.dst v = fin) : StayL P fin (L0 W T g c n) (L1 W T g c n L TL) kb o := by
  have key : ∀ X, S1 W X T g c → (execOp fin.eval o).run P X = .ok (.value v) X := fun X hX => by
    have h := run_load1 (P := P) ht ((hX.one.cell i).trans hv)
    simp [execOp, ho, hx, h, Result.andThen]
  exact ⟨hg, .inr fun X hX => by unfold Oper.wp; rw [key X hX.1]; exact ⟨hp, hX⟩, fun X hX => by unfold Oper.wp; rw [key X hX.1]; exact ⟨hp, hX⟩⟩
/-- A call that lays nothing. -/
theorem stayL_call {f : FuncId} {args : Array Value} {v : Value} {cc : Call} (_ : o.op = .call cc) (hg : o.guard = none) (h : ∀ X, (execOp fin.eval o).run P X = .ok (.enter f args) X)
    (hc : ∀ X, Calls P f args X fun e X' => e = .returned v ∧ Below X.heap.size X X' ∧ X'.heap.size = X.heap.size) (hp : fin.put o.dst v = fin) : StayL P fin (L0 W T g c n) (L1 W T g c n L TL) kb o :=
  ⟨hg, .inr fun X hX => by
    unfold Oper.wp; rw [h X]
    refine Calls.mono (hc X) fun e X' he => ?_
    obtain ⟨rfl, hb, hz⟩ := he
    exact ⟨hp, hX.1.call hb, hz.trans hX.2⟩, fun X hX => by
    unfold Oper.wp; rw [h X]
    refine Calls.mono (hc X) fun e X' he => ?_
    obtain ⟨rfl, hb, hz⟩ := he
    exact ⟨hp, hX.1.call hb, hX.2.below hb⟩⟩
/-- A call that reads the list. -/
theorem stayL_read {f : FuncId} {args : Array Value} {v : Value} {cc : Call} (_ : o.op = .call cc) (hw : (o.after.any fun e => e.on == kb && Region.binds .any e) = true) (hg : o.guard = none) (h : ∀ X, (execOp fin.eval o).run P X = .ok (.enter f args) X)
    (hc : ∀ X, Blk X n L TL → Calls P f args X fun e X' => e = .returned v ∧ Below X.heap.size X X') (hp : fin.put o.dst v = fin) : StayL P fin (L0 W T g c n) (L1 W T g c n L TL) kb o :=
  ⟨hg, .inl hw, fun X hX => by
    unfold Oper.wp; rw [h X]
    refine Calls.mono (hc X hX.2) fun e X' he => ?_
    obtain ⟨rfl, hb⟩ := he
    exact ⟨hp, hX.1.call hb, hX.2.below hb⟩⟩
theorem lays_list {m : Nat} (hr : ∀ X : World, (execOp fin.eval o).run P X = .ok (.value (.slice (some ⟨X.heap.size, 0, none⟩) m m)) (X.alloc (.cells L TL (0, 0)))) (hp : fin.put o.dst (.slice (some ⟨n, 0, none⟩) m m) = fin) :
    ∀ X, L0 W T g c n X → o.wp P fin X (fun a' X' => a' = fin ∧ L1 W T g c n L TL X') (fun _ _ _ => False) := fun X hX => by
  obtain ⟨h1, h2⟩ := hX
  subst h2
  unfold Oper.wp; rw [hr X]
  exact ⟨hp, h1.call (alloc_below _ _), alloc_out _ _ _⟩
end
end
end Go.Proofs.YtidiojhefjhojaaGreat.Enc
end
