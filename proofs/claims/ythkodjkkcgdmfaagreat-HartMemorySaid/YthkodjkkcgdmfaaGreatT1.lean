/- Parts of the walks and laws for the claim: Region, Calm, CalmB; no conditions beyond the theorems' own. -/
import Derived.Below
import Derived.Orders
import Derived.Tactics
section
namespace Go.Proofs.YthkodjkkcgdmfaaGreat.Reg
open Go
set_option linter.unusedVariables false
section
variable {P : Program} {ops : Array Oper}
/-- Slots filled one behind the other. -/
def puts : Act → List (Tmp × Value) → Act
  | a, [] => a
  | a, (d, v) :: r => puts (a.put (some d) v) r
/-- The frames say the same of every slot whose operations have all come up. -/
structure Agree (ops : Array Oper) (L : Array Bool) (a fin : Act) : Prop where
  defers : a.defers = fin.defers
  size : a.tmps.size = fin.tmps.size
  slot : ∀ t, (∀ (j : Nat) (o : Oper), ops[j]? = some o → o.dst = some t → L.getD j true = true) → a.tmps[t]? = fin.tmps[t]?
theorem puts_defers : ∀ (vs : List (Tmp × Value)) (a : Act), (puts a vs).defers = a.defers
  | [], _ => rfl
  | (_, _) :: r, a => (puts_defers r _).trans rfl
theorem puts_size : ∀ (vs : List (Tmp × Value)) (a : Act), (puts a vs).tmps.size = a.tmps.size
  | [], _ => rfl
  | (_, _) :: r, a => (puts_size r _).trans (by simp [Act.put])
theorem puts_other (t : Nat) : ∀ (vs : List (Tmp × Value)) (a : Act), (∀ p ∈ vs, p.1 ≠ t) → (puts a vs).tmps[t]? = a.tmps[t]?
  | [], _, _ => rfl
  | (d, _) :: r, a, h => (puts_other t r _ fun p hp => h p (List.mem_cons_of_mem _ hp)).trans (by
      have : d ≠ t := h _ (List.mem_cons_self ..)
      simp [Act.put, Array.getElem?_setIfInBounds_ne this])
/-- Every slot that an operation looks at, if an operation of the region fills it, is filled ahead of it; what comes behind comes later in the text. -/
def ordered (ops : Array Oper) : Bool :=
  (List.range ops.size).all fun i => match ops[i]? with
    | none => true
    | some o => (o.after.all fun e => !Region.binds .any e || decide (e.on < i)) && (match o.op with | .select .. => false | _ => true) &&
        (o.looksAt ops).all fun t => (List.range ops.size).all fun j => match ops[j]? with
          | none => true
          | some oj => oj.dst != some t || o.after.any fun e => e.on == j && Region.binds .any e
/-- The slots that are told are slots of the region's operations. -/
def within (ops : Array Oper) (vs : List (Tmp × Value)) : Bool := vs.all fun p => (List.range ops.size).any fun j => ((ops[j]?).bind (·.dst)) == some p.1
theorem ordered_at (h : ordered ops = true) {i : Nat} {o : Oper} (ho : ops[i]? = some o) :
    (∀ e ∈ o.after, Region.binds .any e = true → e.on < i) ∧ (∀ cs b, o.op ≠ .select cs b) ∧ ∀ t ∈ o.looksAt ops, ∀ (j : Nat) (oj : Oper), ops[j]? = some oj → oj.dst = some t → ∃ e ∈ o.after, e.on = j ∧ Region.binds .any e = true := by
  unfold ordered at h
  have hi : i < ops.size := (Array.getElem?_eq_some_iff.1 ho).1
  have h1 := List.all_eq_true.1 h i (List.mem_range.2 hi)
  simp only [ho, Bool.and_eq_true, Array.all_eq_true'] at h1
  obtain ⟨⟨ha, hs⟩, hl⟩ := h1
  refine ⟨fun e he hb => by have h := ha e he; rw [hb] at h; simpa using h, fun cs b e => ?_, fun t ht j oj hj hd => ?_⟩
  · rw [e] at hs; cases hs
  · have h2 := List.all_eq_true.1 hl t ht
    have h3 := List.all_eq_true.1 h2 j (List.mem_range.2 (Array.getElem?_eq_some_iff.1 hj).1)
    simp only [hj, hd, bne_self_eq_false, Bool.false_or] at h3
    obtain ⟨e, he, hb⟩ := Array.any_eq_true'.1 h3
    simp only [Bool.and_eq_true, beq_iff_eq] at hb
    exact ⟨e, he, hb.1, hb.2⟩
/-- What is asked of one operation: run on the final frame, in any world that meets the condition, it leaves the final frame and meets the condition that goes with its having come up. -/
def Does (P : Program) (ops : Array Oper) (fin : Act) (S : Array Bool → World → Prop) (L : Array Bool) (i : Nat) (o : Oper) (w : World) : Prop :=
  if Region.wanted o (yielded ops fin.tmps) then o.wp P fin w (fun a' w' => a' = fin ∧ S (L.setIfInBounds i true) w') (fun _ _ _ => False)
  else fin.put o.dst undef = fin ∧ S (L.setIfInBounds i true) w
theorem agree_put {L : Array Bool} {a fin : Act} {i : Nat} {o : Oper} (ho : ops[i]? = some o) (hL : i < L.size) (h : Agree ops L a fin) {v : Value} (hv : fin.put o.dst v = fin) :
    Agree ops (L.setIfInBounds i true) (a.put o.dst v) fin := by
  have keep : ∀ t, o.dst ≠ some t → (∀ (j : Nat) (oj : Oper), ops[j]? = some oj → oj.dst = some t → (L.setIfInBounds i true).getD j true = true) →
      ∀ (j : Nat) (oj : Oper), ops[j]? = some oj → oj.dst = some t → L.getD j true = true := by
    intro t hne hall j oj hj hd
    have h1 := hall j oj hj hd
    by_cases e : i = j
    · subst e; rw [ho] at hj; obtain rfl := Option.some.inj hj; exact absurd hd hne
    · simpa [Array.getD_eq_getD_getElem?, Array.getElem?_setIfInBounds_ne e] using h1
  cases hd : o.dst with
  | none =>
    exact ⟨h.defers, h.size, fun t ht => h.slot t (keep t (by rw [hd]; simp) ht)⟩
  | some d =>
    rw [hd] at hv
    refine ⟨h.defers, by simpa [Act.put] using h.size, fun t ht => ?_⟩
    by_cases e : d = t
    · subst e
      have h2 : (fin.put (some d) v).tmps[d]? = fin.tmps[d]? := by rw [hv]
      rw [← h2]
      simp only [Act.put, Array.getElem?_setIfInBounds_self, h.size]
    · have h3 : (a.put (some d) v).tmps[t]? = a.tmps[t]? := by simp [Act.put, Array.getElem?_setIfInBounds_ne e]
      rw [h3]; exact h.slot t (keep t (by rw [hd]; simpa using e) ht)
theorem agree_eval {L : Array Bool} {a fin : Act} (h : Agree ops L a fin) {t : Nat} (ht : ∀ (j : Nat) (o : Oper), ops[j]? = some o → o.dst = some t → L.getD j true = true) : a.eval (.tmp t) = fin.eval (.tmp t) := by
  have := h.slot t ht
  simp only [Act.eval, Array.getD_eq_getD_getElem?, this]
theorem does_step {L : Array Bool} {a fin : Act} {i : Nat} {o : Oper} {w : World} {Q : Exit → Act → World → Prop} {S : Array Bool → World → Prop} {K : Act → World → Prop}
    (hord : ordered ops = true) (ho : ops[i]? = some o) (hL : i < L.size) (hdep : ∀ e ∈ o.after, Region.binds .any e = true → L.getD e.on true = true)
    (h : Agree ops L a fin) (hdo : Does P ops fin S L i o w) (hK : ∀ a' w', Agree ops (L.setIfInBounds i true) a' fin → S (L.setIfInBounds i true) w' → K a' w') : wpOp P ops Q i K a w := by
  obtain ⟨_, hs, hl⟩ := ordered_at hord ho
  have seen : ∀ t ∈ o.looksAt ops, ∀ (j : Nat) (oj : Oper), ops[j]? = some oj → oj.dst = some t → L.getD j true = true := fun t ht j oj hj hd => by
    obtain ⟨e, he, rfl, hb⟩ := hl t ht j oj hj hd
    exact hdep e he hb
  have hex : execOp a.eval o = execOp fin.eval o := execOp_congr o hs fun x hx => by
    cases x with
    | tmp t => exact agree_eval h (seen t (List.mem_append_left _ (List.mem_filterMap.2 ⟨.tmp t, by simpa using hx, rfl⟩)))
    | _ => rfl
  have hwa : Region.wanted o (yielded ops a.tmps) = Region.wanted o (yielded ops fin.tmps) := by
    unfold Region.wanted
    cases hg : o.guard with
    | none => rfl
    | some p =>
      obtain ⟨g, want⟩ := p
      have : yielded ops a.tmps g = yielded ops fin.tmps g := by
        unfold yielded
        cases hgd : (ops[g]?).bind (·.dst) with
        | none => rfl
        | some t =>
          have ht : t ∈ o.looksAt ops := List.mem_append_right _ (by simp [hg, hgd])
          simp only [Option.bind_some, h.slot t (seen t ht)]
      simp only [this]
  unfold wpOp
  simp only [ho]
  rw [hwa]
  unfold Does at hdo
  split
  · rename_i hw
    rw [if_pos hw] at hdo
    refine .inl ?_
    unfold Oper.wp at *
    rw [hex]
    generalize (execOp fin.eval o).run P w = r at *
    cases r with
    | ok n w' =>
      cases n <;> simp only [Oper.upon] at hdo ⊢
      case value u => exact hK _ _ (agree_put ho hL h hdo.1) hdo.2
      case skip => exact hK _ _ (agree_put ho hL h hdo.1) hdo.2
      case defer d =>
        exfalso
        have h1 := congrArg Act.defers hdo.1
        have h2 : (({ fin with defers := d :: fin.defers } : Act).put o.dst undef).defers = d :: fin.defers := by cases o.dst <;> rfl
        rw [h2] at h1
        have := congrArg List.length h1
        simp at this
      case enter f args =>
        refine Calls.mono hdo fun e w'' he => ?_
        cases e with
        | returned u => exact hK _ _ (agree_put ho hL h he.1) he.2
        | panicked c => exact he.elim
        | outgrown => obtain ⟨_, _, hf⟩ := he; exact hf.elim
      case row row args => exact Rows.mono hdo fun u w'' he => hK _ _ (agree_put ho hL h he.1) he.2
    | halt x w' =>
      cases x <;> simp only [Oper.upon] at hdo ⊢
  · rename_i hw
    rw [if_neg hw] at hdo
    exact hK _ _ (agree_put ho hL h hdo.1) hdo.2
theorem all_listed (hord : ordered ops = true) {L : Array Bool} (hsz : L.size = ops.size) (hr : Region.ready .any ops L = []) : ∀ i, i < ops.size → L.getD i true = true := by
  intro i
  induction i using Nat.strongRecOn with
  | ind i ih =>
    intro hi
    cases hL : L.getD i true with
    | true => rfl
    | false =>
      exfalso
      have ho : ops[i]? = some ops[i] := Array.getElem?_eq_getElem hi
      obtain ⟨ha, _, _⟩ := ordered_at hord ho
      have : i ∈ Region.ready .any ops L := mem_ready.2 ⟨hL, ops[i], ho, fun e he hb => by
        have h1 := ih e.on (ha e he hb) (Nat.lt_trans (ha e he hb) hi)
        have h2 : e.on < L.size := by rw [hsz]; exact Nat.lt_trans (ha e he hb) hi
        simpa [Array.getD_eq_getD_getElem?, Array.getElem?_eq_getElem h2] using h1⟩
      rw [hr] at this; cases this
def left (n : Nat) (L : Array Bool) : Nat := (List.range n).countP fun i => !L.getD i true
theorem left_set {n i : Nat} {L : Array Bool} (hi : i < n) (hs : i < L.size) (h : L.getD i true = false) : left n (L.setIfInBounds i true) < left n L := by
  unfold left
  have hmono : ∀ l : List Nat, (l.countP fun j => !(L.setIfInBounds i true).getD j true) ≤ l.countP fun j => !L.getD j true := by
    intro l
    refine List.countP_mono_left fun j _ hj => ?_
    by_cases e : i = j
    · subst e; simp [Array.getD_eq_getD_getElem?, hs] at hj
    · simpa [Array.getD_eq_getD_getElem?, Array.getElem?_setIfInBounds_ne e] using hj
  have hsplit : ∀ l : List Nat, i ∈ l → (l.countP fun j => !(L.setIfInBounds i true).getD j true) < l.countP fun j => !L.getD j true := by
    intro l
    induction l with
    | nil => intro h; cases h
    | cons x l ih =>
      intro hm
      rw [List.countP_cons, List.countP_cons]
      by_cases e : i = x
      · subst e
        have h1 : (L.setIfInBounds i true).getD i true = true := by simp [Array.getD_eq_getD_getElem?, hs]
        rw [h1, h]; have := hmono l; simp only [Bool.not_true, Bool.not_false, if_true, Bool.false_eq_true, if_false]; omega
      · have h2 := ih (by simpa [e] using hm)
        have h3 : (L.setIfInBounds i true).getD x true = L.getD x true := by simp [Array.getD_eq_getD_getElem?, Array.getElem?_setIfInBounds_ne e]
        rw [h3]; omega
  exact hsplit _ (List.mem_range.2 hi)
theorem any_does {fin : Act} {S : Array Bool → World → Prop} {Q : Exit → Act → World → Prop} (hord : ordered ops = true)
    (hdo : ∀ (i : Nat) (o : Oper), ops[i]? = some o → ∀ (L : Array Bool) (w : World), L.size = ops.size → L.getD i true = false → (∀ e ∈ o.after, Region.binds .any e = true → L.getD e.on true = true) → S L w → Does P ops fin S L i o w)
    (hQ : ∀ (L : Array Bool) (w : World), L.size = ops.size → (∀ i, i < ops.size → L.getD i true = true) → S L w → Q .normal fin w) :
    ∀ (fuel : Nat) (L : Array Bool) (a : Act) (w : World), L.size = ops.size → left ops.size L ≤ fuel → Agree ops L a fin → S L w → wpAny P .any ops Q fuel L a w := by
  have done : ∀ (L : Array Bool) (a : Act) (w : World), L.size = ops.size → Agree ops L a fin → S L w → Region.ready .any ops L = [] → Q .normal a w := by
    intro L a w hsz hag hS hr
    have hall := all_listed hord hsz hr
    have : a = fin := by
      have ht : a.tmps = fin.tmps := Array.ext_getElem? fun t => hag.slot t fun j o hj _ => hall j (Array.getElem?_eq_some_iff.1 hj).1
      have hd := hag.defers
      cases a; cases fin; simp_all
    subst this
    exact hQ L w hsz hall hS
  intro fuel
  induction fuel with
  | zero =>
    intro L a w hsz hleft hag hS
    have hr : Region.ready .any ops L = [] := by
      apply List.eq_nil_iff_forall_not_mem.2
      intro i hi
      obtain ⟨hL, o, ho, _⟩ := mem_ready.1 hi
      have hin : i < ops.size := (Array.getElem?_eq_some_iff.1 ho).1
      have := left_set hin (by omega) hL
      omega
    exact ⟨hr, done L a w hsz hag hS hr⟩
  | succ fuel ih =>
    intro L a w hsz hleft hag hS
    refine ⟨done L a w hsz hag hS, fun i hi => ?_⟩
    obtain ⟨hL, o, ho, hall⟩ := mem_ready.1 hi
    have hin : i < ops.size := (Array.getElem?_eq_some_iff.1 ho).1
    have hdep : ∀ e ∈ o.after, Region.binds .any e = true → L.getD e.on true = true := fun e he hb => by
      have h1 := hall e he hb
      rcases Nat.lt_or_ge e.on L.size with h' | h'
      · simpa [Array.getD_eq_getD_getElem?, Array.getElem?_eq_getElem h'] using h1
      · simp [Array.getD_eq_getD_getElem?, Array.getElem?_eq_none h']
    refine does_step hord ho (by omega) hdep hag (hdo i o ho L w hsz hL hdep hS) fun a' w' ha' hS' => ?_
    exact ih _ a' w' (by simpa using hsz) (by have := left_set hin (show i < L.size by omega) hL; omega) ha' hS'
theorem left_le (n : Nat) (L : Array Bool) : left n L ≤ n := by unfold left; have := List.countP_le_length (p := fun i => !L.getD i true) (l := List.range n); simpa using this
/-- **The region, in whatever order.** -/
theorem region {id : Nat} {a : Act} {w : World} {Q : Exit → Act → World → Prop} (hm : P.follows .mixedOrders = true) (vs : List (Tmp × Value)) (S : Array Bool → World → Prop)
    (hord : ordered ops = true) (hin : within ops vs = true) (hS : S (Array.replicate ops.size false) { w with drawn := w.drawn + 1 })
    (hdo : ∀ (i : Nat) (o : Oper), ops[i]? = some o → ∀ (L : Array Bool) (w : World), L.size = ops.size → L.getD i true = false → (∀ e ∈ o.after, Region.binds .any e = true → L.getD e.on true = true) → S L w → Does P ops (puts a vs) S L i o w)
    (hQ : ∀ (L : Array Bool) (w : World), L.size = ops.size → (∀ i, i < ops.size → L.getD i true = true) → S L w → Q .normal (puts a vs) w) : (Code.region id ops true).wp P Q a w := by
  refine wp_region_any hm (any_does hord hdo hQ _ _ a _ (by simp) (left_le _ _) ⟨(puts_defers vs a).symm, (puts_size vs a).symm, fun t ht => (puts_other t vs a fun p hp he => ?_).symm⟩ hS)
  have h1 := List.all_eq_true.1 hin p hp
  obtain ⟨j, hj, hb⟩ := List.any_eq_true.1 h1
  have hj' : j < ops.size := List.mem_range.1 hj
  rw [Array.getElem?_eq_getElem hj'] at hb
  have h2 := ht j ops[j] (Array.getElem?_eq_getElem hj') (by simpa [he] using hb)
  simp [Array.getD_eq_getD_getElem?, hj'] at h2
theorem does_plain {fin : Act} {S : Array Bool → World → Prop} {L : Array Bool} {i : Nat} {o : Oper} {w : World} (hg : o.guard = none)
    (h : o.wp P fin w (fun a' w' => a' = fin ∧ S (L.setIfInBounds i true) w') (fun _ _ _ => False)) : Does P ops fin S L i o w := by
  unfold Does; rw [if_pos (by simp [Region.wanted, hg])]; exact h
/-- A guarded operation that is passed over. -/
theorem does_not {fin : Act} {S : Array Bool → World → Prop} {L : Array Bool} {i : Nat} {o : Oper} {w : World} (hg : Region.wanted o (yielded ops fin.tmps) = false) (hp : fin.put o.dst undef = fin) (hS : S (L.setIfInBounds i true) w) : Does P ops fin S L i o w := by
  unfold Does; rw [if_neg (by simp [hg])]; exact ⟨hp, hS⟩
theorem does_go {fin : Act} {S : Array Bool → World → Prop} {L : Array Bool} {i : Nat} {o : Oper} {w : World} (hg : Region.wanted o (yielded ops fin.tmps) = true)
    (h : o.wp P fin w (fun a' w' => a' = fin ∧ S (L.setIfInBounds i true) w') (fun _ _ _ => False)) : Does P ops fin S L i o w := by
  unfold Does; rw [if_pos hg]; exact h
end
end Go.Proofs.YthkodjkkcgdmfaaGreat.Reg
end
section
namespace Go.Proofs.YthkodjkkcgdmfaaGreat.Calm
open Go Go.RowKit Go.Proofs.YthkodjkkcgdmfaaGreat.Reg
set_option linter.unusedVariables false
section
variable {P : Program} {ops : Array Oper}
/-- Any invariant that every operation keeps. -/
theorem any_inv {Inv : Array Bool → Act → World → Prop} {Q : Exit → Act → World → Prop} (hback : ∀ (i : Nat) (o : Oper), ops[i]? = some o → ∀ e ∈ o.after, e.on < i)
    (hstep : ∀ (i : Nat) (o : Oper), ops[i]? = some o → ∀ (L : Array Bool) (a : Act) (w : World), L.size = ops.size → L.getD i true = false → (∀ e ∈ o.after, Region.binds .any e = true → L.getD e.on true = true) → Inv L a w → wpOp P ops Q i (Inv (L.setIfInBounds i true)) a w)
    (hQ : ∀ (L : Array Bool) (a : Act) (w : World), L.size = ops.size → (∀ i, i < ops.size → L.getD i true = true) → Inv L a w → Q .normal a w) :
    ∀ (fuel : Nat) (L : Array Bool) (a : Act) (w : World), L.size = ops.size → left ops.size L ≤ fuel → Inv L a w → wpAny P .any ops Q fuel L a w := by
  have all : ∀ (L : Array Bool), L.size = ops.size → Region.ready .any ops L = [] → ∀ i, i < ops.size → L.getD i true = true := by
    intro L hsz hr i
    induction i using Nat.strongRecOn with
    | ind i ih =>
      intro hi
      cases hL : L.getD i true with
      | true => rfl
      | false =>
        exfalso
        have ho : ops[i]? = some ops[i] := Array.getElem?_eq_getElem hi
        have ha := hback i _ ho
        have : i ∈ Region.ready .any ops L := mem_ready.2 ⟨hL, ops[i], ho, fun e he _ => by
          have h1 := ih e.on (ha e he) (Nat.lt_trans (ha e he) hi)
          have h2 : e.on < L.size := by rw [hsz]; exact Nat.lt_trans (ha e he) hi
          simpa [Array.getD_eq_getD_getElem?, Array.getElem?_eq_getElem h2] using h1⟩
        rw [hr] at this; cases this
  intro fuel
  induction fuel with
  | zero =>
    intro L a w hsz hleft hI
    have hr : Region.ready .any ops L = [] := by
      apply List.eq_nil_iff_forall_not_mem.2
      intro i hi
      obtain ⟨hL, o, ho, _⟩ := mem_ready.1 hi
      have hin : i < ops.size := (Array.getElem?_eq_some_iff.1 ho).1
      have := left_set hin (by omega) hL
      omega
    exact ⟨hr, hQ L a w hsz (all L hsz hr) hI⟩
  | succ fuel ih =>
    intro L a w hsz hleft hI
    refine ⟨fun hr => hQ L a w hsz (all L hsz hr) hI, fun i hi => ?_⟩
    obtain ⟨hL, o, ho, hall⟩ := mem_ready.1 hi
    have hin : i < ops.size := (Array.getElem?_eq_some_iff.1 ho).1
    have hdep : ∀ e ∈ o.after, Region.binds .any e = true → L.getD e.on true = true := fun e he hb => by
      have h1 := hall e he hb
      rcases Nat.lt_or_ge e.on L.size with h' | h'
      · simpa [Array.getD_eq_getD_getElem?, Array.getElem?_eq_getElem h'] using h1
      · simp [Array.getD_eq_getD_getElem?, Array.getElem?_eq_none h'] at h1
    refine wpOp_mono (fun a' w' hI' => ih _ a' w' (by simpa using hsz) ?_ hI') (hstep i o ho L a w hsz hL hdep hI)
    have := left_set hin (show i < L.size by omega) hL
    omega
/-- The frames say the same of every slot whose first m operations have all come up. -/
structure AgreeM (ops : Array Oper) (m : Nat) (L : Array Bool) (a fin : Act) : Prop where
  defers : a.defers = fin.defers
  size : a.tmps.size = fin.tmps.size
  slot : ∀ t, (∀ (j : Nat) (o : Oper), j < m → ops[j]? = some o → o.dst = some t → L.getD j true = true) → a.tmps[t]? = fin.tmps[t]?
/-- The first m operations look only at what is filled ahead of them by these; the others wait for all that stands ahead of them. -/
def parted (ops : Array Oper) (m : Nat) : Bool :=
  (List.range ops.size).all fun i => match ops[i]? with
    | none => true
    | some o => (o.after.all fun e => decide (e.on < i)) && (match o.op with | .select .. => false | _ => true) &&
        (if i < m then (o.looksAt ops).all fun t => (List.range m).all fun j => match ops[j]? with
          | none => true
          | some oj => oj.dst != some t || o.after.any fun e => e.on == j && Region.binds .any e
         else (List.range i).all fun j => o.after.any fun e => e.on == j && Region.binds .any e)
def withinM (ops : Array Oper) (m : Nat) (vs : List (Tmp × Value)) : Bool := vs.all fun p => (List.range m).any fun j => ((ops[j]?).bind (·.dst)) == some p.1
theorem parted_at {m : Nat} (h : parted ops m = true) {i : Nat} {o : Oper} (ho : ops[i]? = some o) :
    (∀ e ∈ o.after, e.on < i) ∧ (∀ cs b, o.op ≠ .select cs b) ∧ (i < m → ∀ t ∈ o.looksAt ops, ∀ (j : Nat) (oj : Oper), j < m → ops[j]? = some oj → oj.dst = some t → ∃ e ∈ o.after, e.on = j ∧ Region.binds .any e = true) ∧
      (m ≤ i → ∀ j, j < i → ∃ e ∈ o.after, e.on = j ∧ Region.binds .any e = true) := by
  unfold parted at h
  have hi : i < ops.size := (Array.getElem?_eq_some_iff.1 ho).1
  have h1 := List.all_eq_true.1 h i (List.mem_range.2 hi)
  simp only [ho, Bool.and_eq_true, Array.all_eq_true'] at h1
  obtain ⟨⟨ha, hs⟩, hl⟩ := h1
  refine ⟨fun e he => of_decide_eq_true (ha e he), fun cs b e => ?_, fun him t ht j oj hjm hj hd => ?_, fun him j hj => ?_⟩
  · rw [e] at hs; cases hs
  · rw [if_pos him] at hl
    have h2 := List.all_eq_true.1 hl t ht
    have h3 := List.all_eq_true.1 h2 j (List.mem_range.2 hjm)
    simp only [hj, hd, bne_self_eq_false, Bool.false_or] at h3
    obtain ⟨e, he, hb⟩ := Array.any_eq_true'.1 h3
    simp only [Bool.and_eq_true, beq_iff_eq] at hb
    exact ⟨e, he, hb.1, hb.2⟩
  · rw [if_neg (by omega)] at hl
    have h3 := List.all_eq_true.1 hl j (List.mem_range.2 hj)
    obtain ⟨e, he, hb⟩ := Array.any_eq_true'.1 h3
    simp only [Bool.and_eq_true, beq_iff_eq] at hb
    exact ⟨e, he, hb.1, hb.2⟩
theorem agreeM_put {m : Nat} {L : Array Bool} {a fin : Act} {i : Nat} {o : Oper} (ho : ops[i]? = some o) (h : AgreeM ops m L a fin) {v : Value} (hv : fin.put o.dst v = fin) :
    AgreeM ops m (L.setIfInBounds i true) (a.put o.dst v) fin := by
  have keep : ∀ t, o.dst ≠ some t → (∀ (j : Nat) (oj : Oper), j < m → ops[j]? = some oj → oj.dst = some t → (L.setIfInBounds i true).getD j true = true) →
      ∀ (j : Nat) (oj : Oper), j < m → ops[j]? = some oj → oj.dst = some t → L.getD j true = true := by
    intro t hne hall j oj hjm hj hd
    have h1 := hall j oj hjm hj hd
    by_cases e : i = j
    · subst e; rw [ho] at hj; obtain rfl := Option.some.inj hj; exact absurd hd hne
    · simpa [Array.getD_eq_getD_getElem?, Array.getElem?_setIfInBounds_ne e] using h1
  cases hd : o.dst with
  | none => exact ⟨h.defers, h.size, fun t ht => h.slot t (keep t (by rw [hd]; simp) ht)⟩
  | some d =>
    rw [hd] at hv
    refine ⟨h.defers, by simpa [Act.put] using h.size, fun t ht => ?_⟩
    by_cases e : d = t
    · subst e
      have h2 : (fin.put (some d) v).tmps[d]? = fin.tmps[d]? := by rw [hv]
      rw [← h2]
      simp only [Act.put, Array.getElem?_setIfInBounds_self, h.size]
    · have h3 : (a.put (some d) v).tmps[t]? = a.tmps[t]? := by simp [Act.put, Array.getElem?_setIfInBounds_ne e]
      rw [h3]; exact h.slot t (keep t (by rw [hd]; simpa using e) ht)
/-- What is asked of a calm operation, in a world whose old blocks are as they were. -/
def Calm (P : Program) (ops : Array Oper) (fin : Act) (W : World) (o : Oper) : Prop :=
  ∀ X, Below W.heap.size W X → if Region.wanted o (yielded ops fin.tmps) then o.wp P fin X (fun a' X' => a' = fin ∧ Below X.heap.size X X') (fun _ _ _ => False) else fin.put o.dst undef = fin
theorem looks_same {m : Nat} {L : Array Bool} {a fin : Act} {i : Nat} {o : Oper} (hp : parted ops m = true) (ho : ops[i]? = some o) (him : i < m) (hdep : ∀ e ∈ o.after, Region.binds .any e = true → L.getD e.on true = true) (h : AgreeM ops m L a fin) :
    execOp a.eval o = execOp fin.eval o ∧ Region.wanted o (yielded ops a.tmps) = Region.wanted o (yielded ops fin.tmps) := by
  obtain ⟨_, hs, hl, _⟩ := parted_at hp ho
  have seen : ∀ t ∈ o.looksAt ops, a.tmps[t]? = fin.tmps[t]? := fun t ht => h.slot t fun j oj hjm hj hd => by
    obtain ⟨e, he, rfl, hb⟩ := hl him t ht j oj hjm hj hd
    exact hdep e he hb
  refine ⟨execOp_congr o hs fun x hx => ?_, ?_⟩
  · cases x with
    | tmp t =>
      have := seen t (List.mem_append_left _ (List.mem_filterMap.2 ⟨.tmp t, by simpa using hx, rfl⟩))
      simp only [Act.eval, Array.getD_eq_getD_getElem?, this]
    | _ => rfl
  · unfold Region.wanted
    cases hg : o.guard with
    | none => rfl
    | some p =>
      obtain ⟨g, want⟩ := p
      have : yielded ops a.tmps g = yielded ops fin.tmps g := by
        unfold yielded
        cases hgd : (ops[g]?).bind (·.dst) with
        | none => rfl
        | some t =>
          have ht : t ∈ o.looksAt ops := List.mem_append_right _ (by simp [hg, hgd])
          simp only [Option.bind_some, seen t ht]
      simp only [this]
theorem calm_step {m : Nat} {L : Array Bool} {a fin : Act} {i : Nat} {o : Oper} {w W : World} {Q : Exit → Act → World → Prop} {K : Act → World → Prop} (hp : parted ops m = true) (ho : ops[i]? = some o) (him : i < m)
    (hdep : ∀ e ∈ o.after, Region.binds .any e = true → L.getD e.on true = true) (h : AgreeM ops m L a fin) (hw : Below W.heap.size W w) (hc : Calm P ops fin W o)
    (hK : ∀ a' w', AgreeM ops m (L.setIfInBounds i true) a' fin → Below w.heap.size w w' → K a' w') : wpOp P ops Q i K a w := by
  obtain ⟨hex, hwa⟩ := looks_same hp ho him hdep h
  have hdo := hc w hw
  unfold wpOp
  simp only [ho]
  rw [hwa]
  split
  · rename_i hw'
    rw [if_pos hw'] at hdo
    refine .inl ?_
    unfold Oper.wp at *
    rw [hex]
    generalize (execOp fin.eval o).run P w = r at *
    cases r with
    | ok n w' =>
      cases n <;> simp only [Oper.upon] at hdo ⊢
      case value u => exact hK _ _ (agreeM_put ho h hdo.1) hdo.2
      case skip => exact hK _ _ (agreeM_put ho h hdo.1) hdo.2
      case defer d =>
        exfalso
        have h1 := congrArg Act.defers hdo.1
        have h2 : (({ fin with defers := d :: fin.defers } : Act).put o.dst undef).defers = d :: fin.defers := by cases o.dst <;> rfl
        rw [h2] at h1
        have := congrArg List.length h1
        simp at this
      case enter f args =>
        refine Calls.mono hdo fun e w'' he => ?_
        cases e with
        | returned u => exact hK _ _ (agreeM_put ho h he.1) he.2
        | panicked c => exact he.elim
        | outgrown => obtain ⟨_, _, hf⟩ := he; exact hf.elim
      case row row args => exact Rows.mono hdo fun u w'' he => hK _ _ (agreeM_put ho h he.1) he.2
    | halt x w' =>
      cases x <;> simp only [Oper.upon] at hdo ⊢
  · rename_i hw'
    rw [if_neg hw'] at hdo
    exact hK _ _ (agreeM_put ho h hdo) (Below.refl _ _)
theorem wpOp_tail {l : List Oper} {Q : Exit → Act → World → Prop} {i : Nat} {o : Oper} {r : List Oper} {a : Act} {w : World} (ho : l.toArray[i]? = some o) (h : wpList P l.toArray Q (o :: r) a w) : wpOp P l.toArray Q i (wpList P l.toArray Q r) a w := by
  unfold wpOp
  simp only [ho]
  unfold wpList at h
  exact h
/-- **Calm operations in whatever order, then the rest in the text's.** -/
theorem region {l : List Oper} {id : Nat} {a fin : Act} {W : World} {Q : Exit → Act → World → Prop} (hm : P.follows .mixedOrders = true) (m : Nat) (vs : List (Tmp × Value))
    (hp : parted l.toArray m = true) (hin : withinM l.toArray m vs = true) (hfin : puts a vs = fin)
    (hcalm : ∀ o ∈ l.take m, Calm P l.toArray fin W o)
    (hrest : ∀ w, Below W.heap.size W w → wpList P l.toArray Q (l.drop m) fin w) : (Code.region id l.toArray true).wp P Q a W := by
  subst hfin
  have hsz : l.toArray.size = l.length := by simp
  refine wp_region_any hm ?_
  let Inv : Array Bool → Act → World → Prop := fun L a' w => ((∀ j, m ≤ j → j < l.length → L.getD j true = false) ∧ AgreeM l.toArray m L a' (puts a vs) ∧ Below W.heap.size W w) ∨ (∃ k, m < k ∧ k ≤ l.length ∧ (∀ j, j < l.length → (L.getD j true = true ↔ j < k)) ∧ wpList P l.toArray Q (l.drop k) a' w)
  have hset : ∀ (L : Array Bool) (i j : Nat), L.size = l.length → j < l.length → ((L.setIfInBounds i true).getD j true = true ↔ (j = i ∨ L.getD j true = true)) := by
    intro L i j hs hj
    by_cases e : i = j
    · subst e; simp [Array.getD_eq_getD_getElem?, hs, hj]
    · have : j ≠ i := fun h => e h.symm
      simp [Array.getD_eq_getD_getElem?, Array.getElem?_setIfInBounds_ne e, this]
  refine any_inv (Inv := Inv) (fun i o ho => (parted_at hp ho).1) ?_ ?_ _ _ _ _ (by simp) (left_le _ _) ?_
  · intro i o ho L a' w hL hLi hdep hI
    rw [hsz] at hL
    have hil : i < l.length := by have := (Array.getElem?_eq_some_iff.1 ho).1; simpa using this
    have hol : l[i]? = some o := by simpa using ho
    obtain ⟨_, _, _, htail⟩ := parted_at hp ho
    rcases hI with ⟨hnone, hag, hb⟩ | ⟨k, hmk, hkl, hk, hrun⟩
    · by_cases him : i < m
      · refine calm_step hp ho him hdep hag hb (hcalm o (List.mem_of_getElem? (i := i) (by rw [List.getElem?_take, if_pos him]; exact hol))) fun a'' w'' ha'' hb'' => .inl ⟨fun j hj hjl => ?_, ha'', hb.trans (hb''.mono hb.size)⟩
        have e : i ≠ j := by omega
        have := hnone j hj hjl
        simpa [Array.getD_eq_getD_getElem?, Array.getElem?_setIfInBounds_ne e] using this
      · -- the first of the rest
        have hmi : m ≤ i := by omega
        have hall : ∀ j, j < i → L.getD j true = true := fun j hj => by
          obtain ⟨e, he, rfl, hbd⟩ := htail hmi j hj
          exact hdep e he hbd
        have him2 : i = m := by
          rcases Nat.lt_or_ge m i with h | h
          · have := hall m h; rw [hnone m (Nat.le_refl _) (by omega)] at this; cases this
          · omega
        subst him2
        have hfin : a' = puts a vs := by
          have ht : a'.tmps = (puts a vs).tmps := Array.ext_getElem? fun t => hag.slot t fun j o' hj _ _ => hall j hj
          have hd := hag.defers
          cases a'; cases hq : puts a vs; simp_all
        subst hfin
        have hr := hrest w hb
        have hdrop : l.drop i = o :: l.drop (i + 1) := by
          rw [List.drop_eq_getElem_cons hil]; congr 1
          have := List.getElem?_eq_getElem hil; rw [hol] at this; exact (Option.some.inj this).symm
        rw [hdrop] at hr
        refine wpOp_mono (fun a'' w'' h'' => .inr ⟨i + 1, by omega, by omega, fun j hj => ?_, h''⟩) (wpOp_tail ho hr)
        rw [hset L i j hL hj]
        constructor
        · rintro (h | h)
          · omega
          · rcases Nat.lt_or_ge j i with h1 | h1
            · omega
            · rw [hnone j h1 hj] at h; cases h
        · intro h
          rcases Nat.lt_or_ge j i with h1 | h1
          · exact .inr (hall j h1)
          · exact .inl (by omega)
    · -- further on
      have hki : k ≤ i := by
        rcases Nat.lt_or_ge i k with h | h
        · have := (hk i hil).2 h; rw [hLi] at this; cases this
        · exact h
      have hall : ∀ j, j < i → L.getD j true = true := fun j hj => by
        obtain ⟨e, he, rfl, hbd⟩ := htail (by omega) j hj
        exact hdep e he hbd
      have hik : i = k := by
        rcases Nat.lt_or_ge k i with h | h
        · have := (hk k (by omega)).1 (hall k h); omega
        · omega
      subst hik
      have hdrop : l.drop i = o :: l.drop (i + 1) := by
        rw [List.drop_eq_getElem_cons hil]; congr 1
        have := List.getElem?_eq_getElem hil; rw [hol] at this; exact (Option.some.inj this).symm
      rw [hdrop] at hrun
      refine wpOp_mono (fun a'' w'' h'' => .inr ⟨i + 1, by omega, by omega, fun j hj => ?_, h''⟩) (wpOp_tail ho hrun)
      rw [hset L i j hL hj]
      constructor
      · rintro (h | h)
        · omega
        · have := (hk j hj).1 h; omega
      · intro h
        rcases Nat.lt_or_ge j i with h1 | h1
        · exact .inr (hall j h1)
        · exact .inl (by omega)
  · intro L a' w hL hall hI
    rw [hsz] at hall
    rcases hI with ⟨hnone, hag, hb⟩ | ⟨k, hmk, hkl, hk, hrun⟩
    · have hml : l.length ≤ m := by
        rcases Nat.lt_or_ge m l.length with h | h
        · have h1 := hnone m (Nat.le_refl _) h; rw [hall m h] at h1; cases h1
        · exact h
      have hfin : a' = puts a vs := by
        have ht : a'.tmps = (puts a vs).tmps := Array.ext_getElem? fun t => hag.slot t fun j o' _ hj _ => hall j (by have := (Array.getElem?_eq_some_iff.1 hj).1; simpa using this)
        have hd := hag.defers
        cases a'; cases hq : puts a vs; simp_all
      subst hfin
      have hr := hrest w hb
      rw [List.drop_of_length_le hml] at hr
      exact hr
    · have : k = l.length := by
        rcases Nat.lt_or_ge k l.length with h | h
        · have h1 := (hk k h).1 (hall k h); omega
        · omega
      subst this
      rw [List.drop_length] at hrun
      exact hrun
  · refine .inl ⟨fun j hj hjl => by simp [Array.getD_eq_getD_getElem?, hjl], ⟨(puts_defers vs a).symm, (puts_size vs a).symm, fun t ht => (puts_other t vs a fun p hp' he => ?_).symm⟩, (Below.refl _ _).drew⟩
    have h1 := List.all_eq_true.1 hin p hp'
    obtain ⟨j, hj, hb⟩ := List.any_eq_true.1 h1
    have hjm : j < m := List.mem_range.1 hj
    cases hoj : l.toArray[j]? with
    | none => rw [hoj] at hb; simp at hb
    | some oj =>
      rw [hoj] at hb
      have h2 := ht j oj hjm hoj (by simpa [he] using hb)
      have hjl : j < l.length := by have := (Array.getElem?_eq_some_iff.1 hoj).1; simpa using this
      simp [Array.getD_eq_getD_getElem?, hjl] at h2
/-- It yields a value in any world that holds the old blocks. -/
theorem calm_value {fin : Act} {W : World} {o : Oper} {v : Value} (hg : o.guard = none) (h : ∀ X, Below W.heap.size W X → (execOp fin.eval o).run P X = .ok (.value v) X) (hp : fin.put o.dst v = fin) : Calm P ops fin W o := by
  intro X hX
  rw [if_pos (by simp [Region.wanted, hg])]
  unfold Oper.wp; rw [h X hX]; exact ⟨hp, Below.refl _ _⟩
theorem calm_call {fin : Act} {W : World} {o : Oper} {f : FuncId} {args : Array Value} {v : Value} (hg : o.guard = none) (h : ∀ X, (execOp fin.eval o).run P X = .ok (.enter f args) X)
    (hc : ∀ X, Below W.heap.size W X → Calls P f args X fun e X' => e = .returned v ∧ Below X.heap.size X X') (hp : fin.put o.dst v = fin) : Calm P ops fin W o := by
  intro X hX
  rw [if_pos (by simp [Region.wanted, hg])]
  unfold Oper.wp; rw [h X]
  refine Calls.mono (hc X hX) fun e X' he => ?_
  obtain ⟨rfl, hb⟩ := he
  exact ⟨hp, hb⟩
theorem calm_nil {fin : Act} {W : World} : ∀ o ∈ ([] : List Oper), Calm P ops fin W o := fun _ h => nomatch h
theorem calm_cons {fin : Act} {W : World} {o : Oper} {l : List Oper} (h : Calm P ops fin W o) (hl : ∀ o ∈ l, Calm P ops fin W o) : ∀ o' ∈ o :: l, Calm P ops fin W o' := fun o' ho => by
  rcases List.mem_cons.1 ho with rfl | h'
  · exact h
  · exact hl o' h'
end
end Go.Proofs.YthkodjkkcgdmfaaGreat.Calm
end
section
namespace Go.Proofs.YthkodjkkcgdmfaaGreat.Calm
open Go Go.RowKit Go.Proofs.YthkodjkkcgdmfaaGreat.Reg
set_option linter.unusedVariables false
section
variable {P : Program} {ops : Array Oper}
/-- No other of the first m operations looks at slot d or fills it. -/
def solo (ops : Array Oper) (m ia d : Nat) : Bool :=
  (List.range m).all fun i => i == ia || match ops[i]? with
    | none => true
    | some o => !(o.looksAt ops).contains d && o.dst != some d
theorem solo_at {m ia d : Nat} (h : solo ops m ia d = true) {i : Nat} {o : Oper} (him : i < m) (hne : i ≠ ia) (ho : ops[i]? = some o) : d ∉ o.looksAt ops ∧ o.dst ≠ some d := by
  have h1 := List.all_eq_true.1 h i (List.mem_range.2 him)
  simp only [ho, beq_eq_false_iff_ne.2 hne, Bool.false_or, Bool.and_eq_true] at h1
  exact ⟨by simpa using h1.1, by simpa using h1.2⟩
def ptr (g : Nat) : Value := .pointer (some ⟨g, 0, none⟩)
theorem calm_put {fin : Act} {W : World} {o : Oper} {d : Nat} {u : Value} (hs : ∀ cs b, o.op ≠ .select cs b) (hl : d ∉ o.looksAt ops) (hd : o.dst ≠ some d) (h : Calm P ops fin W o) : Calm P ops (fin.put (some d) u) W o := by
  intro X hX
  have h1 := h X hX
  have hw : Region.wanted o (yielded ops (fin.put (some d) u).tmps) = Region.wanted o (yielded ops fin.tmps) := wanted_put o fin (some d) u (fun e he => by obtain rfl := Option.some.inj he; exact hl)
  have hex : execOp (fin.put (some d) u).eval o = execOp fin.eval o := execOp_put (ops := ops) o hs fin (some d) u (fun e he => by obtain rfl := Option.some.inj he; exact hl)
  have hput : ∀ v, fin.put o.dst v = fin → (fin.put (some d) u).put o.dst v = fin.put (some d) u := fun v hv => by
    rw [Act.put_comm fin u v (x := some d) (y := o.dst) (fun e he => by obtain rfl := Option.some.inj he; exact hd), hv]
  rw [hw]
  split
  · rename_i hw'
    rw [if_pos hw'] at h1
    unfold Oper.wp at *
    rw [hex]
    generalize (execOp fin.eval o).run P X = r at *
    cases r with
    | ok n w' =>
      cases n <;> simp only [Oper.upon] at h1 ⊢
      case value v => exact ⟨hput v h1.1, h1.2⟩
      case skip => exact ⟨hput _ h1.1, h1.2⟩
      case defer d' =>
        exfalso
        have h3 := congrArg Act.defers h1.1
        have h2 : (({ fin with defers := d' :: fin.defers } : Act).put o.dst undef).defers = d' :: fin.defers := by cases o.dst <;> rfl
        rw [h2] at h3
        have := congrArg List.length h3
        simp at this
      case enter f args =>
        refine Calls.mono h1 fun e w'' he => ?_
        cases e with
        | returned v => exact ⟨hput v he.1, he.2⟩
        | panicked c => exact he.elim
        | outgrown => obtain ⟨_, _, hf⟩ := he; exact hf.elim
      case row row args => exact Rows.mono h1 fun v w'' he => ⟨hput v he.1, he.2⟩
    | halt x w' =>
      cases x <;> simp only [Oper.upon] at h1 ⊢
  · rename_i hw'
    rw [if_neg hw'] at h1
    exact hput _ h1
theorem agree_other {m : Nat} {L : Array Bool} {a fin : Act} {d ia : Nat} {oa : Oper} (hoa : ops[ia]? = some oa) (him : ia < m) (hda : oa.dst = some d) (hL : L.getD ia true = false) {u u' : Value} (h : AgreeM ops m L a (fin.put (some d) u)) : AgreeM ops m L a (fin.put (some d) u') := by
  refine ⟨h.defers, by simpa [Act.put] using h.size, fun t ht => ?_⟩
  by_cases e : d = t
  · subst e; have := ht ia oa him hoa hda; rw [hL] at this; cases this
  · have h1 := h.slot t ht
    simpa [Act.put, Array.getElem?_setIfInBounds_ne e] using h1
/-- **Calm operations and one allocation in whatever order, then the rest in the text's.** -/
theorem region_alloc {l : List Oper} {id : Nat} {a fin : Act} {W : World} {Q : Exit → Act → World → Prop} (hm : P.follows .mixedOrders = true) (m ia d : Nat) (oa : Oper) (obj : Obj) (vs : List (Tmp × Value))
    (hp : parted l.toArray m = true) (hin : withinM l.toArray m vs = true) (hsolo : solo l.toArray m ia d = true) (hoa : l[ia]? = some oa) (him : ia < m) (hda : oa.dst = some d) (hga : oa.guard = none)
    (hrun : ∀ (b : Act) (X : World), (execOp b.eval oa).run P X = .ok (.value (ptr X.heap.size)) (X.alloc obj)) (hfin : puts a vs = fin)
    (hcalm : ∀ o ∈ (l.take m).eraseIdx ia, Calm P l.toArray fin W o)
    (hrest : ∀ g w, W.heap.size ≤ g → g < w.heap.size → Below W.heap.size W w → w.heap[g]? = some obj → wpList P l.toArray Q (l.drop m) (fin.put (some d) (ptr g)) w) : (Code.region id l.toArray true).wp P Q a W := by
  subst hfin
  have hsz : l.toArray.size = l.length := by simp
  have hoa' : l.toArray[ia]? = some oa := by simpa using hoa
  refine wp_region_any hm ?_
  let Inv : Array Bool → Act → World → Prop := fun L a' w =>
    ((∀ j, m ≤ j → j < l.length → L.getD j true = false) ∧ Below W.heap.size W w ∧ ∃ g, (L.getD ia true = true → W.heap.size ≤ g ∧ g < w.heap.size ∧ w.heap[g]? = some obj) ∧ AgreeM l.toArray m L a' ((puts a vs).put (some d) (ptr g))) ∨
    (∃ k, m < k ∧ k ≤ l.length ∧ (∀ j, j < l.length → (L.getD j true = true ↔ j < k)) ∧ wpList P l.toArray Q (l.drop k) a' w)
  have hset : ∀ (L : Array Bool) (i j : Nat), L.size = l.length → j < l.length → ((L.setIfInBounds i true).getD j true = true ↔ (j = i ∨ L.getD j true = true)) := by
    intro L i j hs hj
    by_cases e : i = j
    · subst e; simp [Array.getD_eq_getD_getElem?, hs, hj]
    · have : j ≠ i := fun h => e h.symm
      simp [Array.getD_eq_getD_getElem?, Array.getElem?_setIfInBounds_ne e, this]
  have hial : ia < l.length := by have := (List.getElem?_eq_some_iff.1 hoa).1; exact this
  refine any_inv (Inv := Inv) (fun i o ho => (parted_at hp ho).1) ?_ ?_ _ _ _ _ (by simp) (left_le _ _) ?_
  · intro i o ho L a' w hL hLi hdep hI
    rw [hsz] at hL
    have hil : i < l.length := by have := (Array.getElem?_eq_some_iff.1 ho).1; simpa using this
    have hol : l[i]? = some o := by simpa using ho
    obtain ⟨_, hsel, _, htail⟩ := parted_at hp ho
    rcases hI with ⟨hnone, hb, g, hg, hag⟩ | ⟨k, hmk, hkl, hk, hrun'⟩
    · by_cases him' : i < m
      · have hnone' : ∀ j, m ≤ j → j < l.length → (L.setIfInBounds i true).getD j true = false := fun j hj hjl => by
          have e : i ≠ j := by omega
          have := hnone j hj hjl
          simpa [Array.getD_eq_getD_getElem?, Array.getElem?_setIfInBounds_ne e] using this
        by_cases hia : i = ia
        · subst hia
          rw [hoa'] at ho; obtain rfl := Option.some.inj ho
          have hag' := agree_other hoa' him hda hLi (u' := ptr w.heap.size) hag
          unfold wpOp
          simp only [hoa']
          rw [if_pos (by simp [Region.wanted, hga])]
          refine .inl ?_
          unfold Oper.wp; rw [hrun a' w]
          refine .inl ⟨hnone', hb.alloc hb.size obj, w.heap.size, fun _ => ⟨hb.size, by simp, (MapKept.heap_alloc w obj).1⟩, ?_⟩
          refine agreeM_put hoa' hag' ?_
          rw [hda]; simp [Act.put]
        · obtain ⟨hl1, hl2⟩ := solo_at hsolo him' hia ho
          have hmem : o ∈ (l.take m).eraseIdx ia := by
            have h0 : (l.take m)[i]? = some o := by rw [List.getElem?_take, if_pos him']; exact hol
            rcases Nat.lt_or_ge i ia with h | h
            · exact List.mem_of_getElem? (i := i) (by rw [List.getElem?_eraseIdx, if_pos h]; exact h0)
            · have hlt : ia < i := by omega
              exact List.mem_of_getElem? (i := i - 1) (by rw [List.getElem?_eraseIdx, if_neg (by omega), show i - 1 + 1 = i by omega]; exact h0)
          refine calm_step hp ho him' hdep hag hb (calm_put hsel hl1 hl2 (hcalm o hmem)) fun a'' w'' ha'' hb'' => .inl ⟨hnone', hb.trans (hb''.mono hb.size), g, fun hLia => ?_, ha''⟩
          have hLia' : L.getD ia true = true := by
            have := (hset L i ia hL hial).1 hLia
            rcases this with h | h
            · exact absurd h.symm hia
            · exact h
          obtain ⟨h1, h2, h3⟩ := hg hLia'
          exact ⟨h1, Nat.lt_of_lt_of_le h2 hb''.size, by rw [hb''.block g h2]; exact h3⟩
      · -- the first of the rest
        have hmi : m ≤ i := by omega
        have hall : ∀ j, j < i → L.getD j true = true := fun j hj => by
          obtain ⟨e, he, rfl, hbd⟩ := htail hmi j hj
          exact hdep e he hbd
        have him2 : i = m := by
          rcases Nat.lt_or_ge m i with h | h
          · have := hall m h; rw [hnone m (Nat.le_refl _) (by omega)] at this; cases this
          · omega
        subst him2
        have hfin : a' = (puts a vs).put (some d) (ptr g) := by
          have ht : a'.tmps = ((puts a vs).put (some d) (ptr g)).tmps := Array.ext_getElem? fun t => hag.slot t fun j o' hj _ _ => hall j hj
          have hd := hag.defers
          cases a'; cases hq : (puts a vs).put (some d) (ptr g); simp_all
        subst hfin
        obtain ⟨h1, h2, h3⟩ := hg (hall ia him)
        have hr := hrest g w h1 h2 hb h3
        have hdrop : l.drop i = o :: l.drop (i + 1) := by
          rw [List.drop_eq_getElem_cons hil]; congr 1
          have := List.getElem?_eq_getElem hil; rw [hol] at this; exact (Option.some.inj this).symm
        rw [hdrop] at hr
        refine wpOp_mono (fun a'' w'' h'' => .inr ⟨i + 1, by omega, by omega, fun j hj => ?_, h''⟩) (wpOp_tail ho hr)
        rw [hset L i j hL hj]
        constructor
        · rintro (h | h)
          · omega
          · rcases Nat.lt_or_ge j i with h1 | h1
            · omega
            · rw [hnone j h1 hj] at h; cases h
        · intro h
          rcases Nat.lt_or_ge j i with h1 | h1
          · exact .inr (hall j h1)
          · exact .inl (by omega)
    · have hki : k ≤ i := by
        rcases Nat.lt_or_ge i k with h | h
        · have := (hk i hil).2 h; rw [hLi] at this; cases this
        · exact h
      have hall : ∀ j, j < i → L.getD j true = true := fun j hj => by
        obtain ⟨e, he, rfl, hbd⟩ := htail (by omega) j hj
        exact hdep e he hbd
      have hik : i = k := by
        rcases Nat.lt_or_ge k i with h | h
        · have := (hk k (by omega)).1 (hall k h); omega
        · omega
      subst hik
      have hdrop : l.drop i = o :: l.drop (i + 1) := by
        rw [List.drop_eq_getElem_cons hil]; congr 1
        have := List.getElem?_eq_getElem hil; rw [hol] at this; exact (Option.some.inj this).symm
      rw [hdrop] at hrun'
      refine wpOp_mono (fun a'' w'' h'' => .inr ⟨i + 1, by omega, by omega, fun j hj => ?_, h''⟩) (wpOp_tail ho hrun')
      rw [hset L i j hL hj]
      constructor
      · rintro (h | h)
        · omega
        · have := (hk j hj).1 h; omega
      · intro h
        rcases Nat.lt_or_ge j i with h1 | h1
        · exact .inr (hall j h1)
        · exact .inl (by omega)
  · intro L a' w hL hall hI
    rw [hsz] at hall
    rcases hI with ⟨hnone, hb, g, hg, hag⟩ | ⟨k, hmk, hkl, hk, hrun'⟩
    · have hml : l.length ≤ m := by
        rcases Nat.lt_or_ge m l.length with h | h
        · have h1 := hnone m (Nat.le_refl _) h; rw [hall m h] at h1; cases h1
        · exact h
      have hfin : a' = (puts a vs).put (some d) (ptr g) := by
        have ht : a'.tmps = ((puts a vs).put (some d) (ptr g)).tmps := Array.ext_getElem? fun t => hag.slot t fun j o' _ hj _ => hall j (by have := (Array.getElem?_eq_some_iff.1 hj).1; simpa using this)
        have hd := hag.defers
        cases a'; cases hq : (puts a vs).put (some d) (ptr g); simp_all
      subst hfin
      obtain ⟨h1, h2, h3⟩ := hg (hall ia hial)
      have hr := hrest g w h1 h2 hb h3
      rw [List.drop_of_length_le hml] at hr
      exact hr
    · have : k = l.length := by
        rcases Nat.lt_or_ge k l.length with h | h
        · have h1 := (hk k h).1 (hall k h); omega
        · omega
      subst this
      rw [List.drop_length] at hrun'
      exact hrun'
  · refine .inl ⟨fun j hj hjl => by simp [Array.getD_eq_getD_getElem?, hjl], (Below.refl _ _).drew, 0, fun h => by simp [Array.getD_eq_getD_getElem?, hial] at h, ⟨(puts_defers vs a).symm, by simpa [Act.put] using (puts_size vs a).symm, fun t ht => ?_⟩⟩
    by_cases e : d = t
    · subst e
      have := ht ia oa him hoa' hda
      simp [Array.getD_eq_getD_getElem?, hial] at this
    · have h0 : ((puts a vs).put (some d) (ptr 0)).tmps[t]? = (puts a vs).tmps[t]? := by simp [Act.put, Array.getElem?_setIfInBounds_ne e]
      rw [h0]
      refine (puts_other t vs a fun p hp' he => ?_).symm
      have h1 := List.all_eq_true.1 hin p hp'
      obtain ⟨j, hj, hb⟩ := List.any_eq_true.1 h1
      have hjm : j < m := List.mem_range.1 hj
      cases hoj : l.toArray[j]? with
      | none => rw [hoj] at hb; simp at hb
      | some oj =>
        rw [hoj] at hb
        have h2 := ht j oj hjm hoj (by simpa [he] using hb)
        have hjl : j < l.length := by have := (Array.getElem?_eq_some_iff.1 hoj).1; simpa using this
        simp [Array.getD_eq_getD_getElem?, hjl] at h2
end
end Go.Proofs.YthkodjkkcgdmfaaGreat.Calm
end
