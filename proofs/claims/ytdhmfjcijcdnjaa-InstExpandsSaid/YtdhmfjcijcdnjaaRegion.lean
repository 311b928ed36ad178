/- A region that draws its order, told op by op: if each operation, whenever it may come up, leaves the value that the final frame holds, and keeps a condition on the world that goes by what has come up, then any order comes to the final frame. -/
import Derived.Orders
import Derived.Tactics
namespace Go.Proofs.Ytdhmfjcijcdnjaa.Reg
open Go
set_option linter.unusedVariables false
section
variable {P : Program} {ops : Array Oper}

/-- Slots filled one behind the other. -/
def puts : Act → List (Tmp × Value) → Act
  | a, [] => a
  | a, (d, v) :: r => puts (a.put (some d) v) r

/-- The frames say the same of every slot whose operations have all come up. -/
structure Agree (ops : Array Oper) (L : Array Bool) (a fin : Act) : Prop where
  defers : a.defers = fin.defers
  size : a.tmps.size = fin.tmps.size
  slot : ∀ t, (∀ (j : Nat) (o : Oper), ops[j]? = some o → o.dst = some t → L.getD j true = true) → a.tmps[t]? = fin.tmps[t]?

theorem puts_defers : ∀ (vs : List (Tmp × Value)) (a : Act), (puts a vs).defers = a.defers
  | [], _ => rfl
  | (_, _) :: r, a => (puts_defers r _).trans rfl
theorem puts_size : ∀ (vs : List (Tmp × Value)) (a : Act), (puts a vs).tmps.size = a.tmps.size
  | [], _ => rfl
  | (_, _) :: r, a => (puts_size r _).trans (by simp [Act.put])
theorem puts_other (t : Nat) : ∀ (vs : List (Tmp × Value)) (a : Act), (∀ p ∈ vs, p.1 ≠ t) → (puts a vs).tmps[t]? = a.tmps[t]?
  | [], _, _ => rfl
  | (d, _) :: r, a, h => (puts_other t r _ fun p hp => h p (List.mem_cons_of_mem _ hp)).trans (by
      have : d ≠ t := h _ (List.mem_cons_self ..)
      simp [Act.put, Array.getElem?_setIfInBounds_ne this])

/-- Every slot that an operation looks at, if an operation of the region fills it, is filled ahead of it; what comes behind comes later in the text. -/
def ordered (ops : Array Oper) : Bool :=
  (List.range ops.size).all fun i => match ops[i]? with
    | none => true
    | some o => (o.after.all fun e => !Region.binds .any e || decide (e.on < i)) && (match o.op with | .select .. => false | _ => true) &&
        (o.looksAt ops).all fun t => (List.range ops.size).all fun j => match ops[j]? with
          | none => true
          | some oj => oj.dst != some t || o.after.any fun e => e.on == j && Region.binds .any e
/-- The slots that are told are slots of the region's operations. -/
def within (ops : Array Oper) (vs : List (Tmp × Value)) : Bool := vs.all fun p => (List.range ops.size).any fun j => ((ops[j]?).bind (·.dst)) == some p.1

theorem ordered_at (h : ordered ops = true) {i : Nat} {o : Oper} (ho : ops[i]? = some o) :
    (∀ e ∈ o.after, Region.binds .any e = true → e.on < i) ∧ (∀ cs b, o.op ≠ .select cs b) ∧ ∀ t ∈ o.looksAt ops, ∀ (j : Nat) (oj : Oper), ops[j]? = some oj → oj.dst = some t → ∃ e ∈ o.after, e.on = j ∧ Region.binds .any e = true := by
  unfold ordered at h
  have hi : i < ops.size := (Array.getElem?_eq_some_iff.1 ho).1
  have h1 := List.all_eq_true.1 h i (List.mem_range.2 hi)
  simp only [ho, Bool.and_eq_true, Array.all_eq_true'] at h1
  obtain ⟨⟨ha, hs⟩, hl⟩ := h1
  refine ⟨fun e he hb => by have h := ha e he; rw [hb] at h; simpa using h, fun cs b e => ?_, fun t ht j oj hj hd => ?_⟩
  · rw [e] at hs; cases hs
  · have h2 := List.all_eq_true.1 hl t ht
    have h3 := List.all_eq_true.1 h2 j (List.mem_range.2 (Array.getElem?_eq_some_iff.1 hj).1)
    simp only [hj, hd, bne_self_eq_false, Bool.false_or] at h3
    obtain ⟨e, he, hb⟩ := Array.any_eq_true'.1 h3
    simp only [Bool.and_eq_true, beq_iff_eq] at hb
    exact ⟨e, he, hb.1, hb.2⟩

/-- What is asked of one operation: run on the final frame, in any world that meets the condition, it leaves the final frame and meets the condition that goes with its having come up. -/
def Does (P : Program) (ops : Array Oper) (fin : Act) (S : Array Bool → World → Prop) (L : Array Bool) (i : Nat) (o : Oper) (w : World) : Prop :=
  if Region.wanted o (yielded ops fin.tmps) then o.wp P fin w (fun a' w' => a' = fin ∧ S (L.setIfInBounds i true) w') (fun _ _ _ => False)
  else fin.put o.dst undef = fin ∧ S (L.setIfInBounds i true) w

theorem agree_put {L : Array Bool} {a fin : Act} {i : Nat} {o : Oper} (ho : ops[i]? = some o) (hL : i < L.size) (h : Agree ops L a fin) {v : Value} (hv : fin.put o.dst v = fin) :
    Agree ops (L.setIfInBounds i true) (a.put o.dst v) fin := by
  have keep : ∀ t, o.dst ≠ some t → (∀ (j : Nat) (oj : Oper), ops[j]? = some oj → oj.dst = some t → (L.setIfInBounds i true).getD j true = true) →
      ∀ (j : Nat) (oj : Oper), ops[j]? = some oj → oj.dst = some t → L.getD j true = true := by
    intro t hne hall j oj hj hd
    have h1 := hall j oj hj hd
    by_cases e : i = j
    · subst e; rw [ho] at hj; obtain rfl := Option.some.inj hj; exact absurd hd hne
    · simpa [Array.getD_eq_getD_getElem?, Array.getElem?_setIfInBounds_ne e] using h1
  cases hd : o.dst with
  | none =>
    exact ⟨h.defers, h.size, fun t ht => h.slot t (keep t (by rw [hd]; simp) ht)⟩
  | some d =>
    rw [hd] at hv
    refine ⟨h.defers, by simpa [Act.put] using h.size, fun t ht => ?_⟩
    by_cases e : d = t
    · subst e
      have h2 : (fin.put (some d) v).tmps[d]? = fin.tmps[d]? := by rw [hv]
      rw [← h2]
      simp only [Act.put, Array.getElem?_setIfInBounds_self, h.size]
    · have h3 : (a.put (some d) v).tmps[t]? = a.tmps[t]? := by simp [Act.put, Array.getElem?_setIfInBounds_ne e]
      rw [h3]; exact h.slot t (keep t (by rw [hd]; simpa using e) ht)

theorem agree_eval {L : Array Bool} {a fin : Act} (h : Agree ops L a fin) {t : Nat} (ht : ∀ (j : Nat) (o : Oper), ops[j]? = some o → o.dst = some t → L.getD j true = true) : a.eval (.tmp t) = fin.eval (.tmp t) := by
  have := h.slot t ht
  simp only [Act.eval, Array.getD_eq_getD_getElem?, this]

theorem does_step {L : Array Bool} {a fin : Act} {i : Nat} {o : Oper} {w : World} {Q : Exit → Act → World → Prop} {S : Array Bool → World → Prop} {K : Act → World → Prop}
    (hord : ordered ops = true) (ho : ops[i]? = some o) (hL : i < L.size) (hdep : ∀ e ∈ o.after, Region.binds .any e = true → L.getD e.on true = true)
    (h : Agree ops L a fin) (hdo : Does P ops fin S L i o w) (hK : ∀ a' w', Agree ops (L.setIfInBounds i true) a' fin → S (L.setIfInBounds i true) w' → K a' w') : wpOp P ops Q i K a w := by
  obtain ⟨_, hs, hl⟩ := ordered_at hord ho
  have seen : ∀ t ∈ o.looksAt ops, ∀ (j : Nat) (oj : Oper), ops[j]? = some oj → oj.dst = some t → L.getD j true = true := fun t ht j oj hj hd => by
    obtain ⟨e, he, rfl, hb⟩ := hl t ht j oj hj hd
    exact hdep e he hb
  have hex : execOp a.eval o = execOp fin.eval o := execOp_congr o hs fun x hx => by
    cases x with
    | tmp t => exact agree_eval h (seen t (List.mem_append_left _ (List.mem_filterMap.2 ⟨.tmp t, by simpa using hx, rfl⟩)))
    | _ => rfl
  have hwa : Region.wanted o (yielded ops a.tmps) = Region.wanted o (yielded ops fin.tmps) := by
    unfold Region.wanted
    cases hg : o.guard with
    | none => rfl
    | some p =>
      obtain ⟨g, want⟩ := p
      have : yielded ops a.tmps g = yielded ops fin.tmps g := by
        unfold yielded
        cases hgd : (ops[g]?).bind (·.dst) with
        | none => rfl
        | some t =>
          have ht : t ∈ o.looksAt ops := List.mem_append_right _ (by simp [hg, hgd])
          simp only [Option.bind_some, h.slot t (seen t ht)]
      simp only [this]
  unfold wpOp
  simp only [ho]
  rw [hwa]
  unfold Does at hdo
  split
  · rename_i hw
    rw [if_pos hw] at hdo
    refine .inl ?_
    unfold Oper.wp at *
    rw [hex]
    generalize (execOp fin.eval o).run P w = r at *
    cases r with
    | ok n w' =>
      cases n <;> simp only [Oper.upon] at hdo ⊢
      case value u => exact hK _ _ (agree_put ho hL h hdo.1) hdo.2
      case skip => exact hK _ _ (agree_put ho hL h hdo.1) hdo.2
      case defer d =>
        exfalso
        have h1 := congrArg Act.defers hdo.1
        have h2 : (({ fin with defers := d :: fin.defers } : Act).put o.dst undef).defers = d :: fin.defers := by cases o.dst <;> rfl
        rw [h2] at h1
        have := congrArg List.length h1
        simp at this
      case enter f args =>
        refine Calls.mono hdo fun e w'' he => ?_
        cases e with
        | returned u => exact hK _ _ (agree_put ho hL h he.1) he.2
        | panicked c => exact he.elim
        | outgrown => obtain ⟨_, _, hf⟩ := he; exact hf.elim
      case row row args => exact Rows.mono hdo fun u w'' he => hK _ _ (agree_put ho hL h he.1) he.2
    | halt x w' =>
      cases x <;> simp only [Oper.upon] at hdo ⊢
  · rename_i hw
    rw [if_neg hw] at hdo
    exact hK _ _ (agree_put ho hL h hdo.1) hdo.2

theorem all_listed (hord : ordered ops = true) {L : Array Bool} (hsz : L.size = ops.size) (hr : Region.ready .any ops L = []) : ∀ i, i < ops.size → L.getD i true = true := by
  intro i
  induction i using Nat.strongRecOn with
  | ind i ih =>
    intro hi
    cases hL : L.getD i true with
    | true => rfl
    | false =>
      exfalso
      have ho : ops[i]? = some ops[i] := Array.getElem?_eq_getElem hi
      obtain ⟨ha, _, _⟩ := ordered_at hord ho
      have : i ∈ Region.ready .any ops L := mem_ready.2 ⟨hL, ops[i], ho, fun e he hb => by
        have h1 := ih e.on (ha e he hb) (Nat.lt_trans (ha e he hb) hi)
        have h2 : e.on < L.size := by rw [hsz]; exact Nat.lt_trans (ha e he hb) hi
        simpa [Array.getD_eq_getD_getElem?, Array.getElem?_eq_getElem h2] using h1⟩
      rw [hr] at this; cases this

def left (n : Nat) (L : Array Bool) : Nat := (List.range n).countP fun i => !L.getD i true
theorem left_set {n i : Nat} {L : Array Bool} (hi : i < n) (hs : i < L.size) (h : L.getD i true = false) : left n (L.setIfInBounds i true) < left n L := by
  unfold left
  have hmono : ∀ l : List Nat, (l.countP fun j => !(L.setIfInBounds i true).getD j true) ≤ l.countP fun j => !L.getD j true := by
    intro l
    refine List.countP_mono_left fun j _ hj => ?_
    by_cases e : i = j
    · subst e; simp [Array.getD_eq_getD_getElem?, hs] at hj
    · simpa [Array.getD_eq_getD_getElem?, Array.getElem?_setIfInBounds_ne e] using hj
  have hsplit : ∀ l : List Nat, i ∈ l → (l.countP fun j => !(L.setIfInBounds i true).getD j true) < l.countP fun j => !L.getD j true := by
    intro l
    induction l with
    | nil => intro h; cases h
    | cons x l ih =>
      intro hm
      rw [List.countP_cons, List.countP_cons]
      by_cases e : i = x
      · subst e
        have h1 : (L.setIfInBounds i true).getD i true = true := by simp [Array.getD_eq_getD_getElem?, hs]
        rw [h1, h]; have := hmono l; simp only [Bool.not_true, Bool.not_false, if_true, Bool.false_eq_true, if_false]; omega
      · have h2 := ih (by simpa [e] using hm)
        have h3 : (L.setIfInBounds i true).getD x true = L.getD x true := by simp [Array.getD_eq_getD_getElem?, Array.getElem?_setIfInBounds_ne e]
        rw [h3]; omega
  exact hsplit _ (List.mem_range.2 hi)

theorem any_does {fin : Act} {S : Array Bool → World → Prop} {Q : Exit → Act → World → Prop} (hord : ordered ops = true)
    (hdo : ∀ (i : Nat) (o : Oper), ops[i]? = some o → ∀ (L : Array Bool) (w : World), L.size = ops.size → L.getD i true = false → (∀ e ∈ o.after, Region.binds .any e = true → L.getD e.on true = true) → S L w → Does P ops fin S L i o w)
    (hQ : ∀ (L : Array Bool) (w : World), L.size = ops.size → (∀ i, i < ops.size → L.getD i true = true) → S L w → Q .normal fin w) :
    ∀ (fuel : Nat) (L : Array Bool) (a : Act) (w : World), L.size = ops.size → left ops.size L ≤ fuel → Agree ops L a fin → S L w → wpAny P .any ops Q fuel L a w := by
  have done : ∀ (L : Array Bool) (a : Act) (w : World), L.size = ops.size → Agree ops L a fin → S L w → Region.ready .any ops L = [] → Q .normal a w := by
    intro L a w hsz hag hS hr
    have hall := all_listed hord hsz hr
    have : a = fin := by
      have ht : a.tmps = fin.tmps := Array.ext_getElem? fun t => hag.slot t fun j o hj _ => hall j (Array.getElem?_eq_some_iff.1 hj).1
      have hd := hag.defers
      cases a; cases fin; simp_all
    subst this
    exact hQ L w hsz hall hS
  intro fuel
  induction fuel with
  | zero =>
    intro L a w hsz hleft hag hS
    have hr : Region.ready .any ops L = [] := by
      apply List.eq_nil_iff_forall_not_mem.2
      intro i hi
      obtain ⟨hL, o, ho, _⟩ := mem_ready.1 hi
      have hin : i < ops.size := (Array.getElem?_eq_some_iff.1 ho).1
      have := left_set hin (by omega) hL
      omega
    exact ⟨hr, done L a w hsz hag hS hr⟩
  | succ fuel ih =>
    intro L a w hsz hleft hag hS
    refine ⟨done L a w hsz hag hS, fun i hi => ?_⟩
    obtain ⟨hL, o, ho, hall⟩ := mem_ready.1 hi
    have hin : i < ops.size := (Array.getElem?_eq_some_iff.1 ho).1
    have hdep : ∀ e ∈ o.after, Region.binds .any e = true → L.getD e.on true = true := fun e he hb => by
      have h1 := hall e he hb
      rcases Nat.lt_or_ge e.on L.size with h' | h'
      · simpa [Array.getD_eq_getD_getElem?, Array.getElem?_eq_getElem h'] using h1
      · simp [Array.getD_eq_getD_getElem?, Array.getElem?_eq_none h']
    refine does_step hord ho (by omega) hdep hag (hdo i o ho L w hsz hL hdep hS) fun a' w' ha' hS' => ?_
    exact ih _ a' w' (by simpa using hsz) (by have := left_set hin (show i < L.size by omega) hL; omega) ha' hS'

theorem left_le (n : Nat) (L : Array Bool) : left n L ≤ n := by unfold left; have := List.countP_le_length (p := fun i => !L.getD i true) (l := List.range n); simpa using this

/-- **The region, in whatever order.** -/
theorem region {id : Nat} {a : Act} {w : World} {Q : Exit → Act → World → Prop} (hm : P.follows .mixedOrders = true) (vs : List (Tmp × Value)) (S : Array Bool → World → Prop)
    (hord : ordered ops = true) (hin : within ops vs = true) (hS : S (Array.replicate ops.size false) { w with drawn := w.drawn + 1 })
    (hdo : ∀ (i : Nat) (o : Oper), ops[i]? = some o → ∀ (L : Array Bool) (w : World), L.size = ops.size → L.getD i true = false → (∀ e ∈ o.after, Region.binds .any e = true → L.getD e.on true = true) → S L w → Does P ops (puts a vs) S L i o w)
    (hQ : ∀ (L : Array Bool) (w : World), L.size = ops.size → (∀ i, i < ops.size → L.getD i true = true) → S L w → Q .normal (puts a vs) w) : (Code.region id ops true).wp P Q a w := by
  refine wp_region_any hm (any_does hord hdo hQ _ _ a _ (by simp) (left_le _ _) ⟨(puts_defers vs a).symm, (puts_size vs a).symm, fun t ht => (puts_other t vs a fun p hp he => ?_).symm⟩ hS)
  have h1 := List.all_eq_true.1 hin p hp
  obtain ⟨j, hj, hb⟩ := List.any_eq_true.1 h1
  have hj' : j < ops.size := List.mem_range.1 hj
  rw [Array.getElem?_eq_getElem hj'] at hb
  have h2 := ht j ops[j] (Array.getElem?_eq_getElem hj') (by simpa [he] using hb)
  simp [Array.getD_eq_getD_getElem?, hj'] at h2

/-- The operations' obligations, one behind the other. -/
def DoesList (P : Program) (ops : Array Oper) (fin : Act) (S : Array Bool → World → Prop) : Nat → List Oper → Prop
  | _, [] => True
  | k, o :: r => (∀ (L : Array Bool) (w : World), L.size = ops.size → L.getD k true = false → (∀ e ∈ o.after, Region.binds .any e = true → L.getD e.on true = true) → S L w → Does P ops fin S L k o w) ∧ DoesList P ops fin S (k + 1) r
theorem doesList_at {fin : Act} {S : Array Bool → World → Prop} : ∀ (l : List Oper) (k : Nat), DoesList P ops fin S k l → ∀ (i : Nat) (o : Oper), l[i]? = some o →
    ∀ (L : Array Bool) (w : World), L.size = ops.size → L.getD (k + i) true = false → (∀ e ∈ o.after, Region.binds .any e = true → L.getD e.on true = true) → S L w → Does P ops fin S L (k + i) o w
  | [], _, _, i, o, h => by simp at h
  | x :: r, k, hd, 0, o, h => by
    obtain rfl : x = o := by simpa using h
    exact hd.1
  | x :: r, k, hd, i + 1, o, h => by
    have := doesList_at r (k + 1) hd.2 i o (by simpa using h)
    rw [show k + (i + 1) = k + 1 + i by omega]; exact this
theorem region_list {l : List Oper} {id : Nat} {a fin : Act} {w : World} {Q : Exit → Act → World → Prop} (hm : P.follows .mixedOrders = true) (vs : List (Tmp × Value)) (S : Array Bool → World → Prop)
    (hord : ordered l.toArray = true) (hin : within l.toArray vs = true) (hfin : puts a vs = fin) (hS : S (Array.replicate l.length false) { w with drawn := w.drawn + 1 })
    (hdo : DoesList P l.toArray fin S 0 l)
    (hQ : ∀ (L : Array Bool) (w : World), L.size = l.length → (∀ i, i < l.length → L.getD i true = true) → S L w → Q .normal fin w) : (Code.region id l.toArray true).wp P Q a w := by
  subst hfin
  refine region hm vs S hord hin (by simpa using hS) (fun i o ho L w => ?_) (fun L w h1 h2 h3 => hQ L w (by simpa using h1) (by simpa using h2) h3)
  have := doesList_at l 0 hdo i o (by simpa using ho) L w
  simpa using this
theorem does_plain {fin : Act} {S : Array Bool → World → Prop} {L : Array Bool} {i : Nat} {o : Oper} {w : World} (hg : o.guard = none)
    (h : o.wp P fin w (fun a' w' => a' = fin ∧ S (L.setIfInBounds i true) w') (fun _ _ _ => False)) : Does P ops fin S L i o w := by
  unfold Does; rw [if_pos (by simp [Region.wanted, hg])]; exact h
theorem does_value {fin : Act} {S : Array Bool → World → Prop} {L : Array Bool} {i : Nat} {o : Oper} {w w' : World} {v : Value} (hg : o.guard = none)
    (h : (execOp fin.eval o).run P w = .ok (.value v) w') (hp : fin.put o.dst v = fin) (hS : S (L.setIfInBounds i true) w') : Does P ops fin S L i o w := by
  refine does_plain hg ?_
  unfold Oper.wp; rw [h]; exact ⟨hp, hS⟩
theorem does_skip {fin : Act} {S : Array Bool → World → Prop} {L : Array Bool} {i : Nat} {o : Oper} {w w' : World} (hg : o.guard = none)
    (h : (execOp fin.eval o).run P w = .ok .skip w') (hp : fin.put o.dst undef = fin) (hS : S (L.setIfInBounds i true) w') : Does P ops fin S L i o w := by
  refine does_plain hg ?_
  unfold Oper.wp; rw [h]; exact ⟨hp, hS⟩
theorem does_call {fin : Act} {S : Array Bool → World → Prop} {L : Array Bool} {i : Nat} {o : Oper} {w w' : World} {f : FuncId} {args : Array Value} {v : Value} {R : World → Prop} (hg : o.guard = none)
    (h : (execOp fin.eval o).run P w = .ok (.enter f args) w') (hc : Calls P f args w' fun e w'' => e = .returned v ∧ R w'') (hp : fin.put o.dst v = fin) (hS : ∀ w'', R w'' → S (L.setIfInBounds i true) w'') : Does P ops fin S L i o w := by
  refine does_plain hg ?_
  unfold Oper.wp; rw [h]
  refine Calls.mono hc fun e w'' he => ?_
  obtain ⟨rfl, hR⟩ := he
  exact ⟨hp, hS _ hR⟩
/-- A guarded operation that is passed over. -/
theorem does_not {fin : Act} {S : Array Bool → World → Prop} {L : Array Bool} {i : Nat} {o : Oper} {w : World} (hg : Region.wanted o (yielded ops fin.tmps) = false) (hp : fin.put o.dst undef = fin) (hS : S (L.setIfInBounds i true) w) : Does P ops fin S L i o w := by
  unfold Does; rw [if_neg (by simp [hg])]; exact ⟨hp, hS⟩
theorem does_go {fin : Act} {S : Array Bool → World → Prop} {L : Array Bool} {i : Nat} {o : Oper} {w : World} (hg : Region.wanted o (yielded ops fin.tmps) = true)
    (h : o.wp P fin w (fun a' w' => a' = fin ∧ S (L.setIfInBounds i true) w') (fun _ _ _ => False)) : Does P ops fin S L i o w := by
  unfold Does; rw [if_pos hg]; exact h
end
end Go.Proofs.Ytdhmfjcijcdnjaa.Reg
