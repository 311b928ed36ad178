/- Parts of the walks and laws for the claim: Region, Calm, CalmB, Step, Hrt, HrtB, Bits, Pick, Cells; no conditions beyond the theorems' own. -/
import Derived.Below
import Derived.BigQuiet
import Derived.Deep.MidRow
import Derived.Deep.RegionHeld3
import Derived.KernelRfl
import Derived.Laws.BitsAllLaws
import Derived.Laws.BitsLemmas
import Derived.Laws.CopyRow
import Derived.Laws.MakeOwn
import Derived.Laws.Rows
import Derived.Laws.Tables
import Derived.Lib.Hide
import Derived.OpenShut
import Derived.Orders
import Derived.RowKit3
import Derived.Tactics
import Derived.Test.YtidiojhefjhojaaGreatProg
import Derived.WalkKit
section
namespace Go.Proofs.YtidiojhefjhojaaGreat.Reg
open Go
set_option linter.unusedVariables false
section
variable {P : Program} {ops : Array Oper}
/-- Slots filled one behind the other. -/
def puts : Act → List (Tmp × Value) → Act
  | a, [] => a
  | a, (d, v) :: r => puts (a.put (some d) v) r
/-- The frames say the same of every slot whose operations have all come up. -/
structure Agree (ops : Array Oper) (L : Array Bool) (a fin : Act) : Prop where
  defers : a.defers = fin.defers
  size : a.tmps.size = fin.tmps.size
  slot : ∀ t, (∀ (j : Nat) (o : Oper), ops[j]? = some o → o.dst = some t → L.getD j true = true) → a.tmps[t]? = fin.tmps[t]?
theorem puts_defers : ∀ (vs : List (Tmp × Value)) (a : Act), (puts a vs).defers = a.defers
  | [], _ => rfl
  | (_, _) :: r, a => (puts_defers r _).trans rfl
theorem puts_size : ∀ (vs : List (Tmp × Value)) (a : Act), (puts a vs).tmps.size = a.tmps.size
  | [], _ => rfl
  | (_, _) :: r, a => (puts_size r _).trans (by simp [Act.put])
theorem puts_other (t : Nat) : ∀ (vs : List (Tmp × Value)) (a : Act), (∀ p ∈ vs, p.1 ≠ t) → (puts a vs).tmps[t]? = a.tmps[t]?
  | [], _, _ => rfl
  | (d, _) :: r, a, h => (puts_other t r _ fun p hp => h p (List.mem_cons_of_mem _ hp)).trans (by
      have : d ≠ t := h _ (List.mem_cons_self ..)
      simp [Act.put, Array.getElem?_setIfInBounds_ne this])
/-- Every slot that an operation looks at, if an operation of the region fills it, is filled ahead of it; what comes behind comes later in the text. -/
def ordered (ops : Array Oper) : Bool :=
  (List.range ops.size).all fun i => match ops[i]? with
    | none => true
    | some o => (o.after.all fun e => !Region.binds .any e || decide (e.on < i)) && (match o.op with | .select .. => false | _ => true) &&
        (o.looksAt ops).all fun t => (List.range ops.size).all fun j => match ops[j]? with
          | none => true
          | some oj => oj.dst != some t || o.after.any fun e => e.on == j && Region.binds .any e
/-- The slots that are told are slots of the region's operations. -/
def within (ops : Array Oper) (vs : List (Tmp × Value)) : Bool := vs.all fun p => (List.range ops.size).any fun j => ((ops[j]?).bind (·.dst)) == some p.1
theorem ordered_at (h : ordered ops = true) {i : Nat} {o : Oper} (ho : ops[i]? = some o) :
    (∀ e ∈ o.after, Region.binds .any e = true → e.on < i) ∧ (∀ cs b, o.op ≠ .select cs b) ∧ ∀ t ∈ o.looksAt ops, ∀ (j : Nat) (oj : Oper), ops[j]? = some oj → oj.dst = some t → ∃ e ∈ o.after, e.on = j ∧ Region.binds .any e = true := by
  unfold ordered at h
  have hi : i < ops.size := (Array.getElem?_eq_some_iff.1 ho).1
  have h1 := List.all_eq_true.1 h i (List.mem_range.2 hi)
  simp only [ho, Bool.and_eq_true, Array.all_eq_true'] at h1
  obtain ⟨⟨ha, hs⟩, hl⟩ := h1
  refine ⟨fun e he hb => by have h := ha e he; rw [hb] at h; simpa using h, fun cs b e => ?_, fun t ht j oj hj hd => ?_⟩
  · rw [e] at hs; cases hs
  · have h2 := List.all_eq_true.1 hl t ht
    have h3 := List.all_eq_true.1 h2 j (List.mem_range.2 (Array.getElem?_eq_some_iff.1 hj).1)
    simp only [hj, hd, bne_self_eq_false, Bool.false_or] at h3
    obtain ⟨e, he, hb⟩ := Array.any_eq_true'.1 h3
    simp only [Bool.and_eq_true, beq_iff_eq] at hb
    exact ⟨e, he, hb.1, hb.2⟩
/-- What is asked of one operation: run on the final frame, in any world that meets the condition, it leaves the final frame and meets the condition that goes with its having come up. -/
def Does (P : Program) (ops : Array Oper) (fin : Act) (S : Array Bool → World → Prop) (L : Array Bool) (i : Nat) (o : Oper) (w : World) : Prop :=
  if Region.wanted o (yielded ops fin.tmps) then o.wp P fin w (fun a' w' => a' = fin ∧ S (L.setIfInBounds i true) w') (fun _ _ _ => False)
  else fin.put o.dst undef = fin ∧ S (L.setIfInBounds i true) w
theorem agree_put {L : Array Bool} {a fin : Act} {i : Nat} {o : Oper} (ho : ops[i]? = some o) (hL : i < L.size) (h : Agree ops L a fin) {v : Value} (hv : fin.put o.dst v = fin) :
    Agree ops (L.setIfInBounds i true) (a.put o.dst v) fin := by
  have keep : ∀ t, o.dst ≠ some t → (∀ (j : Nat) (oj : Oper), ops[j]? = some oj → oj.dst = some t → (L.setIfInBounds i true).getD j true = true) →
      ∀ (j : Nat) (oj : Oper), ops[j]? = some oj → oj.dst = some t → L.getD j true = true := by
    intro t hne hall j oj hj hd
    have h1 := hall j oj hj hd
    by_cases e : i = j
    · subst e; rw [ho] at hj; obtain rfl := Option.some.inj hj; exact absurd hd hne
    · simpa [Array.getD_eq_getD_getElem?, Array.getElem?_setIfInBounds_ne e] using h1
  cases hd : o.dst with
  | none =>
    exact ⟨h.defers, h.size, fun t ht => h.slot t (keep t (by rw [hd]; simp) ht)⟩
  | some d =>
    rw [hd] at hv
    refine ⟨h.defers, by simpa [Act.put] using h.size, fun t ht => ?_⟩
    by_cases e : d = t
    · subst e
      have h2 : (fin.put (some d) v).tmps[d]? = fin.tmps[d]? := by rw [hv]
      rw [← h2]
      simp only [Act.put, Array.getElem?_setIfInBounds_self, h.size]
    · have h3 : (a.put (some d) v).tmps[t]? = a.tmps[t]? := by simp [Act.put, Array.getElem?_setIfInBounds_ne e]
      rw [h3]; exact h.slot t (keep t (by rw [hd]; simpa using e) ht)
theorem agree_eval {L : Array Bool} {a fin : Act} (h : Agree ops L a fin) {t : Nat} (ht : ∀ (j : Nat) (o : Oper), ops[j]? = some o → o.dst = some t → L.getD j true = true) : a.eval (.tmp t) = fin.eval (.tmp t) := by
  have := h.slot t ht
  simp only [Act.eval, Array.getD_eq_getD_getElem?, this]
theorem does_step {L : Array Bool} {a fin : Act} {i : Nat} {o : Oper} {w : World} {Q : Exit → Act → World → Prop} {S : Array Bool → World → Prop} {K : Act → World → Prop}
    (hord : ordered ops = true) (ho : ops[i]? = some o) (hL : i < L.size) (hdep : ∀ e ∈ o.after, Region.binds .any e = true → L.getD e.on true = true)
    (h : Agree ops L a fin) (hdo : Does P ops fin S L i o w) (hK : ∀ a' w', Agree ops (L.setIfInBounds i true) a' fin → S (L.setIfInBounds i true) w' → K a' w') : wpOp P ops Q i K a w := by
  obtain ⟨_, hs, hl⟩ := ordered_at hord ho
  have seen : ∀ t ∈ o.looksAt ops, ∀ (j : Nat) (oj : Oper), ops[j]? = some oj → oj.dst = some t → L.getD j true = true := fun t ht j oj hj hd => by
    obtain ⟨e, he, rfl, hb⟩ := hl t ht j oj hj hd
    exact hdep e he hb
  have hex : execOp a.eval o = execOp fin.eval o := execOp_congr o hs fun x hx => by
    cases x with
    | tmp t => exact agree_eval h (seen t (List.mem_append_left _ (List.mem_filterMap.2 ⟨.tmp t, by simpa using hx, rfl⟩)))
    | _ => rfl
  have hwa : Region.wanted o (yielded ops a.tmps) = Region.wanted o (yielded ops fin.tmps) := by
    unfold Region.wanted
    cases hg : o.guard with
    | none => rfl
    | some p =>
      obtain ⟨g, want⟩ := p
      have : yielded ops a.tmps g = yielded ops fin.tmps g := by
        unfold yielded
        cases hgd : (ops[g]?).bind (·.dst) with
        | none => rfl
        | some t =>
          have ht : t ∈ o.looksAt ops := List.mem_append_right _ (by simp [hg, hgd])
          simp only [Option.bind_some, h.slot t (seen t ht)]
      simp only [this]
  unfold wpOp
  simp only [ho]
  rw [hwa]
  unfold Does at hdo
  split
  · rename_i hw
    rw [if_pos hw] at hdo
    refine .inl ?_
    unfold Oper.wp at *
    rw [hex]
    generalize (execOp fin.eval o).run P w = r at *
    cases r with
    | ok n w' =>
      cases n <;> simp only [Oper.upon] at hdo ⊢
      case value u => exact hK _ _ (agree_put ho hL h hdo.1) hdo.2
      case skip => exact hK _ _ (agree_put ho hL h hdo.1) hdo.2
      case defer d =>
        exfalso
        have h1 := congrArg Act.defers hdo.1
        have h2 : (({ fin with defers := d :: fin.defers } : Act).put o.dst undef).defers = d :: fin.defers := by cases o.dst <;> rfl
        rw [h2] at h1
        have := congrArg List.length h1
        simp at this
      case enter f args =>
        refine Calls.mono hdo fun e w'' he => ?_
        cases e with
        | returned u => exact hK _ _ (agree_put ho hL h he.1) he.2
        | panicked c => exact he.elim
        | outgrown => obtain ⟨_, _, hf⟩ := he; exact hf.elim
      case row row args => exact Rows.mono hdo fun u w'' he => hK _ _ (agree_put ho hL h he.1) he.2
    | halt x w' =>
      cases x <;> simp only [Oper.upon] at hdo ⊢
  · rename_i hw
    rw [if_neg hw] at hdo
    exact hK _ _ (agree_put ho hL h hdo.1) hdo.2
theorem all_listed (hord : ordered ops = true) {L : Array Bool} (hsz : L.size = ops.size) (hr : Region.ready .any ops L = []) : ∀ i, i < ops.size → L.getD i true = true := by
  intro i
  induction i using Nat.strongRecOn with
  | ind i ih =>
    intro hi
    cases hL : L.getD i true with
    | true => rfl
    | false =>
      exfalso
      have ho : ops[i]? = some ops[i] := Array.getElem?_eq_getElem hi
      obtain ⟨ha, _, _⟩ := ordered_at hord ho
      have : i ∈ Region.ready .any ops L := mem_ready.2 ⟨hL, ops[i], ho, fun e he hb => by
        have h1 := ih e.on (ha e he hb) (Nat.lt_trans (ha e he hb) hi)
        have h2 : e.on < L.size := by rw [hsz]; exact Nat.lt_trans (ha e he hb) hi
        simpa [Array.getD_eq_getD_getElem?, Array.getElem?_eq_getElem h2] using h1⟩
      rw [hr] at this; cases this
def left (n : Nat) (L : Array Bool) : Nat := (List.range n).countP fun i => !L.getD i true
theorem left_set {n i : Nat} {L : Array Bool} (hi : i < n) (hs : i < L.size) (h : L.getD i true = false) : left n (L.setIfInBounds i true) < left n L := by
  unfold left
  have hmono : ∀ l : List Nat, (l.countP fun j => !(L.setIfInBounds i true).getD j true) ≤ l.countP fun j => !L.getD j true := by
    intro l
    refine List.countP_mono_left fun j _ hj => ?_
    by_cases e : i = j
    · subst e; simp [Array.getD_eq_getD_getElem?, hs] at hj
    · simpa [Array.getD_eq_getD_getElem?, Array.getElem?_setIfInBounds_ne e] using hj
  have hsplit : ∀ l : List Nat, i ∈ l → (l.countP fun j => !(L.setIfInBounds i true).getD j true) < l.countP fun j => !L.getD j true := by
    intro l
    induction l with
    | nil => intro h; cases h
    | cons x l ih =>
      intro hm
      rw [List.countP_cons, List.countP_cons]
      by_cases e : i = x
      · subst e
        have h1 : (L.setIfInBounds i true).getD i true = true := by simp [Array.getD_eq_getD_getElem?, hs]
        rw [h1, h]; have := hmono l; simp only [Bool.not_true, Bool.not_false, if_true, Bool.false_eq_true, if_false]; omega
      · have h2 := ih (by simpa [e] using hm)
        have h3 : (L.setIfInBounds i true).getD x true = L.getD x true := by simp [Array.getD_eq_getD_getElem?, Array.getElem?_setIfInBounds_ne e]
        rw [h3]; omega
  exact hsplit _ (List.mem_range.2 hi)
theorem any_does {fin : Act} {S : Array Bool → World → Prop} {Q : Exit → Act → World → Prop} (hord : ordered ops = true)
    (hdo : ∀ (i : Nat) (o : Oper), ops[i]? = some o → ∀ (L : Array Bool) (w : World), L.size = ops.size → L.getD i true = false → (∀ e ∈ o.after, Region.binds .any e = true → L.getD e.on true = true) → S L w → Does P ops fin S L i o w)
    (hQ : ∀ (L : Array Bool) (w : World), L.size = ops.size → (∀ i, i < ops.size → L.getD i true = true) → S L w → Q .normal fin w) :
    ∀ (fuel : Nat) (L : Array Bool) (a : Act) (w : World), L.size = ops.size → left ops.size L ≤ fuel → Agree ops L a fin → S L w → wpAny P .any ops Q fuel L a w := by
  have done : ∀ (L : Array Bool) (a : Act) (w : World), L.size = ops.size → Agree ops L a fin → S L w → Region.ready .any ops L = [] → Q .normal a w := by
    intro L a w hsz hag hS hr
    have hall := all_listed hord hsz hr
    have : a = fin := by
      have ht : a.tmps = fin.tmps := Array.ext_getElem? fun t => hag.slot t fun j o hj _ => hall j (Array.getElem?_eq_some_iff.1 hj).1
      have hd := hag.defers
      cases a; cases fin; simp_all
    subst this
    exact hQ L w hsz hall hS
  intro fuel
  induction fuel with
  | zero =>
    intro L a w hsz hleft hag hS
    have hr : Region.ready .any ops L = [] := by
      apply List.eq_nil_iff_forall_not_mem.2
      intro i hi
      obtain ⟨hL, o, ho, _⟩ := mem_ready.1 hi
      have hin : i < ops.size := (Array.getElem?_eq_some_iff.1 ho).1
      have := left_set hin (by omega) hL
      omega
    exact ⟨hr, done L a w hsz hag hS hr⟩
  | succ fuel ih =>
    intro L a w hsz hleft hag hS
    refine ⟨done L a w hsz hag hS, fun i hi => ?_⟩
    obtain ⟨hL, o, ho, hall⟩ := mem_ready.1 hi
    have hin : i < ops.size := (Array.getElem?_eq_some_iff.1 ho).1
    have hdep : ∀ e ∈ o.after, Region.binds .any e = true → L.getD e.on true = true := fun e he hb => by
      have h1 := hall e he hb
      rcases Nat.lt_or_ge e.on L.size with h' | h'
      · simpa [Array.getD_eq_getD_getElem?, Array.getElem?_eq_getElem h'] using h1
      · simp [Array.getD_eq_getD_getElem?, Array.getElem?_eq_none h']
    refine does_step hord ho (by omega) hdep hag (hdo i o ho L w hsz hL hdep hS) fun a' w' ha' hS' => ?_
    exact ih _ a' w' (by simpa using hsz) (by have := left_set hin (show i < L.size by omega) hL; omega) ha' hS'
theorem left_le (n : Nat) (L : Array Bool) : left n L ≤ n := by unfold left; have := List.countP_le_length (p := fun i => !L.getD i true) (l := List.range n); simpa using this
/-- **The region, in whatever order.** -/
theorem region {id : Nat} {a : Act} {w : World} {Q : Exit → Act → World → Prop} (hm : P.follows .mixedOrders = true) (vs : List (Tmp × Value)) (S : Array Bool → World → Prop)
    (hord : ordered ops = true) (hin : within ops vs = true) (hS : S (Array.replicate ops.size false) { w with drawn := w.drawn + 1 })
    (hdo : ∀ (i : Nat) (o : Oper), ops[i]? = some o → ∀ (L : Array Bool) (w : World), L.size = ops.size → L.getD i true = false → (∀ e ∈ o.after, Region.binds .any e = true → L.getD e.on true = true) → S L w → Does P ops (puts a vs) S L i o w)
    (hQ : ∀ (L : Array Bool) (w : World), L.size = ops.size → (∀ i, i < ops.size → L.getD i true = true) → S L w → Q .normal (puts a vs) w) : (Code.region id ops true).wp P Q a w := by
  refine wp_region_any hm (any_does hord hdo hQ _ _ a _ (by simp) (left_le _ _) ⟨(puts_defers vs a).symm, (puts_size vs a).symm, fun t ht => (puts_other t vs a fun p hp he => ?_).symm⟩ hS)
  have h1 := List.all_eq_true.1 hin p hp
  obtain ⟨j, hj, hb⟩ := List.any_eq_true.1 h1
  have hj' : j < ops.size := List.mem_range.1 hj
  rw [Array.getElem?_eq_getElem hj'] at hb
  have h2 := ht j ops[j] (Array.getElem?_eq_getElem hj') (by simpa [he] using hb)
  simp [Array.getD_eq_getD_getElem?, hj'] at h2
theorem does_plain {fin : Act} {S : Array Bool → World → Prop} {L : Array Bool} {i : Nat} {o : Oper} {w : World} (hg : o.guard = none)
    (h : o.wp P fin w (fun a' w' => a' = fin ∧ S (L.setIfInBounds i true) w') (fun _ _ _ => False)) : Does P ops fin S L i o w := by
  unfold Does; rw [if_pos (by simp [Region.wanted, hg])]; exact h
/-- A guarded operation that is passed over. -/
theorem does_not {fin : Act} {S : Array Bool → World → Prop} {L : Array Bool} {i : Nat} {o : Oper} {w : World} (hg : Region.wanted o (yielded ops fin.tmps) = false) (hp : fin.put o.dst undef = fin) (hS : S (L.setIfInBounds i true) w) : Does P ops fin S L i o w := by
  unfold Does; rw [if_neg (by simp [hg])]; exact ⟨hp, hS⟩
theorem does_go {fin : Act} {S : Array Bool → World → Prop} {L : Array Bool} {i : Nat} {o : Oper} {w : World} (hg : Region.wanted o (yielded ops fin.tmps) = true)
    (h : o.wp P fin w (fun a' w' => a' = fin ∧ S (L.setIfInBounds i true) w') (fun _ _ _ => False)) : Does P ops fin S L i o w := by
  unfold Does; rw [if_pos hg]; exact h
end
end Go.Proofs.YtidiojhefjhojaaGreat.Reg
end
section
namespace Go.Proofs.YtidiojhefjhojaaGreat.Calm
open Go Go.RowKit Go.Proofs.YtidiojhefjhojaaGreat.Reg
set_option linter.unusedVariables false
section
variable {P : Program} {ops : Array Oper}
/-- Any invariant that every operation keeps. -/
theorem any_inv {Inv : Array Bool → Act → World → Prop} {Q : Exit → Act → World → Prop} (hback : ∀ (i : Nat) (o : Oper), ops[i]? = some o → ∀ e ∈ o.after, e.on < i)
    (hstep : ∀ (i : Nat) (o : Oper), ops[i]? = some o → ∀ (L : Array Bool) (a : Act) (w : World), L.size = ops.size → L.getD i true = false → (∀ e ∈ o.after, Region.binds .any e = true → L.getD e.on true = true) → Inv L a w → wpOp P ops Q i (Inv (L.setIfInBounds i true)) a w)
    (hQ : ∀ (L : Array Bool) (a : Act) (w : World), L.size = ops.size → (∀ i, i < ops.size → L.getD i true = true) → Inv L a w → Q .normal a w) :
    ∀ (fuel : Nat) (L : Array Bool) (a : Act) (w : World), L.size = ops.size → left ops.size L ≤ fuel → Inv L a w → wpAny P .any ops Q fuel L a w := by
  have all : ∀ (L : Array Bool), L.size = ops.size → Region.ready .any ops L = [] → ∀ i, i < ops.size → L.getD i true = true := by
    intro L hsz hr i
    induction i using Nat.strongRecOn with
    | ind i ih =>
      intro hi
      cases hL : L.getD i true with
      | true => rfl
      | false =>
        exfalso
        have ho : ops[i]? = some ops[i] := Array.getElem?_eq_getElem hi
        have ha := hback i _ ho
        have : i ∈ Region.ready .any ops L := mem_ready.2 ⟨hL, ops[i], ho, fun e he _ => by
          have h1 := ih e.on (ha e he) (Nat.lt_trans (ha e he) hi)
          have h2 : e.on < L.size := by rw [hsz]; exact Nat.lt_trans (ha e he) hi
          simpa [Array.getD_eq_getD_getElem?, Array.getElem?_eq_getElem h2] using h1⟩
        rw [hr] at this; cases this
  intro fuel
  induction fuel with
  | zero =>
    intro L a w hsz hleft hI
    have hr : Region.ready .any ops L = [] := by
      apply List.eq_nil_iff_forall_not_mem.2
      intro i hi
      obtain ⟨hL, o, ho, _⟩ := mem_ready.1 hi
      have hin : i < ops.size := (Array.getElem?_eq_some_iff.1 ho).1
      have := left_set hin (by omega) hL
      omega
    exact ⟨hr, hQ L a w hsz (all L hsz hr) hI⟩
  | succ fuel ih =>
    intro L a w hsz hleft hI
    refine ⟨fun hr => hQ L a w hsz (all L hsz hr) hI, fun i hi => ?_⟩
    obtain ⟨hL, o, ho, hall⟩ := mem_ready.1 hi
    have hin : i < ops.size := (Array.getElem?_eq_some_iff.1 ho).1
    have hdep : ∀ e ∈ o.after, Region.binds .any e = true → L.getD e.on true = true := fun e he hb => by
      have h1 := hall e he hb
      rcases Nat.lt_or_ge e.on L.size with h' | h'
      · simpa [Array.getD_eq_getD_getElem?, Array.getElem?_eq_getElem h'] using h1
      · simp [Array.getD_eq_getD_getElem?, Array.getElem?_eq_none h'] at h1
    refine wpOp_mono (fun a' w' hI' => ih _ a' w' (by simpa using hsz) ?_ hI') (hstep i o ho L a w hsz hL hdep hI)
    have := left_set hin (show i < L.size by omega) hL
    omega
/-- The frames say the same of every slot whose first m operations have all come up. -/
structure AgreeM (ops : Array Oper) (m : Nat) (L : Array Bool) (a fin : Act) : Prop where
  defers : a.defers = fin.defers
  size : a.tmps.size = fin.tmps.size
  slot : ∀ t, (∀ (j : Nat) (o : Oper), j < m → ops[j]? = some o → o.dst = some t → L.getD j true = true) → a.tmps[t]? = fin.tmps[t]?
/-- The first m operations look only at what is filled ahead of them by these; the others wait for all that stands ahead of them. -/
def parted (ops : Array Oper) (m : Nat) : Bool :=
  (List.range ops.size).all fun i => match ops[i]? with
    | none => true
    | some o => (o.after.all fun e => decide (e.on < i)) && (match o.op with | .select .. => false | _ => true) &&
        (if i < m then (o.looksAt ops).all fun t => (List.range m).all fun j => match ops[j]? with
          | none => true
          | some oj => oj.dst != some t || o.after.any fun e => e.on == j && Region.binds .any e
         else (List.range i).all fun j => o.after.any fun e => e.on == j && Region.binds .any e)
def withinM (ops : Array Oper) (m : Nat) (vs : List (Tmp × Value)) : Bool := vs.all fun p => (List.range m).any fun j => ((ops[j]?).bind (·.dst)) == some p.1
theorem parted_at {m : Nat} (h : parted ops m = true) {i : Nat} {o : Oper} (ho : ops[i]? = some o) :
    (∀ e ∈ o.after, e.on < i) ∧ (∀ cs b, o.op ≠ .select cs b) ∧ (i < m → ∀ t ∈ o.looksAt ops, ∀ (j : Nat) (oj : Oper), j < m → ops[j]? = some oj → oj.dst = some t → ∃ e ∈ o.after, e.on = j ∧ Region.binds .any e = true) ∧
      (m ≤ i → ∀ j, j < i → ∃ e ∈ o.after, e.on = j ∧ Region.binds .any e = true) := by
  unfold parted at h
  have hi : i < ops.size := (Array.getElem?_eq_some_iff.1 ho).1
  have h1 := List.all_eq_true.1 h i (List.mem_range.2 hi)
  simp only [ho, Bool.and_eq_true, Array.all_eq_true'] at h1
  obtain ⟨⟨ha, hs⟩, hl⟩ := h1
  refine ⟨fun e he => of_decide_eq_true (ha e he), fun cs b e => ?_, fun him t ht j oj hjm hj hd => ?_, fun him j hj => ?_⟩
  · rw [e] at hs; cases hs
  · rw [if_pos him] at hl
    have h2 := List.all_eq_true.1 hl t ht
    have h3 := List.all_eq_true.1 h2 j (List.mem_range.2 hjm)
    simp only [hj, hd, bne_self_eq_false, Bool.false_or] at h3
    obtain ⟨e, he, hb⟩ := Array.any_eq_true'.1 h3
    simp only [Bool.and_eq_true, beq_iff_eq] at hb
    exact ⟨e, he, hb.1, hb.2⟩
  · rw [if_neg (by omega)] at hl
    have h3 := List.all_eq_true.1 hl j (List.mem_range.2 hj)
    obtain ⟨e, he, hb⟩ := Array.any_eq_true'.1 h3
    simp only [Bool.and_eq_true, beq_iff_eq] at hb
    exact ⟨e, he, hb.1, hb.2⟩
theorem agreeM_put {m : Nat} {L : Array Bool} {a fin : Act} {i : Nat} {o : Oper} (ho : ops[i]? = some o) (h : AgreeM ops m L a fin) {v : Value} (hv : fin.put o.dst v = fin) :
    AgreeM ops m (L.setIfInBounds i true) (a.put o.dst v) fin := by
  have keep : ∀ t, o.dst ≠ some t → (∀ (j : Nat) (oj : Oper), j < m → ops[j]? = some oj → oj.dst = some t → (L.setIfInBounds i true).getD j true = true) →
      ∀ (j : Nat) (oj : Oper), j < m → ops[j]? = some oj → oj.dst = some t → L.getD j true = true := by
    intro t hne hall j oj hjm hj hd
    have h1 := hall j oj hjm hj hd
    by_cases e : i = j
    · subst e; rw [ho] at hj; obtain rfl := Option.some.inj hj; exact absurd hd hne
    · simpa [Array.getD_eq_getD_getElem?, Array.getElem?_setIfInBounds_ne e] using h1
  cases hd : o.dst with
  | none => exact ⟨h.defers, h.size, fun t ht => h.slot t (keep t (by rw [hd]; simp) ht)⟩
  | some d =>
    rw [hd] at hv
    refine ⟨h.defers, by simpa [Act.put] using h.size, fun t ht => ?_⟩
    by_cases e : d = t
    · subst e
      have h2 : (fin.put (some d) v).tmps[d]? = fin.tmps[d]? := by rw [hv]
      rw [← h2]
      simp only [Act.put, Array.getElem?_setIfInBounds_self, h.size]
    · have h3 : (a.put (some d) v).tmps[t]? = a.tmps[t]? := by simp [Act.put, Array.getElem?_setIfInBounds_ne e]
      rw [h3]; exact h.slot t (keep t (by rw [hd]; simpa using e) ht)
/-- What is asked of a calm operation, in a world whose old blocks are as they were. -/
def Calm (P : Program) (ops : Array Oper) (fin : Act) (W : World) (o : Oper) : Prop :=
  ∀ X, Below W.heap.size W X → if Region.wanted o (yielded ops fin.tmps) then o.wp P fin X (fun a' X' => a' = fin ∧ Below X.heap.size X X') (fun _ _ _ => False) else fin.put o.dst undef = fin
theorem looks_same {m : Nat} {L : Array Bool} {a fin : Act} {i : Nat} {o : Oper} (hp : parted ops m = true) (ho : ops[i]? = some o) (him : i < m) (hdep : ∀ e ∈ o.after, Region.binds .any e = true → L.getD e.on true = true) (h : AgreeM ops m L a fin) :
    execOp a.eval o = execOp fin.eval o ∧ Region.wanted o (yielded ops a.tmps) = Region.wanted o (yielded ops fin.tmps) := by
  obtain ⟨_, hs, hl, _⟩ := parted_at hp ho
  have seen : ∀ t ∈ o.looksAt ops, a.tmps[t]? = fin.tmps[t]? := fun t ht => h.slot t fun j oj hjm hj hd => by
    obtain ⟨e, he, rfl, hb⟩ := hl him t ht j oj hjm hj hd
    exact hdep e he hb
  refine ⟨execOp_congr o hs fun x hx => ?_, ?_⟩
  · cases x with
    | tmp t =>
      have := seen t (List.mem_append_left _ (List.mem_filterMap.2 ⟨.tmp t, by simpa using hx, rfl⟩))
      simp only [Act.eval, Array.getD_eq_getD_getElem?, this]
    | _ => rfl
  · unfold Region.wanted
    cases hg : o.guard with
    | none => rfl
    | some p =>
      obtain ⟨g, want⟩ := p
      have : yielded ops a.tmps g = yielded ops fin.tmps g := by
        unfold yielded
        cases hgd : (ops[g]?).bind (·.dst) with
        | none => rfl
        | some t =>
          have ht : t ∈ o.looksAt ops := List.mem_append_right _ (by simp [hg, hgd])
          simp only [Option.bind_some, seen t ht]
      simp only [this]
theorem calm_step {m : Nat} {L : Array Bool} {a fin : Act} {i : Nat} {o : Oper} {w W : World} {Q : Exit → Act → World → Prop} {K : Act → World → Prop} (hp : parted ops m = true) (ho : ops[i]? = some o) (him : i < m)
    (hdep : ∀ e ∈ o.after, Region.binds .any e = true → L.getD e.on true = true) (h : AgreeM ops m L a fin) (hw : Below W.heap.size W w) (hc : Calm P ops fin W o)
    (hK : ∀ a' w', AgreeM ops m (L.setIfInBounds i true) a' fin → Below w.heap.size w w' → K a' w') : wpOp P ops Q i K a w := by
  obtain ⟨hex, hwa⟩ := looks_same hp ho him hdep h
  have hdo := hc w hw
  unfold wpOp
  simp only [ho]
  rw [hwa]
  split
  · rename_i hw'
    rw [if_pos hw'] at hdo
    refine .inl ?_
    unfold Oper.wp at *
    rw [hex]
    generalize (execOp fin.eval o).run P w = r at *
    cases r with
    | ok n w' =>
      cases n <;> simp only [Oper.upon] at hdo ⊢
      case value u => exact hK _ _ (agreeM_put ho h hdo.1) hdo.2
      case skip => exact hK _ _ (agreeM_put ho h hdo.1) hdo.2
      case defer d =>
        exfalso
        have h1 := congrArg Act.defers hdo.1
        have h2 : (({ fin with defers := d :: fin.defers } : Act).put o.dst undef).defers = d :: fin.defers := by cases o.dst <;> rfl
        rw [h2] at h1
        have := congrArg List.length h1
        simp at this
      case enter f args =>
        refine Calls.mono hdo fun e w'' he => ?_
        cases e with
        | returned u => exact hK _ _ (agreeM_put ho h he.1) he.2
        | panicked c => exact he.elim
        | outgrown => obtain ⟨_, _, hf⟩ := he; exact hf.elim
      case row row args => exact Rows.mono hdo fun u w'' he => hK _ _ (agreeM_put ho h he.1) he.2
    | halt x w' =>
      cases x <;> simp only [Oper.upon] at hdo ⊢
  · rename_i hw'
    rw [if_neg hw'] at hdo
    exact hK _ _ (agreeM_put ho h hdo) (Below.refl _ _)
theorem wpOp_tail {l : List Oper} {Q : Exit → Act → World → Prop} {i : Nat} {o : Oper} {r : List Oper} {a : Act} {w : World} (ho : l.toArray[i]? = some o) (h : wpList P l.toArray Q (o :: r) a w) : wpOp P l.toArray Q i (wpList P l.toArray Q r) a w := by
  unfold wpOp
  simp only [ho]
  unfold wpList at h
  exact h
/-- **Calm operations in whatever order, then the rest in the text's.** -/
theorem region {l : List Oper} {id : Nat} {a fin : Act} {W : World} {Q : Exit → Act → World → Prop} (hm : P.follows .mixedOrders = true) (m : Nat) (vs : List (Tmp × Value))
    (hp : parted l.toArray m = true) (hin : withinM l.toArray m vs = true) (hfin : puts a vs = fin)
    (hcalm : ∀ o ∈ l.take m, Calm P l.toArray fin W o)
    (hrest : ∀ w, Below W.heap.size W w → wpList P l.toArray Q (l.drop m) fin w) : (Code.region id l.toArray true).wp P Q a W := by
  subst hfin
  have hsz : l.toArray.size = l.length := by simp
  refine wp_region_any hm ?_
  let Inv : Array Bool → Act → World → Prop := fun L a' w => ((∀ j, m ≤ j → j < l.length → L.getD j true = false) ∧ AgreeM l.toArray m L a' (puts a vs) ∧ Below W.heap.size W w) ∨ (∃ k, m < k ∧ k ≤ l.length ∧ (∀ j, j < l.length → (L.getD j true = true ↔ j < k)) ∧ wpList P l.toArray Q (l.drop k) a' w)
  have hset : ∀ (L : Array Bool) (i j : Nat), L.size = l.length → j < l.length → ((L.setIfInBounds i true).getD j true = true ↔ (j = i ∨ L.getD j true = true)) := by
    intro L i j hs hj
    by_cases e : i = j
    · subst e; simp [Array.getD_eq_getD_getElem?, hs, hj]
    · have : j ≠ i := fun h => e h.symm
      simp [Array.getD_eq_getD_getElem?, Array.getElem?_setIfInBounds_ne e, this]
  refine any_inv (Inv := Inv) (fun i o ho => (parted_at hp ho).1) ?_ ?_ _ _ _ _ (by simp) (left_le _ _) ?_
  · intro i o ho L a' w hL hLi hdep hI
    rw [hsz] at hL
    have hil : i < l.length := by have := (Array.getElem?_eq_some_iff.1 ho).1; simpa using this
    have hol : l[i]? = some o := by simpa using ho
    obtain ⟨_, _, _, htail⟩ := parted_at hp ho
    rcases hI with ⟨hnone, hag, hb⟩ | ⟨k, hmk, hkl, hk, hrun⟩
    · by_cases him : i < m
      · refine calm_step hp ho him hdep hag hb (hcalm o (List.mem_of_getElem? (i := i) (by rw [List.getElem?_take, if_pos him]; exact hol))) fun a'' w'' ha'' hb'' => .inl ⟨fun j hj hjl => ?_, ha'', hb.trans (hb''.mono hb.size)⟩
        have e : i ≠ j := by omega
        have := hnone j hj hjl
        simpa [Array.getD_eq_getD_getElem?, Array.getElem?_setIfInBounds_ne e] using this
      · -- the first of the rest
        have hmi : m ≤ i := by omega
        have hall : ∀ j, j < i → L.getD j true = true := fun j hj => by
          obtain ⟨e, he, rfl, hbd⟩ := htail hmi j hj
          exact hdep e he hbd
        have him2 : i = m := by
          rcases Nat.lt_or_ge m i with h | h
          · have := hall m h; rw [hnone m (Nat.le_refl _) (by omega)] at this; cases this
          · omega
        subst him2
        have hfin : a' = puts a vs := by
          have ht : a'.tmps = (puts a vs).tmps := Array.ext_getElem? fun t => hag.slot t fun j o' hj _ _ => hall j hj
          have hd := hag.defers
          cases a'; cases hq : puts a vs; simp_all
        subst hfin
        have hr := hrest w hb
        have hdrop : l.drop i = o :: l.drop (i + 1) := by
          rw [List.drop_eq_getElem_cons hil]; congr 1
          have := List.getElem?_eq_getElem hil; rw [hol] at this; exact (Option.some.inj this).symm
        rw [hdrop] at hr
        refine wpOp_mono (fun a'' w'' h'' => .inr ⟨i + 1, by omega, by omega, fun j hj => ?_, h''⟩) (wpOp_tail ho hr)
        rw [hset L i j hL hj]
        constructor
        · rintro (h | h)
          · omega
          · rcases Nat.lt_or_ge j i with h1 | h1
            · omega
            · rw [hnone j h1 hj] at h; cases h
        · intro h
          rcases Nat.lt_or_ge j i with h1 | h1
          · exact .inr (hall j h1)
          · exact .inl (by omega)
    · -- further on
      have hki : k ≤ i := by
        rcases Nat.lt_or_ge i k with h | h
        · have := (hk i hil).2 h; rw [hLi] at this; cases this
        · exact h
      have hall : ∀ j, j < i → L.getD j true = true := fun j hj => by
        obtain ⟨e, he, rfl, hbd⟩ := htail (by omega) j hj
        exact hdep e he hbd
      have hik : i = k := by
        rcases Nat.lt_or_ge k i with h | h
        · have := (hk k (by omega)).1 (hall k h); omega
        · omega
      subst hik
      have hdrop : l.drop i = o :: l.drop (i + 1) := by
        rw [List.drop_eq_getElem_cons hil]; congr 1
        have := List.getElem?_eq_getElem hil; rw [hol] at this; exact (Option.some.inj this).symm
      rw [hdrop] at hrun
      refine wpOp_mono (fun a'' w'' h'' => .inr ⟨i + 1, by omega, by omega, fun j hj => ?_, h''⟩) (wpOp_tail ho hrun)
      rw [hset L i j hL hj]
      constructor
      · rintro (h | h)
        · omega
        · have := (hk j hj).1 h; omega
      · intro h
        rcases Nat.lt_or_ge j i with h1 | h1
        · exact .inr (hall j h1)
        · exact .inl (by omega)
  · intro L a' w hL hall hI
    rw [hsz] at hall
    rcases hI with ⟨hnone, hag, hb⟩ | ⟨k, hmk, hkl, hk, hrun⟩
    · have hml : l.length ≤ m := by
        rcases Nat.lt_or_ge m l.length with h | h
        · have h1 := hnone m (Nat.le_refl _) h; rw [hall m h] at h1; cases h1
        · exact h
      have hfin : a' = puts a vs := by
        have ht : a'.tmps = (puts a vs).tmps := Array.ext_getElem? fun t => hag.slot t fun j o' _ hj _ => hall j (by have := (Array.getElem?_eq_some_iff.1 hj).1; simpa using this)
        have hd := hag.defers
        cases a'; cases hq : puts a vs; simp_all
      subst hfin
      have hr := hrest w hb
      rw [List.drop_of_length_le hml] at hr
      exact hr
    · have : k = l.length := by
        rcases Nat.lt_or_ge k l.length with h | h
        · have h1 := (hk k h).1 (hall k h); omega
        · omega
      subst this
      rw [List.drop_length] at hrun
      exact hrun
  · refine .inl ⟨fun j hj hjl => by simp [Array.getD_eq_getD_getElem?, hjl], ⟨(puts_defers vs a).symm, (puts_size vs a).symm, fun t ht => (puts_other t vs a fun p hp' he => ?_).symm⟩, (Below.refl _ _).drew⟩
    have h1 := List.all_eq_true.1 hin p hp'
    obtain ⟨j, hj, hb⟩ := List.any_eq_true.1 h1
    have hjm : j < m := List.mem_range.1 hj
    cases hoj : l.toArray[j]? with
    | none => rw [hoj] at hb; simp at hb
    | some oj =>
      rw [hoj] at hb
      have h2 := ht j oj hjm hoj (by simpa [he] using hb)
      have hjl : j < l.length := by have := (Array.getElem?_eq_some_iff.1 hoj).1; simpa using this
      simp [Array.getD_eq_getD_getElem?, hjl] at h2
/-- It yields a value in any world that holds the old blocks. -/
theorem calm_value {fin : Act} {W : World} {o : Oper} {v : Value} (hg : o.guard = none) (h : ∀ X, Below W.heap.size W X → (execOp fin.eval o).run P X = .ok (.value v) X) (hp : fin.put o.dst v = fin) : Calm P ops fin W o := by
  intro X hX
  rw [if_pos (by simp [Region.wanted, hg])]
  unfold Oper.wp; rw [h X hX]; exact ⟨hp, Below.refl _ _⟩
theorem calm_call {fin : Act} {W : World} {o : Oper} {f : FuncId} {args : Array Value} {v : Value} (hg : o.guard = none) (h : ∀ X, (execOp fin.eval o).run P X = .ok (.enter f args) X)
    (hc : ∀ X, Below W.heap.size W X → Calls P f args X fun e X' => e = .returned v ∧ Below X.heap.size X X') (hp : fin.put o.dst v = fin) : Calm P ops fin W o := by
  intro X hX
  rw [if_pos (by simp [Region.wanted, hg])]
  unfold Oper.wp; rw [h X]
  refine Calls.mono (hc X hX) fun e X' he => ?_
  obtain ⟨rfl, hb⟩ := he
  exact ⟨hp, hb⟩
theorem calm_not {fin : Act} {W : World} {o : Oper} (hg : Region.wanted o (yielded ops fin.tmps) = false) (hp : fin.put o.dst undef = fin) : Calm P ops fin W o := by
  intro X hX
  rw [if_neg (by simp [hg])]; exact hp
theorem calm_value_g {fin : Act} {W : World} {o : Oper} {v : Value} (hg : Region.wanted o (yielded ops fin.tmps) = true) (h : ∀ X, Below W.heap.size W X → (execOp fin.eval o).run P X = .ok (.value v) X) (hp : fin.put o.dst v = fin) : Calm P ops fin W o := by
  intro X hX
  rw [if_pos hg]
  unfold Oper.wp; rw [h X hX]; exact ⟨hp, Below.refl _ _⟩
theorem calm_call_g {fin : Act} {W : World} {o : Oper} {f : FuncId} {args : Array Value} {v : Value} (hg : Region.wanted o (yielded ops fin.tmps) = true) (h : ∀ X, (execOp fin.eval o).run P X = .ok (.enter f args) X)
    (hc : ∀ X, Below W.heap.size W X → Calls P f args X fun e X' => e = .returned v ∧ Below X.heap.size X X') (hp : fin.put o.dst v = fin) : Calm P ops fin W o := by
  intro X hX
  rw [if_pos hg]
  unfold Oper.wp; rw [h X]
  refine Calls.mono (hc X hX) fun e X' he => ?_
  obtain ⟨rfl, hb⟩ := he
  exact ⟨hp, hb⟩
theorem calm_nil {fin : Act} {W : World} : ∀ o ∈ ([] : List Oper), Calm P ops fin W o := fun _ h => nomatch h
theorem calm_cons {fin : Act} {W : World} {o : Oper} {l : List Oper} (h : Calm P ops fin W o) (hl : ∀ o ∈ l, Calm P ops fin W o) : ∀ o' ∈ o :: l, Calm P ops fin W o' := fun o' ho => by
  rcases List.mem_cons.1 ho with rfl | h'
  · exact h
  · exact hl o' h'
end
end Go.Proofs.YtidiojhefjhojaaGreat.Calm
end
section
namespace Go.Proofs.YtidiojhefjhojaaGreat.Calm
open Go Go.RowKit Go.Proofs.YtidiojhefjhojaaGreat.Reg
set_option linter.unusedVariables false
section
variable {P : Program} {ops : Array Oper}
/-- No other of the first m operations looks at slot d or fills it. -/
def solo (ops : Array Oper) (m ia d : Nat) : Bool :=
  (List.range m).all fun i => i == ia || match ops[i]? with
    | none => true
    | some o => !(o.looksAt ops).contains d && o.dst != some d
theorem solo_at {m ia d : Nat} (h : solo ops m ia d = true) {i : Nat} {o : Oper} (him : i < m) (hne : i ≠ ia) (ho : ops[i]? = some o) : d ∉ o.looksAt ops ∧ o.dst ≠ some d := by
  have h1 := List.all_eq_true.1 h i (List.mem_range.2 him)
  simp only [ho, beq_eq_false_iff_ne.2 hne, Bool.false_or, Bool.and_eq_true] at h1
  exact ⟨by simpa using h1.1, by simpa using h1.2⟩
def ptr (g : Nat) : Value := .pointer (some ⟨g, 0, none⟩)
theorem calm_put {fin : Act} {W : World} {o : Oper} {d : Nat} {u : Value} (hs : ∀ cs b, o.op ≠ .select cs b) (hl : d ∉ o.looksAt ops) (hd : o.dst ≠ some d) (h : Calm P ops fin W o) : Calm P ops (fin.put (some d) u) W o := by
  intro X hX
  have h1 := h X hX
  have hw : Region.wanted o (yielded ops (fin.put (some d) u).tmps) = Region.wanted o (yielded ops fin.tmps) := wanted_put o fin (some d) u (fun e he => by obtain rfl := Option.some.inj he; exact hl)
  have hex : execOp (fin.put (some d) u).eval o = execOp fin.eval o := execOp_put (ops := ops) o hs fin (some d) u (fun e he => by obtain rfl := Option.some.inj he; exact hl)
  have hput : ∀ v, fin.put o.dst v = fin → (fin.put (some d) u).put o.dst v = fin.put (some d) u := fun v hv => by
    rw [Act.put_comm fin u v (x := some d) (y := o.dst) (fun e he => by obtain rfl := Option.some.inj he; exact hd), hv]
  rw [hw]
  split
  · rename_i hw'
    rw [if_pos hw'] at h1
    unfold Oper.wp at *
    rw [hex]
    generalize (execOp fin.eval o).run P X = r at *
    cases r with
    | ok n w' =>
      cases n <;> simp only [Oper.upon] at h1 ⊢
      case value v => exact ⟨hput v h1.1, h1.2⟩
      case skip => exact ⟨hput _ h1.1, h1.2⟩
      case defer d' =>
        exfalso
        have h3 := congrArg Act.defers h1.1
        have h2 : (({ fin with defers := d' :: fin.defers } : Act).put o.dst undef).defers = d' :: fin.defers := by cases o.dst <;> rfl
        rw [h2] at h3
        have := congrArg List.length h3
        simp at this
      case enter f args =>
        refine Calls.mono h1 fun e w'' he => ?_
        cases e with
        | returned v => exact ⟨hput v he.1, he.2⟩
        | panicked c => exact he.elim
        | outgrown => obtain ⟨_, _, hf⟩ := he; exact hf.elim
      case row row args => exact Rows.mono h1 fun v w'' he => ⟨hput v he.1, he.2⟩
    | halt x w' =>
      cases x <;> simp only [Oper.upon] at h1 ⊢
  · rename_i hw'
    rw [if_neg hw'] at h1
    exact hput _ h1
theorem agree_other {m : Nat} {L : Array Bool} {a fin : Act} {d ia : Nat} {oa : Oper} (hoa : ops[ia]? = some oa) (him : ia < m) (hda : oa.dst = some d) (hL : L.getD ia true = false) {u u' : Value} (h : AgreeM ops m L a (fin.put (some d) u)) : AgreeM ops m L a (fin.put (some d) u') := by
  refine ⟨h.defers, by simpa [Act.put] using h.size, fun t ht => ?_⟩
  by_cases e : d = t
  · subst e; have := ht ia oa him hoa hda; rw [hL] at this; cases this
  · have h1 := h.slot t ht
    simpa [Act.put, Array.getElem?_setIfInBounds_ne e] using h1
/-- **Calm operations and one allocation in whatever order, then the rest in the text's.** -/
theorem region_alloc {l : List Oper} {id : Nat} {a fin : Act} {W : World} {Q : Exit → Act → World → Prop} (hm : P.follows .mixedOrders = true) (m ia d : Nat) (oa : Oper) (obj : Obj) (vs : List (Tmp × Value))
    (hp : parted l.toArray m = true) (hin : withinM l.toArray m vs = true) (hsolo : solo l.toArray m ia d = true) (hoa : l[ia]? = some oa) (him : ia < m) (hda : oa.dst = some d) (hga : oa.guard = none)
    (hrun : ∀ (b : Act) (X : World), (execOp b.eval oa).run P X = .ok (.value (ptr X.heap.size)) (X.alloc obj)) (hfin : puts a vs = fin)
    (hcalm : ∀ o ∈ (l.take m).eraseIdx ia, Calm P l.toArray fin W o)
    (hrest : ∀ g w, W.heap.size ≤ g → g < w.heap.size → Below W.heap.size W w → w.heap[g]? = some obj → wpList P l.toArray Q (l.drop m) (fin.put (some d) (ptr g)) w) : (Code.region id l.toArray true).wp P Q a W := by
  subst hfin
  have hsz : l.toArray.size = l.length := by simp
  have hoa' : l.toArray[ia]? = some oa := by simpa using hoa
  refine wp_region_any hm ?_
  let Inv : Array Bool → Act → World → Prop := fun L a' w =>
    ((∀ j, m ≤ j → j < l.length → L.getD j true = false) ∧ Below W.heap.size W w ∧ ∃ g, (L.getD ia true = true → W.heap.size ≤ g ∧ g < w.heap.size ∧ w.heap[g]? = some obj) ∧ AgreeM l.toArray m L a' ((puts a vs).put (some d) (ptr g))) ∨
    (∃ k, m < k ∧ k ≤ l.length ∧ (∀ j, j < l.length → (L.getD j true = true ↔ j < k)) ∧ wpList P l.toArray Q (l.drop k) a' w)
  have hset : ∀ (L : Array Bool) (i j : Nat), L.size = l.length → j < l.length → ((L.setIfInBounds i true).getD j true = true ↔ (j = i ∨ L.getD j true = true)) := by
    intro L i j hs hj
    by_cases e : i = j
    · subst e; simp [Array.getD_eq_getD_getElem?, hs, hj]
    · have : j ≠ i := fun h => e h.symm
      simp [Array.getD_eq_getD_getElem?, Array.getElem?_setIfInBounds_ne e, this]
  have hial : ia < l.length := by have := (List.getElem?_eq_some_iff.1 hoa).1; exact this
  refine any_inv (Inv := Inv) (fun i o ho => (parted_at hp ho).1) ?_ ?_ _ _ _ _ (by simp) (left_le _ _) ?_
  · intro i o ho L a' w hL hLi hdep hI
    rw [hsz] at hL
    have hil : i < l.length := by have := (Array.getElem?_eq_some_iff.1 ho).1; simpa using this
    have hol : l[i]? = some o := by simpa using ho
    obtain ⟨_, hsel, _, htail⟩ := parted_at hp ho
    rcases hI with ⟨hnone, hb, g, hg, hag⟩ | ⟨k, hmk, hkl, hk, hrun'⟩
    · by_cases him' : i < m
      · have hnone' : ∀ j, m ≤ j → j < l.length → (L.setIfInBounds i true).getD j true = false := fun j hj hjl => by
          have e : i ≠ j := by omega
          have := hnone j hj hjl
          simpa [Array.getD_eq_getD_getElem?, Array.getElem?_setIfInBounds_ne e] using this
        by_cases hia : i = ia
        · subst hia
          rw [hoa'] at ho; obtain rfl := Option.some.inj ho
          have hag' := agree_other hoa' him hda hLi (u' := ptr w.heap.size) hag
          unfold wpOp
          simp only [hoa']
          rw [if_pos (by simp [Region.wanted, hga])]
          refine .inl ?_
          unfold Oper.wp; rw [hrun a' w]
          refine .inl ⟨hnone', hb.alloc hb.size obj, w.heap.size, fun _ => ⟨hb.size, by simp, (MapKept.heap_alloc w obj).1⟩, ?_⟩
          refine agreeM_put hoa' hag' ?_
          rw [hda]; simp [Act.put]
        · obtain ⟨hl1, hl2⟩ := solo_at hsolo him' hia ho
          have hmem : o ∈ (l.take m).eraseIdx ia := by
            have h0 : (l.take m)[i]? = some o := by rw [List.getElem?_take, if_pos him']; exact hol
            rcases Nat.lt_or_ge i ia with h | h
            · exact List.mem_of_getElem? (i := i) (by rw [List.getElem?_eraseIdx, if_pos h]; exact h0)
            · have hlt : ia < i := by omega
              exact List.mem_of_getElem? (i := i - 1) (by rw [List.getElem?_eraseIdx, if_neg (by omega), show i - 1 + 1 = i by omega]; exact h0)
          refine calm_step hp ho him' hdep hag hb (calm_put hsel hl1 hl2 (hcalm o hmem)) fun a'' w'' ha'' hb'' => .inl ⟨hnone', hb.trans (hb''.mono hb.size), g, fun hLia => ?_, ha''⟩
          have hLia' : L.getD ia true = true := by
            have := (hset L i ia hL hial).1 hLia
            rcases this with h | h
            · exact absurd h.symm hia
            · exact h
          obtain ⟨h1, h2, h3⟩ := hg hLia'
          exact ⟨h1, Nat.lt_of_lt_of_le h2 hb''.size, by rw [hb''.block g h2]; exact h3⟩
      · -- the first of the rest
        have hmi : m ≤ i := by omega
        have hall : ∀ j, j < i → L.getD j true = true := fun j hj => by
          obtain ⟨e, he, rfl, hbd⟩ := htail hmi j hj
          exact hdep e he hbd
        have him2 : i = m := by
          rcases Nat.lt_or_ge m i with h | h
          · have := hall m h; rw [hnone m (Nat.le_refl _) (by omega)] at this; cases this
          · omega
        subst him2
        have hfin : a' = (puts a vs).put (some d) (ptr g) := by
          have ht : a'.tmps = ((puts a vs).put (some d) (ptr g)).tmps := Array.ext_getElem? fun t => hag.slot t fun j o' hj _ _ => hall j hj
          have hd := hag.defers
          cases a'; cases hq : (puts a vs).put (some d) (ptr g); simp_all
        subst hfin
        obtain ⟨h1, h2, h3⟩ := hg (hall ia him)
        have hr := hrest g w h1 h2 hb h3
        have hdrop : l.drop i = o :: l.drop (i + 1) := by
          rw [List.drop_eq_getElem_cons hil]; congr 1
          have := List.getElem?_eq_getElem hil; rw [hol] at this; exact (Option.some.inj this).symm
        rw [hdrop] at hr
        refine wpOp_mono (fun a'' w'' h'' => .inr ⟨i + 1, by omega, by omega, fun j hj => ?_, h''⟩) (wpOp_tail ho hr)
        rw [hset L i j hL hj]
        constructor
        · rintro (h | h)
          · omega
          · rcases Nat.lt_or_ge j i with h1 | h1
            · omega
            · rw [hnone j h1 hj] at h; cases h
        · intro h
          rcases Nat.lt_or_ge j i with h1 | h1
          · exact .inr (hall j h1)
          · exact .inl (by omega)
    · have hki : k ≤ i := by
        rcases Nat.lt_or_ge i k with h | h
        · have := (hk i hil).2 h; rw [hLi] at this; cases this
        · exact h
      have hall : ∀ j, j < i → L.getD j true = true := fun j hj => by
        obtain ⟨e, he, rfl, hbd⟩ := htail (by omega) j hj
        exact hdep e he hbd
      have hik : i = k := by
        rcases Nat.lt_or_ge k i with h | h
        · have := (hk k (by omega)).1 (hall k h); omega
        · omega
      subst hik
      have hdrop : l.drop i = o :: l.drop (i + 1) := by
        rw [List.drop_eq_getElem_cons hil]; congr 1
        have := List.getElem?_eq_getElem hil; rw [hol] at this; exact (Option.some.inj this).symm
      rw [hdrop] at hrun'
      refine wpOp_mono (fun a'' w'' h'' => .inr ⟨i + 1, by omega, by omega, fun j hj => ?_, h''⟩) (wpOp_tail ho hrun')
      rw [hset L i j hL hj]
      constructor
      · rintro (h | h)
        · omega
        · have := (hk j hj).1 h; omega
      · intro h
        rcases Nat.lt_or_ge j i with h1 | h1
        · exact .inr (hall j h1)
        · exact .inl (by omega)
  · intro L a' w hL hall hI
    rw [hsz] at hall
    rcases hI with ⟨hnone, hb, g, hg, hag⟩ | ⟨k, hmk, hkl, hk, hrun'⟩
    · have hml : l.length ≤ m := by
        rcases Nat.lt_or_ge m l.length with h | h
        · have h1 := hnone m (Nat.le_refl _) h; rw [hall m h] at h1; cases h1
        · exact h
      have hfin : a' = (puts a vs).put (some d) (ptr g) := by
        have ht : a'.tmps = ((puts a vs).put (some d) (ptr g)).tmps := Array.ext_getElem? fun t => hag.slot t fun j o' _ hj _ => hall j (by have := (Array.getElem?_eq_some_iff.1 hj).1; simpa using this)
        have hd := hag.defers
        cases a'; cases hq : (puts a vs).put (some d) (ptr g); simp_all
      subst hfin
      obtain ⟨h1, h2, h3⟩ := hg (hall ia hial)
      have hr := hrest g w h1 h2 hb h3
      rw [List.drop_of_length_le hml] at hr
      exact hr
    · have : k = l.length := by
        rcases Nat.lt_or_ge k l.length with h | h
        · have h1 := (hk k h).1 (hall k h); omega
        · omega
      subst this
      rw [List.drop_length] at hrun'
      exact hrun'
  · refine .inl ⟨fun j hj hjl => by simp [Array.getD_eq_getD_getElem?, hjl], (Below.refl _ _).drew, 0, fun h => by simp [Array.getD_eq_getD_getElem?, hial] at h, ⟨(puts_defers vs a).symm, by simpa [Act.put] using (puts_size vs a).symm, fun t ht => ?_⟩⟩
    by_cases e : d = t
    · subst e
      have := ht ia oa him hoa' hda
      simp [Array.getD_eq_getD_getElem?, hial] at this
    · have h0 : ((puts a vs).put (some d) (ptr 0)).tmps[t]? = (puts a vs).tmps[t]? := by simp [Act.put, Array.getElem?_setIfInBounds_ne e]
      rw [h0]
      refine (puts_other t vs a fun p hp' he => ?_).symm
      have h1 := List.all_eq_true.1 hin p hp'
      obtain ⟨j, hj, hb⟩ := List.any_eq_true.1 h1
      have hjm : j < m := List.mem_range.1 hj
      cases hoj : l.toArray[j]? with
      | none => rw [hoj] at hb; simp at hb
      | some oj =>
        rw [hoj] at hb
        have h2 := ht j oj hjm hoj (by simpa [he] using hb)
        have hjl : j < l.length := by have := (Array.getElem?_eq_some_iff.1 hoj).1; simpa using this
        simp [Array.getD_eq_getD_getElem?, hjl] at h2
end
end Go.Proofs.YtidiojhefjhojaaGreat.Calm
end
section
namespace Go.Proofs.YtidiojhefjhojaaGreat.Step
open Go Go.RowKit
set_option linter.unusedVariables false
set_option linter.unusedSimpArgs false
/-- A block that is known whole. -/
structure Blk (W : World) (g : Nat) (cs : Array Value) (T : TypeId) : Prop where mk :: (out : W.heap[g]? = some (.cells cs T (0, 0)))
/-- From W to W' only what S names may have been turned; new blocks may stand behind. -/
structure Mod (S : Nat → Prop) (W W' : World) : Prop where
  os : W'.os = W.os
  tape : W'.tape = W.tape
  output : W'.output = W.output
  size : W.heap.size ≤ W'.heap.size
  block : ∀ k, k < W.heap.size → ¬ S k → W'.heap[k]? = W.heap[k]?
def Nil : Nat → Prop := fun _ => False
def One (g : Nat) : Nat → Prop := fun k => k = g
theorem Mod.refl (S : Nat → Prop) (W : World) : Mod S W W := ⟨rfl, rfl, rfl, Nat.le_refl _, fun _ _ _ => rfl⟩
theorem Mod.trans {S : Nat → Prop} {a b c : World} (h : Mod S a b) (k : Mod S b c) : Mod S a c :=
  ⟨k.os.trans h.os, k.tape.trans h.tape, k.output.trans h.output, Nat.le_trans h.size k.size, fun i hi hs => (k.block i (Nat.lt_of_lt_of_le hi h.size) hs).trans (h.block i hi hs)⟩
theorem Mod.mono {S S' : Nat → Prop} {a b : World} (h : Mod S a b) (hs : ∀ k, k < a.heap.size → S k → S' k) : Mod S' a b := ⟨h.os, h.tape, h.output, h.size, fun i hi hn => h.block i hi fun hS => hn (hs i hi hS)⟩
/-- What is newer may be turned. -/
theorem Mod.trans_new {S S' : Nat → Prop} {a b c : World} (h : Mod S a b) (k : Mod S' b c) (hn : ∀ i, i < a.heap.size → S' i → S i) : Mod S a c :=
  ⟨k.os.trans h.os, k.tape.trans h.tape, k.output.trans h.output, Nat.le_trans h.size k.size, fun i hi hs => (k.block i (Nat.lt_of_lt_of_le hi h.size) fun hS => hs (hn i hi hS)).trans (h.block i hi hs)⟩
theorem Mod.of_below {W W' : World} (h : Below W.heap.size W W') (S : Nat → Prop) : Mod S W W' := ⟨h.os, h.tape, h.output, h.size, fun k hk _ => h.block k hk⟩
theorem Mod.below {W W' : World} (h : Mod Nil W W') : Below W.heap.size W W' := ⟨h.os, h.tape, h.output, h.size, fun k hk => h.block k hk id⟩
/-- What was turned is newer than the base. -/
theorem below_mod {B : Nat} {w W W' : World} {S : Nat → Prop} (h : Below B w W) (hB : B ≤ W.heap.size) (m : Mod S W W') (hs : ∀ k, k < W.heap.size → S k → B ≤ k) : Below B w W' :=
  ⟨m.os.trans h.os, m.tape.trans h.tape, m.output.trans h.output, Nat.le_trans h.size m.size, fun k hk => (m.block k (by omega) fun hS => by have := hs k (by omega) hS; omega).trans (h.block k hk)⟩
theorem below_one {w W W' : World} {g : Nat} (h : Below w.heap.size w W) (m : Mod (One g) W W') (hg : w.heap.size ≤ g) : Below w.heap.size w W' := below_mod h h.size m fun k _ e => by obtain rfl := e; exact hg
theorem below_below {w W W' : World} (h : Below w.heap.size w W) (k : Below W.heap.size W W') : Below w.heap.size w W' := h.trans (k.mono h.size)
theorem Blk.lt {W : World} {g : Nat} {cs : Array Value} {T : TypeId} (h : Blk W g cs T) : g < W.heap.size := (Array.getElem?_eq_some_iff.1 h.out).1
theorem Blk.mod {W W' : World} {g : Nat} {cs : Array Value} {T : TypeId} {S : Nat → Prop} (h : Blk W g cs T) (m : Mod S W W') (hs : ¬ S g) : Blk W' g cs T := ⟨(m.block g h.lt hs).trans h.out⟩
theorem Blk.one {W W' : World} {g g' : Nat} {cs : Array Value} {T : TypeId} (h : Blk W g cs T) (m : Mod (One g') W W') (hs : g ≠ g') : Blk W' g cs T := h.mod m hs
theorem Blk.below {W W' : World} {g : Nat} {cs : Array Value} {T : TypeId} (h : Blk W g cs T) (m : Below W.heap.size W W') : Blk W' g cs T := ⟨(m.block g h.lt).trans h.out⟩
theorem Blk.cell {W : World} {g : Nat} {cs : Array Value} {T : TypeId} (h : Blk W g cs T) (i : Nat) : W.cell? ⟨g, i, none⟩ = cs[i]? := cell_of_row W g i cs T (0, 0) h.out
theorem Blk.frozen {W : World} {g : Nat} {cs : Array Value} {T : TypeId} (h : Blk W g cs T) (i : Nat) : W.frozen? ⟨g, i, none⟩ = false := by simp [World.frozen?, h.out]
theorem Blk.inj {W : World} {g : Nat} {cs cs' : Array Value} {T T' : TypeId} (h : Blk W g cs T) (h' : Blk W g cs' T') : cs = cs' ∧ T = T' := by
  have := h.out.symm.trans h'.out
  simpa using this
theorem setRow_out (W : World) (g : Nat) (cs cs' : Array Value) (T : TypeId) (h : Blk W g cs T) : Blk (W.setRow g cs') g cs' T := ⟨setRow_heap W g cs cs' T (0, 0) h.out⟩
theorem setRow_mod (W : World) (g : Nat) (cs' : Array Value) : Mod (One g) W (W.setRow g cs') := by
  refine ⟨rfl, rfl, rfl, by simp [World.setRow], fun k hk hs => ?_⟩
  have : g ≠ k := fun e => hs e.symm
  simp [World.setRow, Array.getElem?_modify, this]
theorem setCell_out (W : World) (g i : Nat) (u : Value) (cs : Array Value) (T : TypeId) (h : Blk W g cs T) : Blk (W.setCell ⟨g, i, none⟩ u) g (cs.setIfInBounds i u) T := ⟨by simp [World.setCell, Array.getElem?_modify, h.out]⟩
theorem setCell_mod (W : World) (g i : Nat) (u : Value) : Mod (One g) W (W.setCell ⟨g, i, none⟩ u) := by
  refine ⟨rfl, rfl, rfl, by simp [World.setCell], fun k hk hs => ?_⟩
  have : g ≠ k := fun e => hs e.symm
  simp [World.setCell, Array.getElem?_modify, this]
theorem alloc_out (W : World) (cs : Array Value) (T : TypeId) : Blk (W.alloc (.cells cs T (0, 0))) W.heap.size cs T := ⟨(MapKept.heap_alloc W _).1⟩
theorem alloc_below (W : World) (o : Obj) : Below W.heap.size W (W.alloc o) := (Below.refl _ _).alloc (Nat.le_refl _) o
section
variable {P : Program} {ops : Array Oper} {rest : List Oper} {o : Oper} {a : Act} {W : World} {Q : Exit → Act → World → Prop}
/-- Is a type's variable one cell? -/
def plainT (P : Program) (t : TypeId) : Bool := (match P.underlying t with | some (.struct _) | some (.array _ _) | none => false | _ => true) && (P.info? t).map (·.size) == some 1
theorem run_load1 {t : TypeId} (ht : plainT P t = true) {ad : Addr} {v : Value} (hc : W.cell? ad = some v) : (Instr.loadAt t (.pointer (some ad))).run P W = .ok v W := by
  unfold plainT at ht
  simp only [Bool.and_eq_true] at ht
  obtain ⟨h1, _⟩ := ht
  cases hu : P.underlying t with
  | none => rw [hu] at h1; cases h1
  | some d =>
    rw [hu] at h1
    cases d <;> simp at h1 <;> simp [Instr.loadAt, Instr.sureAddr, loadVar, isAgg, run_underlying hu, hc, Result.andThen]
theorem run_store1 {t : TypeId} (ht : plainT P t = true) {ad : Addr} {u v : Value} (hv : v.oneCell' = true) (hc : W.cell? ad = some u) (hf : W.frozen? ad = false) : (Instr.storeAt t (.pointer (some ad)) v).run P W = .ok () (W.setCell ad v) := by
  unfold plainT at ht
  simp only [Bool.and_eq_true, beq_iff_eq] at ht
  obtain ⟨_, h2⟩ := ht
  cases hi : P.info? t with
  | none => rw [hi] at h2; cases h2
  | some i =>
    rw [hi] at h2
    have h3 : i.size = 1 := by simpa using h2
    have hcells : v.cells = #[v] := by cases v <;> first | rfl | simp [Value.oneCell'] at hv
    have hadd : ad.add 0 = ad := by unfold Addr.add; split <;> simp_all
    simp [Instr.storeAt, Instr.sureAddr, storeVar, sizeOf, typeInfo, hi, h3, hcells, storeCells, run_store P W ad v _ hv, hadd, hc, hf, Result.andThen]
theorem gate_alloc {t : TypeId} (_ : o.op = .alloc t) (h : wpList P ops Q (o :: rest) a W) : wpList P ops Q (o :: rest) a W := h
theorem gate_box {t : TypeId} {x : Operand} (_ : o.op = .box t x) (h : wpList P ops Q (o :: rest) a W) : wpList P ops Q (o :: rest) a W := h
theorem gate_build {t : TypeId} {n : Nat} {ps : Array (Nat × Operand)} (_ : o.op = .buildSlice t n ps) (h : wpList P ops Q (o :: rest) a W) : wpList P ops Q (o :: rest) a W := h
theorem gate_load {t : TypeId} {x : Operand} (_ : o.op = .load t x) (h : wpList P ops Q (o :: rest) a W) : wpList P ops Q (o :: rest) a W := h
theorem gate_store {t : TypeId} {x y : Operand} (_ : o.op = .store t x y) (h : wpList P ops Q (o :: rest) a W) : wpList P ops Q (o :: rest) a W := h
theorem gate_lookup {t : TypeId} {x y : Operand} {b : Bool} (_ : o.op = .lookup t x y b) (h : wpList P ops Q (o :: rest) a W) : wpList P ops Q (o :: rest) a W := h
/-- A value, in a world that stays. -/
theorem value {v : Value} (hg : o.guard = none) (hr : (execOp a.eval o).run P W = .ok (.value v) W) (h : wpList P ops Q rest (a.put o.dst v) W) : wpList P ops Q (o :: rest) a W := by
  refine wpList_plain hg fun K hK => ?_
  unfold Oper.wp; rw [hr]; exact hK _ _ h
/-- A variable is laid (alloc, box): a new block. -/
theorem fresh {cs : Array Value} {T : TypeId} (hg : o.guard = none) (hr : (execOp a.eval o).run P W = .ok (.value (.pointer (some ⟨W.heap.size, 0, none⟩))) (W.alloc (.cells cs T (0, 0))))
    (h : ∀ g W', Blk W' g cs T → W.heap.size ≤ g → Below W.heap.size W W' → wpList P ops Q rest (a.put o.dst (.pointer (some ⟨g, 0, none⟩))) W') : wpList P ops Q (o :: rest) a W := by
  refine wpList_plain hg fun K hK => ?_
  unfold Oper.wp; rw [hr]; exact hK _ _ (h _ _ (alloc_out _ _ _) (Nat.le_refl _) (alloc_below _ _))
/-- A variable is laid, by what alloc comes to. -/
theorem freshAlloc {t : TypeId} {cs : Array Value} (hg : o.guard = none) (ho : o.op = .alloc t) (hr : ∀ W, (Instr.alloc t true (.tuple #[])).run P W = .ok (.pointer (some ⟨W.heap.size, 0, none⟩)) (W.alloc (.cells cs t (0, 0))))
    (h : ∀ g W', Blk W' g cs t → W.heap.size ≤ g → Below W.heap.size W W' → wpList P ops Q rest (a.put o.dst (.pointer (some ⟨g, 0, none⟩))) W') : wpList P ops Q (o :: rest) a W :=
  fresh hg (by simp [execOp, ho, hr W, Result.andThen]) h
/-- A slice is laid out. -/
theorem freshSlice {cs : Array Value} {T : TypeId} {n m : Nat} (hg : o.guard = none) (hr : (execOp a.eval o).run P W = .ok (.value (.slice (some ⟨W.heap.size, 0, none⟩) n m)) (W.alloc (.cells cs T (0, 0))))
    (h : ∀ g W', Blk W' g cs T → W.heap.size ≤ g → Below W.heap.size W W' → wpList P ops Q rest (a.put o.dst (.slice (some ⟨g, 0, none⟩) n m)) W') : wpList P ops Q (o :: rest) a W := by
  refine wpList_plain hg fun K hK => ?_
  unfold Oper.wp; rw [hr]; exact hK _ _ (h _ _ (alloc_out _ _ _) (Nat.le_refl _) (alloc_below _ _))
theorem madeCells_one (z : Value) (n : Nat) : madeCells #[z] n = Array.replicate n z := by
  apply Array.ext (by simp [madeCells])
  intro i h1 h2
  simp [madeCells, Nat.mod_one]
/-- A slice is made, of elements of one cell. -/
theorem make {t e : TypeId} {z : Value} {n b : Nat} {x y : Operand} {k k2 : IntKind} (hg : o.guard = none) (ho : o.op = .makeSlice t x y) (hx : a.eval x = .int k n) (hy : a.eval y = .int k2 n) (ht : P.underlying t = some (.slice e))
    (hi : (P.info? e).map (fun i => (i.size, i.bytes, i.zero)) = some (1, b, some z)) (hz : z.cells = #[z]) (hb : b * n ≤ 281474976710656) (hn : n ≤ 9223372036854775807)
    (h : ∀ g W', Blk W' g (Array.replicate n z) e → W.heap.size ≤ g → Below W.heap.size W W' → wpList P ops Q rest (a.put o.dst (.slice (some ⟨g, 0, none⟩) n n)) W') : wpList P ops Q (o :: rest) a W := by
  cases hi' : P.info? e with
  | none => rw [hi'] at hi; cases hi
  | some i =>
    rw [hi'] at hi
    simp only [Option.map_some, Option.some.injEq, Prod.mk.injEq] at hi
    obtain ⟨h1, h2, h3⟩ := hi
    have hb' : (i.bytes : Int) * (n : Int) ≤ 281474976710656 := by
      rw [h2]
      have h : ((b * n : Nat) : Int) ≤ 281474976710656 := by omega
      rwa [Int.natCast_mul] at h
    have hr := run_make (P := P) W t e i z ht hi' h3 k k2 n n (by omega) (Int.le_refl _) hb' (by omega)
    simp only [Int.toNat_natCast, h1, Nat.mul_one, hz, madeCells_one] at hr
    refine freshSlice (cs := Array.replicate n z) (T := e) hg ?_ h
    simp [execOp, ho, hx, hy, hr, Result.andThen]
/-- A cell is read. -/
theorem load {t : TypeId} {x : Operand} {g i : Nat} {cs : Array Value} {T : TypeId} {v : Value} (hB : Blk W g cs T) (hg : o.guard = none) (ho : o.op = .load t x) (hx : a.eval x = .pointer (some ⟨g, i, none⟩)) (ht : plainT P t = true) (hv : cs[i]? = some v)
    (h : wpList P ops Q rest (a.put o.dst v) W) : wpList P ops Q (o :: rest) a W := by
  refine value hg ?_ h
  have := run_load1 (P := P) ht ((hB.cell i).trans hv)
  simp [execOp, ho, hx, this, Result.andThen]
/-- A variable of several cells is read. -/
theorem loadAll {t : TypeId} {x : Operand} {g : Nat} {cs : Array Value} {T : TypeId} {d : TypeDesc} (hB : Blk W g cs T) (hg : o.guard = none) (ho : o.op = .load t x) (hx : a.eval x = .pointer (some ⟨g, 0, none⟩)) (hu : P.underlying t = some d)
    (hd : (match d with | .struct _ | .array _ _ => true | _ => false) = true) (hi : (P.info? t).map (·.size) = some cs.size) (h : wpList P ops Q rest (a.put o.dst (.agg cs)) W) : wpList P ops Q (o :: rest) a W :=
  wpList_load_row hg t x ho g hx T cs (0, 0) d hB.out hu hd hi h
/-- A cell is written. -/
theorem store {t : TypeId} {x y : Operand} {g i : Nat} {cs : Array Value} {T : TypeId} {v : Value} (hB : Blk W g cs T) (hg : o.guard = none) (ho : o.op = .store t x y) (hn : o.dst = none) (hx : a.eval x = .pointer (some ⟨g, i, none⟩)) (hy : a.eval y = v) (ht : plainT P t = true) (hv : v.oneCell' = true) (hi' : Nat.blt i cs.size = true)
    (h : ∀ W', Blk W' g (cs.setIfInBounds i v) T → Mod (One g) W W' → wpList P ops Q rest a W') : wpList P ops Q (o :: rest) a W := by
  have hi : i < cs.size := Nat.le_of_ble_eq_true hi'
  refine wpList_plain hg fun K hK => ?_
  have := run_store1 (P := P) ht hv ((hB.cell i).trans (Array.getElem?_eq_getElem hi)) (hB.frozen i)
  unfold Oper.wp
  simp [execOp, ho, hx, hy, this, Result.andThen]
  simp only [Oper.upon, hn, Act.put]
  exact hK _ _ (h _ (setCell_out _ _ _ _ _ _ hB) (setCell_mod _ _ _ _))
/-- A variable of several cells is written whole. -/
theorem storeAll {t : TypeId} {x y : Operand} {g : Nat} {cs vs : Array Value} {T : TypeId} (hB : Blk W g cs T) (hg : o.guard = none) (ho : o.op = .store t x y) (hn : o.dst = none) (hx : a.eval x = .pointer (some ⟨g, 0, none⟩)) (hy : a.eval y = .agg vs) (hi : (P.info? t).map (·.size) = some vs.size)
    (hs : cs.size = vs.size) (h1 : vs.toList.all (·.oneCell') = true) (h : ∀ W', Blk W' g vs T → Mod (One g) W W' → wpList P ops Q rest a W') : wpList P ops Q (o :: rest) a W := by
  refine wpList_plain hg fun K hK => ?_
  have hrun := run_storeVar_row (P := P) W g T t cs vs hB.out hi hs (by rw [← Array.all_toList]; exact h1)
  unfold Oper.wp
  simp [execOp, ho, hx, hy, Instr.storeAt, Instr.sureAddr, hrun, Result.andThen]
  simp only [Oper.upon, hn, Act.put]
  exact hK _ _ (h _ (setRow_out _ _ _ _ _ hB) (setRow_mod _ _ _))
end
end Go.Proofs.YtidiojhefjhojaaGreat.Step
end
section
namespace Go.Proofs.YtidiojhefjhojaaGreat.Hart
open Go Go.RowKit Go.Proofs.YtidiojhefjhojaaGreat.Step
set_option linter.unusedVariables false
set_option linter.unusedSimpArgs false
set_option maxRecDepth 100000
/-- A hart's fields. -/
structure Hrt where
  x : Nat → Int
  pc : Int
  user : Bool
  on : Bool
  spie : Bool
  spp : Bool
  sum : Bool
  mxr : Bool
  rsv : Bool
  stvec : Int
  sscr : Int
  sepc : Int
  scause : Int
  stval : Int
  sie : Int
  sip : Int
  satp : Int
  resv : Int
def hc (h : Hrt) : Array Value := #[.int .u64 (h.x 0), .int .u64 (h.x 1), .int .u64 (h.x 2), .int .u64 (h.x 3), .int .u64 (h.x 4), .int .u64 (h.x 5), .int .u64 (h.x 6), .int .u64 (h.x 7), .int .u64 (h.x 8), .int .u64 (h.x 9), .int .u64 (h.x 10), .int .u64 (h.x 11), .int .u64 (h.x 12), .int .u64 (h.x 13), .int .u64 (h.x 14), .int .u64 (h.x 15), .int .u64 (h.x 16), .int .u64 (h.x 17), .int .u64 (h.x 18), .int .u64 (h.x 19), .int .u64 (h.x 20), .int .u64 (h.x 21), .int .u64 (h.x 22), .int .u64 (h.x 23), .int .u64 (h.x 24), .int .u64 (h.x 25), .int .u64 (h.x 26), .int .u64 (h.x 27), .int .u64 (h.x 28), .int .u64 (h.x 29), .int .u64 (h.x 30), .int .u64 (h.x 31), .int .u64 h.pc, .bool h.user, .bool h.on, .bool h.spie, .bool h.spp, .bool h.sum, .bool h.mxr, .bool h.rsv, .int .u64 h.stvec, .int .u64 h.sscr, .int .u64 h.sepc, .int .u64 h.scause, .int .u64 h.stval, .int .u64 h.sie, .int .u64 h.sip, .int .u64 h.satp, .int .u64 h.resv]
def xup (x : Nat → Int) (i : Nat) (v : Int) : Nat → Int := fun k => if k = i then v else x k
theorem hc_size (h : Hrt) : (hc h).size = 49 := rfl
theorem hc_all (h : Hrt) : (hc h).toList.all (·.oneCell') = true := rfl
theorem set_pc (h : Hrt) (v : Int) : (hc h).setIfInBounds 32 (.int .u64 v) = hc { h with pc := v } := rfl
theorem set_user (h : Hrt) (v : Bool) : (hc h).setIfInBounds 33 (.bool v) = hc { h with user := v } := rfl
theorem set_on (h : Hrt) (v : Bool) : (hc h).setIfInBounds 34 (.bool v) = hc { h with on := v } := rfl
theorem set_spie (h : Hrt) (v : Bool) : (hc h).setIfInBounds 35 (.bool v) = hc { h with spie := v } := rfl
theorem set_spp (h : Hrt) (v : Bool) : (hc h).setIfInBounds 36 (.bool v) = hc { h with spp := v } := rfl
theorem set_sum (h : Hrt) (v : Bool) : (hc h).setIfInBounds 37 (.bool v) = hc { h with sum := v } := rfl
theorem set_mxr (h : Hrt) (v : Bool) : (hc h).setIfInBounds 38 (.bool v) = hc { h with mxr := v } := rfl
theorem set_rsv (h : Hrt) (v : Bool) : (hc h).setIfInBounds 39 (.bool v) = hc { h with rsv := v } := rfl
theorem set_stvec (h : Hrt) (v : Int) : (hc h).setIfInBounds 40 (.int .u64 v) = hc { h with stvec := v } := rfl
theorem set_sscr (h : Hrt) (v : Int) : (hc h).setIfInBounds 41 (.int .u64 v) = hc { h with sscr := v } := rfl
theorem set_sepc (h : Hrt) (v : Int) : (hc h).setIfInBounds 42 (.int .u64 v) = hc { h with sepc := v } := rfl
theorem set_scause (h : Hrt) (v : Int) : (hc h).setIfInBounds 43 (.int .u64 v) = hc { h with scause := v } := rfl
theorem set_stval (h : Hrt) (v : Int) : (hc h).setIfInBounds 44 (.int .u64 v) = hc { h with stval := v } := rfl
theorem set_sie (h : Hrt) (v : Int) : (hc h).setIfInBounds 45 (.int .u64 v) = hc { h with sie := v } := rfl
theorem set_sip (h : Hrt) (v : Int) : (hc h).setIfInBounds 46 (.int .u64 v) = hc { h with sip := v } := rfl
theorem set_satp (h : Hrt) (v : Int) : (hc h).setIfInBounds 47 (.int .u64 v) = hc { h with satp := v } := rfl
theorem set_resv (h : Hrt) (v : Int) : (hc h).setIfInBounds 48 (.int .u64 v) = hc { h with resv := v } := rfl
theorem hc_x (h : Hrt) {i : Nat} (hi : i < 32) : (hc h)[i]? = some (.int .u64 (h.x i)) := by
  obtain h1 | h1 | h1 | h1 | h1 | h1 | h1 | h1 | h1 | h1 | h1 | h1 | h1 | h1 | h1 | h1 | h1 | h1 | h1 | h1 | h1 | h1 | h1 | h1 | h1 | h1 | h1 | h1 | h1 | h1 | h1 | h1 : i = 0 ∨ i = 1 ∨ i = 2 ∨ i = 3 ∨ i = 4 ∨ i = 5 ∨ i = 6 ∨ i = 7 ∨ i = 8 ∨ i = 9 ∨ i = 10 ∨ i = 11 ∨ i = 12 ∨ i = 13 ∨ i = 14 ∨ i = 15 ∨ i = 16 ∨ i = 17 ∨ i = 18 ∨ i = 19 ∨ i = 20 ∨ i = 21 ∨ i = 22 ∨ i = 23 ∨ i = 24 ∨ i = 25 ∨ i = 26 ∨ i = 27 ∨ i = 28 ∨ i = 29 ∨ i = 30 ∨ i = 31 := by omega
  all_goals (subst h1; rfl)
theorem set_x (h : Hrt) {i : Nat} (hi : i < 32) (v : Int) : (hc h).setIfInBounds i (.int .u64 v) = hc { h with x := xup h.x i v } := by
  obtain h1 | h1 | h1 | h1 | h1 | h1 | h1 | h1 | h1 | h1 | h1 | h1 | h1 | h1 | h1 | h1 | h1 | h1 | h1 | h1 | h1 | h1 | h1 | h1 | h1 | h1 | h1 | h1 | h1 | h1 | h1 | h1 : i = 0 ∨ i = 1 ∨ i = 2 ∨ i = 3 ∨ i = 4 ∨ i = 5 ∨ i = 6 ∨ i = 7 ∨ i = 8 ∨ i = 9 ∨ i = 10 ∨ i = 11 ∨ i = 12 ∨ i = 13 ∨ i = 14 ∨ i = 15 ∨ i = 16 ∨ i = 17 ∨ i = 18 ∨ i = 19 ∨ i = 20 ∨ i = 21 ∨ i = 22 ∨ i = 23 ∨ i = 24 ∨ i = 25 ∨ i = 26 ∨ i = 27 ∨ i = 28 ∨ i = 29 ∨ i = 30 ∨ i = 31 := by omega
  all_goals (subst h1; rfl)
theorem set_x0 (h : Hrt) (v : Int) : (hc h).setIfInBounds 0 (.int .u64 v) = hc { h with x := xup h.x 0 v } := set_x h (by decide) v
end Go.Proofs.YtidiojhefjhojaaGreat.Hart
end
section
namespace Go.Proofs.YtidiojhefjhojaaGreat.Hart
open Go Go.RowKit
set_option linter.unusedVariables false
set_option linter.unusedSimpArgs false
theorem big_bit {a i : Nat} (h : a < 18446744073709551616) (hi : ¬ i < 64) : a.testBit i = false :=
  Nat.testBit_lt_two_pow (Nat.lt_of_lt_of_le h (Nat.pow_le_pow_right (n := 2) (i := 64) (by decide) (by omega)))
theorem an1 (a : Nat) (h : a < 18446744073709551616) : a &&& 18446744073709551614 = a / 2 * 2 := by
  apply Nat.eq_of_testBit_eq
  intro i
  have e : (18446744073709551614 : Nat) = 2 ^ 64 - (1 + 1) := by decide
  rw [Nat.testBit_and, e, Nat.testBit_two_pow_sub_succ (by decide), show a / 2 * 2 = (a / 2 ^ 1) * 2 ^ 1 by simp, Nat.testBit_mul_two_pow, Nat.testBit_div_two_pow]
  by_cases h0 : i = 0
  · subst h0; simp
  · have h1 : 1 ≤ i := by omega
    have h2 : (1 : Nat).testBit i = false := by
      rw [show (1 : Nat) = 2 ^ 0 by decide, Nat.testBit_two_pow]
      exact decide_eq_false (by omega)
    rw [h2, show i - 1 + 1 = i by omega]
    by_cases hi : i < 64
    · simp [hi, h1]
    · simp [big_bit h hi]
theorem an2 (a : Nat) (h : a < 18446744073709551616) : a &&& 18446744073709551613 = a / 4 * 4 + a % 2 := by
  have h2 : (a / 4 * 4) ||| (a % 2) = a / 4 * 4 + a % 2 := by
    have := Nat.two_pow_add_eq_or_of_lt (i := 2) (b := a % 2) (by omega) (a / 4)
    rw [show 2 ^ 2 * (a / 4) = a / 4 * 4 by omega] at this
    exact this.symm
  rw [← h2]
  apply Nat.eq_of_testBit_eq
  intro i
  have e : (18446744073709551613 : Nat) = 2 ^ 64 - (2 + 1) := by decide
  rw [Nat.testBit_and, e, Nat.testBit_two_pow_sub_succ (by decide), Nat.testBit_or, show a / 4 * 4 = (a / 2 ^ 2) * 2 ^ 2 by simp, Nat.testBit_mul_two_pow, Nat.testBit_div_two_pow, show a % 2 = a % 2 ^ 1 by simp, Nat.testBit_mod_two_pow, show (2 : Nat).testBit i = (2 ^ 1).testBit i by rfl, Nat.testBit_two_pow]
  by_cases h0 : i = 0
  · subst h0; simp
  by_cases h1 : i = 1
  · subst h1; simp
  have h3 : 2 ≤ i := by omega
  rw [show i - 2 + 2 = i by omega]
  by_cases hi : i < 64
  · simp [hi, h3, show ¬ i < 1 by omega, show ¬ 1 = i by omega]
  · simp [big_bit h hi, show ¬ i < 1 by omega]
/-- Sixty-four bits. -/
structure U64 (v : Int) : Prop where mk :: (out : 0 ≤ v ∧ v < 18446744073709551616)
theorem u_an1 {v : Int} (h : U64 v) : bits .andNot .u64 v 1 = v / 2 * 2 := by
  obtain ⟨n, rfl⟩ := Int.eq_ofNat_of_zero_le h.out.1
  have := h.out
  have e := u64_andNot_nat n 1 (by omega) (by decide)
  rw [an1 n (by omega)] at e
  exact e.trans (by omega)
theorem u_an2 {v : Int} (h : U64 v) : bits .andNot .u64 v 2 = v / 4 * 4 + v % 2 := by
  obtain ⟨n, rfl⟩ := Int.eq_ofNat_of_zero_le h.out.1
  have := h.out
  have e := u64_andNot_nat n 2 (by omega) (by decide)
  rw [an2 n (by omega)] at e
  exact e.trans (by omega)
end Go.Proofs.YtidiojhefjhojaaGreat.Hart
end
section
namespace Go.Proofs.YtidiojhefjhojaaGreat.Enc
open Go Go.RowKit
set_option linter.unusedVariables false
set_option linter.unusedSimpArgs false
set_option maxRecDepth 100000
/-- The field [h:l] of a word, and a number of n bits with its sign. -/
def fd (a : Int) (h l : Nat) : Int := a / (2 ^ l : Nat) % (2 ^ (h - l + 1) : Nat)
def sx (n : Nat) (v : Int) : Int := if v < (2 ^ (n - 1) : Nat) then v else v - (2 ^ n : Nat)
structure W32 (a : Int) : Prop where mk :: (out : 0 ≤ a ∧ a < 4294967296)
theorem fd_bd (a : Int) (h l : Nat) : 0 ≤ fd a h l ∧ fd a h l < (2 ^ (h - l + 1) : Nat) := by
  have hp : (0 : Int) < (2 ^ (h - l + 1) : Nat) := by exact_mod_cast Nat.two_pow_pos _
  exact ⟨Int.emod_nonneg _ (by omega), Int.emod_lt_of_pos _ hp⟩
theorem ofInt_i64 (a : Nat) (ha : a < 9223372036854775808) : (BitVec.ofInt 64 (a : Int)).toNat = a := by
  rw [BitVec.ofInt_natCast, BitVec.toNat_ofNat]; exact Nat.mod_eq_of_lt (by omega)
theorem i64_and_nat (a b : Nat) (ha : a < 9223372036854775808) (hb : b < 9223372036854775808) : bits .and .i64 (a : Int) (b : Int) = ((a &&& b : Nat) : Int) := by
  have hx : a &&& b < 2 ^ 63 := Nat.and_lt_two_pow _ (by omega)
  show IntKind.i64.wrap ((BitVec.ofInt 64 (a : Int) &&& BitVec.ofInt 64 (b : Int)).toNat : Int) = _
  rw [BitVec.toNat_and, ofInt_i64 a ha, ofInt_i64 b hb, IntWalk.i64_in _ (by omega)]
theorem i64_or_nat (a b : Nat) (ha : a < 9223372036854775808) (hb : b < 9223372036854775808) : bits .or .i64 (a : Int) (b : Int) = ((a ||| b : Nat) : Int) := by
  have hx : a ||| b < 2 ^ 63 := Nat.or_lt_two_pow (by omega) (by omega)
  show IntKind.i64.wrap ((BitVec.ofInt 64 (a : Int) ||| BitVec.ofInt 64 (b : Int)).toNat : Int) = _
  rw [BitVec.toNat_or, ofInt_i64 a ha, ofInt_i64 b hb, IntWalk.i64_in _ (by omega)]
theorem i64_mask {x : Int} (s : Nat) (h : 0 ≤ x ∧ x < 9223372036854775808) (hs : s < 63) : bits .and .i64 x ((2 ^ s - 1 : Nat) : Int) = x % (2 ^ s : Nat) := by
  have hp : 2 ^ s < 2 ^ 63 := Nat.pow_lt_pow_right (by decide) hs
  obtain ⟨n, rfl⟩ := Int.eq_ofNat_of_zero_le h.1
  rw [i64_and_nat _ _ (by omega) (by omega), Nat.and_two_pow_sub_one_eq_mod]; rfl
theorem nat_or_add (s A B : Nat) (hd : A % 2 ^ s = 0) (hb : B < 2 ^ s) : A ||| B = A + B := by
  have hA : A = 2 ^ s * (A / 2 ^ s) := by have := Nat.div_add_mod A (2 ^ s); omega
  rw [hA]
  exact (Nat.two_pow_add_eq_or_of_lt hb _).symm
theorem i64_or {a b : Int} (s : Nat) (ha : 0 ≤ a ∧ a < 9223372036854775808) (hd : a % (2 ^ s : Nat) = 0) (hb : 0 ≤ b ∧ b < (2 ^ s : Nat)) (hb2 : b < 9223372036854775808) : bits .or .i64 a b = a + b := by
  obtain ⟨A, rfl⟩ := Int.eq_ofNat_of_zero_le ha.1
  obtain ⟨B, rfl⟩ := Int.eq_ofNat_of_zero_le hb.1
  rw [i64_or_nat _ _ (by omega) (by omega), nat_or_add s A B (by omega) (by omega)]; omega
theorem i64_orp {a b : Int} (s : Nat) (p : Int) (hp : p = (2 ^ s : Nat)) (ha : 0 ≤ a ∧ a < 9223372036854775808) (hd : a % p = 0) (hb : 0 ≤ b ∧ b < p) (hb2 : b < 9223372036854775808) : bits .or .i64 a b = a + b := by
  subst hp; exact i64_or s ha hd hb hb2
theorem u32_or_ {a b : Int} (s : Nat) (ha : 0 ≤ a ∧ a < 4294967296) (hd : a % (2 ^ s : Nat) = 0) (hb : 0 ≤ b ∧ b < (2 ^ s : Nat)) (hb2 : b < 4294967296) : bits .or .u32 a b = a + b := by
  obtain ⟨A, rfl⟩ := Int.eq_ofNat_of_zero_le ha.1
  obtain ⟨B, rfl⟩ := Int.eq_ofNat_of_zero_le hb.1
  rw [u32_or_nat _ _ (by omega) (by omega), nat_or_add s A B (by omega) (by omega)]; omega
theorem pow_nat (k : Nat) : ((2 : Int) ^ k) = ((2 ^ k : Nat) : Int) := (Int.natCast_pow 2 k).symm
theorem mask_v (q : Int) (n : Nat) (hq : 0 ≤ q ∧ q < 4294967296) (hn : n ≤ 32) : bits .and .i64 (wrap64 q) (wrap64 (wrap64 (2 ^ n) - 1)) = q % (2 ^ n : Nat) := by
  have hp : 2 ^ n ≤ 4294967296 := Nat.pow_le_pow_right (n := 2) (j := 32) (by decide) hn
  have hp0 := Nat.two_pow_pos n
  have w1 : wrap64 q = q := by unfold wrap64; omega
  have w2 : wrap64 ((2 ^ n : Nat) : Int) = ((2 ^ n : Nat) : Int) := by generalize 2 ^ n = p at *; unfold wrap64; omega
  have w3 : wrap64 (((2 ^ n : Nat) : Int) - 1) = ((2 ^ n - 1 : Nat) : Int) := by generalize 2 ^ n = p at *; unfold wrap64; omega
  rw [pow_nat, w1, w2, w3]
  exact i64_mask n ⟨hq.1, by omega⟩ (by omega)
theorem bits_any (a z1 z2 : Int) (h l : Nat) (ha : W32 a) (hz1 : z1 = h) (hz2 : z2 = l) (hh : h ≤ 31) (hl : l ≤ h) (w : World) :
    Calls Tryz.prog 116 #[.int .u32 a, .int .i64 z1, .int .i64 z2] w fun e w' => e = .returned (.int .i64 (fd a h l)) ∧ ∃ k, w' = w.drewN k := by
  subst hz1; subst hz2
  have hv : bits .and .i64 (wrap64 (a / 2 ^ l)) (wrap64 (wrap64 (2 ^ (h - l + 1)) - 1)) = fd a h l := by
    rw [mask_v (a / 2 ^ l) (h - l + 1) ⟨Int.ediv_nonneg ha.out.1 (Int.le_of_lt (Int.pow_pos (by decide))), Int.lt_of_le_of_lt (Int.ediv_le_self _ ha.out.1) ha.out.2⟩ (by omega), pow_nat]; rfl
  go_enter Tryz.func116, Tryz.ntmps116
  go_wp2
  go_quiet (fail)
  go_wp2
  go_ret
  exact ⟨rfl, _, rfl⟩
theorem signed_v (v : Int) (n : Nat) (h1 : 1 ≤ n) (hn : n ≤ 32) (hv : 0 ≤ v ∧ v < (2 ^ n : Nat)) : wrap64 (v * 2 ^ (64 - n)) / 2 ^ (64 - n) = sx n v := by
  obtain ⟨m, rfl⟩ : ∃ m, n = m + 1 := ⟨n - 1, by omega⟩
  have e0 : ((2 : Int) ^ (64 - (m + 1))) = ((2 ^ (63 - m) : Nat) : Int) := by rw [show 64 - (m + 1) = 63 - m by omega]; exact pow_nat _
  have hm : 2 ^ m * 2 ^ (63 - m) = 9223372036854775808 := by rw [← Nat.pow_add, show m + (63 - m) = 63 by omega]
  have hs : 2 ^ (m + 1) = 2 * 2 ^ m := by rw [Nat.pow_succ]; omega
  have hm' : ((2 ^ m : Nat) : Int) * ((2 ^ (63 - m) : Nat) : Int) = 9223372036854775808 := (Int.natCast_mul _ _).symm.trans (congrArg Int.ofNat hm)
  have hp0 := Nat.two_pow_pos (63 - m)
  rw [e0]
  unfold sx
  simp only [Nat.add_sub_cancel]
  rw [hs] at hv ⊢
  generalize (2 ^ m : Nat) = p at *
  generalize (2 ^ (63 - m) : Nat) = q at *
  have hq : (0 : Int) < (q : Int) := by omega
  by_cases h : v < (p : Int)
  · rw [if_pos h]
    have a1 : 0 ≤ v * q := Int.mul_nonneg hv.1 (by omega)
    have a2 : v * q < 9223372036854775808 := by rw [← hm']; exact Int.mul_lt_mul_of_pos_right h hq
    rw [show wrap64 (v * q) = v * q by unfold wrap64; omega]
    exact Int.mul_ediv_cancel _ (by omega)
  · rw [if_neg h]
    have e3 : (v - ((2 * p : Nat) : Int)) * q = v * q - 18446744073709551616 := by
      rw [Int.sub_mul]
      have : ((2 * p : Nat) : Int) * (q : Int) = 2 * ((p : Int) * q) := by rw [Int.natCast_mul]; exact Int.mul_assoc 2 _ _
      rw [this, hm']
      rfl
    have a1 : 9223372036854775808 ≤ v * q := by rw [← hm']; exact Int.mul_le_mul_of_nonneg_right (by omega) (by omega)
    have a2 : (v - ((2 * p : Nat) : Int)) * q < 0 := Int.mul_neg_of_neg_of_pos (by omega) hq
    rw [show wrap64 (v * q) = (v - ((2 * p : Nat) : Int)) * q by unfold wrap64; omega]
    exact Int.mul_ediv_cancel _ (by omega)
theorem signed_any (v z : Int) (n : Nat) (hz : z = n) (h1 : 1 ≤ n) (hn : n ≤ 32) (hv : 0 ≤ v ∧ v < (2 ^ n : Nat)) (w : World) :
    Calls Tryz.prog 106 #[.int .i64 v, .int .i64 z] w fun e w' => e = .returned (.int .i64 (sx n v)) ∧ w = w' := by
  subst hz
  have hs := signed_v v n h1 hn hv
  go_enter Tryz.func106, Tryz.ntmps106
  go_wp2
  go_ret
  exact ⟨rfl, rfl⟩
theorem op_any (a : Int) (ha : W32 a) (w : World) : Calls Tryz.prog 60 #[.int .u32 a] w fun e w' => e = .returned (.int .i64 (fd a 6 0)) ∧ ∃ k, w' = w.drewN k := by
  have T := bits_any a 6 0 6 0 ha rfl rfl (by decide) (by decide)
  go_enter Tryz.func60, Tryz.ntmps60
  go_wp2_with (go_at_call 116; refine (T _).mono ?_; rintro e w' ⟨rfl, k, rfl⟩)
  go_ret
  exact ⟨rfl, _, rfl⟩
theorem rd_any (a : Int) (ha : W32 a) (w : World) : Calls Tryz.prog 65 #[.int .u32 a] w fun e w' => e = .returned (.int .i64 (fd a 11 7)) ∧ ∃ k, w' = w.drewN k := by
  have T := bits_any a 11 7 11 7 ha rfl rfl (by decide) (by decide)
  go_enter Tryz.func65, Tryz.ntmps65
  go_wp2_with (go_at_call 116; refine (T _).mono ?_; rintro e w' ⟨rfl, k, rfl⟩)
  go_ret
  exact ⟨rfl, _, rfl⟩
theorem f3_any (a : Int) (ha : W32 a) (w : World) : Calls Tryz.prog 61 #[.int .u32 a] w fun e w' => e = .returned (.int .i64 (fd a 14 12)) ∧ ∃ k, w' = w.drewN k := by
  have T := bits_any a 14 12 14 12 ha rfl rfl (by decide) (by decide)
  go_enter Tryz.func61, Tryz.ntmps61
  go_wp2_with (go_at_call 116; refine (T _).mono ?_; rintro e w' ⟨rfl, k, rfl⟩)
  go_ret
  exact ⟨rfl, _, rfl⟩
theorem rs1_any (a : Int) (ha : W32 a) (w : World) : Calls Tryz.prog 66 #[.int .u32 a] w fun e w' => e = .returned (.int .i64 (fd a 19 15)) ∧ ∃ k, w' = w.drewN k := by
  have T := bits_any a 19 15 19 15 ha rfl rfl (by decide) (by decide)
  go_enter Tryz.func66, Tryz.ntmps66
  go_wp2_with (go_at_call 116; refine (T _).mono ?_; rintro e w' ⟨rfl, k, rfl⟩)
  go_ret
  exact ⟨rfl, _, rfl⟩
theorem rs2_any (a : Int) (ha : W32 a) (w : World) : Calls Tryz.prog 67 #[.int .u32 a] w fun e w' => e = .returned (.int .i64 (fd a 24 20)) ∧ ∃ k, w' = w.drewN k := by
  have T := bits_any a 24 20 24 20 ha rfl rfl (by decide) (by decide)
  go_enter Tryz.func67, Tryz.ntmps67
  go_wp2_with (go_at_call 116; refine (T _).mono ?_; rintro e w' ⟨rfl, k, rfl⟩)
  go_ret
  exact ⟨rfl, _, rfl⟩
theorem f7_any (a : Int) (ha : W32 a) (w : World) : Calls Tryz.prog 117 #[.int .u32 a] w fun e w' => e = .returned (.int .i64 (fd a 31 25)) ∧ ∃ k, w' = w.drewN k := by
  have T := bits_any a 31 25 31 25 ha rfl rfl (by decide) (by decide)
  go_enter Tryz.func117, Tryz.ntmps117
  go_wp2_with (go_at_call 116; refine (T _).mono ?_; rintro e w' ⟨rfl, k, rfl⟩)
  go_ret
  exact ⟨rfl, _, rfl⟩
def rawI (a : Int) : Int := fd a 31 20
def immI (a : Int) : Int := sx 12 (rawI a)
theorem rawI_bd (a : Int) : 0 ≤ rawI a ∧ rawI a < (2 ^ 12 : Nat) := by
  unfold rawI
  have b0 := fd_bd a 31 20
  simp only [Nat.reduceSub, Nat.reduceAdd, Nat.reducePow] at *
  omega
def rawS (a : Int) : Int := fd a 31 25 * 32 + fd a 11 7
def immS (a : Int) : Int := sx 12 (rawS a)
theorem rawS_bd (a : Int) : 0 ≤ rawS a ∧ rawS a < (2 ^ 12 : Nat) := by
  unfold rawS
  have b0 := fd_bd a 31 25
  have b1 := fd_bd a 11 7
  simp only [Nat.reduceSub, Nat.reduceAdd, Nat.reducePow] at *
  omega
def rawU (a : Int) : Int := fd a 31 12 * 4096
def immU (a : Int) : Int := sx 32 (rawU a)
theorem rawU_bd (a : Int) : 0 ≤ rawU a ∧ rawU a < (2 ^ 32 : Nat) := by
  unfold rawU
  have b0 := fd_bd a 31 12
  simp only [Nat.reduceSub, Nat.reduceAdd, Nat.reducePow] at *
  omega
def rawB (a : Int) : Int := fd a 31 31 * 4096 + fd a 7 7 * 2048 + fd a 30 25 * 32 + fd a 11 8 * 2
def immB (a : Int) : Int := sx 13 (rawB a)
theorem rawB_bd (a : Int) : 0 ≤ rawB a ∧ rawB a < (2 ^ 13 : Nat) := by
  unfold rawB
  have b0 := fd_bd a 31 31
  have b1 := fd_bd a 7 7
  have b2 := fd_bd a 30 25
  have b3 := fd_bd a 11 8
  simp only [Nat.reduceSub, Nat.reduceAdd, Nat.reducePow] at *
  omega
def rawJ (a : Int) : Int := fd a 31 31 * 1048576 + fd a 19 12 * 4096 + fd a 20 20 * 2048 + fd a 30 21 * 2
def immJ (a : Int) : Int := sx 21 (rawJ a)
theorem rawJ_bd (a : Int) : 0 ≤ rawJ a ∧ rawJ a < (2 ^ 21 : Nat) := by
  unfold rawJ
  have b0 := fd_bd a 31 31
  have b1 := fd_bd a 19 12
  have b2 := fd_bd a 20 20
  have b3 := fd_bd a 30 21
  simp only [Nat.reduceSub, Nat.reduceAdd, Nat.reducePow] at *
  omega
set_option maxHeartbeats 1000000 in
theorem i_any (a : Int) (ha : W32 a) (w : World) : Calls Tryz.prog 121 #[.int .u32 a] w fun e w' => e = .returned (.int .i64 (immI a)) ∧ ∃ k, w' = w.drewN k := by
  have T0 := bits_any a 31 20 31 20 ha rfl rfl (by decide) (by decide)
  have b0 := fd_bd a 31 20
  have rb := rawI_bd a
  have S := signed_any (rawI a) 12 12 rfl (by decide) (by decide) rb
  have hr : rawI a = rawI a := rfl
  conv at hr => rhs; unfold rawI
  simp only [Nat.reduceSub, Nat.reduceAdd, Nat.reducePow] at b0 rb
  unfold immI
  generalize rawI a = r at *
  generalize hx0 : fd a 31 20 = x0 at T0 b0
  simp only [hx0] at hr
  clear hx0

  have hr2 := hr.symm
  clear hr
  go_enter Tryz.func121, Tryz.ntmps121
  go_wp2_with (first | (go_at_call 116; (with_reducible refine (T0 _).mono ?_); rintro e w' ⟨rfl, k, rfl⟩) | (go_at_call 106; (with_reducible refine (S _).mono ?_); rintro e w' ⟨rfl, rfl⟩))
  repeat (go_quiet (first | (go_at_call 106; exact Calls.quiet_of_same (S _))); try (go_wp2_with (fail)))
  go_ret
  exact ⟨rfl, _, rfl⟩
set_option maxHeartbeats 1000000 in
theorem s_any (a : Int) (ha : W32 a) (w : World) : Calls Tryz.prog 123 #[.int .u32 a] w fun e w' => e = .returned (.int .i64 (immS a)) ∧ ∃ k, w' = w.drewN k := by
  have T0 := f7_any a ha
  have T1 := rd_any a ha
  have b0 := fd_bd a 31 25
  have b1 := fd_bd a 11 7
  have rb := rawS_bd a
  have S := signed_any (rawS a) 12 12 rfl (by decide) (by decide) rb
  have hr : rawS a = rawS a := rfl
  conv at hr => rhs; unfold rawS
  simp only [Nat.reduceSub, Nat.reduceAdd, Nat.reducePow] at b0 b1 rb
  unfold immS
  generalize rawS a = r at *
  generalize hx0 : fd a 31 25 = x0 at T0 b0
  generalize hx1 : fd a 11 7 = x1 at T1 b1
  simp only [hx0, hx1] at hr
  clear hx0 hx1
  have o1 : bits .or .i64 (x0 * 32) (x1) = x0 * 32 + x1 := i64_orp 5 32 rfl ⟨by omega, by omega⟩ (by omega) ⟨by omega, by omega⟩ (by omega)
  have hr2 := hr.symm
  clear hr
  go_enter Tryz.func123, Tryz.ntmps123
  go_wp2_with (first | (go_at_call 117; (with_reducible refine (T0 _).mono ?_); rintro e w' ⟨rfl, k, rfl⟩) | (go_at_call 65; (with_reducible refine (T1 _).mono ?_); rintro e w' ⟨rfl, k, rfl⟩) | (go_at_call 106; (with_reducible refine (S _).mono ?_); rintro e w' ⟨rfl, rfl⟩))
  repeat (go_quiet (first | (go_at_call 106; exact Calls.quiet_of_same (S _))); try (go_wp2_with (fail)))
  go_ret
  exact ⟨rfl, _, rfl⟩
set_option maxHeartbeats 1000000 in
theorem u_any (a : Int) (ha : W32 a) (w : World) : Calls Tryz.prog 119 #[.int .u32 a] w fun e w' => e = .returned (.int .i64 (immU a)) ∧ ∃ k, w' = w.drewN k := by
  have T0 := bits_any a 31 12 31 12 ha rfl rfl (by decide) (by decide)
  have b0 := fd_bd a 31 12
  have rb := rawU_bd a
  have S := signed_any (rawU a) 32 32 rfl (by decide) (by decide) rb
  have hr : rawU a = rawU a := rfl
  conv at hr => rhs; unfold rawU
  simp only [Nat.reduceSub, Nat.reduceAdd, Nat.reducePow] at b0 rb
  unfold immU
  generalize rawU a = r at *
  generalize hx0 : fd a 31 12 = x0 at T0 b0
  simp only [hx0] at hr
  clear hx0

  have hr2 := hr.symm
  clear hr
  go_enter Tryz.func119, Tryz.ntmps119
  go_wp2_with (first | (go_at_call 116; (with_reducible refine (T0 _).mono ?_); rintro e w' ⟨rfl, k, rfl⟩) | (go_at_call 106; (with_reducible refine (S _).mono ?_); rintro e w' ⟨rfl, rfl⟩))
  repeat (go_quiet (first | (go_at_call 106; exact Calls.quiet_of_same (S _))); try (go_wp2_with (fail)))
  go_ret
  exact ⟨rfl, _, rfl⟩
set_option maxHeartbeats 1000000 in
theorem b_any (a : Int) (ha : W32 a) (w : World) : Calls Tryz.prog 122 #[.int .u32 a] w fun e w' => e = .returned (.int .i64 (immB a)) ∧ ∃ k, w' = w.drewN k := by
  have T0 := bits_any a 31 31 31 31 ha rfl rfl (by decide) (by decide)
  have T1 := bits_any a 7 7 7 7 ha rfl rfl (by decide) (by decide)
  have T2 := bits_any a 30 25 30 25 ha rfl rfl (by decide) (by decide)
  have T3 := bits_any a 11 8 11 8 ha rfl rfl (by decide) (by decide)
  have b0 := fd_bd a 31 31
  have b1 := fd_bd a 7 7
  have b2 := fd_bd a 30 25
  have b3 := fd_bd a 11 8
  have rb := rawB_bd a
  have S := signed_any (rawB a) 13 13 rfl (by decide) (by decide) rb
  have hr : rawB a = rawB a := rfl
  conv at hr => rhs; unfold rawB
  simp only [Nat.reduceSub, Nat.reduceAdd, Nat.reducePow] at b0 b1 b2 b3 rb
  unfold immB
  generalize rawB a = r at *
  generalize hx0 : fd a 31 31 = x0 at T0 b0
  generalize hx1 : fd a 7 7 = x1 at T1 b1
  generalize hx2 : fd a 30 25 = x2 at T2 b2
  generalize hx3 : fd a 11 8 = x3 at T3 b3
  simp only [hx0, hx1, hx2, hx3] at hr
  clear hx0 hx1 hx2 hx3
  have o1 : bits .or .i64 (x0 * 4096) (x1 * 2048) = x0 * 4096 + x1 * 2048 := i64_orp 12 4096 rfl ⟨by omega, by omega⟩ (by omega) ⟨by omega, by omega⟩ (by omega)
  have o2 : bits .or .i64 (x0 * 4096 + x1 * 2048) (x2 * 32) = x0 * 4096 + x1 * 2048 + x2 * 32 := i64_orp 11 2048 rfl ⟨by omega, by omega⟩ (by omega) ⟨by omega, by omega⟩ (by omega)
  have o3 : bits .or .i64 (x0 * 4096 + x1 * 2048 + x2 * 32) (x3 * 2) = x0 * 4096 + x1 * 2048 + x2 * 32 + x3 * 2 := i64_orp 5 32 rfl ⟨by omega, by omega⟩ (by omega) ⟨by omega, by omega⟩ (by omega)
  have hr2 := hr.symm
  clear hr
  go_enter Tryz.func122, Tryz.ntmps122
  go_wp2_with (first | (go_at_call 116; (with_reducible refine (T0 _).mono ?_); rintro e w' ⟨rfl, k, rfl⟩) | (go_at_call 116; (with_reducible refine (T1 _).mono ?_); rintro e w' ⟨rfl, k, rfl⟩) | (go_at_call 116; (with_reducible refine (T2 _).mono ?_); rintro e w' ⟨rfl, k, rfl⟩) | (go_at_call 116; (with_reducible refine (T3 _).mono ?_); rintro e w' ⟨rfl, k, rfl⟩) | (go_at_call 106; (with_reducible refine (S _).mono ?_); rintro e w' ⟨rfl, rfl⟩))
  repeat (go_quiet (first | (go_at_call 106; exact Calls.quiet_of_same (S _))); try (go_wp2_with (fail)))
  go_ret
  exact ⟨rfl, _, rfl⟩
set_option maxHeartbeats 1000000 in
theorem j_any (a : Int) (ha : W32 a) (w : World) : Calls Tryz.prog 120 #[.int .u32 a] w fun e w' => e = .returned (.int .i64 (immJ a)) ∧ ∃ k, w' = w.drewN k := by
  have T0 := bits_any a 31 31 31 31 ha rfl rfl (by decide) (by decide)
  have T1 := bits_any a 19 12 19 12 ha rfl rfl (by decide) (by decide)
  have T2 := bits_any a 20 20 20 20 ha rfl rfl (by decide) (by decide)
  have T3 := bits_any a 30 21 30 21 ha rfl rfl (by decide) (by decide)
  have b0 := fd_bd a 31 31
  have b1 := fd_bd a 19 12
  have b2 := fd_bd a 20 20
  have b3 := fd_bd a 30 21
  have rb := rawJ_bd a
  have S := signed_any (rawJ a) 21 21 rfl (by decide) (by decide) rb
  have hr : rawJ a = rawJ a := rfl
  conv at hr => rhs; unfold rawJ
  simp only [Nat.reduceSub, Nat.reduceAdd, Nat.reducePow] at b0 b1 b2 b3 rb
  unfold immJ
  generalize rawJ a = r at *
  generalize hx0 : fd a 31 31 = x0 at T0 b0
  generalize hx1 : fd a 19 12 = x1 at T1 b1
  generalize hx2 : fd a 20 20 = x2 at T2 b2
  generalize hx3 : fd a 30 21 = x3 at T3 b3
  simp only [hx0, hx1, hx2, hx3] at hr
  clear hx0 hx1 hx2 hx3
  have o1 : bits .or .i64 (x0 * 1048576) (x1 * 4096) = x0 * 1048576 + x1 * 4096 := i64_orp 20 1048576 rfl ⟨by omega, by omega⟩ (by omega) ⟨by omega, by omega⟩ (by omega)
  have o2 : bits .or .i64 (x0 * 1048576 + x1 * 4096) (x2 * 2048) = x0 * 1048576 + x1 * 4096 + x2 * 2048 := i64_orp 12 4096 rfl ⟨by omega, by omega⟩ (by omega) ⟨by omega, by omega⟩ (by omega)
  have o3 : bits .or .i64 (x0 * 1048576 + x1 * 4096 + x2 * 2048) (x3 * 2) = x0 * 1048576 + x1 * 4096 + x2 * 2048 + x3 * 2 := i64_orp 11 2048 rfl ⟨by omega, by omega⟩ (by omega) ⟨by omega, by omega⟩ (by omega)
  have hr2 := hr.symm
  clear hr
  go_enter Tryz.func120, Tryz.ntmps120
  go_wp2_with (first | (go_at_call 116; (with_reducible refine (T0 _).mono ?_); rintro e w' ⟨rfl, k, rfl⟩) | (go_at_call 116; (with_reducible refine (T1 _).mono ?_); rintro e w' ⟨rfl, k, rfl⟩) | (go_at_call 116; (with_reducible refine (T2 _).mono ?_); rintro e w' ⟨rfl, k, rfl⟩) | (go_at_call 116; (with_reducible refine (T3 _).mono ?_); rintro e w' ⟨rfl, k, rfl⟩) | (go_at_call 106; (with_reducible refine (S _).mono ?_); rintro e w' ⟨rfl, rfl⟩))
  repeat (go_quiet (first | (go_at_call 106; exact Calls.quiet_of_same (S _))); try (go_wp2_with (fail)))
  go_ret
  exact ⟨rfl, _, rfl⟩
theorem none_any (a : Int) (w : World) : Calls Tryz.prog 124 #[.int .u32 a] w fun e w' => e = .returned (.int .i64 0) ∧ ∃ k, w' = w.drewN k := by
  go_enter Tryz.func124, Tryz.ntmps124
  go_wp2
  go_ret
  exact ⟨rfl, 0, rfl⟩
end Go.Proofs.YtidiojhefjhojaaGreat.Enc
end
section
namespace Go.Proofs.YtidiojhefjhojaaGreat.Enc
open Go Go.RowKit Go.Proofs.YtidiojhefjhojaaGreat.Step
set_option linter.unusedVariables false
set_option linter.unusedSimpArgs false
set_option maxRecDepth 100000
/-- The element of a list; 0: there is none. -/
def pk (L : List Int) (x : Int) : Int := if x < 0 then 0 else L.getD x.toNat 0
theorem below_drawn {w w' : World} (h : ∃ k, w' = w.drewN k) : Below w.heap.size w w' := by
  obtain ⟨k, rfl⟩ := h
  exact ⟨rfl, rfl, rfl, Nat.le_refl _, fun _ _ => rfl⟩
theorem calls_below {P : Program} {f : FuncId} {args : Array Value} {w : World} {r : Ending} (h : Calls P f args w fun e w' => e = r ∧ ∃ k, w' = w.drewN k) : Calls P f args w fun e w' => e = r ∧ Below w.heap.size w w' := h.mono fun e w' k => ⟨k.1, below_drawn k.2⟩
theorem calls_same {P : Program} {f : FuncId} {args : Array Value} {w : World} {r : Ending} (h : Calls P f args w fun e w' => e = r ∧ w = w') : Calls P f args w fun e w' => e = r ∧ Below w.heap.size w w' := h.mono fun e w' k => ⟨k.1, by rw [← k.2]; exact Below.refl _ _⟩
def ints (L : List Int) : Array Value := (L.map fun x => Value.int .i64 x).toArray
theorem ints_at (L : List Int) (k : Nat) (h : k < L.length) : (ints L)[k]? = some (.int .i64 (L.getD k 0)) := by
  simp [ints, List.getElem?_map, List.getD, List.getElem?_eq_getElem h]
theorem pick_any {W : World} {g n : Nat} {cs : Array Value} {T : TypeId} (hb : Blk W g cs T) (L : List Int) (hcs : cs = ints L) (hn : n = L.length) (hl : L.length ≤ 1000) (x : Int) (hx : -9223372036854775808 ≤ x ∧ x < 9223372036854775808) :
    Calls Tryz.prog 118 #[.slice (some ⟨g, 0, none⟩) n n, .int .i64 x] W fun e w' => e = .returned (.int .i64 (pk L x)) ∧ Below W.heap.size W w' := by
  subst hn hcs
  unfold pk
  by_cases h0 : x < 0
  · rw [if_pos h0]
    go_enter Tryz.func118, Tryz.ntmps118
    go_wp2
    go_ret
    exact ⟨rfl, Below.refl _ _⟩
  · rw [if_neg h0]
    obtain ⟨k, rfl⟩ := Int.eq_ofNat_of_zero_le (show 0 ≤ x by omega)
    rw [Int.toNat_natCast]
    by_cases h1 : k < L.length
    · have hc : W.cell? ⟨g, k, none⟩ = some (.int .i64 (L.getD k 0)) := (hb.cell k).trans (ints_at L k h1)
      generalize L.getD k 0 = v at hc ⊢
      go_enter Tryz.func118, Tryz.ntmps118
      go_wp2
      go_ret
      exact ⟨rfl, Below.refl _ _⟩
    · have hz : L.getD k 0 = 0 := by simp [List.getD, List.getElem?_eq_none (show L.length ≤ k by omega)]
      rw [hz]
      go_enter Tryz.func118, Tryz.ntmps118
      go_wp2
      go_ret
      exact ⟨rfl, Below.refl _ _⟩
end Go.Proofs.YtidiojhefjhojaaGreat.Enc
end
section
namespace Go.Proofs.YtidiojhefjhojaaGreat.Enc
open Go Go.RowKit Go.Proofs.YtidiojhefjhojaaGreat.Step
set_option linter.unusedVariables false
set_option linter.unusedSimpArgs false
set_option maxRecDepth 100000
/-- One instruction of the call's own, at g; nothing older was turned. -/
structure S1 (W w : World) (T : TypeId) (g : Nat) (c : Array Value) : Prop where
  below : Below W.heap.size W w
  one : Blk w g c T
  lo : W.heap.size ≤ g
/-- Two of them. -/
structure S2 (W w : World) (T : TypeId) (g r : Nat) (c d : Array Value) : Prop where
  below : Below W.heap.size W w
  one : Blk w g c T
  two : Blk w r d T
  ne : g ≠ r
  lo : W.heap.size ≤ g
  lo2 : W.heap.size ≤ r
section
variable {W w w' : World} {T : TypeId} {g r : Nat} {c c' d d' : Array Value}
theorem S1.made (b : Blk w g c T) (hg : W.heap.size ≤ g) (hb : Below W.heap.size W w) : S1 W w T g c := ⟨hb, b, hg⟩
theorem S1.call (h : S1 W w T g c) (hb : Below w.heap.size w w') : S1 W w' T g c := ⟨below_below h.below hb, h.one.below hb, h.lo⟩
theorem S1.set1 (h : S1 W w T g c) (nb : Blk w' g c' T) (m : Mod (One g) w w') : S1 W w' T g c' := ⟨below_one h.below m h.lo, nb, h.lo⟩
theorem S1.more (h : S1 W w T g c) (b : Blk w' r d T) (hr : w.heap.size ≤ r) (hb : Below w.heap.size w w') : S2 W w' T g r c d :=
  ⟨below_below h.below hb, h.one.below hb, b, fun e => by have := h.one.lt; omega, h.lo, by have := h.below.size; omega⟩
theorem S2.call (h : S2 W w T g r c d) (hb : Below w.heap.size w w') : S2 W w' T g r c d := ⟨below_below h.below hb, h.one.below hb, h.two.below hb, h.ne, h.lo, h.lo2⟩
theorem S2.set1 (h : S2 W w T g r c d) (nb : Blk w' g c' T) (m : Mod (One g) w w') : S2 W w' T g r c' d := ⟨below_one h.below m h.lo, nb, h.two.one m h.ne.symm, h.ne, h.lo, h.lo2⟩
theorem S2.set2 (h : S2 W w T g r c d) (nb : Blk w' r d' T) (m : Mod (One r) w w') : S2 W w' T g r c d' := ⟨below_one h.below m h.lo2, h.one.one m h.ne, nb, h.ne, h.lo, h.lo2⟩
end
theorem alloc_agg {t : TypeId} {cs : Array Value} (h : (Tryz.prog.info? t).bind (·.zero) = some (.agg cs)) (W : World) : (Instr.alloc t true (.tuple #[])).run Tryz.prog W = .ok (.pointer (some ⟨W.heap.size, 0, none⟩)) (W.alloc (.cells cs t (0, 0))) := by
  cases hi : Tryz.prog.info? t with
  | none => rw [hi] at h; cases h
  | some i =>
    rw [hi] at h
    have hz : i.zero = some (.agg cs) := h
    simp [Instr.alloc, zeroValue, typeInfo, hi, hz, newVar, newRow, newObj, Result.andThen, Value.cells, go_sem]
    rfl
theorem zero_inst : (Tryz.prog.info? 74).bind (·.zero) = some (.agg #[.int .i64 0, .int .i64 0, .int .i64 0, .int .i64 0, .int .i64 0, .int .i64 0, .int .i64 0, .bool false]) := by kernel_rfl
theorem size_inst : (Tryz.prog.info? 74).map (·.size) = some 8 := by kernel_rfl
theorem pl_int : Step.plainT Tryz.prog 3 = true := by kernel_rfl
theorem pl_bool : Step.plainT Tryz.prog 4 = true := by kernel_rfl
theorem results_row_tmp {P : Program} {fn : Func} {p u : Tmp} {ty : TypeId} (h : fn.results = #[.cell p ty, .tmp u]) (tmps : Array Value) (w : World) (g : Nat) (t : TypeId) (cs : Array Value) (d : TypeDesc)
    (hp : tmps.getD p undef = .pointer (some ⟨g, 0, none⟩)) (hg : Blk w g cs t) (hu : P.underlying ty = some d) (hd : (match d with | .struct _ | .array _ _ => true | _ => false) = true) (hi : (P.info? ty).map (·.size) = some cs.size) :
    (results fn tmps).run P w = .ok (.tuple #[.agg cs, tmps.getD u undef]) w := by
  rw [results_cell_tmp h, hp]
  have h2 := run_loadVar_row (P := P) w g t ty cs (0, 0) d hg.out hu hd hi
  simp [asAddr, Result.andThen, h2]
theorem results_row {P : Program} {fn : Func} {p : Tmp} {ty : TypeId} (h : fn.results = #[.cell p ty]) (tmps : Array Value) (w : World) (g : Nat) (t : TypeId) (cs : Array Value) (d : TypeDesc)
    (hp : tmps.getD p undef = .pointer (some ⟨g, 0, none⟩)) (hg : Blk w g cs t) (hu : P.underlying ty = some d) (hd : (match d with | .struct _ | .array _ _ => true | _ => false) = true) (hi : (P.info? ty).map (·.size) = some cs.size) :
    (results fn tmps).run P w = .ok (.agg cs) w := results_cell_row h tmps w g t cs (0, 0) d hp hg.out hu hd hi
theorem fd_lit {a : Int} {h l : Nat} {n : Int} (hn : n = (2 ^ (h - l + 1) : Nat)) : 0 ≤ fd a h l ∧ fd a h l < n := by subst hn; exact fd_bd a h l
theorem small {x n : Int} (h : 0 ≤ x ∧ x < n) (hn : n ≤ 9223372036854775808) : -9223372036854775808 ≤ x ∧ x < 9223372036854775808 := by omega
end Go.Proofs.YtidiojhefjhojaaGreat.Enc
end
