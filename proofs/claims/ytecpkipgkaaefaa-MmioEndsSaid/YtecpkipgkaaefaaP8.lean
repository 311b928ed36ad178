/- Parts of the walks and laws for the claim: Seq, SeqB, WdC; no conditions beyond the theorems' own. -/
import Derived.Test.YtecpkipgkaaefaaP1
import Derived.Test.YtecpkipgkaaefaaP6
import Derived.Test.YtecpkipgkaaefaaP7
section
namespace Go.Proofs.Ytecpkipgkaaefaa.Sq
open Go Go.RowKit Go.Proofs.Ytecpkipgkaaefaa.Reg Go.Proofs.Ytecpkipgkaaefaa.Calm
set_option linter.unusedVariables false
set_option linter.unusedSimpArgs false
section
variable {P : Program} {ops : Array Oper}
/-- Any invariant that every operation keeps. -/
theorem any_invB {Inv : Array Bool → Act → World → Prop} {Q : Exit → Act → World → Prop} (hback : ∀ (i : Nat) (o : Oper), ops[i]? = some o → ∀ e ∈ o.after, Region.binds .any e = true → e.on < i)
    (hstep : ∀ (i : Nat) (o : Oper), ops[i]? = some o → ∀ (L : Array Bool) (a : Act) (w : World), L.size = ops.size → L.getD i true = false → (∀ e ∈ o.after, Region.binds .any e = true → L.getD e.on true = true) → Inv L a w → wpOp P ops Q i (Inv (L.setIfInBounds i true)) a w)
    (hQ : ∀ (L : Array Bool) (a : Act) (w : World), L.size = ops.size → (∀ i, i < ops.size → L.getD i true = true) → Inv L a w → Q .normal a w) :
    ∀ (fuel : Nat) (L : Array Bool) (a : Act) (w : World), L.size = ops.size → left ops.size L ≤ fuel → Inv L a w → wpAny P .any ops Q fuel L a w := by
  have all : ∀ (L : Array Bool), L.size = ops.size → Region.ready .any ops L = [] → ∀ i, i < ops.size → L.getD i true = true := by
    intro L hsz hr i
    induction i using Nat.strongRecOn with
    | ind i ih =>
      intro hi
      cases hL : L.getD i true with
      | true => rfl
      | false =>
        exfalso
        have ho : ops[i]? = some ops[i] := Array.getElem?_eq_getElem hi
        have ha := hback i _ ho
        have : i ∈ Region.ready .any ops L := mem_ready.2 ⟨hL, ops[i], ho, fun e he hb => by
          have h1 := ih e.on (ha e he hb) (Nat.lt_trans (ha e he hb) hi)
          have h2 : e.on < L.size := by rw [hsz]; exact Nat.lt_trans (ha e he hb) hi
          simpa [Array.getD_eq_getD_getElem?, Array.getElem?_eq_getElem h2] using h1⟩
        rw [hr] at this; cases this
  intro fuel
  induction fuel with
  | zero =>
    intro L a w hsz hleft hI
    have hr : Region.ready .any ops L = [] := by
      apply List.eq_nil_iff_forall_not_mem.2
      intro i hi
      obtain ⟨hL, o, ho, _⟩ := mem_ready.1 hi
      have hin : i < ops.size := (Array.getElem?_eq_some_iff.1 ho).1
      have := left_set hin (by omega) hL
      omega
    exact ⟨hr, hQ L a w hsz (all L hsz hr) hI⟩
  | succ fuel ih =>
    intro L a w hsz hleft hI
    refine ⟨fun hr => hQ L a w hsz (all L hsz hr) hI, fun i hi => ?_⟩
    obtain ⟨hL, o, ho, hall⟩ := mem_ready.1 hi
    have hin : i < ops.size := (Array.getElem?_eq_some_iff.1 ho).1
    have hdep : ∀ e ∈ o.after, Region.binds .any e = true → L.getD e.on true = true := fun e he hb => by
      have h1 := hall e he hb
      rcases Nat.lt_or_ge e.on L.size with h' | h'
      · simpa [Array.getD_eq_getD_getElem?, Array.getElem?_eq_getElem h'] using h1
      · simp [Array.getD_eq_getD_getElem?, Array.getElem?_eq_none h'] at h1
    refine wpOp_mono (fun a' w' hI' => ih _ a' w' (by simpa using hsz) ?_ hI') (hstep i o ho L a w hsz hL hdep hI)
    have := left_set hin (show i < L.size by omega) hL
    omega
/-- k waits for j. -/
def dep (ops : Array Oper) (k j : Nat) : Bool := match ops[k]? with | some o => o.after.any (fun e => e.on == j && Region.binds .any e) | none => false
/-- All that those of S wait for, below n. -/
def sweep (ops : Array Oper) : Nat → List Nat → List Nat
  | 0, S => S
  | j + 1, S => if S.any (fun k => dep ops k j) then sweep ops j (j :: S) else sweep ops j S
def lastAfter (ops : Array Oper) (i : Nat) : Bool := (List.range i).all fun j => (sweep ops i [i]).contains j
/-- What stands listed, so does all that it waited for. -/
def Closed (ops : Array Oper) (L : Array Bool) : Prop := ∀ (k : Nat) (o : Oper), ops[k]? = some o → L.getD k false = true → ∀ e ∈ o.after, Region.binds .any e = true → L.getD e.on true = true
theorem dep_out {k j : Nat} (h : dep ops k j = true) : ∃ o, ops[k]? = some o ∧ ∃ e ∈ o.after, e.on = j ∧ Region.binds .any e = true := by
  unfold dep at h
  cases ho : ops[k]? with
  | none => rw [ho] at h; cases h
  | some o =>
    rw [ho] at h
    obtain ⟨e, he, hb⟩ := Array.any_eq_true'.1 h
    simp only [Bool.and_eq_true, beq_iff_eq] at hb
    exact ⟨o, rfl, e, he, hb.1, hb.2⟩
theorem sweep_listed {L : Array Bool} {i : Nat} {o : Oper} (ho : ops[i]? = some o) (hc : Closed ops L) (hsz : L.size = ops.size) (hdep : ∀ e ∈ o.after, Region.binds .any e = true → L.getD e.on true = true) :
    ∀ (n : Nat) (S : List Nat), n ≤ ops.size → (∀ k ∈ S, k = i ∨ L.getD k true = true) → ∀ k ∈ sweep ops n S, k = i ∨ L.getD k true = true
  | 0, S, _, hS, k, hk => hS k hk
  | j + 1, S, hn, hS, k, hk => by
    unfold sweep at hk
    split at hk
    · rename_i hany
      refine sweep_listed ho hc hsz hdep j (j :: S) (by omega) (fun x hx => ?_) k hk
      rcases List.mem_cons.1 hx with rfl | hx
      · obtain ⟨y, hy, hd⟩ := List.any_eq_true.1 hany
        obtain ⟨oy, hoy, e, he, rfl, hb⟩ := dep_out hd
        rcases hS y hy with rfl | hy'
        · rw [ho] at hoy; obtain rfl := Option.some.inj hoy
          exact .inr (hdep e he hb)
        · have hyl : y < L.size := by rw [hsz]; exact (Array.getElem?_eq_some_iff.1 hoy).1
          exact .inr (hc y oy hoy (by simpa [Array.getD_eq_getD_getElem?, Array.getElem?_eq_getElem hyl] using hy') e he hb)
      · exact hS x hx
    · exact sweep_listed ho hc hsz hdep j S (by omega) hS k hk
theorem lastAfter_all {L : Array Bool} {i : Nat} {o : Oper} (h : lastAfter ops i = true) (ho : ops[i]? = some o) (hc : Closed ops L) (hsz : L.size = ops.size) (hdep : ∀ e ∈ o.after, Region.binds .any e = true → L.getD e.on true = true) :
    ∀ j, j < i → L.getD j true = true := fun j hj => by
  have h1 := List.all_eq_true.1 h j (List.mem_range.2 hj)
  have h2 := sweep_listed ho hc hsz hdep i [i] (Nat.le_of_lt (Array.getElem?_eq_some_iff.1 ho).1) (fun k hk => .inl (List.mem_singleton.1 hk)) j (by simpa using h1)
  rcases h2 with h2 | h2
  · omega
  · exact h2
theorem Closed.set {L : Array Bool} {i : Nat} {o : Oper} (hc : Closed ops L) (ho : ops[i]? = some o) (hdep : ∀ e ∈ o.after, Region.binds .any e = true → L.getD e.on true = true) : Closed ops (L.setIfInBounds i true) := by
  have hup : ∀ j, L.getD j true = true → (L.setIfInBounds i true).getD j true = true := by
    intro j hj
    by_cases e : i = j
    · subst e
      by_cases hl : i < L.size
      · simp [Array.getD_eq_getD_getElem?, hl]
      · simp [Array.getD_eq_getD_getElem?, hl]
    · simpa [Array.getD_eq_getD_getElem?, Array.getElem?_setIfInBounds_ne e] using hj
  intro k o' ho' hk e he hb
  by_cases ek : i = k
  · subst ek
    rw [ho] at ho'; obtain rfl := Option.some.inj ho'
    exact hup _ (hdep e he hb)
  · have hk' : L.getD k false = true := by simpa [Array.getD_eq_getD_getElem?, Array.getElem?_setIfInBounds_ne ek] using hk
    exact hup _ (hc k o' ho' hk' e he hb)
/-- The first m operations look only at what is filled ahead of them, no two of them fill one slot; the others come behind all that stands ahead of them. -/
def parted (ops : Array Oper) (m : Nat) : Bool :=
  (List.range ops.size).all fun i => match ops[i]? with
    | none => true
    | some o => (o.after.all fun e => !Region.binds .any e || decide (e.on < i)) && (match o.op with | .select .. => false | _ => true) &&
        (if i < m then ((o.looksAt ops).all fun t => (List.range m).all fun j => match ops[j]? with
          | none => true
          | some oj => oj.dst != some t || o.after.any fun e => e.on == j && Region.binds .any e) && ((List.range m).all fun j => j == i || match ops[j]? with | none => true | some oj => oj.dst == none || oj.dst != o.dst)
         else lastAfter ops i)
theorem parted_at {m : Nat} (h : parted ops m = true) {i : Nat} {o : Oper} (ho : ops[i]? = some o) :
    (∀ e ∈ o.after, Region.binds .any e = true → e.on < i) ∧ (∀ cs b, o.op ≠ .select cs b) ∧ (i < m → ∀ t ∈ o.looksAt ops, ∀ (j : Nat) (oj : Oper), j < m → ops[j]? = some oj → oj.dst = some t → ∃ e ∈ o.after, e.on = j ∧ Region.binds .any e = true) ∧
      (i < m → ∀ (j : Nat) (oj : Oper), j < m → j ≠ i → ops[j]? = some oj → ∀ t, oj.dst = some t → o.dst ≠ some t) ∧ (m ≤ i → lastAfter ops i = true) := by
  unfold parted at h
  have hi : i < ops.size := (Array.getElem?_eq_some_iff.1 ho).1
  have h1 := List.all_eq_true.1 h i (List.mem_range.2 hi)
  simp only [ho, Bool.and_eq_true, Array.all_eq_true'] at h1
  obtain ⟨⟨ha, hs⟩, hl⟩ := h1
  refine ⟨fun e he hb => by have h := ha e he; rw [hb] at h; simpa using h, fun cs b e => ?_, fun him t ht j oj hjm hj hd => ?_, fun him j oj hjm hne hj t hd => ?_, fun him => ?_⟩
  · rw [e] at hs; cases hs
  · rw [if_pos him, Bool.and_eq_true] at hl
    have h2 := List.all_eq_true.1 hl.1 t ht
    have h3 := List.all_eq_true.1 h2 j (List.mem_range.2 hjm)
    simp only [hj, hd, bne_self_eq_false, Bool.false_or] at h3
    obtain ⟨e, he, hb⟩ := Array.any_eq_true'.1 h3
    simp only [Bool.and_eq_true, beq_iff_eq] at hb
    exact ⟨e, he, hb.1, hb.2⟩
  · rw [if_pos him, Bool.and_eq_true] at hl
    have h3 := List.all_eq_true.1 hl.2 j (List.mem_range.2 hjm)
    simp only [hj, hd, Bool.or_eq_true, beq_iff_eq] at h3
    intro e
    rcases h3 with h3 | h3 | h3
    · exact hne h3
    · cases h3
    · rw [e] at h3; simp at h3
  · rwa [if_neg (by omega)] at hl
/-- An operation at a frame, wherever the condition holds: it yields v and keeps the condition. -/
def Comes (P : Program) (ops : Array Oper) (I : World → Prop) (a : Act) (o : Oper) (v : Value) : Prop :=
  (Region.wanted o (yielded ops a.tmps) = true ∧ ∀ X, I X → o.wp P a X (fun a' X' => a' = a.put o.dst v ∧ I X') (fun _ _ _ => False)) ∨ (Region.wanted o (yielded ops a.tmps) = false ∧ v = undef)
def Seq (P : Program) (ops : Array Oper) (I : World → Prop) : List Oper → Act → (Act → Prop) → Prop
  | [], a, K => K a
  | o :: r, a, K => ∃ v, Comes P ops I a o v ∧ Seq P ops I r (a.put o.dst v) K
theorem seq_nil {I : World → Prop} {a : Act} {K : Act → Prop} (h : K a) : Seq P ops I [] a K := h
def fr : Act → List (Oper × Value) → Act
  | a, [] => a
  | a, (o, v) :: q => fr (a.put o.dst v) q
theorem fr_size : ∀ (q : List (Oper × Value)) (a : Act), (fr a q).tmps.size = a.tmps.size
  | [], _ => rfl
  | (o, v) :: q, a => (fr_size q _).trans (by cases h : o.dst <;> simp [Act.put])
theorem fr_defers : ∀ (q : List (Oper × Value)) (a : Act), (fr a q).defers = a.defers
  | [], _ => rfl
  | (o, v) :: q, a => (fr_defers q _).trans (by cases h : o.dst <;> simp [Act.put])
theorem fr_other (t : Nat) : ∀ (q : List (Oper × Value)) (a : Act), (∀ p ∈ q, p.1.dst ≠ some t) → (fr a q).tmps[t]? = a.tmps[t]?
  | [], _, _ => rfl
  | (o, v) :: q, a, h => (fr_other t q _ fun p hp => h p (List.mem_cons_of_mem _ hp)).trans (by
      have h1 : o.dst ≠ some t := h _ (List.mem_cons_self ..)
      cases hd : o.dst with
      | none => rfl
      | some d =>
        have : d ≠ t := fun e => h1 (by rw [hd, e])
        simp [Act.put, Array.getElem?_setIfInBounds_ne this])
theorem fr_append : ∀ (q r : List (Oper × Value)) (a : Act), fr a (q ++ r) = fr (fr a q) r
  | [], _, _ => rfl
  | (o, v) :: q, r, a => fr_append q r (a.put o.dst v)
theorem seq_out {I : World → Prop} {K : Act → Prop} : ∀ (l : List Oper) (a : Act), Seq P ops I l a K → ∃ vs : List Value, vs.length = l.length ∧ K (fr a (l.zip vs)) ∧
    ∀ (i : Nat) (o : Oper) (v : Value), l[i]? = some o → vs[i]? = some v → Comes P ops I (fr a ((l.zip vs).take i)) o v
  | [], a, h => ⟨[], rfl, h, fun i o v ho => by simp at ho⟩
  | o :: r, a, ⟨v, hc, h⟩ => by
    obtain ⟨vs, hl, hK, hall⟩ := seq_out r _ h
    refine ⟨v :: vs, by simp [hl], hK, fun i o' v' ho hv => ?_⟩
    cases i with
    | zero =>
      simp only [List.getElem?_cons_zero, Option.some.injEq] at ho hv
      subst ho hv
      exact hc
    | succ i =>
      simp only [List.getElem?_cons_succ] at ho hv
      exact hall i o' v' ho hv
theorem put_back {a fin : Act} {d : Option Tmp} {u v : Value} (hsz : a.tmps.size = fin.tmps.size) (h : a.put d u = a.put d v) (hv : fin.put d v = fin) : fin.put d u = fin := by
  cases d with
  | none => rfl
  | some t =>
    by_cases hl : t < a.tmps.size
    · have h1 := congrArg (fun x : Act => x.tmps[t]?) h
      simp only [Act.put, Array.getElem?_setIfInBounds_self, hl, if_true, Option.some.injEq] at h1
      rw [h1]; exact hv
    · have : fin.tmps.setIfInBounds t u = fin.tmps := Array.setIfInBounds_eq_of_size_le (by rw [← hsz]; exact Nat.not_lt.1 hl)
      show ({ fin with tmps := fin.tmps.setIfInBounds t u } : Act) = fin
      rw [this]
/-- The same operation at another frame that shows it the same. -/
theorem wp_move {I : World → Prop} {o : Oper} {a fin : Act} {X : World} {v : Value} (hex : execOp a.eval o = execOp fin.eval o) (hsz : a.tmps.size = fin.tmps.size) (hv : fin.put o.dst v = fin)
    (h : o.wp P a X (fun a' X' => a' = a.put o.dst v ∧ I X') (fun _ _ _ => False)) : o.wp P fin X (fun a' X' => a' = fin ∧ I X') (fun _ _ _ => False) := by
  unfold Oper.wp at *
  rw [hex] at h
  generalize (execOp fin.eval o).run P X = r at *
  cases r with
  | ok n w' =>
    cases n <;> simp only [Oper.upon] at h ⊢
    case value u => exact ⟨put_back hsz h.1 hv, h.2⟩
    case skip => exact ⟨put_back hsz h.1 hv, h.2⟩
    case defer d =>
      exfalso
      have h1 := congrArg Act.defers h.1
      have h2 : (({ a with defers := d :: a.defers } : Act).put o.dst undef).defers = d :: a.defers := by cases o.dst <;> rfl
      have h3 : (a.put o.dst v).defers = a.defers := by cases o.dst <;> rfl
      rw [h2, h3] at h1
      have := congrArg List.length h1
      simp at this
    case enter f args =>
      refine Calls.mono h fun e w'' he => ?_
      cases e with
      | returned u => exact ⟨put_back hsz he.1 hv, he.2⟩
      | panicked c => exact he.elim
      | outgrown => obtain ⟨_, _, hf⟩ := he; exact hf.elim
    case row row args => exact Rows.mono h fun u w'' he => ⟨put_back hsz he.1 hv, he.2⟩
  | halt x w' =>
    cases x <;> simp only [Oper.upon] at h ⊢
/-- What is asked of an operation at the final frame. -/
def Keeps (P : Program) (ops : Array Oper) (fin : Act) (I : World → Prop) (o : Oper) : Prop :=
  ∀ X, I X → if Region.wanted o (yielded ops fin.tmps) then o.wp P fin X (fun a' X' => a' = fin ∧ I X') (fun _ _ _ => False) else fin.put o.dst undef = fin
theorem looks_eq {a fin : Act} {o : Oper} (hs : ∀ cs b, o.op ≠ .select cs b) (seen : ∀ t ∈ o.looksAt ops, a.tmps[t]? = fin.tmps[t]?) :
    execOp a.eval o = execOp fin.eval o ∧ Region.wanted o (yielded ops a.tmps) = Region.wanted o (yielded ops fin.tmps) := by
  refine ⟨execOp_congr o hs fun x hx => ?_, ?_⟩
  · cases x with
    | tmp t =>
      have := seen t (List.mem_append_left _ (List.mem_filterMap.2 ⟨.tmp t, by simpa using hx, rfl⟩))
      simp only [Act.eval, Array.getD_eq_getD_getElem?, this]
    | _ => rfl
  · unfold Region.wanted
    cases hg : o.guard with
    | none => rfl
    | some p =>
      obtain ⟨g, want⟩ := p
      have : yielded ops a.tmps g = yielded ops fin.tmps g := by
        unfold yielded
        cases hgd : (ops[g]?).bind (·.dst) with
        | none => rfl
        | some t =>
          have ht : t ∈ o.looksAt ops := List.mem_append_right _ (by simp [hg, hgd])
          simp only [Option.bind_some, seen t ht]
      simp only [this]
theorem keep_step {m : Nat} {L : Array Bool} {a fin : Act} {i : Nat} {o : Oper} {w : World} {I : World → Prop} {Q : Exit → Act → World → Prop} {K : Act → World → Prop} (hp : parted ops m = true) (ho : ops[i]? = some o) (him : i < m)
    (hdep : ∀ e ∈ o.after, Region.binds .any e = true → L.getD e.on true = true) (h : AgreeM ops m L a fin) (hw : I w) (hc : Keeps P ops fin I o)
    (hK : ∀ a' w', AgreeM ops m (L.setIfInBounds i true) a' fin → I w' → K a' w') : wpOp P ops Q i K a w := by
  obtain ⟨_, hs, hl, _⟩ := parted_at hp ho
  obtain ⟨hex, hwa⟩ := looks_eq (a := a) (fin := fin) hs (fun t ht => h.slot t fun j oj hjm hj hd => by
    obtain ⟨e, he, rfl, hb⟩ := hl him t ht j oj hjm hj hd
    exact hdep e he hb)
  have hdo := hc w hw
  unfold wpOp
  simp only [ho]
  rw [hwa]
  split
  · rename_i hw'
    rw [if_pos hw'] at hdo
    refine .inl ?_
    unfold Oper.wp at *
    rw [hex]
    generalize (execOp fin.eval o).run P w = r at *
    cases r with
    | ok n w' =>
      cases n <;> simp only [Oper.upon] at hdo ⊢
      case value u => exact hK _ _ (agreeM_put ho h hdo.1) hdo.2
      case skip => exact hK _ _ (agreeM_put ho h hdo.1) hdo.2
      case defer d =>
        exfalso
        have h1 := congrArg Act.defers hdo.1
        have h2 : (({ fin with defers := d :: fin.defers } : Act).put o.dst undef).defers = d :: fin.defers := by cases o.dst <;> rfl
        rw [h2] at h1
        have := congrArg List.length h1
        simp at this
      case enter f args =>
        refine Calls.mono hdo fun e w'' he => ?_
        cases e with
        | returned u => exact hK _ _ (agreeM_put ho h he.1) he.2
        | panicked c => exact he.elim
        | outgrown => obtain ⟨_, _, hf⟩ := he; exact hf.elim
      case row row args => exact Rows.mono hdo fun u w'' he => hK _ _ (agreeM_put ho h he.1) he.2
    | halt x w' =>
      cases x <;> simp only [Oper.upon] at hdo ⊢
  · rename_i hw'
    rw [if_neg hw'] at hdo
    exact hK _ _ (agreeM_put ho h hdo) hw
theorem keeps_of {m : Nat} {l : List Oper} {vs : List Value} {a : Act} {i : Nat} {o : Oper} {v : Value} {I : World → Prop} (hp : parted ops m = true) (hlm : l.length ≤ m) (hops : ∀ (j : Nat) (oj : Oper), l[j]? = some oj → ops[j]? = some oj)
    (hvs : vs.length = l.length) (ho : l[i]? = some o) (hv : vs[i]? = some v) (hc : Comes P ops I (fr a ((l.zip vs).take i)) o v) : Keeps P ops (fr a (l.zip vs)) I o := by
  have hil : i < l.length := (List.getElem?_eq_some_iff.1 ho).1
  have him : i < m := Nat.lt_of_lt_of_le hil hlm
  obtain ⟨hb, hs, hl, hd, _⟩ := parted_at hp (hops i o ho)
  have hz : (l.zip vs)[i]? = some (o, v) := by rw [List.getElem?_zip_eq_some]; exact ⟨ho, hv⟩
  have hiz : i < (l.zip vs).length := (List.getElem?_eq_some_iff.1 hz).1
  have hsplit : l.zip vs = (l.zip vs).take i ++ ((o, v) :: (l.zip vs).drop (i + 1)) := by
    have h1 : (l.zip vs).drop i = (o, v) :: (l.zip vs).drop (i + 1) := by
      rw [List.drop_eq_getElem_cons hiz]; congr 1
      have := List.getElem?_eq_getElem hiz; rw [hz] at this; exact (Option.some.inj this).symm
    rw [← h1, List.take_append_drop]
  have hfin : fr a (l.zip vs) = fr ((fr a ((l.zip vs).take i)).put o.dst v) ((l.zip vs).drop (i + 1)) := by
    conv => lhs; rw [hsplit]
    rw [fr_append]; rfl
  -- who stands behind
  have behind : ∀ p ∈ (l.zip vs).drop (i + 1), ∃ j, i < j ∧ j < m ∧ ops[j]? = some p.1 := by
    intro p hp'
    obtain ⟨k, hk⟩ := List.mem_iff_getElem?.1 hp'
    rw [List.getElem?_drop, List.getElem?_zip_eq_some] at hk
    have hkl : i + 1 + k < l.length := (List.getElem?_eq_some_iff.1 hk.1).1
    exact ⟨i + 1 + k, by omega, by omega, hops _ _ hk.1⟩
  generalize hai : fr a ((l.zip vs).take i) = ai at *
  generalize hq : (l.zip vs).drop (i + 1) = q at *
  have hsz : ai.tmps.size = (fr a (l.zip vs)).tmps.size := by rw [hfin, fr_size]; cases h : o.dst <;> simp [Act.put]
  have seen : ∀ t ∈ o.looksAt ops, ai.tmps[t]? = (fr a (l.zip vs)).tmps[t]? := by
    intro t ht
    have hno : ∀ (j : Nat) (oj : Oper), i ≤ j → j < m → ops[j]? = some oj → oj.dst ≠ some t := by
      intro j oj hij hjm hj he
      obtain ⟨e, he', rfl, hbd⟩ := hl him t ht j oj hjm hj he
      have := hb e he' hbd
      omega
    rw [hfin, fr_other t q _ fun p hp' he => by
      obtain ⟨j, hij, hjm, hj⟩ := behind p hp'
      exact hno j p.1 (by omega) hjm hj he]
    have h1 := hno i o (Nat.le_refl _) him (hops i o ho)
    cases hdst : o.dst with
    | none => rfl
    | some d =>
      have : d ≠ t := fun e => h1 (by rw [hdst, e])
      simp [Act.put, Array.getElem?_setIfInBounds_ne this]
  have hput : (fr a (l.zip vs)).put o.dst v = fr a (l.zip vs) := by
    cases hdst : o.dst with
    | none => rfl
    | some d =>
      have hslot : (fr a (l.zip vs)).tmps[d]? = (ai.tmps.setIfInBounds d v)[d]? := by
        rw [hfin, fr_other d q _ fun p hp' he => by
          obtain ⟨j, hij, hjm, hj⟩ := behind p hp'
          exact hd him j p.1 hjm (by omega) hj d he hdst, hdst]
        rfl
      have : (fr a (l.zip vs)).tmps.setIfInBounds d v = (fr a (l.zip vs)).tmps := by
        apply Array.ext_getElem?
        intro t
        by_cases e : d = t
        · subst e
          rw [hslot, Array.getElem?_setIfInBounds_self, Array.getElem?_setIfInBounds_self, hsz]
        · rw [Array.getElem?_setIfInBounds_ne e]
      show ({ (fr a (l.zip vs)) with tmps := (fr a (l.zip vs)).tmps.setIfInBounds d v } : Act) = _
      rw [this]
  obtain ⟨hex, hwa⟩ := looks_eq (a := ai) (fin := fr a (l.zip vs)) hs seen
  intro X hX
  rcases hc with ⟨hw, h⟩ | ⟨hw, rfl⟩
  · rw [if_pos (by rw [← hwa]; exact hw)]
    exact wp_move hex hsz hput (h X hX)
  · rw [if_neg (by rw [← hwa, hw]; decide)]
    exact hput
/-- **The first m operations in whatever order, walked once; then the rest in the text's order.** -/
theorem region {l : List Oper} {id : Nat} {a : Act} {w : World} {I : World → Prop} {Q : Exit → Act → World → Prop} (hm : P.follows .mixedOrders = true) (m : Nat) (hI : I { w with drawn := w.drawn + 1 })
    (hp : parted l.toArray m = true) (h : ∀ (ops : Array Oper) (K : Act → Prop), ops = l.toArray → RowKit.Hid (∀ fin, (∀ w', I w' → wpList P ops Q (l.drop m) fin w') → K fin) → Seq P ops I (l.take m) a K) : (Code.region id l.toArray true).wp P Q a w := by
  have hsz : l.toArray.size = l.length := by simp
  replace h := h _ _ rfl (Lib.hid fun _ h => h)
  obtain ⟨vs, hvs, hrest, hcomes⟩ := seq_out _ _ h
  have hkeep : ∀ o ∈ l.take m, Keeps P l.toArray (fr a ((l.take m).zip vs)) I o := by
    intro o ho
    obtain ⟨i, hi⟩ := List.mem_iff_getElem?.1 ho
    have hil : i < (l.take m).length := (List.getElem?_eq_some_iff.1 hi).1
    have hv : vs[i]? = some vs[i] := List.getElem?_eq_getElem (by omega)
    refine keeps_of (m := m) hp (by simp; omega) (fun j oj hj => ?_) hvs hi hv (hcomes i o _ hi hv)
    have : (l.take m)[j]? = l[j]? := by
      rw [List.getElem?_take]
      split
      · rfl
      · rename_i hc
        have := (List.getElem?_eq_some_iff.1 hj).1
        simp at this
        omega
    rw [this] at hj
    simpa using hj
  have hslots : ∀ t, (∀ (j : Nat) (o : Oper), j < m → l.toArray[j]? = some o → o.dst ≠ some t) → (fr a ((l.take m).zip vs)).tmps[t]? = a.tmps[t]? := by
    intro t ht
    refine fr_other t _ a fun p hp' => ?_
    obtain ⟨k, hk⟩ := List.mem_iff_getElem?.1 hp'
    rw [List.getElem?_zip_eq_some] at hk
    have h1 := hk.1
    rw [List.getElem?_take] at h1
    split at h1
    · rename_i hkm
      exact ht k p.1 hkm (by simpa using h1)
    · cases h1
  have hfd : (fr a ((l.take m).zip vs)).defers = a.defers := fr_defers _ _
  have hfs : (fr a ((l.take m).zip vs)).tmps.size = a.tmps.size := fr_size _ _
  clear hcomes h
  generalize fr a ((l.take m).zip vs) = fin at *
  refine wp_region_any hm ?_
  let Inv : Array Bool → Act → World → Prop := fun L a' w => Closed l.toArray L ∧ (((∀ j, m ≤ j → j < l.length → L.getD j true = false) ∧ AgreeM l.toArray m L a' fin ∧ I w) ∨ (∃ k, m < k ∧ k ≤ l.length ∧ (∀ j, j < l.length → (L.getD j true = true ↔ j < k)) ∧ wpList P l.toArray Q (l.drop k) a' w))
  have hset : ∀ (L : Array Bool) (i j : Nat), L.size = l.length → j < l.length → ((L.setIfInBounds i true).getD j true = true ↔ (j = i ∨ L.getD j true = true)) := by
    intro L i j hs hj
    by_cases e : i = j
    · subst e; simp [Array.getD_eq_getD_getElem?, hs, hj]
    · have : j ≠ i := fun h => e h.symm
      simp [Array.getD_eq_getD_getElem?, Array.getElem?_setIfInBounds_ne e, this]
  refine any_invB (Inv := Inv) (fun i o ho => (parted_at hp ho).1) ?_ ?_ _ _ _ _ (by simp) (left_le _ _) ?_
  · intro i o ho L a' w hL hLi hdep hInv
    have hLo := hL
    rw [hsz] at hL
    have hil : i < l.length := by have := (Array.getElem?_eq_some_iff.1 ho).1; simpa using this
    have hol : l[i]? = some o := by simpa using ho
    obtain ⟨_, _, _, _, htail⟩ := parted_at hp ho
    obtain ⟨hcl, hInv⟩ := hInv
    have hcl2 := hcl.set ho hdep
    rcases hInv with ⟨hnone, hag, hb⟩ | ⟨k, hmk, hkl, hk, hrun⟩
    · by_cases him : i < m
      · refine keep_step hp ho him hdep hag hb (hkeep o (List.mem_of_getElem? (i := i) (by rw [List.getElem?_take, if_pos him]; exact hol))) fun a'' w'' ha'' hb'' => ⟨hcl2, .inl ⟨fun j hj hjl => ?_, ha'', hb''⟩⟩
        have e : i ≠ j := by omega
        have := hnone j hj hjl
        simpa [Array.getD_eq_getD_getElem?, Array.getElem?_setIfInBounds_ne e] using this
      · -- the first of the rest
        have hmi : m ≤ i := by omega
        have hall : ∀ j, j < i → L.getD j true = true := lastAfter_all (htail hmi) ho hcl hLo hdep
        have him2 : i = m := by
          rcases Nat.lt_or_ge m i with h | h
          · have := hall m h; rw [hnone m (Nat.le_refl _) (by omega)] at this; cases this
          · omega
        subst him2
        have hfin : a' = fin := by
          have ht : a'.tmps = fin.tmps := Array.ext_getElem? fun t => hag.slot t fun j o' hj _ _ => hall j hj
          have hd := hag.defers
          cases a'; cases hq : fin; simp_all
        subst hfin
        have hr := hrest w hb
        have hdrop : l.drop i = o :: l.drop (i + 1) := by
          rw [List.drop_eq_getElem_cons hil]; congr 1
          have := List.getElem?_eq_getElem hil; rw [hol] at this; exact (Option.some.inj this).symm
        rw [hdrop] at hr
        refine wpOp_mono (fun a'' w'' h'' => ⟨hcl2, .inr ⟨i + 1, by omega, by omega, fun j hj => ?_, h''⟩⟩) (wpOp_tail ho hr)
        rw [hset L i j hL hj]
        constructor
        · rintro (h | h)
          · omega
          · rcases Nat.lt_or_ge j i with h1 | h1
            · omega
            · rw [hnone j h1 hj] at h; cases h
        · intro h
          rcases Nat.lt_or_ge j i with h1 | h1
          · exact .inr (hall j h1)
          · exact .inl (by omega)
    · -- further on
      have hki : k ≤ i := by
        rcases Nat.lt_or_ge i k with h | h
        · have := (hk i hil).2 h; rw [hLi] at this; cases this
        · exact h
      have hall : ∀ j, j < i → L.getD j true = true := lastAfter_all (htail (by omega)) ho hcl hLo hdep
      have hik : i = k := by
        rcases Nat.lt_or_ge k i with h | h
        · have := (hk k (by omega)).1 (hall k h); omega
        · omega
      subst hik
      have hdrop : l.drop i = o :: l.drop (i + 1) := by
        rw [List.drop_eq_getElem_cons hil]; congr 1
        have := List.getElem?_eq_getElem hil; rw [hol] at this; exact (Option.some.inj this).symm
      rw [hdrop] at hrun
      refine wpOp_mono (fun a'' w'' h'' => ⟨hcl2, .inr ⟨i + 1, by omega, by omega, fun j hj => ?_, h''⟩⟩) (wpOp_tail ho hrun)
      rw [hset L i j hL hj]
      constructor
      · rintro (h | h)
        · omega
        · have := (hk j hj).1 h; omega
      · intro h
        rcases Nat.lt_or_ge j i with h1 | h1
        · exact .inr (hall j h1)
        · exact .inl (by omega)
  · intro L a' w hL hall hInv
    rw [hsz] at hall
    rcases hInv.2 with ⟨hnone, hag, hb⟩ | ⟨k, hmk, hkl, hk, hrun⟩
    · have hml : l.length ≤ m := by
        rcases Nat.lt_or_ge m l.length with h | h
        · have h1 := hnone m (Nat.le_refl _) h; rw [hall m h] at h1; cases h1
        · exact h
      have hfin : a' = fin := by
        have ht : a'.tmps = fin.tmps := Array.ext_getElem? fun t => hag.slot t fun j o' _ hj _ => hall j (by have := (Array.getElem?_eq_some_iff.1 hj).1; simpa using this)
        have hd := hag.defers
        cases a'; cases hq : fin; simp_all
      subst hfin
      have hr := hrest w hb
      rw [List.drop_of_length_le hml] at hr
      exact hr
    · have : k = l.length := by
        rcases Nat.lt_or_ge k l.length with h | h
        · have h1 := (hk k h).1 (hall k h); omega
        · omega
      subst this
      rw [List.drop_length] at hrun
      exact hrun
  · refine ⟨fun k o _ hk => (by exfalso; rw [Array.getD_eq_getD_getElem?, Array.getElem?_replicate] at hk; split at hk <;> simp at hk), .inl ⟨fun j hj hjl => by simp [Array.getD_eq_getD_getElem?, hjl], ⟨hfd.symm, hfs.symm, fun t ht => (hslots t fun j o hj ho he => ?_).symm⟩, hI⟩⟩
    have h2 := ht j o hj ho he
    have hjl : j < l.length := by have := (Array.getElem?_eq_some_iff.1 ho).1; simpa using this
    simp [Array.getD_eq_getD_getElem?, hjl] at h2
end
end Go.Proofs.Ytecpkipgkaaefaa.Sq
end
section
namespace Go.Proofs.Ytecpkipgkaaefaa.Sq
open Go Go.RowKit Go.Proofs.Ytecpkipgkaaefaa.Reg Go.Proofs.Ytecpkipgkaaefaa.Calm Go.Proofs.Ytecpkipgkaaefaa.Step
set_option linter.unusedVariables false
set_option linter.unusedSimpArgs false
section
variable {P : Program} {ops : Array Oper} {I : World → Prop} {o : Oper} {r : List Oper} {a : Act} {K : Act → Prop}
theorem seq_val {v : Value} (hw : Region.wanted o (yielded ops a.tmps) = true) (hr : ∀ X, I X → (execOp a.eval o).run P X = .ok (.value v) X) (h : Seq P ops I r (a.put o.dst v) K) : Seq P ops I (o :: r) a K :=
  ⟨v, .inl ⟨hw, fun X hX => by unfold Oper.wp; rw [hr X hX]; exact ⟨rfl, hX⟩⟩, h⟩
theorem seq_pure {v : Value} (hg : o.guard = none) (hr : ∀ X, (execOp a.eval o).run P X = .ok (.value v) X) (h : Seq P ops I r (a.put o.dst v) K) : Seq P ops I (o :: r) a K :=
  seq_val (by simp [Region.wanted, hg]) (fun X _ => hr X) h
theorem seq_move {x : Operand} (hg : o.guard = none) (ho : o.op = .move x) (h : Seq P ops I r (a.put o.dst (a.eval x)) K) : Seq P ops I (o :: r) a K :=
  seq_pure hg (fun X => by simp [execOp, ho]) h
theorem seq_check {x : Operand} {ad : Addr} (hg : o.guard = none) (ho : o.op = .nilCheck x) (hx : a.eval x = .pointer (some ad)) (h : Seq P ops I r (a.put o.dst (.pointer (some ad))) K) : Seq P ops I (o :: r) a K :=
  seq_pure hg (fun X => by simp only [execOp, ho, hx]; rfl) h
/-- A cell of a block is read. -/
theorem seq_load {t : TypeId} {x : Operand} {g i : Nat} {cs : Array Value} {T : TypeId} {v : Value} (hB : ∀ X, I X → Blk X g cs T) (hw : Region.wanted o (yielded ops a.tmps) = true) (ho : o.op = .load t x) (hx : a.eval x = .pointer (some ⟨g, i, none⟩)) (ht : plainT P t = true) (hv : cs[i]? = some v)
    (h : Seq P ops I r (a.put o.dst v) K) : Seq P ops I (o :: r) a K :=
  seq_val hw (fun X hX => by
    have := run_load1 (P := P) ht (((hB X hX).cell i).trans hv)
    simp [execOp, ho, hx, this, Result.andThen]) h
/-- A row of a block is read. -/
theorem seq_row {t : TypeId} {x : Operand} {g k : Nat} {cs ds : Array Value} {T : TypeId} {d : TypeDesc} (hB : ∀ X, I X → Blk X g cs T) (hw : Region.wanted o (yielded ops a.tmps) = true) (ho : o.op = .load t x) (hx : a.eval x = .pointer (some ⟨g, k, none⟩)) (hr : Row cs k ds) (hu : P.underlying t = some d)
    (hd : d.isRow = true) (hi : (P.info? t).map (·.size) = some ds.size) (h : Seq P ops I r (a.put o.dst (.agg ds)) K) : Seq P ops I (o :: r) a K :=
  seq_val hw (fun X hX => by
    have h2 := run_loadAt_mid (P := P) X g k t ds.toList d (fun j v hv => ((hB X hX).cell (k + j)).trans (hr j v hv)) hu hd (by simpa using hi)
    simp [execOp, ho, hx, h2, Result.andThen]) h
theorem row_all (cs : Array Value) : Row cs 0 cs := fun j v hv => by simpa using hv
/-- The function that is called. -/
def calleeOf (o : Oper) : Option FuncId := match o.op with | .call c => (match c.callee with | .value (.func f) => some f | _ => none) | _ => none
/-- A call that keeps the condition. -/
theorem seq_call {args : Array Value} {v : Value} (f : FuncId) (_ : calleeOf o = some f) (hw : Region.wanted o (yielded ops a.tmps) = true) (hr : ∀ X, (execOp a.eval o).run P X = .ok (.enter f args) X)
    (hc : ∀ X, I X → Calls P f args X fun e X' => e = .returned v ∧ I X') (h : Seq P ops I r (a.put o.dst v) K) : Seq P ops I (o :: r) a K :=
  ⟨v, .inl ⟨hw, fun X hX => by
    unfold Oper.wp
    rw [hr X]
    refine Calls.mono (hc X hX) fun e X' he => ?_
    obtain ⟨rfl, hX'⟩ := he
    exact ⟨rfl, hX'⟩⟩, h⟩
theorem wanted_none {o : Oper} {y : Nat → Option Bool} (hg : o.guard = none) : Region.wanted o y = true := by simp [Region.wanted, hg]
end
end Go.Proofs.Ytecpkipgkaaefaa.Sq
end
section
namespace Go.Proofs.Ytecpkipgkaaefaa.Hart
open Go Go.RowKit Go.Proofs.Ytecpkipgkaaefaa.Step Go.Proofs.Ytecpkipgkaaefaa.Enc Go.Proofs.Ytecpkipgkaaefaa.Kn
set_option linter.unusedVariables false
set_option linter.unusedSimpArgs false
set_option maxRecDepth 100000
/-- Some bytes of a number as a word. -/
def extV (v : Int) (sz : Int) (sg : Bool) : Int :=
  if sz = 1 then (if sg = true ∧ v % 256 ≥ 128 then v % 256 + 18446744073709551360 else v % 256)
  else if sz = 2 then (if sg = true ∧ v % 65536 ≥ 32768 then v % 65536 + 18446744073709486080 else v % 65536)
  else if sz = 4 then (if sg = true ∧ v % 4294967296 ≥ 2147483648 then v % 4294967296 + 18446744069414584320 else v % 4294967296)
  else v
theorem extV_w {v : Int} (h : U64 v) (sz : Int) (sg : Bool) : U64 (extV v sz sg) := by
  have := h.out
  refine ⟨?_⟩
  unfold extV
  (repeat' split) <;> omega
set_option maxHeartbeats 4000000 in
theorem extend_any {v : Int} (hv : U64 v) (sz : Int) (sg : Bool) (w : World) : Calls Try.prog 17 #[.int .u64 v, .int .i64 sz, .bool sg] w fun e w' => e = .returned (.int .u64 (extV v sz sg)) ∧ Below w.heap.size w w' := by
  have hv := hv.out
  by_cases h1 : sz = 1
  · subst h1
    have e1 : IntKind.u64.wrap (v * 72057594037927936) / 72057594037927936 = v % 256 := by rw [IntKind.wrap_u64]; omega
    have e2 : IntKind.u64.wrap (wrap64 (IntKind.u64.wrap (v * 72057594037927936)) / 72057594037927936) = extV v 1 true := by
      rw [IntKind.wrap_u64, IntKind.wrap_u64]
      simp only [extV, Int.reduceEq, if_true, if_false, true_and]
      unfold wrap64
      (repeat' split) <;> omega
    have e3 : extV v 1 false = v % 256 := by simp [extV]
    cases sg
    all_goals (
      have HB := Lib.hid (Below.refl _ _ : Below w.heap.size w w)
      try rw [e3]
      generalize extV v 1 true = r at *
      go_enter Try.func17, Try.ntmps17
      go_wp2
      go_ret
      exact ⟨rfl, HB.out⟩)
  by_cases h2 : sz = 2
  · subst h2
    have e1 : IntKind.u64.wrap (v * 281474976710656) / 281474976710656 = v % 65536 := by rw [IntKind.wrap_u64]; omega
    have e2 : IntKind.u64.wrap (wrap64 (IntKind.u64.wrap (v * 281474976710656)) / 281474976710656) = extV v 2 true := by
      rw [IntKind.wrap_u64, IntKind.wrap_u64]
      simp only [extV, Int.reduceEq, if_true, if_false, true_and]
      unfold wrap64
      (repeat' split) <;> omega
    have e3 : extV v 2 false = v % 65536 := by simp [extV]
    cases sg
    all_goals (
      have HB := Lib.hid (Below.refl _ _ : Below w.heap.size w w)
      try rw [e3]
      generalize extV v 2 true = r at *
      go_enter Try.func17, Try.ntmps17
      go_wp2
      go_ret
      exact ⟨rfl, HB.out⟩)
  by_cases h4 : sz = 4
  · subst h4
    have e1 : IntKind.u64.wrap (v * 4294967296) / 4294967296 = v % 4294967296 := by rw [IntKind.wrap_u64]; omega
    have e2 : IntKind.u64.wrap (wrap64 (IntKind.u64.wrap (v * 4294967296)) / 4294967296) = extV v 4 true := by
      rw [IntKind.wrap_u64, IntKind.wrap_u64]
      simp only [extV, Int.reduceEq, if_true, if_false, true_and]
      unfold wrap64
      (repeat' split) <;> omega
    have e3 : extV v 4 false = v % 4294967296 := by simp [extV]
    cases sg
    all_goals (
      have HB := Lib.hid (Below.refl _ _ : Below w.heap.size w w)
      try rw [e3]
      generalize extV v 4 true = r at *
      go_enter Try.func17, Try.ntmps17
      go_wp2
      go_ret
      exact ⟨rfl, HB.out⟩)
  have e : extV v sz sg = v := by unfold extV; rw [if_neg h1, if_neg h2, if_neg h4]
  rw [e]
  replace h1 : (sz != 1) = true := by simpa using h1
  replace h2 : (sz != 2) = true := by simpa using h2
  replace h4 : (sz != 4) = true := by simpa using h4
  have HB := Lib.hid (Below.refl _ _ : Below w.heap.size w w)
  go_enter Try.func17, Try.ntmps17
  go_wp2
  go_ret
  exact ⟨rfl, HB.out⟩
end Go.Proofs.Ytecpkipgkaaefaa.Hart
end
