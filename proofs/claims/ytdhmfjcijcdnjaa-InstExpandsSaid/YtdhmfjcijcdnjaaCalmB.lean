/- The same with one new block: calm operations and one allocation come up in whatever order; the rest comes behind them in the text's order. -/
import Derived.Test.YtdhmfjcijcdnjaaCalm
namespace Go.Proofs.Ytdhmfjcijcdnjaa.Calm
open Go Go.RowKit Go.Proofs.Ytdhmfjcijcdnjaa.Reg
set_option linter.unusedVariables false
section
variable {P : Program} {ops : Array Oper}
/-- No other of the first m operations looks at slot d or fills it. -/
def solo (ops : Array Oper) (m ia d : Nat) : Bool :=
  (List.range m).all fun i => i == ia || match ops[i]? with
    | none => true
    | some o => !(o.looksAt ops).contains d && o.dst != some d
theorem solo_at {m ia d : Nat} (h : solo ops m ia d = true) {i : Nat} {o : Oper} (him : i < m) (hne : i ≠ ia) (ho : ops[i]? = some o) : d ∉ o.looksAt ops ∧ o.dst ≠ some d := by
  have h1 := List.all_eq_true.1 h i (List.mem_range.2 him)
  simp only [ho, beq_eq_false_iff_ne.2 hne, Bool.false_or, Bool.and_eq_true] at h1
  exact ⟨by simpa using h1.1, by simpa using h1.2⟩
def ptr (g : Nat) : Value := .pointer (some ⟨g, 0, none⟩)
theorem calm_put {fin : Act} {W : World} {o : Oper} {d : Nat} {u : Value} (hs : ∀ cs b, o.op ≠ .select cs b) (hl : d ∉ o.looksAt ops) (hd : o.dst ≠ some d) (h : Calm P ops fin W o) : Calm P ops (fin.put (some d) u) W o := by
  intro X hX
  have h1 := h X hX
  have hw : Region.wanted o (yielded ops (fin.put (some d) u).tmps) = Region.wanted o (yielded ops fin.tmps) := wanted_put o fin (some d) u (fun e he => by obtain rfl := Option.some.inj he; exact hl)
  have hex : execOp (fin.put (some d) u).eval o = execOp fin.eval o := execOp_put (ops := ops) o hs fin (some d) u (fun e he => by obtain rfl := Option.some.inj he; exact hl)
  have hput : ∀ v, fin.put o.dst v = fin → (fin.put (some d) u).put o.dst v = fin.put (some d) u := fun v hv => by
    rw [Act.put_comm fin u v (x := some d) (y := o.dst) (fun e he => by obtain rfl := Option.some.inj he; exact hd), hv]
  rw [hw]
  split
  · rename_i hw'
    rw [if_pos hw'] at h1
    unfold Oper.wp at *
    rw [hex]
    generalize (execOp fin.eval o).run P X = r at *
    cases r with
    | ok n w' =>
      cases n <;> simp only [Oper.upon] at h1 ⊢
      case value v => exact ⟨hput v h1.1, h1.2⟩
      case skip => exact ⟨hput _ h1.1, h1.2⟩
      case defer d' =>
        exfalso
        have h3 := congrArg Act.defers h1.1
        have h2 : (({ fin with defers := d' :: fin.defers } : Act).put o.dst undef).defers = d' :: fin.defers := by cases o.dst <;> rfl
        rw [h2] at h3
        have := congrArg List.length h3
        simp at this
      case enter f args =>
        refine Calls.mono h1 fun e w'' he => ?_
        cases e with
        | returned v => exact ⟨hput v he.1, he.2⟩
        | panicked c => exact he.elim
        | outgrown => obtain ⟨_, _, hf⟩ := he; exact hf.elim
      case row row args => exact Rows.mono h1 fun v w'' he => ⟨hput v he.1, he.2⟩
    | halt x w' =>
      cases x <;> simp only [Oper.upon] at h1 ⊢
  · rename_i hw'
    rw [if_neg hw'] at h1
    exact hput _ h1

theorem agree_other {m : Nat} {L : Array Bool} {a fin : Act} {d ia : Nat} {oa : Oper} (hoa : ops[ia]? = some oa) (him : ia < m) (hda : oa.dst = some d) (hL : L.getD ia true = false) {u u' : Value} (h : AgreeM ops m L a (fin.put (some d) u)) : AgreeM ops m L a (fin.put (some d) u') := by
  refine ⟨h.defers, by simpa [Act.put] using h.size, fun t ht => ?_⟩
  by_cases e : d = t
  · subst e; have := ht ia oa him hoa hda; rw [hL] at this; cases this
  · have h1 := h.slot t ht
    simpa [Act.put, Array.getElem?_setIfInBounds_ne e] using h1

/-- **Calm operations and one allocation in whatever order, then the rest in the text's.** -/
theorem region_alloc {l : List Oper} {id : Nat} {a fin : Act} {W : World} {Q : Exit → Act → World → Prop} (hm : P.follows .mixedOrders = true) (m ia d : Nat) (oa : Oper) (obj : Obj) (vs : List (Tmp × Value))
    (hp : parted l.toArray m = true) (hin : withinM l.toArray m vs = true) (hsolo : solo l.toArray m ia d = true) (hoa : l[ia]? = some oa) (him : ia < m) (hda : oa.dst = some d) (hga : oa.guard = none)
    (hrun : ∀ (b : Act) (X : World), (execOp b.eval oa).run P X = .ok (.value (ptr X.heap.size)) (X.alloc obj)) (hfin : puts a vs = fin)
    (hcalm : ∀ o ∈ (l.take m).eraseIdx ia, Calm P l.toArray fin W o)
    (hrest : ∀ g w, W.heap.size ≤ g → g < w.heap.size → Below W.heap.size W w → w.heap[g]? = some obj → wpList P l.toArray Q (l.drop m) (fin.put (some d) (ptr g)) w) : (Code.region id l.toArray true).wp P Q a W := by
  subst hfin
  have hsz : l.toArray.size = l.length := by simp
  have hoa' : l.toArray[ia]? = some oa := by simpa using hoa
  refine wp_region_any hm ?_
  let Inv : Array Bool → Act → World → Prop := fun L a' w =>
    ((∀ j, m ≤ j → j < l.length → L.getD j true = false) ∧ Below W.heap.size W w ∧ ∃ g, (L.getD ia true = true → W.heap.size ≤ g ∧ g < w.heap.size ∧ w.heap[g]? = some obj) ∧ AgreeM l.toArray m L a' ((puts a vs).put (some d) (ptr g))) ∨
    (∃ k, m < k ∧ k ≤ l.length ∧ (∀ j, j < l.length → (L.getD j true = true ↔ j < k)) ∧ wpList P l.toArray Q (l.drop k) a' w)
  have hset : ∀ (L : Array Bool) (i j : Nat), L.size = l.length → j < l.length → ((L.setIfInBounds i true).getD j true = true ↔ (j = i ∨ L.getD j true = true)) := by
    intro L i j hs hj
    by_cases e : i = j
    · subst e; simp [Array.getD_eq_getD_getElem?, hs, hj]
    · have : j ≠ i := fun h => e h.symm
      simp [Array.getD_eq_getD_getElem?, Array.getElem?_setIfInBounds_ne e, this]
  have hial : ia < l.length := by have := (List.getElem?_eq_some_iff.1 hoa).1; exact this
  refine any_inv (Inv := Inv) (fun i o ho => (parted_at hp ho).1) ?_ ?_ _ _ _ _ (by simp) (left_le _ _) ?_
  · intro i o ho L a' w hL hLi hdep hI
    rw [hsz] at hL
    have hil : i < l.length := by have := (Array.getElem?_eq_some_iff.1 ho).1; simpa using this
    have hol : l[i]? = some o := by simpa using ho
    obtain ⟨_, hsel, _, htail⟩ := parted_at hp ho
    rcases hI with ⟨hnone, hb, g, hg, hag⟩ | ⟨k, hmk, hkl, hk, hrun'⟩
    · by_cases him' : i < m
      · have hnone' : ∀ j, m ≤ j → j < l.length → (L.setIfInBounds i true).getD j true = false := fun j hj hjl => by
          have e : i ≠ j := by omega
          have := hnone j hj hjl
          simpa [Array.getD_eq_getD_getElem?, Array.getElem?_setIfInBounds_ne e] using this
        by_cases hia : i = ia
        · subst hia
          rw [hoa'] at ho; obtain rfl := Option.some.inj ho
          have hag' := agree_other hoa' him hda hLi (u' := ptr w.heap.size) hag
          unfold wpOp
          simp only [hoa']
          rw [if_pos (by simp [Region.wanted, hga])]
          refine .inl ?_
          unfold Oper.wp; rw [hrun a' w]
          refine .inl ⟨hnone', hb.alloc hb.size obj, w.heap.size, fun _ => ⟨hb.size, by simp, (MapKept.heap_alloc w obj).1⟩, ?_⟩
          refine agreeM_put hoa' hag' ?_
          rw [hda]; simp [Act.put]
        · obtain ⟨hl1, hl2⟩ := solo_at hsolo him' hia ho
          have hmem : o ∈ (l.take m).eraseIdx ia := by
            have h0 : (l.take m)[i]? = some o := by rw [List.getElem?_take, if_pos him']; exact hol
            rcases Nat.lt_or_ge i ia with h | h
            · exact List.mem_of_getElem? (i := i) (by rw [List.getElem?_eraseIdx, if_pos h]; exact h0)
            · have hlt : ia < i := by omega
              exact List.mem_of_getElem? (i := i - 1) (by rw [List.getElem?_eraseIdx, if_neg (by omega), show i - 1 + 1 = i by omega]; exact h0)
          refine calm_step hp ho him' hdep hag hb (calm_put hsel hl1 hl2 (hcalm o hmem)) fun a'' w'' ha'' hb'' => .inl ⟨hnone', hb.trans (hb''.mono hb.size), g, fun hLia => ?_, ha''⟩
          have hLia' : L.getD ia true = true := by
            have := (hset L i ia hL hial).1 hLia
            rcases this with h | h
            · exact absurd h.symm hia
            · exact h
          obtain ⟨h1, h2, h3⟩ := hg hLia'
          exact ⟨h1, Nat.lt_of_lt_of_le h2 hb''.size, by rw [hb''.block g h2]; exact h3⟩
      · -- the first of the rest
        have hmi : m ≤ i := by omega
        have hall : ∀ j, j < i → L.getD j true = true := fun j hj => by
          obtain ⟨e, he, rfl, hbd⟩ := htail hmi j hj
          exact hdep e he hbd
        have him2 : i = m := by
          rcases Nat.lt_or_ge m i with h | h
          · have := hall m h; rw [hnone m (Nat.le_refl _) (by omega)] at this; cases this
          · omega
        subst him2
        have hfin : a' = (puts a vs).put (some d) (ptr g) := by
          have ht : a'.tmps = ((puts a vs).put (some d) (ptr g)).tmps := Array.ext_getElem? fun t => hag.slot t fun j o' hj _ _ => hall j hj
          have hd := hag.defers
          cases a'; cases hq : (puts a vs).put (some d) (ptr g); simp_all
        subst hfin
        obtain ⟨h1, h2, h3⟩ := hg (hall ia him)
        have hr := hrest g w h1 h2 hb h3
        have hdrop : l.drop i = o :: l.drop (i + 1) := by
          rw [List.drop_eq_getElem_cons hil]; congr 1
          have := List.getElem?_eq_getElem hil; rw [hol] at this; exact (Option.some.inj this).symm
        rw [hdrop] at hr
        refine wpOp_mono (fun a'' w'' h'' => .inr ⟨i + 1, by omega, by omega, fun j hj => ?_, h''⟩) (wpOp_tail ho hr)
        rw [hset L i j hL hj]
        constructor
        · rintro (h | h)
          · omega
          · rcases Nat.lt_or_ge j i with h1 | h1
            · omega
            · rw [hnone j h1 hj] at h; cases h
        · intro h
          rcases Nat.lt_or_ge j i with h1 | h1
          · exact .inr (hall j h1)
          · exact .inl (by omega)
    · have hki : k ≤ i := by
        rcases Nat.lt_or_ge i k with h | h
        · have := (hk i hil).2 h; rw [hLi] at this; cases this
        · exact h
      have hall : ∀ j, j < i → L.getD j true = true := fun j hj => by
        obtain ⟨e, he, rfl, hbd⟩ := htail (by omega) j hj
        exact hdep e he hbd
      have hik : i = k := by
        rcases Nat.lt_or_ge k i with h | h
        · have := (hk k (by omega)).1 (hall k h); omega
        · omega
      subst hik
      have hdrop : l.drop i = o :: l.drop (i + 1) := by
        rw [List.drop_eq_getElem_cons hil]; congr 1
        have := List.getElem?_eq_getElem hil; rw [hol] at this; exact (Option.some.inj this).symm
      rw [hdrop] at hrun'
      refine wpOp_mono (fun a'' w'' h'' => .inr ⟨i + 1, by omega, by omega, fun j hj => ?_, h''⟩) (wpOp_tail ho hrun')
      rw [hset L i j hL hj]
      constructor
      · rintro (h | h)
        · omega
        · have := (hk j hj).1 h; omega
      · intro h
        rcases Nat.lt_or_ge j i with h1 | h1
        · exact .inr (hall j h1)
        · exact .inl (by omega)
  · intro L a' w hL hall hI
    rw [hsz] at hall
    rcases hI with ⟨hnone, hb, g, hg, hag⟩ | ⟨k, hmk, hkl, hk, hrun'⟩
    · have hml : l.length ≤ m := by
        rcases Nat.lt_or_ge m l.length with h | h
        · have h1 := hnone m (Nat.le_refl _) h; rw [hall m h] at h1; cases h1
        · exact h
      have hfin : a' = (puts a vs).put (some d) (ptr g) := by
        have ht : a'.tmps = ((puts a vs).put (some d) (ptr g)).tmps := Array.ext_getElem? fun t => hag.slot t fun j o' _ hj _ => hall j (by have := (Array.getElem?_eq_some_iff.1 hj).1; simpa using this)
        have hd := hag.defers
        cases a'; cases hq : (puts a vs).put (some d) (ptr g); simp_all
      subst hfin
      obtain ⟨h1, h2, h3⟩ := hg (hall ia hial)
      have hr := hrest g w h1 h2 hb h3
      rw [List.drop_of_length_le hml] at hr
      exact hr
    · have : k = l.length := by
        rcases Nat.lt_or_ge k l.length with h | h
        · have h1 := (hk k h).1 (hall k h); omega
        · omega
      subst this
      rw [List.drop_length] at hrun'
      exact hrun'
  · refine .inl ⟨fun j hj hjl => by simp [Array.getD_eq_getD_getElem?, hjl], (Below.refl _ _).drew, 0, fun h => by simp [Array.getD_eq_getD_getElem?, hial] at h, ⟨(puts_defers vs a).symm, by simpa [Act.put] using (puts_size vs a).symm, fun t ht => ?_⟩⟩
    by_cases e : d = t
    · subst e
      have := ht ia oa him hoa' hda
      simp [Array.getD_eq_getD_getElem?, hial] at this
    · have h0 : ((puts a vs).put (some d) (ptr 0)).tmps[t]? = (puts a vs).tmps[t]? := by simp [Act.put, Array.getElem?_setIfInBounds_ne e]
      rw [h0]
      refine (puts_other t vs a fun p hp' he => ?_).symm
      have h1 := List.all_eq_true.1 hin p hp'
      obtain ⟨j, hj, hb⟩ := List.any_eq_true.1 h1
      have hjm : j < m := List.mem_range.1 hj
      cases hoj : l.toArray[j]? with
      | none => rw [hoj] at hb; simp at hb
      | some oj =>
        rw [hoj] at hb
        have h2 := ht j oj hjm hoj (by simpa [he] using hb)
        have hjl : j < l.length := by have := (Array.getElem?_eq_some_iff.1 hoj).1; simpa using this
        simp [Array.getD_eq_getD_getElem?, hjl] at h2

/-- The same for a making whose operands are filled by the others: **calm operations and one allocation in whatever order, then the rest in the text's.** -/
theorem region_made {l : List Oper} {id : Nat} {a fin : Act} {W : World} {Q : Exit → Act → World → Prop} (hm : P.follows .mixedOrders = true) (val : Nat → Value) (m ia d : Nat) (oa : Oper) (obj : Obj) (vs : List (Tmp × Value))
    (hp : parted l.toArray m = true) (hin : withinM l.toArray m vs = true) (hsolo : solo l.toArray m ia d = true) (hoa : l[ia]? = some oa) (him : ia < m) (hda : oa.dst = some d) (hga : oa.guard = none)
    (hself : (oa.looksAt l.toArray).contains d = false) (hsel0 : ∀ cs b, oa.op ≠ .select cs b) (hrun : ∀ (X : World), (execOp fin.eval oa).run P X = .ok (.value (val X.heap.size)) (X.alloc obj)) (hfin : puts a vs = fin)
    (hcalm : ∀ o ∈ (l.take m).eraseIdx ia, Calm P l.toArray fin W o)
    (hrest : ∀ g w, W.heap.size ≤ g → g < w.heap.size → Below W.heap.size W w → w.heap[g]? = some obj → wpList P l.toArray Q (l.drop m) (fin.put (some d) (val g)) w) : (Code.region id l.toArray true).wp P Q a W := by
  subst hfin
  have hsz : l.toArray.size = l.length := by simp
  have hoa' : l.toArray[ia]? = some oa := by simpa using hoa
  refine wp_region_any hm ?_
  let Inv : Array Bool → Act → World → Prop := fun L a' w =>
    ((∀ j, m ≤ j → j < l.length → L.getD j true = false) ∧ Below W.heap.size W w ∧ ∃ g, (L.getD ia true = true → W.heap.size ≤ g ∧ g < w.heap.size ∧ w.heap[g]? = some obj) ∧ AgreeM l.toArray m L a' ((puts a vs).put (some d) (val g))) ∨
    (∃ k, m < k ∧ k ≤ l.length ∧ (∀ j, j < l.length → (L.getD j true = true ↔ j < k)) ∧ wpList P l.toArray Q (l.drop k) a' w)
  have hset : ∀ (L : Array Bool) (i j : Nat), L.size = l.length → j < l.length → ((L.setIfInBounds i true).getD j true = true ↔ (j = i ∨ L.getD j true = true)) := by
    intro L i j hs hj
    by_cases e : i = j
    · subst e; simp [Array.getD_eq_getD_getElem?, hs, hj]
    · have : j ≠ i := fun h => e h.symm
      simp [Array.getD_eq_getD_getElem?, Array.getElem?_setIfInBounds_ne e, this]
  have hial : ia < l.length := by have := (List.getElem?_eq_some_iff.1 hoa).1; exact this
  refine any_inv (Inv := Inv) (fun i o ho => (parted_at hp ho).1) ?_ ?_ _ _ _ _ (by simp) (left_le _ _) ?_
  · intro i o ho L a' w hL hLi hdep hI
    rw [hsz] at hL
    have hil : i < l.length := by have := (Array.getElem?_eq_some_iff.1 ho).1; simpa using this
    have hol : l[i]? = some o := by simpa using ho
    obtain ⟨_, hsel, _, htail⟩ := parted_at hp ho
    rcases hI with ⟨hnone, hb, g, hg, hag⟩ | ⟨k, hmk, hkl, hk, hrun'⟩
    · by_cases him' : i < m
      · have hnone' : ∀ j, m ≤ j → j < l.length → (L.setIfInBounds i true).getD j true = false := fun j hj hjl => by
          have e : i ≠ j := by omega
          have := hnone j hj hjl
          simpa [Array.getD_eq_getD_getElem?, Array.getElem?_setIfInBounds_ne e] using this
        by_cases hia : i = ia
        · subst hia
          rw [hoa'] at ho; obtain rfl := Option.some.inj ho
          have hag' := agree_other hoa' him hda hLi (u' := val w.heap.size) hag
          unfold wpOp
          simp only [hoa']
          rw [if_pos (by simp [Region.wanted, hga])]
          refine .inl ?_
          have hlook := (looks_same hp hoa' him hdep hag).1
          rw [execOp_put (ops := l.toArray) oa hsel0 (puts a vs) (some d) (val g) (fun e he => by obtain rfl := Option.some.inj he; simpa using hself)] at hlook
          unfold Oper.wp; rw [hlook, hrun w]
          refine .inl ⟨hnone', hb.alloc hb.size obj, w.heap.size, fun _ => ⟨hb.size, by simp, (MapKept.heap_alloc w obj).1⟩, ?_⟩
          refine agreeM_put hoa' hag' ?_
          rw [hda]; simp [Act.put]
        · obtain ⟨hl1, hl2⟩ := solo_at hsolo him' hia ho
          have hmem : o ∈ (l.take m).eraseIdx ia := by
            have h0 : (l.take m)[i]? = some o := by rw [List.getElem?_take, if_pos him']; exact hol
            rcases Nat.lt_or_ge i ia with h | h
            · exact List.mem_of_getElem? (i := i) (by rw [List.getElem?_eraseIdx, if_pos h]; exact h0)
            · have hlt : ia < i := by omega
              exact List.mem_of_getElem? (i := i - 1) (by rw [List.getElem?_eraseIdx, if_neg (by omega), show i - 1 + 1 = i by omega]; exact h0)
          refine calm_step hp ho him' hdep hag hb (calm_put hsel hl1 hl2 (hcalm o hmem)) fun a'' w'' ha'' hb'' => .inl ⟨hnone', hb.trans (hb''.mono hb.size), g, fun hLia => ?_, ha''⟩
          have hLia' : L.getD ia true = true := by
            have := (hset L i ia hL hial).1 hLia
            rcases this with h | h
            · exact absurd h.symm hia
            · exact h
          obtain ⟨h1, h2, h3⟩ := hg hLia'
          exact ⟨h1, Nat.lt_of_lt_of_le h2 hb''.size, by rw [hb''.block g h2]; exact h3⟩
      · -- the first of the rest
        have hmi : m ≤ i := by omega
        have hall : ∀ j, j < i → L.getD j true = true := fun j hj => by
          obtain ⟨e, he, rfl, hbd⟩ := htail hmi j hj
          exact hdep e he hbd
        have him2 : i = m := by
          rcases Nat.lt_or_ge m i with h | h
          · have := hall m h; rw [hnone m (Nat.le_refl _) (by omega)] at this; cases this
          · omega
        subst him2
        have hfin : a' = (puts a vs).put (some d) (val g) := by
          have ht : a'.tmps = ((puts a vs).put (some d) (val g)).tmps := Array.ext_getElem? fun t => hag.slot t fun j o' hj _ _ => hall j hj
          have hd := hag.defers
          cases a'; cases hq : (puts a vs).put (some d) (val g); simp_all
        subst hfin
        obtain ⟨h1, h2, h3⟩ := hg (hall ia him)
        have hr := hrest g w h1 h2 hb h3
        have hdrop : l.drop i = o :: l.drop (i + 1) := by
          rw [List.drop_eq_getElem_cons hil]; congr 1
          have := List.getElem?_eq_getElem hil; rw [hol] at this; exact (Option.some.inj this).symm
        rw [hdrop] at hr
        refine wpOp_mono (fun a'' w'' h'' => .inr ⟨i + 1, by omega, by omega, fun j hj => ?_, h''⟩) (wpOp_tail ho hr)
        rw [hset L i j hL hj]
        constructor
        · rintro (h | h)
          · omega
          · rcases Nat.lt_or_ge j i with h1 | h1
            · omega
            · rw [hnone j h1 hj] at h; cases h
        · intro h
          rcases Nat.lt_or_ge j i with h1 | h1
          · exact .inr (hall j h1)
          · exact .inl (by omega)
    · have hki : k ≤ i := by
        rcases Nat.lt_or_ge i k with h | h
        · have := (hk i hil).2 h; rw [hLi] at this; cases this
        · exact h
      have hall : ∀ j, j < i → L.getD j true = true := fun j hj => by
        obtain ⟨e, he, rfl, hbd⟩ := htail (by omega) j hj
        exact hdep e he hbd
      have hik : i = k := by
        rcases Nat.lt_or_ge k i with h | h
        · have := (hk k (by omega)).1 (hall k h); omega
        · omega
      subst hik
      have hdrop : l.drop i = o :: l.drop (i + 1) := by
        rw [List.drop_eq_getElem_cons hil]; congr 1
        have := List.getElem?_eq_getElem hil; rw [hol] at this; exact (Option.some.inj this).symm
      rw [hdrop] at hrun'
      refine wpOp_mono (fun a'' w'' h'' => .inr ⟨i + 1, by omega, by omega, fun j hj => ?_, h''⟩) (wpOp_tail ho hrun')
      rw [hset L i j hL hj]
      constructor
      · rintro (h | h)
        · omega
        · have := (hk j hj).1 h; omega
      · intro h
        rcases Nat.lt_or_ge j i with h1 | h1
        · exact .inr (hall j h1)
        · exact .inl (by omega)
  · intro L a' w hL hall hI
    rw [hsz] at hall
    rcases hI with ⟨hnone, hb, g, hg, hag⟩ | ⟨k, hmk, hkl, hk, hrun'⟩
    · have hml : l.length ≤ m := by
        rcases Nat.lt_or_ge m l.length with h | h
        · have h1 := hnone m (Nat.le_refl _) h; rw [hall m h] at h1; cases h1
        · exact h
      have hfin : a' = (puts a vs).put (some d) (val g) := by
        have ht : a'.tmps = ((puts a vs).put (some d) (val g)).tmps := Array.ext_getElem? fun t => hag.slot t fun j o' _ hj _ => hall j (by have := (Array.getElem?_eq_some_iff.1 hj).1; simpa using this)
        have hd := hag.defers
        cases a'; cases hq : (puts a vs).put (some d) (val g); simp_all
      subst hfin
      obtain ⟨h1, h2, h3⟩ := hg (hall ia hial)
      have hr := hrest g w h1 h2 hb h3
      rw [List.drop_of_length_le hml] at hr
      exact hr
    · have : k = l.length := by
        rcases Nat.lt_or_ge k l.length with h | h
        · have h1 := (hk k h).1 (hall k h); omega
        · omega
      subst this
      rw [List.drop_length] at hrun'
      exact hrun'
  · refine .inl ⟨fun j hj hjl => by simp [Array.getD_eq_getD_getElem?, hjl], (Below.refl _ _).drew, 0, fun h => by simp [Array.getD_eq_getD_getElem?, hial] at h, ⟨(puts_defers vs a).symm, by simpa [Act.put] using (puts_size vs a).symm, fun t ht => ?_⟩⟩
    by_cases e : d = t
    · subst e
      have := ht ia oa him hoa' hda
      simp [Array.getD_eq_getD_getElem?, hial] at this
    · have h0 : ((puts a vs).put (some d) (val 0)).tmps[t]? = (puts a vs).tmps[t]? := by simp [Act.put, Array.getElem?_setIfInBounds_ne e]
      rw [h0]
      refine (puts_other t vs a fun p hp' he => ?_).symm
      have h1 := List.all_eq_true.1 hin p hp'
      obtain ⟨j, hj, hb⟩ := List.any_eq_true.1 h1
      have hjm : j < m := List.mem_range.1 hj
      cases hoj : l.toArray[j]? with
      | none => rw [hoj] at hb; simp at hb
      | some oj =>
        rw [hoj] at hb
        have h2 := ht j oj hjm hoj (by simpa [he] using hb)
        have hjl : j < l.length := by have := (Array.getElem?_eq_some_iff.1 hoj).1; simpa using this
        simp [Array.getD_eq_getD_getElem?, hjl] at h2
end
end Go.Proofs.Ytdhmfjcijcdnjaa.Calm
