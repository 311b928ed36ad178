/- Parts of the walks and laws for the claim: SeqE, SeqF, Fits; no conditions beyond the theorems' own. -/
import Derived.Test.YtecpkipgkaaefaaP6
import Derived.Test.YtecpkipgkaaefaaP8
section
namespace Go.Proofs.Ytecpkipgkaaefaa.Sq
open Go Go.RowKit Go.Proofs.Ytecpkipgkaaefaa.Reg Go.Proofs.Ytecpkipgkaaefaa.Calm
set_option linter.unusedVariables false
set_option linter.unusedSimpArgs false
section
variable {P : Program} {ops : Array Oper}
/-- What an operation is to the stages: it keeps them from the first to the last that it may meet, or it is the one that ends a stage. -/
inductive Tag | keep (lo hi : Nat) | eff (q : Nat)
/-- The tags fit: E are the operations that end a stage, each behind the one ahead. -/
def fits (ops : Array Oper) (m : Nat) (E : List Nat) (tags : List Tag) : Bool :=
  decide (m ≤ ops.size) && ((List.range E.length).all fun q => match E[q]?, E[q - 1]? with | some k, some k' => q == 0 || (sweep ops k [k]).contains k' | _, _ => false) && (E.all fun k => decide (k < m)) && decide E.Nodup &&
  (List.range m).all fun i => match tags[i]? with
    | none => false
    | some (.eff q) => E[q]? == some i
    | some (.keep lo hi) => !(E.contains i) && (lo == 0 || (match E[lo - 1]? with | some k => (sweep ops i [i]).contains k | none => false)) && (decide (E.length ≤ hi) || (match E[hi]? with | some k => (sweep ops k [k]).contains i | none => false))
/-- What stands listed: just the first j of those that end a stage. -/
def Stage (E : List Nat) (L : Array Bool) (j : Nat) : Prop := j ≤ E.length ∧ ∀ q k, E[q]? = some k → (L.getD k false = true ↔ q < j)
theorem sweep_closed {L : Array Bool} (hc : Closed ops L) : ∀ (n : Nat) (S : List Nat), n ≤ L.size → (∀ k ∈ S, k < L.size ∧ L.getD k true = true) → ∀ k ∈ sweep ops n S, k < L.size ∧ L.getD k true = true
  | 0, S, _, hS, k, hk => hS k hk
  | j + 1, S, hn, hS, k, hk => by
    unfold sweep at hk
    split at hk
    · rename_i hany
      obtain ⟨y, hy, hd⟩ := List.any_eq_true.1 hany
      obtain ⟨oy, hoy, e, he, rfl, hb⟩ := dep_out hd
      obtain ⟨hyl, hy1⟩ := hS y hy
      have h1 := hc y oy hoy (by simpa [Array.getD_eq_getD_getElem?, Array.getElem?_eq_getElem hyl] using hy1) e he hb
      refine sweep_closed hc e.on (e.on :: S) (by omega) (fun x hx => ?_) k hk
      rcases List.mem_cons.1 hx with rfl | hx
      · exact ⟨by omega, h1⟩
      · exact hS x hx
    · exact sweep_closed hc j S (by omega) hS k hk
theorem stage_zero (E : List Nat) (n : Nat) : Stage E (Array.replicate n false) 0 := by
  refine ⟨Nat.zero_le _, fun q k hk => ⟨fun h => ?_, fun h => by omega⟩⟩
  exfalso
  rw [Array.getD_eq_getD_getElem?, Array.getElem?_replicate] at h
  split at h <;> simp at h
structure Fits (ops : Array Oper) (m : Nat) (E : List Nat) (tags : List Tag) : Prop where
  size : m ≤ ops.size
  lt : ∀ k ∈ E, k < m
  inj : E.Nodup
  chain : ∀ q k k', E[q + 1]? = some k → E[q]? = some k' → k' ∈ sweep ops k [k]
  keep : ∀ i lo hi, i < m → tags[i]? = some (.keep lo hi) → i ∉ E ∧ (lo = 0 ∨ ∃ k, E[lo - 1]? = some k ∧ k ∈ sweep ops i [i]) ∧ (E.length ≤ hi ∨ ∃ k, E[hi]? = some k ∧ i ∈ sweep ops k [k])
  eff : ∀ i q, i < m → tags[i]? = some (.eff q) → E[q]? = some i
theorem fits_out {m : Nat} {E : List Nat} {tags : List Tag} (h : fits ops m E tags = true) : Fits ops m E tags := by
  unfold fits at h
  simp only [Bool.and_eq_true, List.all_eq_true, decide_eq_true_eq, List.mem_range] at h
  obtain ⟨⟨⟨⟨h0, h1⟩, h2⟩, h3⟩, h4⟩ := h
  refine ⟨h0, h2, h3, fun q k k' hk hk' => ?_, fun i lo hi him ht => ?_, fun i q him ht => ?_⟩
  · have := h1 (q + 1) (List.getElem?_eq_some_iff.1 hk).1
    rw [hk, show q + 1 - 1 = q from rfl, hk'] at this
    simpa using this
  · have := h4 i him
    rw [ht] at this
    simp only [Bool.and_eq_true, Bool.or_eq_true, Bool.not_eq_true', List.contains_eq_mem, decide_eq_false_iff_not, beq_iff_eq, decide_eq_true_eq] at this
    obtain ⟨⟨a, b⟩, c⟩ := this
    refine ⟨a, ?_, ?_⟩
    · rcases b with b | b
      · exact .inl b
      · cases hk : E[lo - 1]? with
        | none => rw [hk] at b; simp at b
        | some k => rw [hk] at b; exact .inr ⟨k, rfl, by simpa using b⟩
    · rcases c with c | c
      · exact .inl c
      · cases hk : E[hi]? with
        | none => rw [hk] at c; simp at c
        | some k => rw [hk] at c; exact .inr ⟨k, rfl, by simpa using c⟩
  · have := h4 i him
    rw [ht] at this
    simpa using this
theorem Fits.same {m : Nat} {E : List Nat} {tags : List Tag} (h : Fits ops m E tags) {q q' k : Nat} (h1 : E[q]? = some k) (h2 : E[q']? = some k) : q = q' := by
  have a := (List.getElem?_eq_some_iff.1 h1)
  have b := (List.getElem?_eq_some_iff.1 h2)
  exact (List.getElem_inj h.inj).1 (a.2.trans b.2.symm)
/-- An operation at a frame, by its tag. -/
def ComesJ (P : Program) (ops : Array Oper) (J : Nat → World → Prop) (a : Act) (o : Oper) (v : Value) : Tag → Prop
  | .keep lo hi => (Region.wanted o (yielded ops a.tmps) = true ∧ ∀ j, lo ≤ j → j ≤ hi → ∀ X, J j X → o.wp P a X (fun a' X' => a' = a.put o.dst v ∧ J j X') (fun _ _ _ => False)) ∨ (Region.wanted o (yielded ops a.tmps) = false ∧ v = undef)
  | .eff q => Region.wanted o (yielded ops a.tmps) = true ∧ ∀ X, J q X → o.wp P a X (fun a' X' => a' = a.put o.dst v ∧ J (q + 1) X') (fun _ _ _ => False)
def SeqJ (P : Program) (ops : Array Oper) (J : Nat → World → Prop) : List Tag → List Oper → Act → (Act → Prop) → Prop
  | _, [], a, K => K a
  | [], _ :: _, _, _ => False
  | t :: ts, o :: r, a, K => ∃ v, ComesJ P ops J a o v t ∧ SeqJ P ops J ts r (a.put o.dst v) K
theorem seqJ_out {J : Nat → World → Prop} {K : Act → Prop} : ∀ (l : List Oper) (ts : List Tag) (a : Act), SeqJ P ops J ts l a K → ∃ vs : List Value, vs.length = l.length ∧ K (fr a (l.zip vs)) ∧
    ∀ (i : Nat) (o : Oper) (v : Value), l[i]? = some o → vs[i]? = some v → ∃ t, ts[i]? = some t ∧ ComesJ P ops J (fr a ((l.zip vs).take i)) o v t
  | [], _, a, h => ⟨[], rfl, by cases ‹List Tag› <;> exact h, fun i o v ho => by simp at ho⟩
  | _ :: _, [], _, h => h.elim
  | o :: r, t :: ts, a, ⟨v, hc, h⟩ => by
    obtain ⟨vs, hl, hK, hall⟩ := seqJ_out r ts _ h
    refine ⟨v :: vs, by simp [hl], hK, fun i o' v' ho hv => ?_⟩
    cases i with
    | zero =>
      simp only [List.getElem?_cons_zero, Option.some.injEq] at ho hv
      subst ho hv
      exact ⟨t, rfl, hc⟩
    | succ i =>
      simp only [List.getElem?_cons_succ] at ho hv
      exact hall i o' v' ho hv
/-- What is asked of an operation at the final frame. -/
def KeepsJ (P : Program) (ops : Array Oper) (fin : Act) (J : Nat → World → Prop) (o : Oper) : Tag → Prop
  | .keep lo hi => ∀ j, lo ≤ j → j ≤ hi → ∀ X, J j X → if Region.wanted o (yielded ops fin.tmps) then o.wp P fin X (fun a' X' => a' = fin ∧ J j X') (fun _ _ _ => False) else fin.put o.dst undef = fin
  | .eff q => ∀ X, J q X → Region.wanted o (yielded ops fin.tmps) = true ∧ o.wp P fin X (fun a' X' => a' = fin ∧ J (q + 1) X') (fun _ _ _ => False)
theorem keep_stepJ {m : Nat} {L : Array Bool} {a fin : Act} {i : Nat} {o : Oper} {w : World} {I' : World → Prop} {Q : Exit → Act → World → Prop} {K : Act → World → Prop} (hp : parted ops m = true) (ho : ops[i]? = some o) (him : i < m)
    (hdep : ∀ e ∈ o.after, Region.binds .any e = true → L.getD e.on true = true) (h : AgreeM ops m L a fin) (hdo : if Region.wanted o (yielded ops fin.tmps) then o.wp P fin w (fun a' X' => a' = fin ∧ I' X') (fun _ _ _ => False) else fin.put o.dst undef = fin ∧ I' w)
    (hK : ∀ a' w', AgreeM ops m (L.setIfInBounds i true) a' fin → I' w' → K a' w') : wpOp P ops Q i K a w := by
  obtain ⟨_, hs, hl, _⟩ := parted_at hp ho
  obtain ⟨hex, hwa⟩ := looks_eq (a := a) (fin := fin) hs (fun t ht => h.slot t fun j oj hjm hj hd => by
    obtain ⟨e, he, rfl, hb⟩ := hl him t ht j oj hjm hj hd
    exact hdep e he hb)
  unfold wpOp
  simp only [ho]
  rw [hwa]
  split
  · rename_i hw'
    rw [if_pos hw'] at hdo
    refine .inl ?_
    unfold Oper.wp at *
    rw [hex]
    generalize (execOp fin.eval o).run P w = r at *
    cases r with
    | ok n w' =>
      cases n <;> simp only [Oper.upon] at hdo ⊢
      case value u => exact hK _ _ (agreeM_put ho h hdo.1) hdo.2
      case skip => exact hK _ _ (agreeM_put ho h hdo.1) hdo.2
      case defer d =>
        exfalso
        have h1 := congrArg Act.defers hdo.1
        have h2 : (({ fin with defers := d :: fin.defers } : Act).put o.dst undef).defers = d :: fin.defers := by cases o.dst <;> rfl
        rw [h2] at h1
        have := congrArg List.length h1
        simp at this
      case enter f args =>
        refine Calls.mono hdo fun e w'' he => ?_
        cases e with
        | returned u => exact hK _ _ (agreeM_put ho h he.1) he.2
        | panicked c => exact he.elim
        | outgrown => obtain ⟨_, _, hf⟩ := he; exact hf.elim
      case row row args => exact Rows.mono hdo fun u w'' he => hK _ _ (agreeM_put ho h he.1) he.2
    | halt x w' =>
      cases x <;> simp only [Oper.upon] at hdo ⊢
  · rename_i hw'
    rw [if_neg hw'] at hdo
    exact hK _ _ (agreeM_put ho h hdo.1) hdo.2
theorem keepsJ_of {m : Nat} {l : List Oper} {vs : List Value} {a : Act} {i : Nat} {o : Oper} {v : Value} {J : Nat → World → Prop} {t : Tag} (hp : parted ops m = true) (hlm : l.length ≤ m) (hops : ∀ (j : Nat) (oj : Oper), l[j]? = some oj → ops[j]? = some oj)
    (hvs : vs.length = l.length) (ho : l[i]? = some o) (hv : vs[i]? = some v) (hc : ComesJ P ops J (fr a ((l.zip vs).take i)) o v t) : KeepsJ P ops (fr a (l.zip vs)) J o t := by
  have hil : i < l.length := (List.getElem?_eq_some_iff.1 ho).1
  have him : i < m := Nat.lt_of_lt_of_le hil hlm
  obtain ⟨hb, hs, hl, hd, _⟩ := parted_at hp (hops i o ho)
  have hz : (l.zip vs)[i]? = some (o, v) := by rw [List.getElem?_zip_eq_some]; exact ⟨ho, hv⟩
  have hiz : i < (l.zip vs).length := (List.getElem?_eq_some_iff.1 hz).1
  have hsplit : l.zip vs = (l.zip vs).take i ++ ((o, v) :: (l.zip vs).drop (i + 1)) := by
    have h1 : (l.zip vs).drop i = (o, v) :: (l.zip vs).drop (i + 1) := by
      rw [List.drop_eq_getElem_cons hiz]; congr 1
      have := List.getElem?_eq_getElem hiz; rw [hz] at this; exact (Option.some.inj this).symm
    rw [← h1, List.take_append_drop]
  have hfin : fr a (l.zip vs) = fr ((fr a ((l.zip vs).take i)).put o.dst v) ((l.zip vs).drop (i + 1)) := by
    conv => lhs; rw [hsplit]
    rw [fr_append]; rfl
  -- who stands behind
  have behind : ∀ p ∈ (l.zip vs).drop (i + 1), ∃ j, i < j ∧ j < m ∧ ops[j]? = some p.1 := by
    intro p hp'
    obtain ⟨k, hk⟩ := List.mem_iff_getElem?.1 hp'
    rw [List.getElem?_drop, List.getElem?_zip_eq_some] at hk
    have hkl : i + 1 + k < l.length := (List.getElem?_eq_some_iff.1 hk.1).1
    exact ⟨i + 1 + k, by omega, by omega, hops _ _ hk.1⟩
  generalize hai : fr a ((l.zip vs).take i) = ai at *
  generalize hq : (l.zip vs).drop (i + 1) = q at *
  have hsz : ai.tmps.size = (fr a (l.zip vs)).tmps.size := by rw [hfin, fr_size]; cases h : o.dst <;> simp [Act.put]
  have seen : ∀ t ∈ o.looksAt ops, ai.tmps[t]? = (fr a (l.zip vs)).tmps[t]? := by
    intro t ht
    have hno : ∀ (j : Nat) (oj : Oper), i ≤ j → j < m → ops[j]? = some oj → oj.dst ≠ some t := by
      intro j oj hij hjm hj he
      obtain ⟨e, he', rfl, hbd⟩ := hl him t ht j oj hjm hj he
      have := hb e he' hbd
      omega
    rw [hfin, fr_other t q _ fun p hp' he => by
      obtain ⟨j, hij, hjm, hj⟩ := behind p hp'
      exact hno j p.1 (by omega) hjm hj he]
    have h1 := hno i o (Nat.le_refl _) him (hops i o ho)
    cases hdst : o.dst with
    | none => rfl
    | some d =>
      have : d ≠ t := fun e => h1 (by rw [hdst, e])
      simp [Act.put, Array.getElem?_setIfInBounds_ne this]
  have hput : (fr a (l.zip vs)).put o.dst v = fr a (l.zip vs) := by
    cases hdst : o.dst with
    | none => rfl
    | some d =>
      have hslot : (fr a (l.zip vs)).tmps[d]? = (ai.tmps.setIfInBounds d v)[d]? := by
        rw [hfin, fr_other d q _ fun p hp' he => by
          obtain ⟨j, hij, hjm, hj⟩ := behind p hp'
          exact hd him j p.1 hjm (by omega) hj d he hdst, hdst]
        rfl
      have : (fr a (l.zip vs)).tmps.setIfInBounds d v = (fr a (l.zip vs)).tmps := by
        apply Array.ext_getElem?
        intro t
        by_cases e : d = t
        · subst e
          rw [hslot, Array.getElem?_setIfInBounds_self, Array.getElem?_setIfInBounds_self, hsz]
        · rw [Array.getElem?_setIfInBounds_ne e]
      show ({ (fr a (l.zip vs)) with tmps := (fr a (l.zip vs)).tmps.setIfInBounds d v } : Act) = _
      rw [this]
  obtain ⟨hex, hwa⟩ := looks_eq (a := ai) (fin := fr a (l.zip vs)) hs seen
  cases t with
  | keep lo hi =>
    intro j h1 h2 X hX
    rcases hc with ⟨hw, h⟩ | ⟨hw, rfl⟩
    · rw [if_pos (by rw [← hwa]; exact hw)]
      exact wp_move hex hsz hput (h j h1 h2 X hX)
    · rw [if_neg (by rw [← hwa, hw]; decide)]
      exact hput
  | eff q =>
    intro X hX
    exact ⟨by rw [← hwa]; exact hc.1, wp_move hex hsz hput (hc.2 X hX)⟩
theorem regionJ {l : List Oper} {id : Nat} {a : Act} {w : World} {J : Nat → World → Prop} {Q : Exit → Act → World → Prop} (hm : P.follows .mixedOrders = true) (m : Nat) (E : List Nat) (tags : List Tag) (hI : J 0 { w with drawn := w.drawn + 1 })
    (hp : parted l.toArray m = true) (hf : fits l.toArray m E tags = true) (h : ∀ (ops : Array Oper) (K : Act → Prop), ops = l.toArray → RowKit.Hid (∀ fin, (∀ w', J E.length w' → wpList P ops Q (l.drop m) fin w') → K fin) → SeqJ P ops J tags (l.take m) a K) : (Code.region id l.toArray true).wp P Q a w := by
  have hsz : l.toArray.size = l.length := by simp
  replace h := h _ _ rfl (Lib.hid fun _ h => h)
  obtain ⟨vs, hvs, hrest, hcomes⟩ := seqJ_out _ _ _ h
  have hkeep : ∀ (i : Nat) (o : Oper), (l.take m)[i]? = some o → ∃ t, tags[i]? = some t ∧ KeepsJ P l.toArray (fr a ((l.take m).zip vs)) J o t := by
    intro i o hi
    have hil : i < (l.take m).length := (List.getElem?_eq_some_iff.1 hi).1
    have hv : vs[i]? = some vs[i] := List.getElem?_eq_getElem (by omega)
    obtain ⟨t, ht, hct⟩ := hcomes i o _ hi hv
    refine ⟨t, ht, keepsJ_of (m := m) hp (by simp; omega) (fun j oj hj => ?_) hvs hi hv hct⟩
    have : (l.take m)[j]? = l[j]? := by
      rw [List.getElem?_take]
      split
      · rfl
      · rename_i hc
        have := (List.getElem?_eq_some_iff.1 hj).1
        simp at this
        omega
    rw [this] at hj
    simpa using hj
  have hslots : ∀ t, (∀ (j : Nat) (o : Oper), j < m → l.toArray[j]? = some o → o.dst ≠ some t) → (fr a ((l.take m).zip vs)).tmps[t]? = a.tmps[t]? := by
    intro t ht
    refine fr_other t _ a fun p hp' => ?_
    obtain ⟨k, hk⟩ := List.mem_iff_getElem?.1 hp'
    rw [List.getElem?_zip_eq_some] at hk
    have h1 := hk.1
    rw [List.getElem?_take] at h1
    split at h1
    · rename_i hkm
      exact ht k p.1 hkm (by simpa using h1)
    · cases h1
  have hfd : (fr a ((l.take m).zip vs)).defers = a.defers := fr_defers _ _
  have hfs : (fr a ((l.take m).zip vs)).tmps.size = a.tmps.size := fr_size _ _
  clear hcomes h
  generalize fr a ((l.take m).zip vs) = fin at *
  refine wp_region_any hm ?_
  let Inv : Array Bool → Act → World → Prop := fun L a' w => Closed l.toArray L ∧ (((∀ j, m ≤ j → j < l.length → L.getD j true = false) ∧ AgreeM l.toArray m L a' fin ∧ ∃ s, Stage E L s ∧ J s w) ∨ (∃ k, m < k ∧ k ≤ l.length ∧ (∀ j, j < l.length → (L.getD j true = true ↔ j < k)) ∧ wpList P l.toArray Q (l.drop k) a' w))
  have hset : ∀ (L : Array Bool) (i j : Nat), L.size = l.length → j < l.length → ((L.setIfInBounds i true).getD j true = true ↔ (j = i ∨ L.getD j true = true)) := by
    intro L i j hs hj
    by_cases e : i = j
    · subst e; simp [Array.getD_eq_getD_getElem?, hs, hj]
    · have : j ≠ i := fun h => e h.symm
      simp [Array.getD_eq_getD_getElem?, Array.getElem?_setIfInBounds_ne e, this]
  refine any_invB (Inv := Inv) (fun i o ho => (parted_at hp ho).1) ?_ ?_ _ _ _ _ (by simp) (left_le _ _) ?_
  · intro i o ho L a' w hL hLi hdep hInv
    have hLo := hL
    rw [hsz] at hL
    have hil : i < l.length := by have := (Array.getElem?_eq_some_iff.1 ho).1; simpa using this
    have hol : l[i]? = some o := by simpa using ho
    obtain ⟨_, _, _, _, htail⟩ := parted_at hp ho
    obtain ⟨hcl, hInv⟩ := hInv
    have hcl2 := hcl.set ho hdep
    rcases hInv with ⟨hnone, hag, hb⟩ | ⟨k, hmk, hkl, hk, hrun⟩
    · by_cases him : i < m
      · obtain ⟨t, ht, hkt⟩ := hkeep i o (by rw [List.getElem?_take, if_pos him]; exact hol)
        obtain ⟨s, hs, hJ⟩ := hb
        have F := fits_out hf
        have hnone' : ∀ j, m ≤ j → j < l.length → (L.setIfInBounds i true).getD j true = false := fun j hj hjl => by
          have e : i ≠ j := by omega
          have := hnone j hj hjl
          simpa [Array.getD_eq_getD_getElem?, Array.getElem?_setIfInBounds_ne e] using this
        have hil' : i < L.size := by omega
        have hLf : L.getD i false = false := by simpa [Array.getD_eq_getD_getElem?, Array.getElem?_eq_getElem hil'] using hLi
        have inb : ∀ k ∈ E, k < L.size := fun k hk => by have h1 := F.lt k hk; have h2 := F.size; omega
        have flip : ∀ k, k < L.size → (L.getD k true = true ↔ L.getD k false = true) := fun k hk => by simp [Array.getD_eq_getD_getElem?, Array.getElem?_eq_getElem hk]
        have ahead : ∀ k ∈ sweep l.toArray i [i], k = i ∨ L.getD k true = true := sweep_listed ho hcl hLo hdep i [i] (by omega) (fun x hx => .inl (List.mem_singleton.1 hx))
        cases t with
        | keep lo hi =>
          obtain ⟨hE, hlo, hhi⟩ := F.keep i lo hi him ht
          have h1 : lo ≤ s := by
            rcases hlo with rfl | ⟨k, hk, hsw⟩
            · omega
            · have hkE := List.mem_of_getElem? hk
              have h3 := (ahead k hsw).resolve_left fun e => hE (by rw [← e]; exact hkE)
              have h4 := (hs.2 _ k hk).1 ((flip k (inb k hkE)).1 h3)
              omega
          have h2 : s ≤ hi := by
            rcases hhi with h | ⟨k, hk, hsw⟩
            · exact Nat.le_trans hs.1 h
            · rcases Nat.lt_or_ge hi s with h | h
              · exfalso
                have hkl := inb k (List.mem_of_getElem? hk)
                have h3 := (hs.2 hi k hk).2 h
                have h4 := (sweep_closed hcl k [k] (by omega) (fun x hx => by obtain rfl := List.mem_singleton.1 hx; exact ⟨hkl, (flip _ hkl).2 h3⟩) i hsw).2
                rw [hLi] at h4; cases h4
              · exact h
          have hdo := hkt s h1 h2 w hJ
          refine keep_stepJ (I' := J s) hp ho him hdep hag ?_ fun a'' w'' ha'' hb'' => ⟨hcl2, .inl ⟨hnone', ha'', s, ⟨hs.1, fun q k hk => ?_⟩, hb''⟩⟩
          · split
            · rename_i hw'; rw [if_pos hw'] at hdo; exact hdo
            · rename_i hw'; rw [if_neg hw'] at hdo; exact ⟨hdo, hJ⟩
          · have hki : i ≠ k := fun e => hE (by rw [e]; exact List.mem_of_getElem? hk)
            rw [← hs.2 q k hk]
            simp [Array.getD_eq_getD_getElem?, Array.getElem?_setIfInBounds_ne hki]
        | eff q =>
          have hEi := F.eff i q him ht
          have hsq : s = q := by
            have h1 : ¬ q < s := fun h => by have := (hs.2 q i hEi).2 h; rw [hLf] at this; cases this
            cases q with
            | zero => omega
            | succ q =>
              have hql : q < E.length := by have := (List.getElem?_eq_some_iff.1 hEi).1; omega
              have hk : E[q]? = some E[q] := List.getElem?_eq_getElem hql
              have hsw := F.chain q i E[q] hEi hk
              rcases ahead _ hsw with e | h2
              · rw [e] at hk
                have := F.same hk hEi
                omega
              · have h4 := (hs.2 q _ hk).1 ((flip _ (inb _ (List.mem_of_getElem? hk))).1 h2)
                omega
          subst hsq
          obtain ⟨hwn, hdo⟩ := hkt w hJ
          refine keep_stepJ (I' := J (s + 1)) hp ho him hdep hag (by rw [if_pos hwn]; exact hdo) fun a'' w'' ha'' hb'' => ⟨hcl2, .inl ⟨hnone', ha'', s + 1, ⟨?_, fun q' k hk => ?_⟩, hb''⟩⟩
          · have := (List.getElem?_eq_some_iff.1 hEi).1; omega
          · by_cases e : i = k
            · subst e
              have hq := F.same hk hEi
              subst hq
              simp [Array.getD_eq_getD_getElem?, hil']
            · have hne : q' ≠ s := fun h => by subst h; rw [hEi] at hk; exact e (Option.some.inj hk)
              have := hs.2 q' k hk
              rw [show (L.setIfInBounds i true).getD k false = L.getD k false by simp [Array.getD_eq_getD_getElem?, Array.getElem?_setIfInBounds_ne e], this]
              omega
      · -- the first of the rest
        have hmi : m ≤ i := by omega
        have hall : ∀ j, j < i → L.getD j true = true := lastAfter_all (htail hmi) ho hcl hLo hdep
        have him2 : i = m := by
          rcases Nat.lt_or_ge m i with h | h
          · have := hall m h; rw [hnone m (Nat.le_refl _) (by omega)] at this; cases this
          · omega
        subst him2
        have hfin : a' = fin := by
          have ht : a'.tmps = fin.tmps := Array.ext_getElem? fun t => hag.slot t fun j o' hj _ _ => hall j hj
          have hd := hag.defers
          cases a'; cases hq : fin; simp_all
        subst hfin
        obtain ⟨s, hs, hJ⟩ := hb
        have F := fits_out hf
        have hse : s = E.length := by
          rcases Nat.lt_or_ge s E.length with h | h
          · exfalso
            have hk : E[s]? = some E[s] := List.getElem?_eq_getElem h
            have h1 := F.lt _ (List.mem_of_getElem? hk)
            have h2 := F.size
            have h3 := hall _ h1
            have h4 : E[s] < L.size := by omega
            have := (hs.2 s _ hk).1 (by simpa [Array.getD_eq_getD_getElem?, Array.getElem?_eq_getElem h4] using h3)
            omega
          · have := hs.1; omega
        subst hse
        have hr := hrest w hJ
        have hdrop : l.drop i = o :: l.drop (i + 1) := by
          rw [List.drop_eq_getElem_cons hil]; congr 1
          have := List.getElem?_eq_getElem hil; rw [hol] at this; exact (Option.some.inj this).symm
        rw [hdrop] at hr
        refine wpOp_mono (fun a'' w'' h'' => ⟨hcl2, .inr ⟨i + 1, by omega, by omega, fun j hj => ?_, h''⟩⟩) (wpOp_tail ho hr)
        rw [hset L i j hL hj]
        constructor
        · rintro (h | h)
          · omega
          · rcases Nat.lt_or_ge j i with h1 | h1
            · omega
            · rw [hnone j h1 hj] at h; cases h
        · intro h
          rcases Nat.lt_or_ge j i with h1 | h1
          · exact .inr (hall j h1)
          · exact .inl (by omega)
    · -- further on
      have hki : k ≤ i := by
        rcases Nat.lt_or_ge i k with h | h
        · have := (hk i hil).2 h; rw [hLi] at this; cases this
        · exact h
      have hall : ∀ j, j < i → L.getD j true = true := lastAfter_all (htail (by omega)) ho hcl hLo hdep
      have hik : i = k := by
        rcases Nat.lt_or_ge k i with h | h
        · have := (hk k (by omega)).1 (hall k h); omega
        · omega
      subst hik
      have hdrop : l.drop i = o :: l.drop (i + 1) := by
        rw [List.drop_eq_getElem_cons hil]; congr 1
        have := List.getElem?_eq_getElem hil; rw [hol] at this; exact (Option.some.inj this).symm
      rw [hdrop] at hrun
      refine wpOp_mono (fun a'' w'' h'' => ⟨hcl2, .inr ⟨i + 1, by omega, by omega, fun j hj => ?_, h''⟩⟩) (wpOp_tail ho hrun)
      rw [hset L i j hL hj]
      constructor
      · rintro (h | h)
        · omega
        · have := (hk j hj).1 h; omega
      · intro h
        rcases Nat.lt_or_ge j i with h1 | h1
        · exact .inr (hall j h1)
        · exact .inl (by omega)
  · intro L a' w hL hall hInv
    rw [hsz] at hall
    rcases hInv.2 with ⟨hnone, hag, hb⟩ | ⟨k, hmk, hkl, hk, hrun⟩
    · have hml : l.length ≤ m := by
        rcases Nat.lt_or_ge m l.length with h | h
        · have h1 := hnone m (Nat.le_refl _) h; rw [hall m h] at h1; cases h1
        · exact h
      have hfin : a' = fin := by
        have ht : a'.tmps = fin.tmps := Array.ext_getElem? fun t => hag.slot t fun j o' _ hj _ => hall j (by have := (Array.getElem?_eq_some_iff.1 hj).1; simpa using this)
        have hd := hag.defers
        cases a'; cases hq : fin; simp_all
      subst hfin
      obtain ⟨s, hs, hJ⟩ := hb
      have F := fits_out hf
      have hse : s = E.length := by
        rcases Nat.lt_or_ge s E.length with h | h
        · exfalso
          have hk : E[s]? = some E[s] := List.getElem?_eq_getElem h
          have h1 := F.lt _ (List.mem_of_getElem? hk)
          have h2 := F.size
          have h3 := hall E[s] (by omega)
          have h4 : E[s] < L.size := by omega
          have := (hs.2 s _ hk).1 (by simpa [Array.getD_eq_getD_getElem?, Array.getElem?_eq_getElem h4] using h3)
          omega
        · have := hs.1; omega
      subst hse
      have hr := hrest w hJ
      rw [List.drop_of_length_le hml] at hr
      exact hr
    · have : k = l.length := by
        rcases Nat.lt_or_ge k l.length with h | h
        · have h1 := (hk k h).1 (hall k h); omega
        · omega
      subst this
      rw [List.drop_length] at hrun
      exact hrun
  · refine ⟨fun k o _ hk => (by exfalso; rw [Array.getD_eq_getD_getElem?, Array.getElem?_replicate] at hk; split at hk <;> simp at hk), .inl ⟨fun j hj hjl => by simp [Array.getD_eq_getD_getElem?, hjl], ⟨hfd.symm, hfs.symm, fun t ht => (hslots t fun j o hj ho he => ?_).symm⟩, 0, stage_zero E _, hI⟩⟩
    have h2 := ht j o hj ho he
    have hjl : j < l.length := by have := (Array.getElem?_eq_some_iff.1 ho).1; simpa using this
    simp [Array.getD_eq_getD_getElem?, hjl] at h2
end
end Go.Proofs.Ytecpkipgkaaefaa.Sq
end
section
namespace Go.Proofs.Ytecpkipgkaaefaa.Sq
open Go Go.RowKit Go.Proofs.Ytecpkipgkaaefaa.Reg Go.Proofs.Ytecpkipgkaaefaa.Calm Go.Proofs.Ytecpkipgkaaefaa.Step
set_option linter.unusedVariables false
set_option linter.unusedSimpArgs false
section
variable {P : Program} {ops : Array Oper} {J : Nat → World → Prop} {o : Oper} {r : List Oper} {a : Act} {K : Act → Prop} {ts : List Tag} {lo hi q : Nat}
theorem seqJ_nil (h : K a) : SeqJ P ops J ts [] a K := by cases ts <;> exact h
theorem seqJ_val {v : Value} (hw : Region.wanted o (yielded ops a.tmps) = true) (hr : ∀ j, lo ≤ j → j ≤ hi → ∀ X, J j X → (execOp a.eval o).run P X = .ok (.value v) X) (h : SeqJ P ops J ts r (a.put o.dst v) K) : SeqJ P ops J (.keep lo hi :: ts) (o :: r) a K :=
  ⟨v, .inl ⟨hw, fun j h1 h2 X hX => by unfold Oper.wp; rw [hr j h1 h2 X hX]; exact ⟨rfl, hX⟩⟩, h⟩
theorem seqJ_pure {v : Value} (hg : o.guard = none) (hr : ∀ X, (execOp a.eval o).run P X = .ok (.value v) X) (h : SeqJ P ops J ts r (a.put o.dst v) K) : SeqJ P ops J (.keep lo hi :: ts) (o :: r) a K :=
  seqJ_val (by simp [Region.wanted, hg]) (fun _ _ _ X _ => hr X) h
theorem seqJ_move {x : Operand} (hg : o.guard = none) (ho : o.op = .move x) (h : SeqJ P ops J ts r (a.put o.dst (a.eval x)) K) : SeqJ P ops J (.keep lo hi :: ts) (o :: r) a K :=
  seqJ_pure hg (fun X => by simp [execOp, ho]) h
theorem seqJ_check {x : Operand} {ad : Addr} (hg : o.guard = none) (ho : o.op = .nilCheck x) (hx : a.eval x = .pointer (some ad)) (h : SeqJ P ops J ts r (a.put o.dst (.pointer (some ad))) K) : SeqJ P ops J (.keep lo hi :: ts) (o :: r) a K :=
  seqJ_pure hg (fun X => by simp only [execOp, ho, hx]; rfl) h
theorem seqJ_cell {t : TypeId} {x : Operand} {ad : Addr} {v : Value} (hB : ∀ j, lo ≤ j → j ≤ hi → ∀ X, J j X → X.cell? ad = some v) (hw : Region.wanted o (yielded ops a.tmps) = true) (ho : o.op = .load t x) (hx : a.eval x = .pointer (some ad)) (ht : plainT P t = true)
    (h : SeqJ P ops J ts r (a.put o.dst v) K) : SeqJ P ops J (.keep lo hi :: ts) (o :: r) a K :=
  seqJ_val hw (fun j h1 h2 X hX => by
    have := run_load1 (P := P) ht (hB j h1 h2 X hX)
    simp [execOp, ho, hx, this, Result.andThen]) h
theorem seqJ_call {args : Array Value} {v : Value} (f : FuncId) (_ : calleeOf o = some f) (hw : Region.wanted o (yielded ops a.tmps) = true) (hr : ∀ X, (execOp a.eval o).run P X = .ok (.enter f args) X)
    (hc : ∀ j, lo ≤ j → j ≤ hi → ∀ X, J j X → Calls P f args X fun e X' => e = .returned v ∧ J j X') (h : SeqJ P ops J ts r (a.put o.dst v) K) : SeqJ P ops J (.keep lo hi :: ts) (o :: r) a K :=
  ⟨v, .inl ⟨hw, fun j h1 h2 X hX => by
    unfold Oper.wp
    rw [hr X]
    refine Calls.mono (hc j h1 h2 X hX) fun e X' he => ?_
    obtain ⟨rfl, hX'⟩ := he
    exact ⟨rfl, hX'⟩⟩, h⟩
/-- A store that ends a stage. -/
theorem seqJ_store {t : TypeId} {x y : Operand} {g i : Nat} {cs : Array Value} {T : TypeId} {v : Value} (hB : ∀ X, J q X → Blk X g cs T) (hg : o.guard = none) (ho : o.op = .store t x y) (hn : o.dst = none) (hx : a.eval x = .pointer (some ⟨g, i, none⟩)) (hy : a.eval y = v) (ht : plainT P t = true) (hv : v.oneCell' = true) (hi' : Nat.blt i cs.size = true)
    (hJ : ∀ X X', J q X → Blk X' g (cs.setIfInBounds i v) T → Mod (One g) X X' → J (q + 1) X') (h : SeqJ P ops J ts r a K) : SeqJ P ops J (.eff q :: ts) (o :: r) a K := by
  have hi : i < cs.size := Nat.le_of_ble_eq_true hi'
  refine ⟨undef, ⟨by simp [Region.wanted, hg], fun X hX => ?_⟩, by rw [hn]; exact h⟩
  have := run_store1 (P := P) ht hv (((hB X hX).cell i).trans (Array.getElem?_eq_getElem hi)) ((hB X hX).frozen i)
  unfold Oper.wp
  simp [execOp, ho, hx, hy, this, Result.andThen]
  simp only [Oper.upon, hn, Act.put]
  exact ⟨trivial, hJ X _ hX (setCell_out _ _ _ _ _ _ (hB X hX)) (setCell_mod _ _ _ _)⟩
end
end Go.Proofs.Ytecpkipgkaaefaa.Sq
end
section
namespace Go.Proofs.Ytecpkipgkaaefaa.Enc
open Go Go.RowKit
set_option linter.unusedVariables false
set_option linter.unusedSimpArgs false
/-- An instruction's fields, within bounds. -/
structure Fits (i : Ins) : Prop where
  rd : 0 ≤ i.rd ∧ i.rd < 32
  rs1 : 0 ≤ i.rs1 ∧ i.rs1 < 32
  rs2 : 0 ≤ i.rs2 ∧ i.rs2 < 32
  k : 1 ≤ i.k ∧ i.k ≤ 20
  sz : i.sz = 0 ∨ i.sz = 1 ∨ i.sz = 2 ∨ i.sz = 4 ∨ i.sz = 8
  u : i.k = 1 ∨ i.k = 2 → i.imm % 4096 = 0 ∧ -2147483648 ≤ i.imm ∧ i.imm < 2147483648
  j : i.k = 3 → i.imm % 2 = 0 ∧ -1048576 ≤ i.imm ∧ i.imm < 1048576
  b : i.k = 5 → i.imm % 2 = 0 ∧ -4096 ≤ i.imm ∧ i.imm < 4096
  o : i.k ≠ 1 → i.k ≠ 2 → i.k ≠ 3 → i.k ≠ 5 → -2048 ≤ i.imm ∧ i.imm < 4096
theorem immI_bd (a : Int) : -2048 ≤ immI a ∧ immI a < 2048 := by
  have h := rawI_bd a
  unfold immI sx
  simp only [Nat.reduceSub, Nat.reducePow] at h ⊢
  split <;> omega
theorem immS_bd (a : Int) : -2048 ≤ immS a ∧ immS a < 2048 := by
  have h := rawS_bd a
  unfold immS sx
  simp only [Nat.reduceSub, Nat.reducePow] at h ⊢
  split <;> omega
theorem immU_bd (a : Int) : immU a % 4096 = 0 ∧ -2147483648 ≤ immU a ∧ immU a < 2147483648 := by
  have h := rawU_bd a
  have hm : rawU a % 4096 = 0 := by unfold rawU; omega
  unfold immU sx
  simp only [Nat.reduceSub, Nat.reducePow] at h ⊢
  split <;> omega
theorem immJ_bd (a : Int) : immJ a % 2 = 0 ∧ -1048576 ≤ immJ a ∧ immJ a < 1048576 := by
  have h := rawJ_bd a
  have hm : rawJ a % 2 = 0 := by unfold rawJ; omega
  unfold immJ sx
  simp only [Nat.reduceSub, Nat.reducePow] at h ⊢
  split <;> omega
theorem immB_bd (a : Int) : immB a % 2 = 0 ∧ -4096 ≤ immB a ∧ immB a < 4096 := by
  have h := rawB_bd a
  have hm : rawB a % 2 = 0 := by unfold rawB; omega
  unfold immB sx
  simp only [Nat.reduceSub, Nat.reducePow] at h ⊢
  split <;> omega
theorem im13_imm (hi x sh m : Int) : (im13 hi x sh m).2.1 = sh ∨ (im13 hi x sh m).2.1 = m := by
  unfold im13
  repeat' split
  all_goals simp
theorem im1b_imm (s x sh m : Int) : (im1b s x sh m).2.1 = sh ∨ (im1b s x sh m).2.1 = m := by
  unfold im1b
  repeat' split
  all_goals simp
theorem atF_k {f r : Int} (h : (atF f r).2.2 = true) : 15 ≤ (atF f r).1 ∧ (atF f r).1 ≤ 17 := by
  unfold atF at h ⊢
  repeat' split
  all_goals simp_all
theorem ld_sz {x : Int} (h0 : 0 ≤ x) (h : x < 7) : pk ldL x = 0 ∨ pk ldL x = 1 ∨ pk ldL x = 2 ∨ pk ldL x = 4 ∨ pk ldL x = 8 := by
  obtain h | h | h | h | h | h | h : x = 0 ∨ x = 1 ∨ x = 2 ∨ x = 3 ∨ x = 4 ∨ x = 5 ∨ x = 6 := by omega
  all_goals (subst h; decide)
theorem st_sz {x : Int} (h0 : 0 ≤ x) (h : x < 4) : pk stL x = 0 ∨ pk stL x = 1 ∨ pk stL x = 2 ∨ pk stL x = 4 ∨ pk stL x = 8 := by
  obtain h | h | h | h : x = 0 ∨ x = 1 ∨ x = 2 ∨ x = 3 := by omega
  all_goals (subst h; decide)
theorem ite_some {α : Type} {p : Prop} [Decidable p] {x y : Option α} {i : α} (h : (if p then x else y) = some i) : (p ∧ x = some i) ∨ (¬ p ∧ y = some i) := by
  by_cases c : p
  · rw [if_pos c] at h; exact .inl ⟨c, h⟩
  · rw [if_neg c] at h; exact .inr ⟨c, h⟩
theorem z32 : 0 ≤ (0 : Int) ∧ (0 : Int) < 32 := by decide
theorem sysD_fits {a : Int} {i : Ins} (h : sysD a = some i) : Fits i := by
  have b1 := fd_lit (a := a) (h := 11) (l := 7) (n := 32) rfl
  have b2 := fd_lit (a := a) (h := 19) (l := 15) (n := 32) rfl
  have b3 := fd_lit (a := a) (h := 24) (l := 20) (n := 32) rfl
  have b5 := fd_lit (a := a) (h := 31) (l := 20) (n := 4096) rfl
  unfold sysD at h
  rcases ite_some h with ⟨c, h⟩ | ⟨_, h⟩
  · injection h with h
    subst h
    exact ⟨z32, z32, z32, (show (1 : Int) ≤ 11 ∧ (11 : Int) ≤ 20 from by decide), .inl rfl, fun h => absurd (show (11 : Int) = 1 ∨ (11 : Int) = 2 from h) (by decide), fun h => absurd (show (11 : Int) = 3 from h) (by decide), fun h => absurd (show (11 : Int) = 5 from h) (by decide), fun _ _ _ _ => (show (-2048 : Int) ≤ 0 ∧ (0 : Int) < 4096 from by decide)⟩
  rcases ite_some h with ⟨c, h⟩ | ⟨_, h⟩
  · injection h with h
    subst h
    exact ⟨z32, z32, z32, (show (1 : Int) ≤ 12 ∧ (12 : Int) ≤ 20 from by decide), .inl rfl, fun h => absurd (show (12 : Int) = 1 ∨ (12 : Int) = 2 from h) (by decide), fun h => absurd (show (12 : Int) = 3 from h) (by decide), fun h => absurd (show (12 : Int) = 5 from h) (by decide), fun _ _ _ _ => (show (-2048 : Int) ≤ 0 ∧ (0 : Int) < 4096 from by decide)⟩
  rcases ite_some h with ⟨c, h⟩ | ⟨_, h⟩
  · injection h with h
    subst h
    exact ⟨z32, z32, z32, (show (1 : Int) ≤ 18 ∧ (18 : Int) ≤ 20 from by decide), .inl rfl, fun h => absurd (show (18 : Int) = 1 ∨ (18 : Int) = 2 from h) (by decide), fun h => absurd (show (18 : Int) = 3 from h) (by decide), fun h => absurd (show (18 : Int) = 5 from h) (by decide), fun _ _ _ _ => (show (-2048 : Int) ≤ 0 ∧ (0 : Int) < 4096 from by decide)⟩
  rcases ite_some h with ⟨c, h⟩ | ⟨_, h⟩
  · injection h with h
    subst h
    exact ⟨z32, z32, z32, (show (1 : Int) ≤ 19 ∧ (19 : Int) ≤ 20 from by decide), .inl rfl, fun h => absurd (show (19 : Int) = 1 ∨ (19 : Int) = 2 from h) (by decide), fun h => absurd (show (19 : Int) = 3 from h) (by decide), fun h => absurd (show (19 : Int) = 5 from h) (by decide), fun _ _ _ _ => (show (-2048 : Int) ≤ 0 ∧ (0 : Int) < 4096 from by decide)⟩
  rcases ite_some h with ⟨_, h⟩ | ⟨_, h⟩
  · rcases ite_some h with ⟨c, h⟩ | ⟨_, h⟩
    · injection h with h
      subst h
      exact ⟨z32, b2, b3, (show (1 : Int) ≤ 20 ∧ (20 : Int) ≤ 20 from by decide), .inl rfl, fun h => absurd (show (20 : Int) = 1 ∨ (20 : Int) = 2 from h) (by decide), fun h => absurd (show (20 : Int) = 3 from h) (by decide), fun h => absurd (show (20 : Int) = 5 from h) (by decide), fun _ _ _ _ => (show (-2048 : Int) ≤ 0 ∧ (0 : Int) < 4096 from by decide)⟩
    · cases h
  rcases ite_some h with ⟨_, h⟩ | ⟨_, h⟩
  · cases h
  · injection h with h
    subst h
    by_cases c : fd a 14 12 < 4
    · simp only [if_pos c]
      exact ⟨b1, b2, z32, (show (1 : Int) ≤ 13 ∧ (13 : Int) ≤ 20 from by decide), .inl rfl, fun h => absurd (show (13 : Int) = 1 ∨ (13 : Int) = 2 from h) (by decide), fun h => absurd (show (13 : Int) = 3 from h) (by decide), fun h => absurd (show (13 : Int) = 5 from h) (by decide), fun _ _ _ _ => ⟨by have := b5.1; show (-2048 : Int) ≤ fd a 31 20; omega, b5.2⟩⟩
    · simp only [if_neg c]
      exact ⟨b1, b2, z32, (show (1 : Int) ≤ 14 ∧ (14 : Int) ≤ 20 from by decide), .inl rfl, fun h => absurd (show (14 : Int) = 1 ∨ (14 : Int) = 2 from h) (by decide), fun h => absurd (show (14 : Int) = 3 from h) (by decide), fun h => absurd (show (14 : Int) = 5 from h) (by decide), fun _ _ _ _ => ⟨by have := b5.1; show (-2048 : Int) ≤ fd a 31 20; omega, b5.2⟩⟩
theorem atD_fits {a : Int} {i : Ins} (h : atD a = some i) : Fits i := by
  have b1 := fd_lit (a := a) (h := 11) (l := 7) (n := 32) rfl
  have b2 := fd_lit (a := a) (h := 19) (l := 15) (n := 32) rfl
  have b3 := fd_lit (a := a) (h := 24) (l := 20) (n := 32) rfl
  have k1 := @atF_k (fd a 31 27) (fd a 24 20)
  unfold atD at h
  generalize (atF (fd a 31 27) (fd a 24 20)) = q3 at *
  rcases ite_some h with ⟨_, h⟩ | ⟨_, h⟩
  · rcases ite_some h with ⟨c, h⟩ | ⟨_, h⟩
    · injection h with h
      subst h
      have k2 := k1 c
      refine ⟨b1, b2, b3, ⟨by show 1 ≤ q3.1; omega, by show q3.1 ≤ 20; omega⟩, ?_, fun h => ?_, fun h => ?_, fun h => ?_, fun _ _ _ _ => (show (-2048 : Int) ≤ 0 ∧ (0 : Int) < 4096 from by decide)⟩
      · by_cases c2 : fd a 14 12 = 2
        · exact .inr (.inr (.inr (.inl (if_pos c2))))
        · exact .inr (.inr (.inr (.inr (if_neg c2))))
      · have h' : q3.1 = 1 ∨ q3.1 = 2 := h; omega
      · have h' : q3.1 = 3 := h; omega
      · have h' : q3.1 = 5 := h; omega
    · cases h
  · cases h
theorem dec_fits {a : Int} {i : Ins} (h : dec a = some i) : Fits i := by
  have b1 := fd_lit (a := a) (h := 11) (l := 7) (n := 32) rfl
  have b2 := fd_lit (a := a) (h := 19) (l := 15) (n := 32) rfl
  have b3 := fd_lit (a := a) (h := 24) (l := 20) (n := 32) rfl
  have b4 := fd_lit (a := a) (h := 14) (l := 12) (n := 8) rfl
  have b6 := fd_lit (a := a) (h := 25) (l := 20) (n := 64) rfl
  have bI := immI_bd a
  have bS := immS_bd a
  have bU := immU_bd a
  have bJ := immJ_bd a
  have bB := immB_bd a
  have m1 := im13_imm (fd a 31 26) (fd a 14 12) (fd a 25 20) (immI a)
  have m2 := im1b_imm (fd a 31 25) (fd a 14 12) (fd a 24 20) (immI a)
  have n1 : -2048 ≤ (im13 (fd a 31 26) (fd a 14 12) (fd a 25 20) (immI a)).2.1 ∧ (im13 (fd a 31 26) (fd a 14 12) (fd a 25 20) (immI a)).2.1 < 4096 := by rcases m1 with m1 | m1 <;> (rw [m1]; omega)
  have n2 : -2048 ≤ (im1b (fd a 31 25) (fd a 14 12) (fd a 24 20) (immI a)).2.1 ∧ (im1b (fd a 31 25) (fd a 14 12) (fd a 24 20) (immI a)).2.1 < 4096 := by rcases m2 with m2 | m2 <;> (rw [m2]; omega)
  unfold dec decOp at h
  rcases ite_some h with ⟨c, h⟩ | ⟨_, h⟩
  · injection h with h
    subst h
    exact ⟨b1, z32, z32, (show (1 : Int) ≤ 1 ∧ (1 : Int) ≤ 20 from by decide), .inl rfl, fun _ => bU, fun h => absurd (show (1 : Int) = 3 from h) (by decide), fun h => absurd (show (1 : Int) = 5 from h) (by decide), fun h => absurd rfl h⟩
  rcases ite_some h with ⟨c, h⟩ | ⟨_, h⟩
  · injection h with h
    subst h
    exact ⟨b1, z32, z32, (show (1 : Int) ≤ 2 ∧ (2 : Int) ≤ 20 from by decide), .inl rfl, fun _ => bU, fun h => absurd (show (2 : Int) = 3 from h) (by decide), fun h => absurd (show (2 : Int) = 5 from h) (by decide), fun _ h => absurd rfl h⟩
  rcases ite_some h with ⟨c, h⟩ | ⟨_, h⟩
  · injection h with h
    subst h
    exact ⟨b1, z32, z32, (show (1 : Int) ≤ 3 ∧ (3 : Int) ≤ 20 from by decide), .inl rfl, fun h => absurd (show (3 : Int) = 1 ∨ (3 : Int) = 2 from h) (by decide), fun _ => bJ, fun h => absurd (show (3 : Int) = 5 from h) (by decide), fun _ _ h => absurd rfl h⟩
  rcases ite_some h with ⟨_, h⟩ | ⟨_, h⟩
  · rcases ite_some h with ⟨c, h⟩ | ⟨_, h⟩
    · injection h with h
      subst h
      exact ⟨b1, b2, z32, (show (1 : Int) ≤ 4 ∧ (4 : Int) ≤ 20 from by decide), .inl rfl, fun h => absurd (show (4 : Int) = 1 ∨ (4 : Int) = 2 from h) (by decide), fun h => absurd (show (4 : Int) = 3 from h) (by decide), fun h => absurd (show (4 : Int) = 5 from h) (by decide), fun _ _ _ _ => ⟨bI.1, Int.lt_trans bI.2 (by decide)⟩⟩
    · cases h
  rcases ite_some h with ⟨_, h⟩ | ⟨_, h⟩
  · rcases ite_some h with ⟨_, h⟩ | ⟨c, h⟩
    · cases h
    · injection h with h
      subst h
      exact ⟨z32, b2, b3, (show (1 : Int) ≤ 5 ∧ (5 : Int) ≤ 20 from by decide), .inl rfl, fun h => absurd (show (5 : Int) = 1 ∨ (5 : Int) = 2 from h) (by decide), fun h => absurd (show (5 : Int) = 3 from h) (by decide), fun _ => bB, fun _ _ _ h => absurd rfl h⟩
  rcases ite_some h with ⟨_, h⟩ | ⟨_, h⟩
  · rcases ite_some h with ⟨c, h⟩ | ⟨_, h⟩
    · injection h with h
      subst h
      exact ⟨b1, b2, z32, (show (1 : Int) ≤ 6 ∧ (6 : Int) ≤ 20 from by decide), ld_sz b4.1 c, fun h => absurd (show (6 : Int) = 1 ∨ (6 : Int) = 2 from h) (by decide), fun h => absurd (show (6 : Int) = 3 from h) (by decide), fun h => absurd (show (6 : Int) = 5 from h) (by decide), fun _ _ _ _ => ⟨bI.1, Int.lt_trans bI.2 (by decide)⟩⟩
    · cases h
  rcases ite_some h with ⟨_, h⟩ | ⟨_, h⟩
  · rcases ite_some h with ⟨c, h⟩ | ⟨_, h⟩
    · injection h with h
      subst h
      exact ⟨z32, b2, b3, (show (1 : Int) ≤ 7 ∧ (7 : Int) ≤ 20 from by decide), st_sz b4.1 c, fun h => absurd (show (7 : Int) = 1 ∨ (7 : Int) = 2 from h) (by decide), fun h => absurd (show (7 : Int) = 3 from h) (by decide), fun h => absurd (show (7 : Int) = 5 from h) (by decide), fun _ _ _ _ => ⟨bS.1, Int.lt_trans bS.2 (by decide)⟩⟩
    · cases h
  rcases ite_some h with ⟨_, h⟩ | ⟨_, h⟩
  · rcases ite_some h with ⟨c, h⟩ | ⟨_, h⟩
    · injection h with h
      subst h
      exact ⟨b1, b2, z32, (show (1 : Int) ≤ 9 ∧ (9 : Int) ≤ 20 from by decide), .inl rfl, fun h => absurd (show (9 : Int) = 1 ∨ (9 : Int) = 2 from h) (by decide), fun h => absurd (show (9 : Int) = 3 from h) (by decide), fun h => absurd (show (9 : Int) = 5 from h) (by decide), fun _ _ _ _ => n1⟩
    · cases h
  rcases ite_some h with ⟨_, h⟩ | ⟨_, h⟩
  · rcases ite_some h with ⟨c, h⟩ | ⟨_, h⟩
    · injection h with h
      subst h
      exact ⟨b1, b2, z32, (show (1 : Int) ≤ 9 ∧ (9 : Int) ≤ 20 from by decide), .inl rfl, fun h => absurd (show (9 : Int) = 1 ∨ (9 : Int) = 2 from h) (by decide), fun h => absurd (show (9 : Int) = 3 from h) (by decide), fun h => absurd (show (9 : Int) = 5 from h) (by decide), fun _ _ _ _ => n2⟩
    · cases h
  rcases ite_some h with ⟨_, h⟩ | ⟨_, h⟩
  · rcases ite_some h with ⟨_, h⟩ | ⟨c, h⟩
    · cases h
    · injection h with h
      subst h
      exact ⟨b1, b2, b3, (show (1 : Int) ≤ 8 ∧ (8 : Int) ≤ 20 from by decide), .inl rfl, fun h => absurd (show (8 : Int) = 1 ∨ (8 : Int) = 2 from h) (by decide), fun h => absurd (show (8 : Int) = 3 from h) (by decide), fun h => absurd (show (8 : Int) = 5 from h) (by decide), fun _ _ _ _ => (show (-2048 : Int) ≤ 0 ∧ (0 : Int) < 4096 from by decide)⟩
  rcases ite_some h with ⟨_, h⟩ | ⟨_, h⟩
  · rcases ite_some h with ⟨_, h⟩ | ⟨c, h⟩
    · cases h
    · injection h with h
      subst h
      exact ⟨b1, b2, b3, (show (1 : Int) ≤ 8 ∧ (8 : Int) ≤ 20 from by decide), .inl rfl, fun h => absurd (show (8 : Int) = 1 ∨ (8 : Int) = 2 from h) (by decide), fun h => absurd (show (8 : Int) = 3 from h) (by decide), fun h => absurd (show (8 : Int) = 5 from h) (by decide), fun _ _ _ _ => (show (-2048 : Int) ≤ 0 ∧ (0 : Int) < 4096 from by decide)⟩
  rcases ite_some h with ⟨_, h⟩ | ⟨_, h⟩
  · rcases ite_some h with ⟨c, h⟩ | ⟨_, h⟩
    · injection h with h
      subst h
      exact ⟨z32, z32, z32, (show (1 : Int) ≤ 10 ∧ (10 : Int) ≤ 20 from by decide), .inl rfl, fun h => absurd (show (10 : Int) = 1 ∨ (10 : Int) = 2 from h) (by decide), fun h => absurd (show (10 : Int) = 3 from h) (by decide), fun h => absurd (show (10 : Int) = 5 from h) (by decide), fun _ _ _ _ => (show (-2048 : Int) ≤ 0 ∧ (0 : Int) < 4096 from by decide)⟩
    · cases h
  rcases ite_some h with ⟨_, h⟩ | ⟨_, h⟩
  · exact sysD_fits h
  rcases ite_some h with ⟨_, h⟩ | ⟨_, h⟩
  · exact atD_fits h
  · cases h
end Go.Proofs.Ytecpkipgkaaefaa.Enc
end
