/- Parts of the walks and laws for the claim: SeqE, SeqF, Plan, LawA, LawM, LawMK, OpenB, OpenH, LawN; no conditions beyond the theorems' own. -/
import Derived.Carry
import Derived.ChangeArms
import Derived.ChangeOld
import Derived.Deep.SlicePairs
import Derived.OpenShut
import Derived.ProofKit
import Derived.ShutString
import Derived.SizedLaws
import Derived.Test.YtchpnbckgofiaaaGreatRows
import Derived.WalkKit
import Derived.Test.YtchpnbckgofiaaaGreatQ2
import Derived.Test.YtchpnbckgofiaaaGreatQ3
import Derived.Test.YtchpnbckgofiaaaGreatQ4
import Derived.Test.YtchpnbckgofiaaaGreatQ13
import Derived.Test.YtchpnbckgofiaaaGreatQ15
import Derived.Test.YtchpnbckgofiaaaGreatQ20
import Derived.Test.YtchpnbckgofiaaaGreatQ23
import Derived.Test.YtchpnbckgofiaaaGreatQ24
import Derived.Test.YtchpnbckgofiaaaGreatQ26
import Derived.Test.YtchpnbckgofiaaaGreatQ28
import Derived.Test.YtchpnbckgofiaaaGreatQ29
section
namespace Go.Proofs.YtchpnbckgofiaaaGreat.Sq
open Go Go.RowKit Go.Proofs.YtchpnbckgofiaaaGreat.Reg Go.Proofs.YtchpnbckgofiaaaGreat.Calm
set_option linter.unusedVariables false
set_option linter.unusedSimpArgs false
section
variable {P : Program} {ops : Array Oper}
/-- What an operation is to the stages: it keeps them from the first to the last that it may meet, or it is the one that ends a stage. -/
inductive Tag | keep (lo hi : Nat) | eff (q : Nat)
/-- The tags fit: E are the operations that end a stage, each behind the one ahead. -/
def fits (ops : Array Oper) (m : Nat) (E : List Nat) (tags : List Tag) : Bool :=
  decide (m ≤ ops.size) && ((List.range E.length).all fun q => match E[q]?, E[q - 1]? with | some k, some k' => q == 0 || (sweep ops k [k]).contains k' | _, _ => false) && (E.all fun k => decide (k < m)) && decide E.Nodup &&
  (List.range m).all fun i => match tags[i]? with
    | none => false
    | some (.eff q) => E[q]? == some i
    | some (.keep lo hi) => !(E.contains i) && (lo == 0 || (match E[lo - 1]? with | some k => (sweep ops i [i]).contains k | none => false)) && (decide (E.length ≤ hi) || (match E[hi]? with | some k => (sweep ops k [k]).contains i | none => false))
/-- What stands listed: just the first j of those that end a stage. -/
def Stage (E : List Nat) (L : Array Bool) (j : Nat) : Prop := j ≤ E.length ∧ ∀ q k, E[q]? = some k → (L.getD k false = true ↔ q < j)
theorem sweep_closed {L : Array Bool} (hc : Closed ops L) : ∀ (n : Nat) (S : List Nat), n ≤ L.size → (∀ k ∈ S, k < L.size ∧ L.getD k true = true) → ∀ k ∈ sweep ops n S, k < L.size ∧ L.getD k true = true
  | 0, S, _, hS, k, hk => hS k hk
  | j + 1, S, hn, hS, k, hk => by
    unfold sweep at hk
    split at hk
    · rename_i hany
      obtain ⟨y, hy, hd⟩ := List.any_eq_true.1 hany
      obtain ⟨oy, hoy, e, he, rfl, hb⟩ := dep_out hd
      obtain ⟨hyl, hy1⟩ := hS y hy
      have h1 := hc y oy hoy (by simpa [Array.getD_eq_getD_getElem?, Array.getElem?_eq_getElem hyl] using hy1) e he hb
      refine sweep_closed hc e.on (e.on :: S) (by omega) (fun x hx => ?_) k hk
      rcases List.mem_cons.1 hx with rfl | hx
      · exact ⟨by omega, h1⟩
      · exact hS x hx
    · exact sweep_closed hc j S (by omega) hS k hk
theorem stage_zero (E : List Nat) (n : Nat) : Stage E (Array.replicate n false) 0 := by
  refine ⟨Nat.zero_le _, fun q k hk => ⟨fun h => ?_, fun h => by omega⟩⟩
  exfalso
  rw [Array.getD_eq_getD_getElem?, Array.getElem?_replicate] at h
  split at h <;> simp at h
structure Fits (ops : Array Oper) (m : Nat) (E : List Nat) (tags : List Tag) : Prop where
  size : m ≤ ops.size
  lt : ∀ k ∈ E, k < m
  inj : E.Nodup
  chain : ∀ q k k', E[q + 1]? = some k → E[q]? = some k' → k' ∈ sweep ops k [k]
  keep : ∀ i lo hi, i < m → tags[i]? = some (.keep lo hi) → i ∉ E ∧ (lo = 0 ∨ ∃ k, E[lo - 1]? = some k ∧ k ∈ sweep ops i [i]) ∧ (E.length ≤ hi ∨ ∃ k, E[hi]? = some k ∧ i ∈ sweep ops k [k])
  eff : ∀ i q, i < m → tags[i]? = some (.eff q) → E[q]? = some i
theorem fits_out {m : Nat} {E : List Nat} {tags : List Tag} (h : fits ops m E tags = true) : Fits ops m E tags := by
  unfold fits at h
  simp only [Bool.and_eq_true, List.all_eq_true, decide_eq_true_eq, List.mem_range] at h
  obtain ⟨⟨⟨⟨h0, h1⟩, h2⟩, h3⟩, h4⟩ := h
  refine ⟨h0, h2, h3, fun q k k' hk hk' => ?_, fun i lo hi him ht => ?_, fun i q him ht => ?_⟩
  · have := h1 (q + 1) (List.getElem?_eq_some_iff.1 hk).1
    rw [hk, show q + 1 - 1 = q from rfl, hk'] at this
    simpa using this
  · have := h4 i him
    rw [ht] at this
    simp only [Bool.and_eq_true, Bool.or_eq_true, Bool.not_eq_true', List.contains_eq_mem, decide_eq_false_iff_not, beq_iff_eq, decide_eq_true_eq] at this
    obtain ⟨⟨a, b⟩, c⟩ := this
    refine ⟨a, ?_, ?_⟩
    · rcases b with b | b
      · exact .inl b
      · cases hk : E[lo - 1]? with
        | none => rw [hk] at b; simp at b
        | some k => rw [hk] at b; exact .inr ⟨k, rfl, by simpa using b⟩
    · rcases c with c | c
      · exact .inl c
      · cases hk : E[hi]? with
        | none => rw [hk] at c; simp at c
        | some k => rw [hk] at c; exact .inr ⟨k, rfl, by simpa using c⟩
  · have := h4 i him
    rw [ht] at this
    simpa using this
theorem Fits.same {m : Nat} {E : List Nat} {tags : List Tag} (h : Fits ops m E tags) {q q' k : Nat} (h1 : E[q]? = some k) (h2 : E[q']? = some k) : q = q' := by
  have a := (List.getElem?_eq_some_iff.1 h1)
  have b := (List.getElem?_eq_some_iff.1 h2)
  exact (List.getElem_inj h.inj).1 (a.2.trans b.2.symm)
/-- An operation at a frame, by its tag. -/
def ComesJ (P : Program) (ops : Array Oper) (J : Nat → World → Prop) (a : Act) (o : Oper) (v : Value) : Tag → Prop
  | .keep lo hi => (Region.wanted o (yielded ops a.tmps) = true ∧ ∀ j, lo ≤ j → j ≤ hi → ∀ X, J j X → o.wp P a X (fun a' X' => a' = a.put o.dst v ∧ J j X') (fun _ _ _ => False)) ∨ (Region.wanted o (yielded ops a.tmps) = false ∧ v = undef)
  | .eff q => Region.wanted o (yielded ops a.tmps) = true ∧ ∀ X, J q X → o.wp P a X (fun a' X' => a' = a.put o.dst v ∧ J (q + 1) X') (fun _ _ _ => False)
def SeqJ (P : Program) (ops : Array Oper) (J : Nat → World → Prop) : List Tag → List Oper → Act → (Act → Prop) → Prop
  | _, [], a, K => K a
  | [], _ :: _, _, _ => False
  | t :: ts, o :: r, a, K => ∃ v, ComesJ P ops J a o v t ∧ SeqJ P ops J ts r (a.put o.dst v) K
theorem seqJ_out {J : Nat → World → Prop} {K : Act → Prop} : ∀ (l : List Oper) (ts : List Tag) (a : Act), SeqJ P ops J ts l a K → ∃ vs : List Value, vs.length = l.length ∧ K (fr a (l.zip vs)) ∧
    ∀ (i : Nat) (o : Oper) (v : Value), l[i]? = some o → vs[i]? = some v → ∃ t, ts[i]? = some t ∧ ComesJ P ops J (fr a ((l.zip vs).take i)) o v t
  | [], _, a, h => ⟨[], rfl, by cases ‹List Tag› <;> exact h, fun i o v ho => by simp at ho⟩
  | _ :: _, [], _, h => h.elim
  | o :: r, t :: ts, a, ⟨v, hc, h⟩ => by
    obtain ⟨vs, hl, hK, hall⟩ := seqJ_out r ts _ h
    refine ⟨v :: vs, by simp [hl], hK, fun i o' v' ho hv => ?_⟩
    cases i with
    | zero =>
      simp only [List.getElem?_cons_zero, Option.some.injEq] at ho hv
      subst ho hv
      exact ⟨t, rfl, hc⟩
    | succ i =>
      simp only [List.getElem?_cons_succ] at ho hv
      exact hall i o' v' ho hv
/-- What is asked of an operation at the final frame. -/
def KeepsJ (P : Program) (ops : Array Oper) (fin : Act) (J : Nat → World → Prop) (o : Oper) : Tag → Prop
  | .keep lo hi => ∀ j, lo ≤ j → j ≤ hi → ∀ X, J j X → if Region.wanted o (yielded ops fin.tmps) then o.wp P fin X (fun a' X' => a' = fin ∧ J j X') (fun _ _ _ => False) else fin.put o.dst undef = fin
  | .eff q => ∀ X, J q X → Region.wanted o (yielded ops fin.tmps) = true ∧ o.wp P fin X (fun a' X' => a' = fin ∧ J (q + 1) X') (fun _ _ _ => False)
theorem keep_stepJ {m : Nat} {L : Array Bool} {a fin : Act} {i : Nat} {o : Oper} {w : World} {I' : World → Prop} {Q : Exit → Act → World → Prop} {K : Act → World → Prop} (hp : parted ops m = true) (ho : ops[i]? = some o) (him : i < m)
    (hdep : ∀ e ∈ o.after, Region.binds .any e = true → L.getD e.on true = true) (h : AgreeM ops m L a fin) (hdo : if Region.wanted o (yielded ops fin.tmps) then o.wp P fin w (fun a' X' => a' = fin ∧ I' X') (fun _ _ _ => False) else fin.put o.dst undef = fin ∧ I' w)
    (hK : ∀ a' w', AgreeM ops m (L.setIfInBounds i true) a' fin → I' w' → K a' w') : wpOp P ops Q i K a w := by
  obtain ⟨_, hs, hl, _⟩ := parted_at hp ho
  obtain ⟨hex, hwa⟩ := looks_eq (a := a) (fin := fin) hs (fun t ht => h.slot t fun j oj hjm hj hd => by
    obtain ⟨e, he, rfl, hb⟩ := hl him t ht j oj hjm hj hd
    exact hdep e he hb)
  unfold wpOp
  simp only [ho]
  rw [hwa]
  split
  · rename_i hw'
    rw [if_pos hw'] at hdo
    refine .inl ?_
    unfold Oper.wp at *
    rw [hex]
    generalize (execOp fin.eval o).run P w = r at *
    cases r with
    | ok n w' =>
      cases n <;> simp only [Oper.upon] at hdo ⊢
      case value u => exact hK _ _ (agreeM_put ho h hdo.1) hdo.2
      case skip => exact hK _ _ (agreeM_put ho h hdo.1) hdo.2
      case defer d =>
        exfalso
        have h1 := congrArg Act.defers hdo.1
        have h2 : (({ fin with defers := d :: fin.defers } : Act).put o.dst undef).defers = d :: fin.defers := by cases o.dst <;> rfl
        rw [h2] at h1
        have := congrArg List.length h1
        simp at this
      case enter f args =>
        refine Calls.mono hdo fun e w'' he => ?_
        cases e with
        | returned u => exact hK _ _ (agreeM_put ho h he.1) he.2
        | panicked c => exact he.elim
        | outgrown => obtain ⟨_, _, hf⟩ := he; exact hf.elim
      case row row args => exact Rows.mono hdo fun u w'' he => hK _ _ (agreeM_put ho h he.1) he.2
    | halt x w' =>
      cases x <;> simp only [Oper.upon] at hdo ⊢
  · rename_i hw'
    rw [if_neg hw'] at hdo
    exact hK _ _ (agreeM_put ho h hdo.1) hdo.2
theorem keepsJ_of {m : Nat} {l : List Oper} {vs : List Value} {a : Act} {i : Nat} {o : Oper} {v : Value} {J : Nat → World → Prop} {t : Tag} (hp : parted ops m = true) (hlm : l.length ≤ m) (hops : ∀ (j : Nat) (oj : Oper), l[j]? = some oj → ops[j]? = some oj)
    (hvs : vs.length = l.length) (ho : l[i]? = some o) (hv : vs[i]? = some v) (hc : ComesJ P ops J (fr a ((l.zip vs).take i)) o v t) : KeepsJ P ops (fr a (l.zip vs)) J o t := by
  have hil : i < l.length := (List.getElem?_eq_some_iff.1 ho).1
  have him : i < m := Nat.lt_of_lt_of_le hil hlm
  obtain ⟨hb, hs, hl, hd, _⟩ := parted_at hp (hops i o ho)
  have hz : (l.zip vs)[i]? = some (o, v) := by rw [List.getElem?_zip_eq_some]; exact ⟨ho, hv⟩
  have hiz : i < (l.zip vs).length := (List.getElem?_eq_some_iff.1 hz).1
  have hsplit : l.zip vs = (l.zip vs).take i ++ ((o, v) :: (l.zip vs).drop (i + 1)) := by
    have h1 : (l.zip vs).drop i = (o, v) :: (l.zip vs).drop (i + 1) := by
      rw [List.drop_eq_getElem_cons hiz]; congr 1
      have := List.getElem?_eq_getElem hiz; rw [hz] at this; exact (Option.some.inj this).symm
    rw [← h1, List.take_append_drop]
  have hfin : fr a (l.zip vs) = fr ((fr a ((l.zip vs).take i)).put o.dst v) ((l.zip vs).drop (i + 1)) := by
    conv => lhs; rw [hsplit]
    rw [fr_append]; rfl
  -- who stands behind
  have behind : ∀ p ∈ (l.zip vs).drop (i + 1), ∃ j, i < j ∧ j < m ∧ ops[j]? = some p.1 := by
    intro p hp'
    obtain ⟨k, hk⟩ := List.mem_iff_getElem?.1 hp'
    rw [List.getElem?_drop, List.getElem?_zip_eq_some] at hk
    have hkl : i + 1 + k < l.length := (List.getElem?_eq_some_iff.1 hk.1).1
    exact ⟨i + 1 + k, by omega, by omega, hops _ _ hk.1⟩
  generalize hai : fr a ((l.zip vs).take i) = ai at *
  generalize hq : (l.zip vs).drop (i + 1) = q at *
  have hsz : ai.tmps.size = (fr a (l.zip vs)).tmps.size := by rw [hfin, fr_size]; cases h : o.dst <;> simp [Act.put]
  have seen : ∀ t ∈ o.looksAt ops, ai.tmps[t]? = (fr a (l.zip vs)).tmps[t]? := by
    intro t ht
    have hno : ∀ (j : Nat) (oj : Oper), i ≤ j → j < m → ops[j]? = some oj → oj.dst ≠ some t := by
      intro j oj hij hjm hj he
      obtain ⟨e, he', rfl, hbd⟩ := hl him t ht j oj hjm hj he
      have := hb e he' hbd
      omega
    rw [hfin, fr_other t q _ fun p hp' he => by
      obtain ⟨j, hij, hjm, hj⟩ := behind p hp'
      exact hno j p.1 (by omega) hjm hj he]
    have h1 := hno i o (Nat.le_refl _) him (hops i o ho)
    cases hdst : o.dst with
    | none => rfl
    | some d =>
      have : d ≠ t := fun e => h1 (by rw [hdst, e])
      simp [Act.put, Array.getElem?_setIfInBounds_ne this]
  have hput : (fr a (l.zip vs)).put o.dst v = fr a (l.zip vs) := by
    cases hdst : o.dst with
    | none => rfl
    | some d =>
      have hslot : (fr a (l.zip vs)).tmps[d]? = (ai.tmps.setIfInBounds d v)[d]? := by
        rw [hfin, fr_other d q _ fun p hp' he => by
          obtain ⟨j, hij, hjm, hj⟩ := behind p hp'
          exact hd him j p.1 hjm (by omega) hj d he hdst, hdst]
        rfl
      have : (fr a (l.zip vs)).tmps.setIfInBounds d v = (fr a (l.zip vs)).tmps := by
        apply Array.ext_getElem?
        intro t
        by_cases e : d = t
        · subst e
          rw [hslot, Array.getElem?_setIfInBounds_self, Array.getElem?_setIfInBounds_self, hsz]
        · rw [Array.getElem?_setIfInBounds_ne e]
      show ({ (fr a (l.zip vs)) with tmps := (fr a (l.zip vs)).tmps.setIfInBounds d v } : Act) = _
      rw [this]
  obtain ⟨hex, hwa⟩ := looks_eq (a := ai) (fin := fr a (l.zip vs)) hs seen
  cases t with
  | keep lo hi =>
    intro j h1 h2 X hX
    rcases hc with ⟨hw, h⟩ | ⟨hw, rfl⟩
    · rw [if_pos (by rw [← hwa]; exact hw)]
      exact wp_move hex hsz hput (h j h1 h2 X hX)
    · rw [if_neg (by rw [← hwa, hw]; decide)]
      exact hput
  | eff q =>
    intro X hX
    exact ⟨by rw [← hwa]; exact hc.1, wp_move hex hsz hput (hc.2 X hX)⟩
theorem regionJ {l : List Oper} {id : Nat} {a : Act} {w : World} {J : Nat → World → Prop} {Q : Exit → Act → World → Prop} (hm : P.follows .mixedOrders = true) (m : Nat) (E : List Nat) (tags : List Tag) (hI : J 0 { w with drawn := w.drawn + 1 })
    (hp : parted l.toArray m = true) (hf : fits l.toArray m E tags = true) (h : ∀ (ops : Array Oper) (K : Act → Prop), ops = l.toArray → RowKit.Hid (∀ fin, (∀ w', J E.length w' → wpList P ops Q (l.drop m) fin w') → K fin) → SeqJ P ops J tags (l.take m) a K) : (Code.region id l.toArray true).wp P Q a w := by
  have hsz : l.toArray.size = l.length := by simp
  replace h := h _ _ rfl (Lib.hid fun _ h => h)
  obtain ⟨vs, hvs, hrest, hcomes⟩ := seqJ_out _ _ _ h
  have hkeep : ∀ (i : Nat) (o : Oper), (l.take m)[i]? = some o → ∃ t, tags[i]? = some t ∧ KeepsJ P l.toArray (fr a ((l.take m).zip vs)) J o t := by
    intro i o hi
    have hil : i < (l.take m).length := (List.getElem?_eq_some_iff.1 hi).1
    have hv : vs[i]? = some vs[i] := List.getElem?_eq_getElem (by omega)
    obtain ⟨t, ht, hct⟩ := hcomes i o _ hi hv
    refine ⟨t, ht, keepsJ_of (m := m) hp (by simp; omega) (fun j oj hj => ?_) hvs hi hv hct⟩
    have : (l.take m)[j]? = l[j]? := by
      rw [List.getElem?_take]
      split
      · rfl
      · rename_i hc
        have := (List.getElem?_eq_some_iff.1 hj).1
        simp at this
        omega
    rw [this] at hj
    simpa using hj
  have hslots : ∀ t, (∀ (j : Nat) (o : Oper), j < m → l.toArray[j]? = some o → o.dst ≠ some t) → (fr a ((l.take m).zip vs)).tmps[t]? = a.tmps[t]? := by
    intro t ht
    refine fr_other t _ a fun p hp' => ?_
    obtain ⟨k, hk⟩ := List.mem_iff_getElem?.1 hp'
    rw [List.getElem?_zip_eq_some] at hk
    have h1 := hk.1
    rw [List.getElem?_take] at h1
    split at h1
    · rename_i hkm
      exact ht k p.1 hkm (by simpa using h1)
    · cases h1
  have hfd : (fr a ((l.take m).zip vs)).defers = a.defers := fr_defers _ _
  have hfs : (fr a ((l.take m).zip vs)).tmps.size = a.tmps.size := fr_size _ _
  clear hcomes h
  generalize fr a ((l.take m).zip vs) = fin at *
  refine wp_region_any hm ?_
  let Inv : Array Bool → Act → World → Prop := fun L a' w => Closed l.toArray L ∧ (((∀ j, m ≤ j → j < l.length → L.getD j true = false) ∧ AgreeM l.toArray m L a' fin ∧ ∃ s, Stage E L s ∧ J s w) ∨ (∃ k, m < k ∧ k ≤ l.length ∧ (∀ j, j < l.length → (L.getD j true = true ↔ j < k)) ∧ wpList P l.toArray Q (l.drop k) a' w))
  have hset : ∀ (L : Array Bool) (i j : Nat), L.size = l.length → j < l.length → ((L.setIfInBounds i true).getD j true = true ↔ (j = i ∨ L.getD j true = true)) := by
    intro L i j hs hj
    by_cases e : i = j
    · subst e; simp [Array.getD_eq_getD_getElem?, hs, hj]
    · have : j ≠ i := fun h => e h.symm
      simp [Array.getD_eq_getD_getElem?, Array.getElem?_setIfInBounds_ne e, this]
  refine any_invB (Inv := Inv) (fun i o ho => (parted_at hp ho).1) ?_ ?_ _ _ _ _ (by simp) (left_le _ _) ?_
  · intro i o ho L a' w hL hLi hdep hInv
    have hLo := hL
    rw [hsz] at hL
    have hil : i < l.length := by have := (Array.getElem?_eq_some_iff.1 ho).1; simpa using this
    have hol : l[i]? = some o := by simpa using ho
    obtain ⟨_, _, _, _, htail⟩ := parted_at hp ho
    obtain ⟨hcl, hInv⟩ := hInv
    have hcl2 := hcl.set ho hdep
    rcases hInv with ⟨hnone, hag, hb⟩ | ⟨k, hmk, hkl, hk, hrun⟩
    · by_cases him : i < m
      · obtain ⟨t, ht, hkt⟩ := hkeep i o (by rw [List.getElem?_take, if_pos him]; exact hol)
        obtain ⟨s, hs, hJ⟩ := hb
        have F := fits_out hf
        have hnone' : ∀ j, m ≤ j → j < l.length → (L.setIfInBounds i true).getD j true = false := fun j hj hjl => by
          have e : i ≠ j := by omega
          have := hnone j hj hjl
          simpa [Array.getD_eq_getD_getElem?, Array.getElem?_setIfInBounds_ne e] using this
        have hil' : i < L.size := by omega
        have hLf : L.getD i false = false := by simpa [Array.getD_eq_getD_getElem?, Array.getElem?_eq_getElem hil'] using hLi
        have inb : ∀ k ∈ E, k < L.size := fun k hk => by have h1 := F.lt k hk; have h2 := F.size; omega
        have flip : ∀ k, k < L.size → (L.getD k true = true ↔ L.getD k false = true) := fun k hk => by simp [Array.getD_eq_getD_getElem?, Array.getElem?_eq_getElem hk]
        have ahead : ∀ k ∈ sweep l.toArray i [i], k = i ∨ L.getD k true = true := sweep_listed ho hcl hLo hdep i [i] (by omega) (fun x hx => .inl (List.mem_singleton.1 hx))
        cases t with
        | keep lo hi =>
          obtain ⟨hE, hlo, hhi⟩ := F.keep i lo hi him ht
          have h1 : lo ≤ s := by
            rcases hlo with rfl | ⟨k, hk, hsw⟩
            · omega
            · have hkE := List.mem_of_getElem? hk
              have h3 := (ahead k hsw).resolve_left fun e => hE (by rw [← e]; exact hkE)
              have h4 := (hs.2 _ k hk).1 ((flip k (inb k hkE)).1 h3)
              omega
          have h2 : s ≤ hi := by
            rcases hhi with h | ⟨k, hk, hsw⟩
            · exact Nat.le_trans hs.1 h
            · rcases Nat.lt_or_ge hi s with h | h
              · exfalso
                have hkl := inb k (List.mem_of_getElem? hk)
                have h3 := (hs.2 hi k hk).2 h
                have h4 := (sweep_closed hcl k [k] (by omega) (fun x hx => by obtain rfl := List.mem_singleton.1 hx; exact ⟨hkl, (flip _ hkl).2 h3⟩) i hsw).2
                rw [hLi] at h4; cases h4
              · exact h
          have hdo := hkt s h1 h2 w hJ
          refine keep_stepJ (I' := J s) hp ho him hdep hag ?_ fun a'' w'' ha'' hb'' => ⟨hcl2, .inl ⟨hnone', ha'', s, ⟨hs.1, fun q k hk => ?_⟩, hb''⟩⟩
          · split
            · rename_i hw'; rw [if_pos hw'] at hdo; exact hdo
            · rename_i hw'; rw [if_neg hw'] at hdo; exact ⟨hdo, hJ⟩
          · have hki : i ≠ k := fun e => hE (by rw [e]; exact List.mem_of_getElem? hk)
            rw [← hs.2 q k hk]
            simp [Array.getD_eq_getD_getElem?, Array.getElem?_setIfInBounds_ne hki]
        | eff q =>
          have hEi := F.eff i q him ht
          have hsq : s = q := by
            have h1 : ¬ q < s := fun h => by have := (hs.2 q i hEi).2 h; rw [hLf] at this; cases this
            cases q with
            | zero => omega
            | succ q =>
              have hql : q < E.length := by have := (List.getElem?_eq_some_iff.1 hEi).1; omega
              have hk : E[q]? = some E[q] := List.getElem?_eq_getElem hql
              have hsw := F.chain q i E[q] hEi hk
              rcases ahead _ hsw with e | h2
              · rw [e] at hk
                have := F.same hk hEi
                omega
              · have h4 := (hs.2 q _ hk).1 ((flip _ (inb _ (List.mem_of_getElem? hk))).1 h2)
                omega
          subst hsq
          obtain ⟨hwn, hdo⟩ := hkt w hJ
          refine keep_stepJ (I' := J (s + 1)) hp ho him hdep hag (by rw [if_pos hwn]; exact hdo) fun a'' w'' ha'' hb'' => ⟨hcl2, .inl ⟨hnone', ha'', s + 1, ⟨?_, fun q' k hk => ?_⟩, hb''⟩⟩
          · have := (List.getElem?_eq_some_iff.1 hEi).1; omega
          · by_cases e : i = k
            · subst e
              have hq := F.same hk hEi
              subst hq
              simp [Array.getD_eq_getD_getElem?, hil']
            · have hne : q' ≠ s := fun h => by subst h; rw [hEi] at hk; exact e (Option.some.inj hk)
              have := hs.2 q' k hk
              rw [show (L.setIfInBounds i true).getD k false = L.getD k false by simp [Array.getD_eq_getD_getElem?, Array.getElem?_setIfInBounds_ne e], this]
              omega
      · -- the first of the rest
        have hmi : m ≤ i := by omega
        have hall : ∀ j, j < i → L.getD j true = true := lastAfter_all (htail hmi) ho hcl hLo hdep
        have him2 : i = m := by
          rcases Nat.lt_or_ge m i with h | h
          · have := hall m h; rw [hnone m (Nat.le_refl _) (by omega)] at this; cases this
          · omega
        subst him2
        have hfin : a' = fin := by
          have ht : a'.tmps = fin.tmps := Array.ext_getElem? fun t => hag.slot t fun j o' hj _ _ => hall j hj
          have hd := hag.defers
          cases a'; cases hq : fin; simp_all
        subst hfin
        obtain ⟨s, hs, hJ⟩ := hb
        have F := fits_out hf
        have hse : s = E.length := by
          rcases Nat.lt_or_ge s E.length with h | h
          · exfalso
            have hk : E[s]? = some E[s] := List.getElem?_eq_getElem h
            have h1 := F.lt _ (List.mem_of_getElem? hk)
            have h2 := F.size
            have h3 := hall _ h1
            have h4 : E[s] < L.size := by omega
            have := (hs.2 s _ hk).1 (by simpa [Array.getD_eq_getD_getElem?, Array.getElem?_eq_getElem h4] using h3)
            omega
          · have := hs.1; omega
        subst hse
        have hr := hrest w hJ
        have hdrop : l.drop i = o :: l.drop (i + 1) := by
          rw [List.drop_eq_getElem_cons hil]; congr 1
          have := List.getElem?_eq_getElem hil; rw [hol] at this; exact (Option.some.inj this).symm
        rw [hdrop] at hr
        refine wpOp_mono (fun a'' w'' h'' => ⟨hcl2, .inr ⟨i + 1, by omega, by omega, fun j hj => ?_, h''⟩⟩) (wpOp_tail ho hr)
        rw [hset L i j hL hj]
        constructor
        · rintro (h | h)
          · omega
          · rcases Nat.lt_or_ge j i with h1 | h1
            · omega
            · rw [hnone j h1 hj] at h; cases h
        · intro h
          rcases Nat.lt_or_ge j i with h1 | h1
          · exact .inr (hall j h1)
          · exact .inl (by omega)
    · -- further on
      have hki : k ≤ i := by
        rcases Nat.lt_or_ge i k with h | h
        · have := (hk i hil).2 h; rw [hLi] at this; cases this
        · exact h
      have hall : ∀ j, j < i → L.getD j true = true := lastAfter_all (htail (by omega)) ho hcl hLo hdep
      have hik : i = k := by
        rcases Nat.lt_or_ge k i with h | h
        · have := (hk k (by omega)).1 (hall k h); omega
        · omega
      subst hik
      have hdrop : l.drop i = o :: l.drop (i + 1) := by
        rw [List.drop_eq_getElem_cons hil]; congr 1
        have := List.getElem?_eq_getElem hil; rw [hol] at this; exact (Option.some.inj this).symm
      rw [hdrop] at hrun
      refine wpOp_mono (fun a'' w'' h'' => ⟨hcl2, .inr ⟨i + 1, by omega, by omega, fun j hj => ?_, h''⟩⟩) (wpOp_tail ho hrun)
      rw [hset L i j hL hj]
      constructor
      · rintro (h | h)
        · omega
        · have := (hk j hj).1 h; omega
      · intro h
        rcases Nat.lt_or_ge j i with h1 | h1
        · exact .inr (hall j h1)
        · exact .inl (by omega)
  · intro L a' w hL hall hInv
    rw [hsz] at hall
    rcases hInv.2 with ⟨hnone, hag, hb⟩ | ⟨k, hmk, hkl, hk, hrun⟩
    · have hml : l.length ≤ m := by
        rcases Nat.lt_or_ge m l.length with h | h
        · have h1 := hnone m (Nat.le_refl _) h; rw [hall m h] at h1; cases h1
        · exact h
      have hfin : a' = fin := by
        have ht : a'.tmps = fin.tmps := Array.ext_getElem? fun t => hag.slot t fun j o' _ hj _ => hall j (by have := (Array.getElem?_eq_some_iff.1 hj).1; simpa using this)
        have hd := hag.defers
        cases a'; cases hq : fin; simp_all
      subst hfin
      obtain ⟨s, hs, hJ⟩ := hb
      have F := fits_out hf
      have hse : s = E.length := by
        rcases Nat.lt_or_ge s E.length with h | h
        · exfalso
          have hk : E[s]? = some E[s] := List.getElem?_eq_getElem h
          have h1 := F.lt _ (List.mem_of_getElem? hk)
          have h2 := F.size
          have h3 := hall E[s] (by omega)
          have h4 : E[s] < L.size := by omega
          have := (hs.2 s _ hk).1 (by simpa [Array.getD_eq_getD_getElem?, Array.getElem?_eq_getElem h4] using h3)
          omega
        · have := hs.1; omega
      subst hse
      have hr := hrest w hJ
      rw [List.drop_of_length_le hml] at hr
      exact hr
    · have : k = l.length := by
        rcases Nat.lt_or_ge k l.length with h | h
        · have h1 := (hk k h).1 (hall k h); omega
        · omega
      subst this
      rw [List.drop_length] at hrun
      exact hrun
  · refine ⟨fun k o _ hk => (by exfalso; rw [Array.getD_eq_getD_getElem?, Array.getElem?_replicate] at hk; split at hk <;> simp at hk), .inl ⟨fun j hj hjl => by simp [Array.getD_eq_getD_getElem?, hjl], ⟨hfd.symm, hfs.symm, fun t ht => (hslots t fun j o hj ho he => ?_).symm⟩, 0, stage_zero E _, hI⟩⟩
    have h2 := ht j o hj ho he
    have hjl : j < l.length := by have := (Array.getElem?_eq_some_iff.1 ho).1; simpa using this
    simp [Array.getD_eq_getD_getElem?, hjl] at h2
end
end Go.Proofs.YtchpnbckgofiaaaGreat.Sq
end
section
namespace Go.Proofs.YtchpnbckgofiaaaGreat.Sq
open Go Go.RowKit Go.Proofs.YtchpnbckgofiaaaGreat.Reg Go.Proofs.YtchpnbckgofiaaaGreat.Calm Go.Proofs.YtchpnbckgofiaaaGreat.Step
set_option linter.unusedVariables false
set_option linter.unusedSimpArgs false
section
variable {P : Program} {ops : Array Oper} {J : Nat → World → Prop} {o : Oper} {r : List Oper} {a : Act} {K : Act → Prop} {ts : List Tag} {lo hi q : Nat}
theorem seqJ_nil (h : K a) : SeqJ P ops J ts [] a K := by cases ts <;> exact h
theorem seqJ_val {v : Value} (hw : Region.wanted o (yielded ops a.tmps) = true) (hr : ∀ j, lo ≤ j → j ≤ hi → ∀ X, J j X → (execOp a.eval o).run P X = .ok (.value v) X) (h : SeqJ P ops J ts r (a.put o.dst v) K) : SeqJ P ops J (.keep lo hi :: ts) (o :: r) a K :=
  ⟨v, .inl ⟨hw, fun j h1 h2 X hX => by unfold Oper.wp; rw [hr j h1 h2 X hX]; exact ⟨rfl, hX⟩⟩, h⟩
theorem seqJ_pure {v : Value} (hg : o.guard = none) (hr : ∀ X, (execOp a.eval o).run P X = .ok (.value v) X) (h : SeqJ P ops J ts r (a.put o.dst v) K) : SeqJ P ops J (.keep lo hi :: ts) (o :: r) a K :=
  seqJ_val (by simp [Region.wanted, hg]) (fun _ _ _ X _ => hr X) h
theorem seqJ_cell {t : TypeId} {x : Operand} {ad : Addr} {v : Value} (hB : ∀ j, lo ≤ j → j ≤ hi → ∀ X, J j X → X.cell? ad = some v) (hw : Region.wanted o (yielded ops a.tmps) = true) (ho : o.op = .load t x) (hx : a.eval x = .pointer (some ad)) (ht : plainT P t = true)
    (h : SeqJ P ops J ts r (a.put o.dst v) K) : SeqJ P ops J (.keep lo hi :: ts) (o :: r) a K :=
  seqJ_val hw (fun j h1 h2 X hX => by
    have := run_load1 (P := P) ht (hB j h1 h2 X hX)
    simp [execOp, ho, hx, this, Result.andThen]) h
/-- A store that ends a stage. -/
theorem seqJ_store {t : TypeId} {x y : Operand} {g i : Nat} {cs : Array Value} {T : TypeId} {v : Value} (hB : ∀ X, J q X → Blk X g cs T) (hg : o.guard = none) (ho : o.op = .store t x y) (hn : o.dst = none) (hx : a.eval x = .pointer (some ⟨g, i, none⟩)) (hy : a.eval y = v) (ht : plainT P t = true) (hv : v.oneCell' = true) (hi' : Nat.blt i cs.size = true)
    (hJ : ∀ X X', J q X → Blk X' g (cs.setIfInBounds i v) T → Mod (One g) X X' → J (q + 1) X') (h : SeqJ P ops J ts r a K) : SeqJ P ops J (.eff q :: ts) (o :: r) a K := by
  have hi : i < cs.size := Nat.le_of_ble_eq_true hi'
  refine ⟨undef, ⟨by simp [Region.wanted, hg], fun X hX => ?_⟩, by rw [hn]; exact h⟩
  have := run_store1 (P := P) ht hv (((hB X hX).cell i).trans (Array.getElem?_eq_getElem hi)) ((hB X hX).frozen i)
  unfold Oper.wp
  simp [execOp, ho, hx, hy, this, Result.andThen]
  simp only [Oper.upon, hn, Act.put]
  exact ⟨trivial, hJ X _ hX (setCell_out _ _ _ _ _ _ (hB X hX)) (setCell_mod _ _ _ _)⟩
end
end Go.Proofs.YtchpnbckgofiaaaGreat.Sq
end
section
namespace Go.Proofs.YtchpnbckgofiaaaGreat.Hart
open Go Go.RowKit Go.Proofs.YtchpnbckgofiaaaGreat.Step Go.Proofs.YtchpnbckgofiaaaGreat.Enc Go.Proofs.YtchpnbckgofiaaaGreat.Kn
set_option linter.unusedVariables false
set_option linter.unusedSimpArgs false
set_option maxRecDepth 100000
theorem ta_ll (v : Value) (w : World) : (Instr.typeAssert (.iface 99 v) 20 99 true).run Tryz.prog w = .ok (.tuple #[v, .bool true]) w := by kernel_rfl
theorem conc_l : Tryz.prog.concrete 99 = true := by kernel_rfl
set_option maxHeartbeats 1000000 in
theorem what_load (fn rd n m imm sz : Int) (sg : Bool) (w : World) : Calls Tryz.prog 45 #[.agg #[.int .i64 6, .int .i64 fn, .int .i64 rd, .int .i64 n, .int .i64 m, .int .i64 imm, .int .i64 sz, .bool sg]] w fun e w' => e = .returned (.iface 99 (.agg #[.int .i64 6, .int .i64 fn, .int .i64 rd, .int .i64 n, .int .i64 m, .int .i64 imm, .int .i64 sz, .bool sg])) ∧ Below w.heap.size w w' := by
  have t1 := conc_l
  go_enter Tryz.func45, Tryz.ntmps45
  have ST := Lib.hid (Kn.nil (S := Step.Nil) (W := w))
  go_wp2_with (first
 | ((with_reducible refine Step.gate_box (t := 85) rfl ?_); refine Step.fresh (cs := #[.int .i64 6, .int .i64 fn, .int .i64 rd, .int .i64 n, .int .i64 m, .int .i64 imm, .int .i64 sz, .bool sg]) (T := 85) rfl ?hr ?_; (case hr => go_simp); intro g1 w1 b hg hb; replace ST := Lib.hid (ST.out.made b hg hb); clear b hb; clear hg)
 | (refine Step.load ST.out.at0 rfl rfl rfl pl_int rfl ?_)
 | (refine Step.loadAll ST.out.at0 rfl rfl rfl Tryz.underlying85 rfl size_inst ?_))
  all_goals (go_ret; exact ⟨rfl, ST.out.below⟩)
set_option maxHeartbeats 8000000 in
theorem plan_6 {h h2 : Hrt} {a : Int} {n : Nat} (fn rd imm sz ln : Int) (sg : Bool) (hn : n < 32) (T0 : Hid (∀ w, Calls Tryz.prog 12 #[.agg (hc h)] w fun e w' => e = .returned (.agg (hc h2)) ∧ Below w.heap.size w w')) (m : Int) (T1 : Hid (∀ w, Calls Tryz.prog 44 #[.int .u32 a] w fun e w' => e = .returned (.tuple #[.agg #[.int .i64 6, .int .i64 fn, .int .i64 rd, .int .i64 (n : Nat), .int .i64 m, .int .i64 imm, .int .i64 sz, .bool sg], .bool true]) ∧ Below w.heap.size w w')) (w : World) : Calls Tryz.prog 23 #[.agg (hc h), .int .u32 a, .int .i64 ln] w fun e w' => e = .returned (.tuple #[.agg #[.bool false, .bool sg, .int .i64 sz, .int .i64 rd, .int .i64 ln, .int .u64 (IntKind.u64.wrap (h2.x n + IntKind.u64.wrap imm)), .int .u64 0], .bool true]) ∧ Below w.heap.size w w' := by
  have e8 : ((32 : Int) ≤ (n : Int)) = False := eq_false (by omega)
  have t2 := ta_ll
  go_enter Tryz.func23, Tryz.ntmps23
  have ST := Lib.hid (Kn.nil (S := Step.Nil) (W := w))
  go_wp2_with (first
 | ((with_reducible refine Calm.region_alloc (id := 3) (fin := ?fin_1) ?hm_1 14 13 10 ?o1_1 (.cells #[.bool false, .bool false, .int .i64 0, .int .i64 0, .int .i64 0, .int .u64 0, .int .u64 0] 63 (0, 0)) [(18, .pointer (some ⟨g3, 6, none⟩)), (19, .int .i64 sz), (20, .int .i64 ln), (21, .pointer (some ⟨g3, 3, none⟩)), (22, .int .i64 (n : Nat)), (23, .pointer (some ⟨g1, 0, none⟩)), (24, .pointer (some ⟨g1, n, none⟩)), (25, .int .u64 (h2.x n)), (26, .pointer (some ⟨g3, 5, none⟩)), (27, .int .i64 imm), (28, .int .u64 (IntKind.u64.wrap imm)), (29, .int .u64 (IntKind.u64.wrap (h2.x n + IntKind.u64.wrap imm))), (30, .agg #[.bool false, .bool false, .int .i64 sz, .int .i64 0, .int .i64 ln, .int .u64 (IntKind.u64.wrap (h2.x n + IntKind.u64.wrap imm)), .int .u64 0])] ?hp_1 ?hin_1 ?hsolo_1 ?hoa_1 (by decide) ?hda_1 ?hga_1 ?hrun_1 ?hfin_1 ?hcalm_1 ?_); (case hm_1 => rfl); (case hoa_1 => rfl); (case hp_1 => kernel_rfl); (case hin_1 => kernel_rfl); (case hsolo_1 => kernel_rfl); (case hda_1 => rfl); (case hga_1 => rfl); (case hrun_1 => exact alloc_run rfl zero_acc); (case hfin_1 => (simp only [Reg.puts, Act.put, List.setIfInBounds_toArray, List.set_cons_zero, List.set_cons_succ]; try rfl)); (case hcalm_1 => (simp only [List.take, List.eraseIdx]; (repeat' (first | exact Calm.calm_nil | refine Calm.calm_cons ?_ ?_)); all_goals (first | exact calm_load ST.out.at0 rfl rfl rfl pl_int rfl rfl | exact calm_load ST.out.at2 rfl rfl rfl pl_u64 (hc_x _ hn) rfl | exact calm_slot rfl rfl (fun X => by first | (go_simp; done))))); intro g4 w1 hg hlt hb ho; replace ST := Lib.hid (ST.out.made ⟨ho⟩ hg hb); clear hg hlt hb ho; simp only [List.drop, Calm.ptr, Act.put, List.setIfInBounds_toArray, List.set_cons_zero, List.set_cons_succ])
 | ((with_reducible refine Sq.regionJ (id := 7) (J := fun j X => Kn Step.Nil w X [(g4, (match j with | 0 => #[.bool false, .bool false, .int .i64 sz, .int .i64 0, .int .i64 ln, .int .u64 (IntKind.u64.wrap (h2.x n + IntKind.u64.wrap imm)), .int .u64 0] | 1 => #[.bool false, .bool sg, .int .i64 sz, .int .i64 0, .int .i64 ln, .int .u64 (IntKind.u64.wrap (h2.x n + IntKind.u64.wrap imm)), .int .u64 0] | _ => #[.bool false, .bool sg, .int .i64 sz, .int .i64 rd, .int .i64 ln, .int .u64 (IntKind.u64.wrap (h2.x n + IntKind.u64.wrap imm)), .int .u64 0]), 63), (g3, #[.int .i64 6, .int .i64 fn, .int .i64 rd, .int .i64 n, .int .i64 m, .int .i64 imm, .int .i64 sz, .bool sg], 85), (g2, #[.bool false, .bool false, .int .i64 0, .int .i64 0, .int .i64 0, .int .u64 0, .int .u64 0], 63), (g1, hc h2, 27)]) ?hm1 8 [5, 7] [.keep 0 2, .keep 0 2, .keep 0 2, .keep 0 2, .keep 0 2, .eff 0, .keep 0 2, .eff 1] ?hi1 ?hp1 ?hf1 ?hs1); (case hm1 => rfl); (case hi1 => exact (Kn.drew (show Kn Step.Nil w _ [(g4, #[.bool false, .bool false, .int .i64 sz, .int .i64 0, .int .i64 ln, .int .u64 (IntKind.u64.wrap (h2.x n + IntKind.u64.wrap imm)), .int .u64 0], 63), (g3, #[.int .i64 6, .int .i64 fn, .int .i64 rd, .int .i64 n, .int .i64 m, .int .i64 imm, .int .i64 sz, .bool sg], 85), (g2, #[.bool false, .bool false, .int .i64 0, .int .i64 0, .int .i64 0, .int .u64 0, .int .u64 0], 63), (g1, hc h2, 27)] from ST.out))); (case hp1 => kernel_rfl); (case hf1 => kernel_rfl); intro ops K hops hK; clear hops; dsimp only [List.take]; (repeat (first | (refine Sq.seqJ_cell (t := 3) (fun j _ _ X hX => ((Kn.at1 hX).cell _).trans rfl) (Sq.wanted_none rfl) rfl rfl pl_int ?_; simp only [Act.put, Act.eval, Array.getD_eq_getD_getElem?, List.getElem?_toArray, List.getElem?_cons_zero, List.getElem?_cons_succ, Option.getD_some, List.setIfInBounds_toArray, List.set_cons_zero, List.set_cons_succ]) | (refine Sq.seqJ_cell (t := 4) (fun j _ _ X hX => ((Kn.at1 hX).cell _).trans rfl) (Sq.wanted_none rfl) rfl rfl pl_bool ?_; simp only [Act.put, Act.eval, Array.getD_eq_getD_getElem?, List.getElem?_toArray, List.getElem?_cons_zero, List.getElem?_cons_succ, Option.getD_some, List.setIfInBounds_toArray, List.set_cons_zero, List.set_cons_succ]) | (refine Sq.seqJ_store (t := 4) (cs := #[.bool false, .bool false, .int .i64 sz, .int .i64 0, .int .i64 ln, .int .u64 (IntKind.u64.wrap (h2.x n + IntKind.u64.wrap imm)), .int .u64 0]) (v := .bool sg) (fun X hX => Kn.at0 hX) rfl rfl rfl rfl rfl pl_bool rfl rfl (fun X X' hX nb m => ?_) ?_; · exact Kn.set0 hX (show Blk X' g4 #[.bool false, .bool sg, .int .i64 sz, .int .i64 0, .int .i64 ln, .int .u64 (IntKind.u64.wrap (h2.x n + IntKind.u64.wrap imm)), .int .u64 0] 63 from nb) m) | (refine Sq.seqJ_store (t := 3) (cs := #[.bool false, .bool sg, .int .i64 sz, .int .i64 0, .int .i64 ln, .int .u64 (IntKind.u64.wrap (h2.x n + IntKind.u64.wrap imm)), .int .u64 0]) (v := .int .i64 rd) (fun X hX => Kn.at0 hX) rfl rfl rfl rfl rfl pl_int rfl rfl (fun X X' hX nb m => ?_) ?_; · exact Kn.set0 hX (show Blk X' g4 #[.bool false, .bool sg, .int .i64 sz, .int .i64 rd, .int .i64 ln, .int .u64 (IntKind.u64.wrap (h2.x n + IntKind.u64.wrap imm)), .int .u64 0] 63 from nb) m) | (refine' Sq.seqJ_pure rfl (fun X => _) _; rotate_left; (first | (go_simp; rfl)); simp only [Act.put, Act.eval, Array.getD_eq_getD_getElem?, List.getElem?_toArray, List.getElem?_cons_zero, List.getElem?_cons_succ, Option.getD_some, List.setIfInBounds_toArray, List.set_cons_zero, List.set_cons_succ]))); refine Sq.seqJ_nil ?_; refine hK.out _ fun w1 hk => ?_; clear hK; replace ST := Lib.hid (show Kn Step.Nil w w1 [(g4, #[.bool false, .bool sg, .int .i64 sz, .int .i64 rd, .int .i64 ln, .int .u64 (IntKind.u64.wrap (h2.x n + IntKind.u64.wrap imm)), .int .u64 0], 63), (g3, #[.int .i64 6, .int .i64 fn, .int .i64 rd, .int .i64 n, .int .i64 m, .int .i64 imm, .int .i64 sz, .bool sg], 85), (g2, #[.bool false, .bool false, .int .i64 0, .int .i64 0, .int .i64 0, .int .u64 0, .int .u64 0], 63), (g1, hc h2, 27)] from hk); clear hk; dsimp only [List.drop])
 | (go_at_call 45; (with_reducible refine (what_load _ _ _ _ _ _ _ _).mono ?_); rintro e w' ⟨rfl, hb⟩; replace ST := Lib.hid (ST.out.call hb); clear hb)
 | (go_at_call 12; (with_reducible refine (T0.out _).mono ?_); rintro e w' ⟨rfl, hb⟩; replace ST := Lib.hid (ST.out.call hb); clear hb)
 | (go_at_call 44; (with_reducible refine (T1.out _).mono ?_); rintro e w' ⟨rfl, hb⟩; replace ST := Lib.hid (ST.out.call hb); clear hb)
 | ((with_reducible refine Step.gate_box (t := 27) rfl ?_); refine Step.fresh (cs := hc h) (T := 27) rfl ?hr ?_; (case hr => go_simp); intro g1 w1 b hg hb; replace ST := Lib.hid (ST.out.made b hg hb); clear b hb; clear hg)
 | (refine Step.freshAlloc rfl rfl (alloc_agg zero_acc) ?_; intro g2 w2 b hg hb; replace ST := Lib.hid (ST.out.made b hg hb); clear b hb; clear hg)
 | (refine Step.freshAlloc rfl rfl (alloc_agg zero_inst) ?_; intro g3 w2 b hg hb; replace ST := Lib.hid (ST.out.made b hg hb); clear b hb; clear hg)
 | (refine Step.storeAll ST.out.at1 rfl rfl rfl rfl rfl (size_hart _) rfl (hc_all _) ?_; intro w3 nb m; replace ST := Lib.hid (ST.out.set1 nb m); clear nb m)
 | (refine Step.loadAll ST.out.at1 rfl rfl rfl Tryz.underlying27 rfl (size_hart _) ?_)
 | (refine Step.storeAll ST.out.at0 rfl rfl rfl rfl rfl size_inst rfl rfl ?_; intro w3 nb m; replace ST := Lib.hid (ST.out.set0 nb m); clear nb m)
 | (refine Step.loadAll ST.out.at1 rfl rfl rfl Tryz.underlying85 rfl size_inst ?_)
 | (refine Step.storeAll ST.out.at0 rfl rfl rfl rfl rfl size_acc rfl rfl ?_; intro w3 nb m; replace ST := Lib.hid (ST.out.set0 nb m); clear nb m)
 | (refine Step.loadAll ST.out.at0 rfl rfl rfl Tryz.underlying63 rfl size_acc ?_)
 | (refine Step.storeAll ST.out.at2 rfl rfl rfl rfl rfl size_acc rfl rfl ?_; intro w3 nb m; replace ST := Lib.hid (ST.out.set2 nb m); clear nb m))
  all_goals (refine bodyPost_ret (results_row_tmp rfl _ _ _ _ _ _ rfl ST.out.at2 Tryz.underlying63 rfl size_acc) rfl ⟨rfl, ST.out.below⟩)
end Go.Proofs.YtchpnbckgofiaaaGreat.Hart
end
section
namespace Go.Proofs.YtchpnbckgofiaaaGreat.Hart
open Go Go.RowKit Go.Proofs.YtchpnbckgofiaaaGreat.Step Go.Proofs.YtchpnbckgofiaaaGreat.Enc Go.Proofs.YtchpnbckgofiaaaGreat.Kn
set_option linter.unusedVariables false
set_option linter.unusedSimpArgs false
set_option maxRecDepth 100000
theorem eqf_all {P : Program} {w : World} {d : Nat} {xs : Array Value} : ∀ (fs : List Field), (∀ f ∈ fs, ∃ v, (part f.type xs f.offset).run P w = .ok v w ∧ (Op.equalIn d f.type v v).run P w = .ok true w) → (Op.eqFields d xs xs fs).run P w = .ok true w
  | [], _ => by simp [Op.eqFields]
  | f :: fs, h => by
    obtain ⟨v, h1, h2⟩ := h f (List.mem_cons_self ..)
    have ih := eqf_all fs fun g hg => h g (List.mem_cons_of_mem _ hg)
    simp only [Op.eqFields]
    split
    · simp [Sem.run_bind, h1, h2, ih, Result.andThen_ok]
    · exact ih
theorem part_u (xs : Array Value) (i : Nat) (v : Value) (h : xs[i]? = some v) (w : World) : (part 22 xs i).run Tryz.prog w = .ok v w := by
  have hu2 := Tryz.underlying22
  go_simp
theorem part_b (xs : Array Value) (i : Nat) (v : Value) (h : xs[i]? = some v) (w : World) : (part 4 xs i).run Tryz.prog w = .ok v w := by
  have hu2 := Tryz.underlying4
  go_simp
theorem eq_u (d : Nat) (v : Int) (w : World) : (Op.equalIn (d + 1) 22 (.int .u64 v) (.int .u64 v)).run Tryz.prog w = .ok true w := by
  have hu2 := Tryz.underlying22
  unfold Op.equalIn
  simp [Sem.run_bind, run_underlying hu2, Result.andThen_ok]
theorem eq_b (d : Nat) (v : Bool) (w : World) : (Op.equalIn (d + 1) 4 (.bool v) (.bool v)).run Tryz.prog w = .ok true w := by
  have hu2 := Tryz.underlying4
  unfold Op.equalIn
  simp [Sem.run_bind, run_underlying hu2, Result.andThen_ok]
theorem gate_bin {P : Program} {ops : Array Oper} {rest : List Oper} {o : Oper} {a : Act} {W : World} {Q : Exit → Act → World → Prop} {b : BinOp} {t t2 : TypeId} {x y : Operand} (_ : o.op = .binOp b t x y t2) (h : wpList P ops Q (o :: rest) a W) : wpList P ops Q (o :: rest) a W := h
end Go.Proofs.YtchpnbckgofiaaaGreat.Hart
end
section
namespace Go.Proofs.YtchpnbckgofiaaaGreat.Hart
open Go Go.RowKit Go.Proofs.YtchpnbckgofiaaaGreat.Step Go.Proofs.YtchpnbckgofiaaaGreat.Enc Go.Proofs.YtchpnbckgofiaaaGreat.Kn
set_option linter.unusedVariables false
set_option linter.unusedSimpArgs false
set_option maxRecDepth 100000
section
variable {P : Program} {ops : Array Oper} {rest : List Oper} {o : Oper} {a : Act} {W : World} {Q : Exit → Act → World → Prop}
theorem midW {t : TypeId} {x : Operand} {g k : Nat} {cs ds : Array Value} {T : TypeId} {d : TypeDesc} (hB : Blk W g cs T) (hw : Region.wanted o (yielded ops a.tmps) = true) (ho : o.op = .load t x) (hx : a.eval x = .pointer (some ⟨g, k, none⟩)) (hr : Row cs k ds) (hu : P.underlying t = some d)
    (hd : d.isRow = true) (hi : (P.info? t).map (·.size) = some ds.size) (h : wpList P ops Q rest (a.put o.dst (.agg ds)) W) : wpList P ops Q (o :: rest) a W := by
  unfold wpList
  rw [if_pos hw]
  refine .inl ?_
  have h2 := run_loadAt_mid (P := P) W g k t ds.toList d (fun j v hv => (hB.cell (k + j)).trans (hr j v hv)) hu hd (by simpa using hi)
  have h3 : (execOp a.eval o).run P W = .ok (.value (.agg ds)) W := by simp [execOp, ho, hx, h2, Result.andThen]
  unfold Oper.wp; rw [h3]; exact h
theorem valW {v : Value} (hw : Region.wanted o (yielded ops a.tmps) = true) (hr : (execOp a.eval o).run P W = .ok (.value v) W) (h : wpList P ops Q rest (a.put o.dst v) W) : wpList P ops Q (o :: rest) a W := by
  unfold wpList
  rw [if_pos hw]
  refine .inl ?_
  unfold Oper.wp; rw [hr]; exact h
end
theorem part_i (xs : Array Value) (i : Nat) (v : Value) (h : xs[i]? = some v) (w : World) : (part 3 xs i).run Tryz.prog w = .ok v w := by
  have hu2 := Tryz.underlying3
  go_simp
theorem eq_i (d : Nat) (v : Int) (w : World) : (Op.equalIn (d + 1) 3 (.int .i64 v) (.int .i64 v)).run Tryz.prog w = .ok true w := by
  have hu2 := Tryz.underlying3
  unfold Op.equalIn
  simp [Sem.run_bind, run_underlying hu2, Result.andThen_ok]
theorem acc_same (d : Nat) (a : Acc) (w : World) : (Op.equalIn (d + 3) 63 (.agg a.cells) (.agg a.cells)).run Tryz.prog w = .ok true w := by
  have hp : Tryz.prog.stoodInHeld 63 = false := by kernel_rfl
  have hu := Tryz.underlying63
  rw [run_equalIn_struct w (d + 2) 63 _ _ (by rw [hu]; simp [Program.fieldsOf, hu]) hp]
  simp only [Program.fieldsOf, hu]
  refine eqf_all _ fun f hf => ?_
  simp only [List.mem_cons, List.not_mem_nil, or_false] at hf
  rcases hf with rfl | rfl | rfl | rfl | rfl | rfl | rfl
  all_goals first
    | exact ⟨_, part_u _ _ _ rfl w, eq_u (d + 1) _ w⟩
    | exact ⟨_, part_b _ _ _ rfl w, eq_b (d + 1) _ w⟩
    | exact ⟨_, part_i _ _ _ rfl w, eq_i (d + 1) _ w⟩
theorem eql_acc {a : Act} {o : Oper} {x y : Operand} {c : Acc} (ho : o.op = .binOp .eql 63 x y 63) (hx : a.eval x = .agg c.cells) (hy : a.eval y = .agg c.cells) (W : World) : (execOp a.eval o).run Tryz.prog W = .ok (.value (.bool true)) W := by
  have hg := run_eqGuard_agg (P := Tryz.prog) (w := W) .eql 63 x y c.cells c.cells (by kernel_rfl)
  have he : (Op.equal 63 (.agg c.cells) (.agg c.cells)).run Tryz.prog W = .ok true W := acc_same 9997 c W
  simp only [execOp, ho, hx, hy]
  simp [binOp, hg, he, Sem.run_bind, Result.andThen]
theorem set_x11 (h : Hrt) (v : Int) : (hc h).setIfInBounds 11 (.int .u64 v) = hc { h with x := xup h.x 11 v } := set_x h (by decide) v
theorem fit_aw : Fit { zh with x := xup zh.x 11 268435461 } := by
  have z : U64 0 := ⟨by decide⟩
  refine ⟨fun i hi => ?_, z, z, z, z, z, z, z, z, z, z⟩
  show U64 (xup zh.x 11 268435461 i)
  unfold xup
  split
  · exact ⟨by decide⟩
  · exact z
end Go.Proofs.YtchpnbckgofiaaaGreat.Hart
end
section
namespace Go.Proofs.YtchpnbckgofiaaaGreat.Hart
open Go Go.RowKit Go.Proofs.YtchpnbckgofiaaaGreat.Step Go.Proofs.YtchpnbckgofiaaaGreat.Enc Go.Proofs.YtchpnbckgofiaaaGreat.Kn
set_option linter.unusedVariables false
set_option linter.unusedSimpArgs false
set_option maxRecDepth 100000
theorem dec_aw : dec 369923 = some ⟨6, 0, 10, ((11 : Nat) : Int), 0, 0, 4, true⟩ := by kernel_rfl
theorem va_aw : IntKind.u64.wrap ((ord { zh with x := xup zh.x 11 268435461 }).x 11 + IntKind.u64.wrap 0) = 268435461 := by kernel_rfl
theorem plan_awK (w : World) : Calls Tryz.prog 23 #[.agg (hc { zh with x := xup zh.x 11 268435461 }), .int .u32 369923, .int .i64 4] w fun e w' => e = .returned (.tuple #[.agg (Acc.cells (⟨false, true, 4, 10, 4, 268435461, 0⟩ : Acc)), .bool true]) ∧ Below w.heap.size w w' := by
  have D := Lib.hid (Dec_3 369923 ⟨by decide, by decide⟩ (by kernel_rfl))
  rw [dec_aw] at D
  have C := plan_6 (h := { zh with x := xup zh.x 11 268435461 }) (h2 := ord { zh with x := xup zh.x 11 268435461 }) (a := 369923) (n := 11) 0 10 0 4 4 true (by decide) (Lib.hid (morder_any { zh with x := xup zh.x 11 268435461 } fit_aw)) 0 D w
  rw [va_aw] at C
  exact C
set_option maxHeartbeats 4000000 in
theorem mawakeK_any (w : World) : Calls Tryz.prog 8 #[] w fun e w' => e = .returned (.bool true) ∧ Below w.heap.size w w' := by
  have T0 : Hid (∀ w, Calls Tryz.prog 23 #[.agg (hc { zh with x := xup zh.x 11 268435461 }), .int .u32 369923, .int .i64 4] w fun e w' => e = .returned (.tuple #[.agg (Acc.cells (⟨false, true, 4, 10, 4, 268435461, 0⟩ : Acc)), .bool true]) ∧ Below w.heap.size w w') := Lib.hid plan_awK
  go_enter Tryz.func8, Tryz.ntmps8
  have ST := Lib.hid (Kn.nil (S := Step.Nil) (W := w))
  go_wp2_with (first
 | (refine Step.freshAlloc rfl rfl (alloc_agg zero_hart) ?_; intro g1 w2 b hg hb; replace ST := Lib.hid (ST.out.made b hg hb); clear b hb; clear hg)
 | (refine Step.freshAlloc rfl rfl (alloc_agg zero_acc) ?_; intro g2 w2 b hg hb; replace ST := Lib.hid (ST.out.made b hg hb); clear b hb; clear hg)
 | (refine Step.store ST.out.at0 rfl rfl rfl rfl rfl pl_u64 rfl rfl ?_; intro w3 nb m; simp only [Act.eval, Array.getD_eq_getD_getElem?, List.getElem?_toArray, List.getElem?_cons_zero, List.getElem?_cons_succ, Option.getD_some] at nb; rw [set_x11] at nb; replace ST := Lib.hid (ST.out.set0 nb m); clear nb m)
 | (refine Step.loadAll ST.out.at0 rfl rfl rfl Tryz.underlying27 rfl (size_hart _) ?_)
 | (go_at_call 23; (with_reducible refine (T0.out _).mono ?_); rintro e w' ⟨rfl, hb⟩; replace ST := Lib.hid (ST.out.call hb); clear hb)
 | (refine Step.storeAll ST.out.at0 rfl rfl rfl rfl rfl size_acc rfl rfl ?_; intro w3 nb m; replace ST := Lib.hid (ST.out.set0 nb m); clear nb m)
 | (refine midW ST.out.at0 rfl rfl rfl (Sq.row_all _) Tryz.underlying63 rfl size_acc ?_)
 | ((with_reducible refine gate_bin (t := 63) rfl ?_); refine valW rfl (eql_acc (c := (⟨false, true, 4, 10, 4, 268435461, 0⟩ : Acc)) rfl rfl rfl _) ?_))
  all_goals (go_ret; exact ⟨rfl, ST.out.below⟩)
end Go.Proofs.YtchpnbckgofiaaaGreat.Hart
end
section
namespace Go.Proofs.YtchpnbckgofiaaaGreat
open Go Go.RowKit Go.ChangeShapes Go.WideShapes Go.ChangeAt
set_option linter.unusedVariables false
theorem open_cap {H : Type} {enc : TypeId × Value → H} {P : Program} {W : World} {base : Nat} {sp : Nat → Bool} {held : Bool} {t e : TypeId} {k : IntKind} {A : Option Addr} {n c : Nat} {d : DataW H} {ps : List MemPlace}
    (ht : P.underlying t = some (.slice e)) (he : P.underlying e = some (.int k)) (hc : P.cellsOf e = 1) (h : DataW.Trod enc P W base sp held t (.slice A n c) d ps) : (A = none → n = 0 ∧ c = 0) ∧ n ≤ c := by
  obtain ⟨fuel, hf⟩ := h
  rcases open_ints ht he hc hf with ⟨hcs, _⟩ | ⟨x, l, c', zs, hcs, _, hl, hm, hz, _, hcell, hwz⟩
  · simp [Value.cells] at hcs
    obtain ⟨rfl, rfl, rfl⟩ := hcs
    exact ⟨fun _ => ⟨rfl, rfl⟩, Nat.le_refl _⟩
  · simp [Value.cells] at hcs
    obtain ⟨rfl, rfl, rfl⟩ := hcs
    exact ⟨fun h => (by cases h), hl⟩
end Go.Proofs.YtchpnbckgofiaaaGreat
end
section
namespace Go.Proofs.YtchpnbckgofiaaaGreat.Hart
open Go Go.RowKit Go.ChangeShapes Go.WideShapes Go.ChangeAt
set_option linter.unusedVariables false
set_option linter.unusedSimpArgs false
set_option maxRecDepth 100000
section
variable {H : Type} {enc : TypeId × Value → H} {W : World} {base : Nat} {sp : Nat → Bool} {held : Bool}
theorem co_u64 : Tryz.prog.cellsOf 22 = 1 := by kernel_rfl
theorem co_bool : Tryz.prog.cellsOf 4 = 1 := by kernel_rfl
theorem co_arr : Tryz.prog.cellsOf 25 = 32 := by kernel_rfl
theorem co_hart : Tryz.prog.cellsOf 27 = 49 := by kernel_rfl
theorem bd_u64 {v : Int} (h : (Lit.int .u64 v).wf = true) : U64 v := by have := bounds_u64 h; exact ⟨by omega, by omega⟩
end
end Go.Proofs.YtchpnbckgofiaaaGreat.Hart
end
section
namespace Go.Proofs.YtchpnbckgofiaaaGreat.Hart
open Go Go.RowKit Go.ChangeShapes Go.WideShapes Go.ChangeAt Go.Proofs.YtchpnbckgofiaaaGreat.Step Go.Proofs.YtchpnbckgofiaaaGreat.Enc Go.Proofs.YtchpnbckgofiaaaGreat.Kn
open Go.Proofs.YtchpnbckgofiaaaGreat.Mem (Ram Grow hasB wholeB num wr Rd fl Arg lst newB place_any)
open Go.Proofs.YtchpnbckgofiaaaGreat.Duo (Duo RdC cm memory_any size_two)
set_option linter.unusedVariables false
set_option linter.unusedSimpArgs false
set_option maxRecDepth 100000
theorem pl_pm : Step.plainT Tryz.prog 30 = true := by kernel_rfl
set_option maxHeartbeats 8000000 in
theorem fetches_any (W : World) (k : C15) (q : k.Ok W) : Calls Tryz.prog 3 #[.agg k.cells] W fun e w' => e = .returned (.bool true) ∧ Below W.heap.size W w' := by
  have TC := Lib.hid (fun X (bl : Below W.heap.size W X) => casem_any X k { b := q.b, fr := q.fr, arg := ⟨fun i hi => (q.arg.rd.below bl fun k h => h) i hi |>.imp fun ad ha => ⟨ha.1, Nat.lt_of_lt_of_le ha.2.1 bl.size, ha.2.2⟩, q.arg.nil_⟩, le := q.le, rd := (q.rd.mod (Mod.of_below bl Step.Nil) (fun _ _ h => h) fun _ h => h).wide fun k hk => Nat.lt_of_lt_of_le hk bl.size, len := q.len, root := q.root, h := q.h })
  have TF := Lib.hid (fun X g n base mem F (r : Ram X g base n mem F) => fetch_any r k.root q.root k.h q.h)
  have TG := Lib.hid (fun X g n base mem F (r : Ref.Mem X g base n mem F) => rfetch_any r k.root q.root k.h q.h)
  clear q
  obtain ⟨b, fr, A, s, c, f, A2, len, cap, f2, root, h⟩ := k
  simp only [C15.cells, fetT] at TC TF TG ⊢
  go_enter Tryz.func3, Tryz.ntmps3
  have ST := Lib.hid (Kn.nil (S := Step.Nil) (W := W))
  go_wp2_with (first
 | ((with_reducible refine Step.gate_box (t := 29) rfl ?_); refine Step.fresh (cs := cs15 b fr A s c A2 len cap root h) (T := 29) rfl ?hr ?_; (case hr => first | (go_simp; done) | (go_simp; rfl)); intro g1 w1 b hg hb; replace ST := Lib.hid (ST.out.made b hg hb); clear b hb; clear hg)
 | (refine Step.loadAll ST.out.at0 rfl rfl rfl Tryz.underlying29 rfl size_case15 ?_)
 | (go_at_call 4; (with_reducible refine (TC.out _ ST.out.below).mono ?_); rintro e w3 ⟨h1, h2, base, n, mem, F1, F2, rfl, d⟩; have ST' := Lib.hid (DK.begin ST.out d); clear ST d; have ST := ST'; clear ST')
 | (refine Step.freshAlloc rfl rfl (Duo.alloc_agg Duo.zero_two) ?_; intro g2 w2 b hg hb; replace ST := Lib.hid (ST.out.made b hg hb); clear b hb; clear hg)
 | (refine Step.storeAll ST.out.kn.at0 rfl rfl rfl rfl rfl size_two rfl rfl ?_; intro w3 nb m; replace ST := Lib.hid (ST.out.set (ST.out.kn.set0 nb m) m ⟨_, List.mem_cons_self .., rfl⟩ rfl); clear nb m)
 | (refine Step.load ST.out.kn.at0 rfl rfl rfl pl_pm rfl ?_)
 | (refine Step.load ST.out.kn.at0 rfl rfl rfl pl_pr3 rfl ?_)
 | (refine Step.load ST.out.kn.at1 rfl rfl rfl pl_u64 cs15_4 ?_)
 | (refine Step.loadMid ST.out.kn.at1 rfl rfl rfl row_cs Tryz.underlying27 rfl (size_hart _) ?_)
 | (go_at_call 5; (with_reducible refine (TF.out _ _ _ _ _ _ ST.out.one).mono ?_); rintro e w' ⟨rfl, hb⟩; replace ST := Lib.hid (ST.out.call hb); clear hb)
 | (go_at_call 6; (with_reducible refine (TG.out _ _ _ _ _ _ ST.out.two).mono ?_); rintro e w' ⟨rfl, hb⟩; replace ST := Lib.hid (ST.out.call hb); clear hb)
 | (refine midW ST.out.kn.at0 rfl rfl rfl (Sq.row_all _) Tryz.underlying33 rfl size_two ?_)
 | (go_at_call 7; (with_reducible refine (Ref.same_two ST.out.one ST.out.two).mono ?_); rintro e w' ⟨rfl, hb⟩; replace ST := Lib.hid (ST.out.call hb); clear hb)
 | (go_at_call 8; (with_reducible refine (mawakeK_any _).mono ?_); rintro e w' ⟨rfl, hb⟩; replace ST := Lib.hid (ST.out.call hb); clear hb))
  all_goals (go_ret; exact ⟨rfl, ST.out.below⟩)
section
variable {H : Type} {enc : TypeId × Value → H} {W : World} {base : Nat} {sp : Nat → Bool} {held : Bool}
theorem co_case15 : Tryz.prog.cellsOf 29 = 54 := by kernel_rfl
theorem co_cell : Tryz.prog.cellsOf 73 = 2 := by kernel_rfl
theorem co_cells : Tryz.prog.cellsOf 24 = 1 := by kernel_rfl
theorem co_bytes : Tryz.prog.cellsOf 23 = 1 := by kernel_rfl
theorem co_u8 : Tryz.prog.cellsOf 5 = 1 := by kernel_rfl
def iOf : Value → Int | .int _ q => q | _ => 0
theorem open_cells {fuel : Nat} {cs : List Value} {x : DataW H × List MemPlace} (h : DataW.trod enc Tryz.prog W base sp held fuel 24 cs = some x) :
    ∃ A len cap f, cs = [.slice A len cap] ∧ RdC W A len f (· < W.heap.size) ∧ len ≤ 9223372036854775807 := by
  rcases Go.Deep.open_slice_pairs Tryz.underlying24 Tryz.underlying73 co_cell rfl rfl co_int co_u64 h with ⟨rfl, _⟩ | ⟨a, len, cap, m, n, V0, V1, D0, D1, P0, P1, rfl, hb, hl, hm, hmm, _, hx⟩
  · exact ⟨none, 0, 0, fun _ => (0, 0), rfl, fun i hi => by omega, by omega⟩
  · have hlm : len ≤ m := by rw [hmm]; split <;> omega
    refine ⟨some a, len, cap, fun i => (iOf (V0 i), iOf (V1 i)), rfl, fun i hi => ?_, by unfold maxLen at hm; omega⟩
    obtain ⟨h0, h1, t0, t1⟩ := hx i (by omega)
    obtain ⟨n0, e0, _, w0⟩ := DataW.trod_int Tryz.underlying3 t0
    obtain ⟨n1, e1, _, w1⟩ := DataW.trod_int Tryz.underlying22 t1
    simp only [List.cons.injEq, and_true] at e0 e1
    rw [e0] at h0
    rw [e1] at h1
    have i0 : iOf (V0 i) = n0 := by rw [e0]; rfl
    have i1 : iOf (V1 i) = n1 := by rw [e1]; rfl
    refine ⟨a, rfl, ?_, ?_, ?_, ?_, ?_⟩
    all_goals dsimp only
    · have := World.block_lt_of_cell? W _ h0
      rwa [Duo.block_add] at this
    · rw [i0]; exact h0
    · rw [i1]; exact h1
    · rw [i0]; exact bd_i64 w0
    · rw [i1]; exact (bd_u64 w1).out
theorem open_bytes {fuel : Nat} {cs : List Value} {x : DataW H × List MemPlace} (h : DataW.trod enc Tryz.prog W base sp held fuel 23 cs = some x) :
    ∃ A len cap f, cs = [.slice A len cap] ∧ Arg W A len cap f (· < W.heap.size) ∧ len ≤ cap := by
  obtain ⟨A, len, cap, rfl⟩ : ∃ A len cap, cs = [.slice A len cap] := by
    rcases open_ints Tryz.underlying23 Tryz.underlying5 co_u8 h with ⟨rfl, _⟩ | ⟨y, l, c', zs, rfl, _⟩
    · exact ⟨_, _, _, rfl⟩
    · exact ⟨_, _, _, rfl⟩
  have ht : DataW.Trod enc Tryz.prog W base sp held 23 (.slice A len cap) x.1 x.2 := ⟨fuel, by simpa [Value.cells] using h⟩
  obtain ⟨f, hr, _⟩ := open_rd Tryz.underlying23 Tryz.underlying5 co_u8 ht
  have hc := open_cap Tryz.underlying23 Tryz.underlying5 co_u8 ht
  refine ⟨A, len, cap, f, rfl, ⟨fun k hk => ?_, hc.1⟩, hc.2⟩
  obtain ⟨ad, e, g, hcell, hw⟩ := hr k hk
  have := bounds_u8 hw
  exact ⟨ad, e, g, hcell, by omega, by omega⟩
set_option maxHeartbeats 8000000 in
theorem open_hartL {fuel : Nat} {l : List Value} {x : DataW H × List MemPlace} (hsz : l.length = 49) (hf : DataW.trod enc Tryz.prog W base sp held fuel 27 l = some x) : ∃ h : Hrt, l = (hc h).toList ∧ Fit h := by
  match l, hsz with
  | a0 :: a1 :: a2 :: a3 :: a4 :: a5 :: a6 :: a7 :: a8 :: a9 :: a10 :: a11 :: a12 :: a13 :: a14 :: a15 :: a16 :: a17 :: a18 :: a19 :: a20 :: a21 :: a22 :: a23 :: a24 :: a25 :: a26 :: a27 :: a28 :: a29 :: a30 :: a31 :: a32 :: a33 :: a34 :: a35 :: a36 :: a37 :: a38 :: a39 :: a40 :: a41 :: a42 :: a43 :: a44 :: a45 :: a46 :: a47 :: a48 :: [], _ =>
    obtain ⟨xs, n, _, _, _, hxl, hfl⟩ := DataW.trod_struct Tryz.underlying27 hf
    match xs, hxl with
    | [y0, y1, y2, y3, y4, y5, y6, y7, y8, y9, y10, y11, y12, y13, y14, y15, y16, y17], _ =>
      have gA : DataW.trod enc Tryz.prog W base sp held n 25 [a0, a1, a2, a3, a4, a5, a6, a7, a8, a9, a10, a11, a12, a13, a14, a15, a16, a17, a18, a19, a20, a21, a22, a23, a24, a25, a26, a27, a28, a29, a30, a31] = some y0 := by simpa [co_arr, co_u64, co_bool, Value.cells] using hfl 0 _ rfl
      obtain ⟨xs2, m, _, _, _, hx2, hal⟩ := DataW.trod_array Tryz.underlying25 gA
      match xs2, hx2 with
      | z0 :: z1 :: z2 :: z3 :: z4 :: z5 :: z6 :: z7 :: z8 :: z9 :: z10 :: z11 :: z12 :: z13 :: z14 :: z15 :: z16 :: z17 :: z18 :: z19 :: z20 :: z21 :: z22 :: z23 :: z24 :: z25 :: z26 :: z27 :: z28 :: z29 :: z30 :: z31 :: [], _ =>
        have g0 : DataW.trod enc Tryz.prog W base sp held m 22 [a0] = some z0 := by simpa [co_u64] using hal 0 (by decide)
        have g1 : DataW.trod enc Tryz.prog W base sp held m 22 [a1] = some z1 := by simpa [co_u64] using hal 1 (by decide)
        have g2 : DataW.trod enc Tryz.prog W base sp held m 22 [a2] = some z2 := by simpa [co_u64] using hal 2 (by decide)
        have g3 : DataW.trod enc Tryz.prog W base sp held m 22 [a3] = some z3 := by simpa [co_u64] using hal 3 (by decide)
        have g4 : DataW.trod enc Tryz.prog W base sp held m 22 [a4] = some z4 := by simpa [co_u64] using hal 4 (by decide)
        have g5 : DataW.trod enc Tryz.prog W base sp held m 22 [a5] = some z5 := by simpa [co_u64] using hal 5 (by decide)
        have g6 : DataW.trod enc Tryz.prog W base sp held m 22 [a6] = some z6 := by simpa [co_u64] using hal 6 (by decide)
        have g7 : DataW.trod enc Tryz.prog W base sp held m 22 [a7] = some z7 := by simpa [co_u64] using hal 7 (by decide)
        have g8 : DataW.trod enc Tryz.prog W base sp held m 22 [a8] = some z8 := by simpa [co_u64] using hal 8 (by decide)
        have g9 : DataW.trod enc Tryz.prog W base sp held m 22 [a9] = some z9 := by simpa [co_u64] using hal 9 (by decide)
        have g10 : DataW.trod enc Tryz.prog W base sp held m 22 [a10] = some z10 := by simpa [co_u64] using hal 10 (by decide)
        have g11 : DataW.trod enc Tryz.prog W base sp held m 22 [a11] = some z11 := by simpa [co_u64] using hal 11 (by decide)
        have g12 : DataW.trod enc Tryz.prog W base sp held m 22 [a12] = some z12 := by simpa [co_u64] using hal 12 (by decide)
        have g13 : DataW.trod enc Tryz.prog W base sp held m 22 [a13] = some z13 := by simpa [co_u64] using hal 13 (by decide)
        have g14 : DataW.trod enc Tryz.prog W base sp held m 22 [a14] = some z14 := by simpa [co_u64] using hal 14 (by decide)
        have g15 : DataW.trod enc Tryz.prog W base sp held m 22 [a15] = some z15 := by simpa [co_u64] using hal 15 (by decide)
        have g16 : DataW.trod enc Tryz.prog W base sp held m 22 [a16] = some z16 := by simpa [co_u64] using hal 16 (by decide)
        have g17 : DataW.trod enc Tryz.prog W base sp held m 22 [a17] = some z17 := by simpa [co_u64] using hal 17 (by decide)
        have g18 : DataW.trod enc Tryz.prog W base sp held m 22 [a18] = some z18 := by simpa [co_u64] using hal 18 (by decide)
        have g19 : DataW.trod enc Tryz.prog W base sp held m 22 [a19] = some z19 := by simpa [co_u64] using hal 19 (by decide)
        have g20 : DataW.trod enc Tryz.prog W base sp held m 22 [a20] = some z20 := by simpa [co_u64] using hal 20 (by decide)
        have g21 : DataW.trod enc Tryz.prog W base sp held m 22 [a21] = some z21 := by simpa [co_u64] using hal 21 (by decide)
        have g22 : DataW.trod enc Tryz.prog W base sp held m 22 [a22] = some z22 := by simpa [co_u64] using hal 22 (by decide)
        have g23 : DataW.trod enc Tryz.prog W base sp held m 22 [a23] = some z23 := by simpa [co_u64] using hal 23 (by decide)
        have g24 : DataW.trod enc Tryz.prog W base sp held m 22 [a24] = some z24 := by simpa [co_u64] using hal 24 (by decide)
        have g25 : DataW.trod enc Tryz.prog W base sp held m 22 [a25] = some z25 := by simpa [co_u64] using hal 25 (by decide)
        have g26 : DataW.trod enc Tryz.prog W base sp held m 22 [a26] = some z26 := by simpa [co_u64] using hal 26 (by decide)
        have g27 : DataW.trod enc Tryz.prog W base sp held m 22 [a27] = some z27 := by simpa [co_u64] using hal 27 (by decide)
        have g28 : DataW.trod enc Tryz.prog W base sp held m 22 [a28] = some z28 := by simpa [co_u64] using hal 28 (by decide)
        have g29 : DataW.trod enc Tryz.prog W base sp held m 22 [a29] = some z29 := by simpa [co_u64] using hal 29 (by decide)
        have g30 : DataW.trod enc Tryz.prog W base sp held m 22 [a30] = some z30 := by simpa [co_u64] using hal 30 (by decide)
        have g31 : DataW.trod enc Tryz.prog W base sp held m 22 [a31] = some z31 := by simpa [co_u64] using hal 31 (by decide)
        have g32 : DataW.trod enc Tryz.prog W base sp held n 22 [a32] = some y1 := by simpa [co_u64, co_bool, Value.cells] using hfl 1 _ rfl
        have g33 : DataW.trod enc Tryz.prog W base sp held n 4 [a33] = some y2 := by simpa [co_u64, co_bool, Value.cells] using hfl 2 _ rfl
        have g34 : DataW.trod enc Tryz.prog W base sp held n 4 [a34] = some y3 := by simpa [co_u64, co_bool, Value.cells] using hfl 3 _ rfl
        have g35 : DataW.trod enc Tryz.prog W base sp held n 4 [a35] = some y4 := by simpa [co_u64, co_bool, Value.cells] using hfl 4 _ rfl
        have g36 : DataW.trod enc Tryz.prog W base sp held n 4 [a36] = some y5 := by simpa [co_u64, co_bool, Value.cells] using hfl 5 _ rfl
        have g37 : DataW.trod enc Tryz.prog W base sp held n 4 [a37] = some y6 := by simpa [co_u64, co_bool, Value.cells] using hfl 6 _ rfl
        have g38 : DataW.trod enc Tryz.prog W base sp held n 4 [a38] = some y7 := by simpa [co_u64, co_bool, Value.cells] using hfl 7 _ rfl
        have g39 : DataW.trod enc Tryz.prog W base sp held n 4 [a39] = some y8 := by simpa [co_u64, co_bool, Value.cells] using hfl 8 _ rfl
        have g40 : DataW.trod enc Tryz.prog W base sp held n 22 [a40] = some y9 := by simpa [co_u64, co_bool, Value.cells] using hfl 9 _ rfl
        have g41 : DataW.trod enc Tryz.prog W base sp held n 22 [a41] = some y10 := by simpa [co_u64, co_bool, Value.cells] using hfl 10 _ rfl
        have g42 : DataW.trod enc Tryz.prog W base sp held n 22 [a42] = some y11 := by simpa [co_u64, co_bool, Value.cells] using hfl 11 _ rfl
        have g43 : DataW.trod enc Tryz.prog W base sp held n 22 [a43] = some y12 := by simpa [co_u64, co_bool, Value.cells] using hfl 12 _ rfl
        have g44 : DataW.trod enc Tryz.prog W base sp held n 22 [a44] = some y13 := by simpa [co_u64, co_bool, Value.cells] using hfl 13 _ rfl
        have g45 : DataW.trod enc Tryz.prog W base sp held n 22 [a45] = some y14 := by simpa [co_u64, co_bool, Value.cells] using hfl 14 _ rfl
        have g46 : DataW.trod enc Tryz.prog W base sp held n 22 [a46] = some y15 := by simpa [co_u64, co_bool, Value.cells] using hfl 15 _ rfl
        have g47 : DataW.trod enc Tryz.prog W base sp held n 22 [a47] = some y16 := by simpa [co_u64, co_bool, Value.cells] using hfl 16 _ rfl
        have g48 : DataW.trod enc Tryz.prog W base sp held n 22 [a48] = some y17 := by simpa [co_u64, co_bool, Value.cells] using hfl 17 _ rfl
        obtain ⟨n0, e0, _, w0⟩ := DataW.trod_int Tryz.underlying22 g0
        obtain ⟨n1, e1, _, w1⟩ := DataW.trod_int Tryz.underlying22 g1
        obtain ⟨n2, e2, _, w2⟩ := DataW.trod_int Tryz.underlying22 g2
        obtain ⟨n3, e3, _, w3⟩ := DataW.trod_int Tryz.underlying22 g3
        obtain ⟨n4, e4, _, w4⟩ := DataW.trod_int Tryz.underlying22 g4
        obtain ⟨n5, e5, _, w5⟩ := DataW.trod_int Tryz.underlying22 g5
        obtain ⟨n6, e6, _, w6⟩ := DataW.trod_int Tryz.underlying22 g6
        obtain ⟨n7, e7, _, w7⟩ := DataW.trod_int Tryz.underlying22 g7
        obtain ⟨n8, e8, _, w8⟩ := DataW.trod_int Tryz.underlying22 g8
        obtain ⟨n9, e9, _, w9⟩ := DataW.trod_int Tryz.underlying22 g9
        obtain ⟨n10, e10, _, w10⟩ := DataW.trod_int Tryz.underlying22 g10
        obtain ⟨n11, e11, _, w11⟩ := DataW.trod_int Tryz.underlying22 g11
        obtain ⟨n12, e12, _, w12⟩ := DataW.trod_int Tryz.underlying22 g12
        obtain ⟨n13, e13, _, w13⟩ := DataW.trod_int Tryz.underlying22 g13
        obtain ⟨n14, e14, _, w14⟩ := DataW.trod_int Tryz.underlying22 g14
        obtain ⟨n15, e15, _, w15⟩ := DataW.trod_int Tryz.underlying22 g15
        obtain ⟨n16, e16, _, w16⟩ := DataW.trod_int Tryz.underlying22 g16
        obtain ⟨n17, e17, _, w17⟩ := DataW.trod_int Tryz.underlying22 g17
        obtain ⟨n18, e18, _, w18⟩ := DataW.trod_int Tryz.underlying22 g18
        obtain ⟨n19, e19, _, w19⟩ := DataW.trod_int Tryz.underlying22 g19
        obtain ⟨n20, e20, _, w20⟩ := DataW.trod_int Tryz.underlying22 g20
        obtain ⟨n21, e21, _, w21⟩ := DataW.trod_int Tryz.underlying22 g21
        obtain ⟨n22, e22, _, w22⟩ := DataW.trod_int Tryz.underlying22 g22
        obtain ⟨n23, e23, _, w23⟩ := DataW.trod_int Tryz.underlying22 g23
        obtain ⟨n24, e24, _, w24⟩ := DataW.trod_int Tryz.underlying22 g24
        obtain ⟨n25, e25, _, w25⟩ := DataW.trod_int Tryz.underlying22 g25
        obtain ⟨n26, e26, _, w26⟩ := DataW.trod_int Tryz.underlying22 g26
        obtain ⟨n27, e27, _, w27⟩ := DataW.trod_int Tryz.underlying22 g27
        obtain ⟨n28, e28, _, w28⟩ := DataW.trod_int Tryz.underlying22 g28
        obtain ⟨n29, e29, _, w29⟩ := DataW.trod_int Tryz.underlying22 g29
        obtain ⟨n30, e30, _, w30⟩ := DataW.trod_int Tryz.underlying22 g30
        obtain ⟨n31, e31, _, w31⟩ := DataW.trod_int Tryz.underlying22 g31
        obtain ⟨n32, e32, _, w32⟩ := DataW.trod_int Tryz.underlying22 g32
        obtain ⟨n33, e33, _⟩ := DataW.trod_bool Tryz.underlying4 g33
        obtain ⟨n34, e34, _⟩ := DataW.trod_bool Tryz.underlying4 g34
        obtain ⟨n35, e35, _⟩ := DataW.trod_bool Tryz.underlying4 g35
        obtain ⟨n36, e36, _⟩ := DataW.trod_bool Tryz.underlying4 g36
        obtain ⟨n37, e37, _⟩ := DataW.trod_bool Tryz.underlying4 g37
        obtain ⟨n38, e38, _⟩ := DataW.trod_bool Tryz.underlying4 g38
        obtain ⟨n39, e39, _⟩ := DataW.trod_bool Tryz.underlying4 g39
        obtain ⟨n40, e40, _, w40⟩ := DataW.trod_int Tryz.underlying22 g40
        obtain ⟨n41, e41, _, w41⟩ := DataW.trod_int Tryz.underlying22 g41
        obtain ⟨n42, e42, _, w42⟩ := DataW.trod_int Tryz.underlying22 g42
        obtain ⟨n43, e43, _, w43⟩ := DataW.trod_int Tryz.underlying22 g43
        obtain ⟨n44, e44, _, w44⟩ := DataW.trod_int Tryz.underlying22 g44
        obtain ⟨n45, e45, _, w45⟩ := DataW.trod_int Tryz.underlying22 g45
        obtain ⟨n46, e46, _, w46⟩ := DataW.trod_int Tryz.underlying22 g46
        obtain ⟨n47, e47, _, w47⟩ := DataW.trod_int Tryz.underlying22 g47
        obtain ⟨n48, e48, _, w48⟩ := DataW.trod_int Tryz.underlying22 g48
        simp only [List.cons.injEq, and_true] at e0 e1 e2 e3 e4 e5 e6 e7 e8 e9 e10 e11 e12 e13 e14 e15 e16 e17 e18 e19 e20 e21 e22 e23 e24 e25 e26 e27 e28 e29 e30 e31 e32 e33 e34 e35 e36 e37 e38 e39 e40 e41 e42 e43 e44 e45 e46 e47 e48
        subst e0 e1 e2 e3 e4 e5 e6 e7 e8 e9 e10 e11 e12 e13 e14 e15 e16 e17 e18 e19 e20 e21 e22 e23 e24 e25 e26 e27 e28 e29 e30 e31 e32 e33 e34 e35 e36 e37 e38 e39 e40 e41 e42 e43 e44 e45 e46 e47 e48
        refine ⟨{ x := fun k => match k with | 0 => n0 | 1 => n1 | 2 => n2 | 3 => n3 | 4 => n4 | 5 => n5 | 6 => n6 | 7 => n7 | 8 => n8 | 9 => n9 | 10 => n10 | 11 => n11 | 12 => n12 | 13 => n13 | 14 => n14 | 15 => n15 | 16 => n16 | 17 => n17 | 18 => n18 | 19 => n19 | 20 => n20 | 21 => n21 | 22 => n22 | 23 => n23 | 24 => n24 | 25 => n25 | 26 => n26 | 27 => n27 | 28 => n28 | 29 => n29 | 30 => n30 | 31 => n31 | _ => 0, pc := n32, user := n33, on := n34, spie := n35, spp := n36, sum := n37, mxr := n38, rsv := n39, stvec := n40, sscr := n41, sepc := n42, scause := n43, stval := n44, sie := n45, sip := n46, satp := n47, resv := n48 }, rfl, fun i hi => ?_, bd_u64 w32, bd_u64 w40, bd_u64 w41, bd_u64 w42, bd_u64 w43, bd_u64 w44, bd_u64 w45, bd_u64 w46, bd_u64 w47, bd_u64 w48⟩
        obtain h1 | h1 | h1 | h1 | h1 | h1 | h1 | h1 | h1 | h1 | h1 | h1 | h1 | h1 | h1 | h1 | h1 | h1 | h1 | h1 | h1 | h1 | h1 | h1 | h1 | h1 | h1 | h1 | h1 | h1 | h1 | h1 : i = 0 ∨ i = 1 ∨ i = 2 ∨ i = 3 ∨ i = 4 ∨ i = 5 ∨ i = 6 ∨ i = 7 ∨ i = 8 ∨ i = 9 ∨ i = 10 ∨ i = 11 ∨ i = 12 ∨ i = 13 ∨ i = 14 ∨ i = 15 ∨ i = 16 ∨ i = 17 ∨ i = 18 ∨ i = 19 ∨ i = 20 ∨ i = 21 ∨ i = 22 ∨ i = 23 ∨ i = 24 ∨ i = 25 ∨ i = 26 ∨ i = 27 ∨ i = 28 ∨ i = 29 ∨ i = 30 ∨ i = 31 := by omega
        · subst h1; exact bd_u64 w0
        · subst h1; exact bd_u64 w1
        · subst h1; exact bd_u64 w2
        · subst h1; exact bd_u64 w3
        · subst h1; exact bd_u64 w4
        · subst h1; exact bd_u64 w5
        · subst h1; exact bd_u64 w6
        · subst h1; exact bd_u64 w7
        · subst h1; exact bd_u64 w8
        · subst h1; exact bd_u64 w9
        · subst h1; exact bd_u64 w10
        · subst h1; exact bd_u64 w11
        · subst h1; exact bd_u64 w12
        · subst h1; exact bd_u64 w13
        · subst h1; exact bd_u64 w14
        · subst h1; exact bd_u64 w15
        · subst h1; exact bd_u64 w16
        · subst h1; exact bd_u64 w17
        · subst h1; exact bd_u64 w18
        · subst h1; exact bd_u64 w19
        · subst h1; exact bd_u64 w20
        · subst h1; exact bd_u64 w21
        · subst h1; exact bd_u64 w22
        · subst h1; exact bd_u64 w23
        · subst h1; exact bd_u64 w24
        · subst h1; exact bd_u64 w25
        · subst h1; exact bd_u64 w26
        · subst h1; exact bd_u64 w27
        · subst h1; exact bd_u64 w28
        · subst h1; exact bd_u64 w29
        · subst h1; exact bd_u64 w30
        · subst h1; exact bd_u64 w31
theorem open_mcase {r : Reach} {b0 : Nat} {v : Value} {d : DataW H} {ps : List MemPlace} (hval : Value.okWide Tryz.prog W r b0 29 v) (h : DataW.Trod enc Tryz.prog W base sp held 29 v d ps) :
    ∃ k : C15, v = .agg k.cells ∧ k.Ok W := by
  simp only [Value.okWide, Tryz.underlying29] at hval
  obtain ⟨cs, rfl, hsz, _⟩ := hval
  rw [co_case15] at hsz
  obtain ⟨l⟩ := cs
  obtain ⟨fuel, hf⟩ := h
  match l, hsz with
  | a0 :: a1 :: a2 :: a3 :: a4 :: rest, hz =>
    have hr : rest.length = 49 := by simpa using hz
    obtain ⟨xs, n, _, _, _, hxl, hfl⟩ := DataW.trod_struct Tryz.underlying29 hf
    match xs, hxl with
    | [y0, y1, y2, y3, y4, y5], _ =>
      have g0 : DataW.trod enc Tryz.prog W base sp held n 22 [a0] = some y0 := by simpa [co_u64, Value.cells] using hfl 0 _ rfl
      have g1 : DataW.trod enc Tryz.prog W base sp held n 3 [a1] = some y1 := by simpa [co_int, Value.cells] using hfl 1 _ rfl
      have g2 : DataW.trod enc Tryz.prog W base sp held n 23 [a2] = some y2 := by simpa [co_bytes, Value.cells] using hfl 2 _ rfl
      have g3 : DataW.trod enc Tryz.prog W base sp held n 24 [a3] = some y3 := by simpa [co_cells, Value.cells] using hfl 3 _ rfl
      have g4 : DataW.trod enc Tryz.prog W base sp held n 22 [a4] = some y4 := by simpa [co_u64, Value.cells] using hfl 4 _ rfl
      have g5 : DataW.trod enc Tryz.prog W base sp held n 27 rest = some y5 := by simpa [co_hart, Value.cells, ← hr] using hfl 5 _ rfl
      obtain ⟨n0, e0, _, w0⟩ := DataW.trod_int Tryz.underlying22 g0
      obtain ⟨n1, e1, _, w1⟩ := DataW.trod_int Tryz.underlying3 g1
      obtain ⟨A, s, c, f, e2, hA, hsc⟩ := open_bytes g2
      obtain ⟨A2, len, cap, f2, e3, hr2, hl⟩ := open_cells g3
      obtain ⟨n4, e4, _, w4⟩ := DataW.trod_int Tryz.underlying22 g4
      obtain ⟨h, rfl, hfit⟩ := open_hartL hr g5
      simp only [List.cons.injEq, and_true] at e0 e1 e2 e3 e4
      subst e0 e1 e2 e3 e4
      exact ⟨⟨n0, n1, A, s, c, f, A2, len, cap, f2, n4, h⟩, rfl, bd_u64 w0, bd_i64 w1, hA, hsc, hr2, hl, bd_u64 w4, hfit⟩
end
theorem fetches_row (k : C15) (W : World) (q : k.Ok W) : Calls Tryz.prog 3 #[.agg k.cells] W fun e w' => e = .returned (.bool true) ∧ Below W.heap.size W w' := fetches_any W k q
end Go.Proofs.YtchpnbckgofiaaaGreat.Hart
end
