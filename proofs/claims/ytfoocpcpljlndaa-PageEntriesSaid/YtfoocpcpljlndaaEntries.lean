/- The walk of PageEntries (written by genentries.py). -/
import Derived.Test.YtfoocpcpljlndaaAwakeB
import Derived.Test.YtfoocpcpljlndaaEntriesP
import Derived.Laws.AppendOwn
import Derived.Laws.OwnMore
import Derived.Deep.RegionHeld3
namespace Go.Proofs.Ytfoocpcpljlndaa.Duo
open Go Go.RowKit Go.Proofs.Ytfoocpcpljlndaa.Step Go.Proofs.Ytfoocpcpljlndaa.Mem Go.Proofs.Ytfoocpcpljlndaa.Tab
set_option linter.unusedVariables false
set_option linter.unusedSimpArgs false
set_option maxRecDepth 100000

/-- Cells as a list. -/
def lstc (n : Nat) (f : Nat → Int × Int) : List Value := (List.range n).flatMap fun k => [.int .i64 (f k).1, .int .u64 (f k).2]
theorem lstc_succ (n : Nat) (f : Nat → Int × Int) : lstc n f ++ [.int .i64 (f n).1, .int .u64 (f n).2] = lstc (n + 1) f := by simp [lstc, List.range_succ]
theorem lstc_len (n : Nat) (f : Nat → Int × Int) : (lstc n f).length = n * 2 := by
  induction n with
  | zero => rfl
  | succ n ih => rw [← lstc_succ, List.length_append, ih]; simp; omega
theorem lstc_at (f : Nat → Int × Int) : ∀ n k, k < n → (lstc n f)[k * 2]? = some (.int .i64 (f k).1) ∧ (lstc n f)[k * 2 + 1]? = some (.int .u64 (f k).2)
  | 0, _, h => by omega
  | n + 1, k, h => by
    rw [← lstc_succ]
    have hl := lstc_len n f
    by_cases e : k = n
    · subst e
      rw [List.getElem?_append_right (by omega), List.getElem?_append_right (by omega), hl]
      exact ⟨by rw [show k * 2 - k * 2 = 0 by omega]; rfl, by rw [show k * 2 + 1 - k * 2 = 1 by omega]; rfl⟩
    · have ih := lstc_at f n k (by omega)
      rw [List.getElem?_append_left (by omega), List.getElem?_append_left (by omega)]
      exact ih
theorem own_below {w w' : World} {base n : Nat} {T : TypeId} {v : Value} {xs : List Value} (h : w.ownsRow base T 2 v n xs) (b : Below w.heap.size w w') : w'.ownsRow base T 2 v n xs := by
  obtain ⟨h1, h2 | ⟨g, cap, cur, hv, hb, ho, hr⟩⟩ := h
  · exact ⟨h1, .inl h2⟩
  · exact ⟨h1, .inr ⟨g, cap, cur, hv, hb, (b.block g (Array.getElem?_eq_some_iff.1 ho).1).trans ho, hr⟩⟩
theorem own_rdc {w : World} {base n : Nat} {T : TypeId} {v : Value} {f : Nat → Int × Int} (h : w.ownsRow base T 2 v n (lstc n f)) (hf : ∀ i, i < n → (-9223372036854775808 ≤ (f i).1 ∧ (f i).1 < 9223372036854775808) ∧ (0 ≤ (f i).2 ∧ (f i).2 < 18446744073709551616)) :
    ∃ A cap, v = .slice A n cap ∧ RdC w A n f (· < w.heap.size) := by
  obtain ⟨_, ⟨rfl, rfl⟩ | ⟨g, cap, cur, rfl, hb, ho, hn, hc, hs, ht⟩⟩ := h
  · exact ⟨none, 0, rfl, fun i hi => by omega⟩
  · refine ⟨some ⟨g, 0, none⟩, cap, rfl, rd_cells (c := cap) (⟨ho⟩ : Blk w g cur T) fun i hi => ?_⟩
    obtain ⟨h0, h1⟩ := lstc_at f n i hi
    rw [← ht, List.getElem?_take, if_pos (by omega)] at h0 h1
    exact ⟨by simpa using h0, by simpa using h1, hf i hi⟩
theorem info_cell0 : (Try.prog.info? 41).map (fun i => (i.size, i.bytes, i.zero)) = some (2, 16, some (.agg #[.int .i64 0, .int .u64 0])) := by kernel_rfl
theorem info_cell : ∃ i, Try.prog.info? 41 = some i ∧ i.size = 2 ∧ i.bytes = 16 ∧ i.zero = some (.agg #[.int .i64 0, .int .u64 0]) := by
  have h := info_cell0
  cases hi : Try.prog.info? 41 with
  | none => rw [hi] at h; cases h
  | some i =>
    rw [hi] at h
    simp only [Option.map_some, Option.some.injEq, Prod.mk.injEq] at h
    exact ⟨i, rfl, h⟩
theorem size_env5 : (Try.prog.info? 25).map (·.size) = some 5 := by kernel_rfl
theorem zero_env : (Try.prog.info? 25).bind (·.zero) = some (.agg #[.int .u64 0, .int .u64 0, .bool false, .bool false, .bool false]) := by kernel_rfl
theorem pl_u64' : Step.plainT Try.prog 23 = true := by kernel_rfl
theorem lf_ok {f : Nat → Int × Int} {len : Nat} (h : ∀ i, i < len → U64 (f i).2) : ∀ i, i < len → (-9223372036854775808 ≤ (lf f i).1 ∧ (lf f i).1 < 9223372036854775808) ∧ (0 ≤ (lf f i).2 ∧ (lf f i).2 < 18446744073709551616) := fun i hi => by
  have h1 : 0 ≤ (f i).1 % 3072 ∧ (f i).1 % 3072 < 3072 := by omega
  refine ⟨?_, lowV_u (h i hi)⟩
  show -9223372036854775808 ≤ (f i).1 % 3072 ∧ (f i).1 % 3072 < 9223372036854775808
  omega
theorem translate_is {W : World} {h n : Nat} {base : Int} {mem : Nat → Int} {F : Nat → Prop} (r : Ram W h base n mem F) (satp root va a : Int) (user sum mxr : Bool) (hs : U64 satp) (hr : U64 root) (hv : U64 va) {p : Tab.Place} (e : translate base n mem satp root user sum mxr va a = p) :
    Calls Try.prog 18 #[.pointer (some ⟨h, 0, none⟩), .agg #[.int .u64 satp, .int .u64 root, .bool user, .bool sum, .bool mxr], .int .u64 va, .int .i64 a] W fun e W' => e = .returned (.agg #[.int .u64 p.pa, .int .u64 p.gpa, .int .i64 p.fault, .bool p.walk]) ∧ Below W.heap.size W W' :=
  e ▸ translate_any r satp root va a user sum mxr hs hr hv

set_option maxHeartbeats 32000000 in
theorem entries_any (A : Option Addr) (len cap : Nat) (f : Nat → Int × Int) (satp root : Int) (user sum mxr : Bool) (va a : Int) (B : Option Addr) (len2 cap2 : Nat) (f2 : Nat → Int × Int) (W : World) (r : RdC W A len f (· < W.heap.size)) (hl : len ≤ 9223372036854775807) (hs : U64 satp) (hr : U64 root) (lb : len * 16 ≤ reachBytes) (w1 : (Lit.int .u64 va).wf = true) (w2 : (Lit.int .i64 a).wf = true) (rm : RdC W B len2 f2 (· < W.heap.size)) (hl2 : len2 ≤ 9223372036854775807) :
    Calls Try.prog 8 #[.agg (caseV A len cap satp root user sum mxr), .int .u64 va, .int .i64 a, .slice B len2 cap2] W fun e w' => e = .returned (.bool true) ∧ Below W.heap.size W w' := by
  obtain ⟨i, hi, his, hib, hiz⟩ := info_cell
  have HI := Lib.hid hi
  have HIS := Lib.hid his
  have HIB := Lib.hid hib
  have HIZ := Lib.hid hiz
  have R := Lib.hid r
  have RM := Lib.hid rm
  have HL := Lib.hid hl
  have HL2 := Lib.hid hl2
  have HLB := Lib.hid (show len * 16 ≤ 140737488351232 from lb)
  have HV := Lib.hid (u64_wf w1)
  have FU := Lib.hid (show ∀ i, i < len → U64 (f i).2 from fun i hi => by obtain ⟨_, _, _, _, _, _, h⟩ := r i hi; exact h)
  have CL := Lib.hid (cm_low f len FU.out)
  have HS := Lib.hid hs
  have HR := Lib.hid hr
  have AW := Lib.hid awake_any
  have hu := Try.underlying31
  have hu1 := Try.underlying41
  have hu2 := Try.underlying27
  have hu3 := Try.underlying25
  have hu4 := Try.underlying47
  clear hi his hib hiz r rm hl hl2 lb w1 w2 hs hr
  unfold caseV
  go_enter Try.func8, Try.ntmps8
  go_wp2_with (first
    | ((with_reducible refine Step.gate_box (t := 27) rfl ?_); refine Step.fresh (cs := #[.slice A len cap, .int .u64 satp, .int .u64 root, .bool user, .bool sum, .bool mxr]) (T := 27) rfl ?hr ?_; (case hr => first | (go_simp; done) | (go_simp; rfl)); intro g1 w1 b hg hb; have B1 := Lib.hid b; have HB1 := Lib.hid hb; clear b hg hb))
  go_loopw [9, 10, 11, 12] (fun low i _ _ w => ∃ k : Nat, k ≤ len ∧ i = .int .i64 k ∧ w.ownsRow w1.heap.size 41 2 low k (lstc k (lf f)) ∧ Below w1.heap.size w1 w) (fun _ i _ _ _ => (len - intOf i).toNat)
  case atStart => exact ⟨0, Nat.zero_le _, rfl, World.ownsRow_nil _ _ _ _, Below.refl _ _⟩
  case round =>
    obtain ⟨k, hk, rfl, own, bel⟩ := hrel
    have OW1 := Lib.hid own
    have BL1 := Lib.hid bel
    have HWR := Lib.hid (show Below W.heap.size W wr from HB1.out.trans (bel.mono HB1.out.size))
    have B1k := Lib.hid (B1.out.below bel)
    have cA := B1k.out.cell 0
    simp only [List.getElem?_toArray, List.getElem?_cons_zero] at cA
    clear own bel
    by_cases hlt : k < len
    · obtain ⟨ad, rfl, hab, hc0, hc1, hv0, hv1⟩ := (R.out.mod (Mod.of_below HWR.out Nil) (fun k hk h => h) (fun k hk => hk)) k hlt
      have LK := Lib.hid (show lf f k = ((f k).1 % 3072, lowV (f k).2) from rfl)
      have TP := Lib.hid (fun w => place_any (f k).1 3072 (by decide) hv0 (by decide) w)
      rw [← addr_snd] at hc1
      have hn : bits .and .u64 ((f k).2 / 1024) 17592186044415 = pn (f k).2 := and_mask 44 ⟨by omega, by omega⟩ (by decide)
      have cp : (bits .and .u64 (f k).2 10 == 0) = ptr (f k).2 := c_p hv1
      have an := andNot_pn hv1
      have hlen := HL.out
      have hlb := HLB.out
      have HBASE0 := Lib.hid BL1.out.size
      generalize (f k).1 = v0 at hc0 TP LK
      generalize (f k).2 = v1 at hc1 hn cp an LK
      clear hv0 hv1
      by_cases hpt : ptr v1 = true
      · rw [hpt] at cp
        by_cases h5 : 5 < pn v1
        · have d5 : decide (5 < pn v1) = true := decide_eq_true h5
          have LV := Lib.hid (show lowV v1 = v1 - pn v1 * 1024 from if_pos ⟨hpt, h5⟩)
          clear h5
          go_wp2_with (first
            | (go_at_call 14; refine (TP.out _).mono ?_; rintro e w3 ⟨rfl, rfl⟩)
            | ((with_reducible refine Step.gate_build (t := 22) rfl ?_); refine Step.freshSlice (cs := #[.int .i64 (v0 % 3072), .int .u64 (v1 - pn v1 * 1024)]) (T := 41) (n := 1) (m := 1) rfl ?hr ?_; (case hr => first | (go_simp; done) | (go_simp; rfl)); intro gb wb b hgb hbb; have NB := Lib.hid b; have OW2 := Lib.hid (own_below OW1.out hbb); have BLb := Lib.hid (BL1.out.trans (hbb.mono BL1.out.size)); clear b hgb hbb)
            | (at_builtin; refine wpList_append_own _ rfl _ _ 22 rfl w1.heap.size 41 i _ 2 16 Try.underlying22 HI.out HIZ.out HIS.out HIB.out rfl (by omega) _ k (lstc k (lf f)) rfl OW2.out ⟨gb, 0, none⟩ 1 1 [.int .i64 (v0 % 3072), .int .u64 (v1 - pn v1 * 1024)] rfl rfl ?h2 (by intro u hu; simp at hu; rcases hu with rfl | rfl <;> rfl) ?h3 ?h4 BLb.out.size ?_; rotate_right; intro v' w' own' grow' hv; have OW3 := Lib.hid own'; have GR := Lib.hid grow'; clear own' grow' hv))
          case h2 =>
            intro j u hu
            have hj : j < 2 := by have := (List.getElem?_eq_some_iff.1 hu).1; simp at this; omega
            have hadd : (⟨gb, 0, none⟩ : Addr).add j = ⟨gb, j, none⟩ := by unfold Addr.add; split <;> simp_all
            rw [hadd, NB.out.cell j]
            obtain e | e : j = 0 ∨ j = 1 := by omega
            · subst e; exact hu
            · subst e; exact hu
          case h3 => unfold maxLen; omega
          case h4 => omega
          refine ⟨⟨k + 1, by omega, by go_num, ?_, BLb.out.grown GR.out BLb.out.size fun g hg => (OW2.out.lt g hg).1⟩, by simp [intOf]; omega⟩
          have h := OW3.out
          rw [show [Value.int .i64 (v0 % 3072), .int .u64 (v1 - pn v1 * 1024)] = [.int .i64 (lf f k).1, .int .u64 (lf f k).2] by rw [LK.out, LV.out], lstc_succ] at h
          exact h
        · have d5 : decide (5 < pn v1) = false := decide_eq_false h5
          have LV := Lib.hid (show lowV v1 = v1 from if_neg (fun h => h5 h.2))
          clear h5
          go_wp2_with (first
            | (go_at_call 14; refine (TP.out _).mono ?_; rintro e w3 ⟨rfl, rfl⟩)
            | ((with_reducible refine Step.gate_build (t := 22) rfl ?_); refine Step.freshSlice (cs := #[.int .i64 (v0 % 3072), .int .u64 (v1)]) (T := 41) (n := 1) (m := 1) rfl ?hr ?_; (case hr => first | (go_simp; done) | (go_simp; rfl)); intro gb wb b hgb hbb; have NB := Lib.hid b; have OW2 := Lib.hid (own_below OW1.out hbb); have BLb := Lib.hid (BL1.out.trans (hbb.mono BL1.out.size)); clear b hgb hbb)
            | (at_builtin; refine wpList_append_own _ rfl _ _ 22 rfl w1.heap.size 41 i _ 2 16 Try.underlying22 HI.out HIZ.out HIS.out HIB.out rfl (by omega) _ k (lstc k (lf f)) rfl OW2.out ⟨gb, 0, none⟩ 1 1 [.int .i64 (v0 % 3072), .int .u64 (v1)] rfl rfl ?h2 (by intro u hu; simp at hu; rcases hu with rfl | rfl <;> rfl) ?h3 ?h4 BLb.out.size ?_; rotate_right; intro v' w' own' grow' hv; have OW3 := Lib.hid own'; have GR := Lib.hid grow'; clear own' grow' hv))
          case h2 =>
            intro j u hu
            have hj : j < 2 := by have := (List.getElem?_eq_some_iff.1 hu).1; simp at this; omega
            have hadd : (⟨gb, 0, none⟩ : Addr).add j = ⟨gb, j, none⟩ := by unfold Addr.add; split <;> simp_all
            rw [hadd, NB.out.cell j]
            obtain e | e : j = 0 ∨ j = 1 := by omega
            · subst e; exact hu
            · subst e; exact hu
          case h3 => unfold maxLen; omega
          case h4 => omega
          refine ⟨⟨k + 1, by omega, by go_num, ?_, BLb.out.grown GR.out BLb.out.size fun g hg => (OW2.out.lt g hg).1⟩, by simp [intOf]; omega⟩
          have h := OW3.out
          rw [show [Value.int .i64 (v0 % 3072), .int .u64 (v1)] = [.int .i64 (lf f k).1, .int .u64 (lf f k).2] by rw [LK.out, LV.out], lstc_succ] at h
          exact h
      · have hpt' : ptr v1 = false := by simpa using hpt
        rw [hpt'] at cp
        have LV := Lib.hid (show lowV v1 = v1 from if_neg (fun h => hpt h.1))
        clear hpt hpt'
        go_wp2_with (first
          | (go_at_call 14; refine (TP.out _).mono ?_; rintro e w3 ⟨rfl, rfl⟩)
          | ((with_reducible refine Step.gate_build (t := 22) rfl ?_); refine Step.freshSlice (cs := #[.int .i64 (v0 % 3072), .int .u64 (v1)]) (T := 41) (n := 1) (m := 1) rfl ?hr ?_; (case hr => first | (go_simp; done) | (go_simp; rfl)); intro gb wb b hgb hbb; have NB := Lib.hid b; have OW2 := Lib.hid (own_below OW1.out hbb); have BLb := Lib.hid (BL1.out.trans (hbb.mono BL1.out.size)); clear b hgb hbb)
          | (at_builtin; refine wpList_append_own _ rfl _ _ 22 rfl w1.heap.size 41 i _ 2 16 Try.underlying22 HI.out HIZ.out HIS.out HIB.out rfl (by omega) _ k (lstc k (lf f)) rfl OW2.out ⟨gb, 0, none⟩ 1 1 [.int .i64 (v0 % 3072), .int .u64 (v1)] rfl rfl ?h2 (by intro u hu; simp at hu; rcases hu with rfl | rfl <;> rfl) ?h3 ?h4 BLb.out.size ?_; rotate_right; intro v' w' own' grow' hv; have OW3 := Lib.hid own'; have GR := Lib.hid grow'; clear own' grow' hv))
        case h2 =>
          intro j u hu
          have hj : j < 2 := by have := (List.getElem?_eq_some_iff.1 hu).1; simp at this; omega
          have hadd : (⟨gb, 0, none⟩ : Addr).add j = ⟨gb, j, none⟩ := by unfold Addr.add; split <;> simp_all
          rw [hadd, NB.out.cell j]
          obtain e | e : j = 0 ∨ j = 1 := by omega
          · subst e; exact hu
          · subst e; exact hu
        case h3 => unfold maxLen; omega
        case h4 => omega
        refine ⟨⟨k + 1, by omega, by go_num, ?_, BLb.out.grown GR.out BLb.out.size fun g hg => (OW2.out.lt g hg).1⟩, by simp [intOf]; omega⟩
        have h := OW3.out
        rw [show [Value.int .i64 (v0 % 3072), .int .u64 (v1)] = [.int .i64 (lf f k).1, .int .u64 (lf f k).2] by rw [LK.out, LV.out], lstc_succ] at h
        exact h
    · have hkl : len = k := by omega
      subst hkl
      obtain ⟨A', cap', rfl, rl⟩ := own_rdc OW1.out (lf_ok FU.out)
      have RL := Lib.hid rl
      have k1 := B1k.out.cell 1
      have k2 := B1k.out.cell 2
      have k3 := B1k.out.cell 3
      have k4 := B1k.out.cell 4
      have k5 := B1k.out.cell 5
      simp only [List.getElem?_toArray, List.getElem?_cons_zero, List.getElem?_cons_succ] at k1 k2 k3 k4 k5
      obtain ⟨r6, er⟩ : ∃ r6, root % 6 = r6 := ⟨_, rfl⟩
      have er' : root.tmod 6 = r6 := by rw [Int.tmod_eq_emod_of_nonneg HR.out.1]; exact er
      have hr6 : 0 ≤ r6 ∧ r6 < 6 := by omega
      have HR6 := Lib.hid hr6
      have HR6u := Lib.hid (show U64 r6 from ⟨hr6.1, by omega⟩)
      obtain ⟨s6, es⟩ : ∃ s6, satp % 6 = s6 := ⟨_, rfl⟩
      have es' : satp.tmod 6 = s6 := by rw [Int.tmod_eq_emod_of_nonneg HS.out.1]; exact es
      have an := andNot_low HS.out
      obtain ⟨s1, es1⟩ : ∃ s1, satp - satp % 17592186044416 + s6 = s1 := ⟨_, rfl⟩
      have so0 := HS.out.1
      have so9 := HS.out.2
      have oo : bits .or .u64 (satp - satp % 17592186044416) s6 = s1 := by
        rw [← es1]
        exact or_add 44 ⟨by omega, by omega⟩ (by show (satp - satp % 17592186044416) % 17592186044416 = 0; omega) (by show 0 ≤ s6 ∧ s6 < 17592186044416; omega) (by omega)
      have HS1 := Lib.hid (show U64 s1 ∧ s1 % 17592186044416 < 6 from ⟨⟨by omega, by omega⟩, by omega⟩)
      have HE := Lib.hid er
      clear rl er es es1 hr6 so0 so9 OW1
      by_cases hz : r6 = 0
      · have dz : (r6 != 0) = false := by simpa using hz
        have HSO := Lib.hid (show U64 s1 ∧ s1 % 17592186044416 < 6 ∧ (r6 ≠ 0 → s1 < 1152921504606846976) from ⟨HS1.out.1, HS1.out.2, fun h => absurd hz h⟩)
        clear hz
        go_wp2_with (first
          | ((with_reducible refine Step.gate_alloc (t := 25) rfl ?_); refine Step.freshAlloc rfl rfl (alloc_agg zero_env) ?_; intro g13 v1 b hg hb; have E13 := Lib.hid b; have BX1 := Lib.hid hb; have HG13 := Lib.hid hg; clear b hg hb)
          | ((with_reducible refine Step.gate_store (t := 25) rfl ?_); refine Step.storeAll (vs := #[.int .u64 satp, .int .u64 root, .bool user, .bool sum, .bool mxr]) E13.out rfl rfl rfl rfl rfl size_env5 rfl rfl ?_; intro v2 nb m; have E13a := Lib.hid nb; have BXa := Lib.hid (below_mod BX1.out BX1.out.size m (fun k hk e => by obtain rfl : k = g13 := e; exact HG13.out)); have r1 := nb.cell 1; simp only [List.getElem?_toArray, List.getElem?_cons_zero, List.getElem?_cons_succ] at r1; clear nb m k1 k2 k3 k4 k5)
          | ((with_reducible refine Step.gate_store (t := 23) rfl ?_); (first
            | (have this := Lib.hid E13b; refine Step.store E13b.out rfl rfl rfl rfl rfl pl_u64' rfl rfl ?_; intro v4 nb m; have E13c := Lib.hid (show Blk v4 g13 #[.int .u64 s1, .int .u64 r6, .bool user, .bool sum, .bool mxr] 25 from nb); have BXc := Lib.hid (below_mod BXb.out BXb.out.size m (fun k hk e => by obtain rfl : k = g13 := e; exact HG13.out)); have u0 := E13c.out.cell 0; have u1 := E13c.out.cell 1; simp only [List.getElem?_toArray, List.getElem?_cons_zero, List.getElem?_cons_succ] at u0 u1; clear nb m this t0)
            | (refine Step.store E13a.out rfl rfl rfl rfl rfl pl_u64' rfl rfl ?_; intro v3 nb m; have E13b := Lib.hid (show Blk v3 g13 #[.int .u64 satp, .int .u64 r6, .bool user, .bool sum, .bool mxr] 25 from nb); have BXb := Lib.hid (below_mod BXa.out BXa.out.size m (fun k hk e => by obtain rfl : k = g13 := e; exact HG13.out)); have t0 := E13b.out.cell 0; simp only [List.getElem?_toArray, List.getElem?_cons_zero, List.getElem?_cons_succ] at t0; clear nb m r1)))
          | (go_at_call 15; (first
            | (have this := Lib.hid E14; refine (memory_any _ 0 8 8 rfl (by omega) (by decide) A' len cap' (lf f) ((RL.out.mod (Mod.of_below BXg.out Nil) (fun k hk h => h) (fun k hk => hk)).wide (fun k hk => Nat.lt_of_lt_of_le hk BXg.out.size)) HL.out).mono ?_; rintro e v9 ⟨h3, h4, F3, F4, rfl, d⟩; have DB := Lib.hid d; have DA2 := Lib.hid (DA1.out.below d.out); have E14b := Lib.hid (E14.out.below d.out); have E13g := Lib.hid (E13f.out.below d.out); have BXh := Lib.hid (BXg.out.trans (d.out.mono BXg.out.size)); clear d this)
            | (refine (memory_any _ 0 8 8 rfl (by omega) (by decide) A' len cap' (lf f) ((RL.out.mod (Mod.of_below BXc.out Nil) (fun k hk h => h) (fun k hk => hk)).wide (fun k hk => Nat.lt_of_lt_of_le hk BXc.out.size)) HL.out).mono ?_; rintro e v6 ⟨h1, h2, F1, F2, rfl, d⟩; have DA := Lib.hid d; have E13e := Lib.hid (E13c.out.below d.out); have BXe := Lib.hid (BXc.out.trans (d.out.mono BXc.out.size)); clear d)))
          | ((with_reducible refine Step.gate_alloc (t := 31) rfl ?_); refine Step.freshAlloc rfl rfl (alloc_agg zero_two) ?_; (first
            | (have this := Lib.hid DB; intro g16 v10 b hg hb; have E16 := Lib.hid b; have DA3 := Lib.hid (DA2.out.below hb); have DB1 := Lib.hid (DB.out.below hb); have E14c := Lib.hid (E14b.out.below hb); have E13h := Lib.hid (E13g.out.below hb); have BXi := Lib.hid (BXh.out.trans (hb.mono BXh.out.size)); have HG16 := Lib.hid (show ∀ k, (F1 k ∨ F2 k) ∨ (F3 k ∨ F4 k) → k ≠ g16 from fun k h e => by subst e; rcases h with h | h; (have := DA2.out.bound k h; omega); (have := DB.out.bound k h; omega)); have HN16 := Lib.hid (show v9.heap.size ≤ g16 ∧ v8.heap.size ≤ g16 ∧ v4.heap.size ≤ g16 from ⟨hg, Nat.le_trans DB.out.mod.size hg, Nat.le_trans DA2.out.mod.size hg⟩); have NE16 := Lib.hid (show g13 ≠ g16 ∧ g14 ≠ g16 from by have := E13g.out.lt; have := E14b.out.lt; omega); clear b hg hb this)
            | (intro g14 v7 b hg hb; have E14a := Lib.hid b; have DA0 := Lib.hid (DA.out.below hb); have E13e2 := Lib.hid (E13e.out.below hb); have BXf := Lib.hid (BXe.out.trans (hb.mono BXe.out.size)); have HG14 := Lib.hid (show ∀ k, F1 k ∨ F2 k → k ≠ g14 from fun k h e => by subst e; have := DA.out.bound k h; omega); have HN14 := Lib.hid (show v4.heap.size ≤ g14 from Nat.le_trans DA.out.mod.size hg); have NE14 := Lib.hid (show g13 ≠ g14 from by have := E13e.out.lt; omega); clear b hg hb)))
          | ((with_reducible refine Step.gate_store (t := 31) rfl ?_); (first
            | (have this := Lib.hid E16; refine Step.storeAll (vs := #[.pointer (some ⟨h3, 0, none⟩), .pointer (some ⟨h4, 0, none⟩)]) E16.out rfl rfl rfl rfl rfl size_two rfl rfl ?_; intro v11 nb m; have E16b := Lib.hid nb; have DA4 := Lib.hid (DA3.out.other m (fun k h e => HG16.out k (.inl h) e) (fun k e => by obtain rfl : k = g16 := e; exact HN16.out.2.2)); have DB2 := Lib.hid (DB1.out.other m (fun k h e => HG16.out k (.inr h) e) (fun k e => by obtain rfl : k = g16 := e; exact HN16.out.2.1)); have E14d := Lib.hid (E14c.out.one m NE16.out.2); have E13i := Lib.hid (E13h.out.one m NE16.out.1); have BXj := Lib.hid (below_mod BXi.out BXi.out.size m (fun k hk e => by obtain rfl : k = g16 := e; have := HN16.out.1; have := BXh.out.size; omega)); clear nb m this)
            | (refine Step.storeAll (vs := #[.pointer (some ⟨h1, 0, none⟩), .pointer (some ⟨h2, 0, none⟩)]) E14a.out rfl rfl rfl rfl rfl size_two rfl rfl ?_; intro v8 nb m; have E14 := Lib.hid nb; have DA1 := Lib.hid (DA0.out.other m (fun k h e => HG14.out k h e) (fun k e => by obtain rfl : k = g14 := e; exact HN14.out)); have E13f := Lib.hid (E13e2.out.one m NE14.out); have BXg := Lib.hid (below_mod BXf.out BXf.out.size m (fun k hk e => by obtain rfl : k = g14 := e; have := HN14.out; have := BXc.out.size; omega)); clear nb m))))
        have HV8 := Lib.hid (show W.heap.size ≤ v8.heap.size from by have := HWR.out.size; have := BXg.out.size; omega)
        have HV8w := Lib.hid (show wr.heap.size ≤ v8.heap.size from BXg.out.size)
        have HV45 := Lib.hid (show v4.heap.size ≤ v8.heap.size from DA1.out.mod.size)
        have L3 := Lib.hid (show ∀ k, F3 k ∨ F4 k → k ≠ g16 from fun k h => HG16.out k (.inr h))
        have LE13 := Lib.hid (show g13 < v8.heap.size ∧ g14 < v8.heap.size ∧ ∀ k, F1 k ∨ F2 k → k < v8.heap.size from ⟨E13f.out.lt, E14.out.lt, DA1.out.bound⟩)
        go_loopw [18] (fun i w => ∃ j : Nat, j ≤ len2 ∧ i = .int .i64 j ∧ Blk w g13 #[.int .u64 s1, .int .u64 r6, .bool user, .bool sum, .bool mxr] 25 ∧ Blk w g14 #[.pointer (some ⟨h1, 0, none⟩), .pointer (some ⟨h2, 0, none⟩)] 31 ∧ Blk w g16 #[.pointer (some ⟨h3, 0, none⟩), .pointer (some ⟨h4, 0, none⟩)] 31 ∧ Duo v4 w h1 h2 0 8 (cm 8 (lf f) len) F1 F2 ∧ Below wr.heap.size wr w ∧ ∃ mem F3 F4, Agree (cm 8 (lf f) len) mem ∧ Duo v8 w h3 h4 0 8 mem F3 F4 ∧ ∀ k, F3 k ∨ F4 k → k ≠ g16) (fun i _ => (len2 - intOf i).toNat)
        case atStart => exact ⟨0, Nat.zero_le _, rfl, E13i.out, E14d.out, E16b.out, DA4.out, BXj.out, _, F3, F4, fun _ _ => rfl, DB2.out, L3.out⟩
        case round =>
          obtain ⟨j, hj, rfl, q13, q14, q16, dA, bX, mem, F3', F4', ag, dB, l3⟩ := hrel
          have Q13 := Lib.hid q13
          have Q14 := Lib.hid q14
          have Q16 := Lib.hid q16
          have QA := Lib.hid dA
          have QX := Lib.hid bX
          have AG := Lib.hid ag
          have QB := Lib.hid dB
          have Q3 := Lib.hid l3
          clear q13 q14 q16 dA bX ag dB l3 DA DA0 DA1 DA2 DA3 DA4 DB DB1 DB2 E13 E13a E13b E13c E13e E13e2 E13f E13g E13h E13i E14 E14a E14b E14c E14d E16 E16b BX1 BXa BXb BXc BXe BXf BXg BXh BXi BXj
          have HWR2 := Lib.hid (show Below W.heap.size W wr from HWR.out.trans (QX.out.mono HWR.out.size))
          by_cases hj2 : j < len2
          · obtain ⟨ae, rfl, hab, hc0, hc1, hv0, hv1⟩ := (RM.out.mod (Mod.of_below HWR2.out Nil) (fun k hk h => h) (fun k hk => hk)) j hj2
            obtain ⟨q, hq⟩ := Int.eq_ofNat_of_zero_le (show 0 ≤ (f2 j).1 % 1024 by omega)
            have hq2 : (q : Int) < 1024 := by omega
            have TP := Lib.hid (fun w => (place_any (f2 j).1 1024 (by decide) hv0 (by decide) w).mono fun e w' h => (by rw [hq] at h; exact h : e = .returned (.int .i64 q) ∧ w = w'))
            have y1 : IntKind.i64.wrap (8 * (q : Int)) = 8 * q := IntWalk.i64_in _ (by omega)
            have y2 : IntKind.i64.wrap (24576 + 8 * (q : Int)) = 24576 + 8 * q := IntWalk.i64_in _ (by omega)
            have y3 : IntKind.u64.wrap (24576 + 8 * (q : Int)) = 24576 + 8 * q := IntWalk.u64_in _ (by omega)
            have y4 : IntKind.u64.wrap (8 * (q : Int)) = 8 * q := IntWalk.u64_in _ (by omega)
            have TW := Lib.hid (fun w (hw : Below wr.heap.size wr w) => wboth (QB.out.below hw) (24576 + 8 * q) (f2 j).2 (by omega) hv1 (decide_eq_true (by omega)))
            have LB := Lib.hid (show ae.block < wr.heap.size from Nat.lt_of_lt_of_le hab HWR2.out.size)
            have NA := Lib.hid (show ¬ (F3' ae.block ∨ F4' ae.block) from fun h => by have := QB.out.new _ h; have := HV8.out; omega)
            generalize (f2 j).1 = v0 at hc0 TP hq
            generalize (f2 j).2 = v1 at hc1 TW
            rw [← addr_snd] at hc1
            have cB := Q16.out.cell 0
            have cC := Q16.out.cell 1
            simp only [List.getElem?_toArray, List.getElem?_cons_zero, List.getElem?_cons_succ] at cB cC
            have hl2 := HL2.out
            clear hv0 hv1 hq hq2
            go_wp2
            go_region_held3 (fun w' => w'.cell? ⟨g16, 0, none⟩ = some (.pointer (some ⟨h3, 0, none⟩)) ∧ w'.cell? ⟨g16, 1, none⟩ = some (.pointer (some ⟨h4, 0, none⟩)) ∧ w'.cell? (ae.add (j * 2)) = some (.int .i64 v0) ∧ w'.cell? ⟨(ae.add (j * 2)).block, (ae.add (j * 2)).off + 1, none⟩ = some (.int .u64 v1))
              (first
                | exact ⟨cB, cC, hc0, hc1⟩
                | exact ⟨(World.cell?_of_block (w := wr) (hm.block g16 Q16.out.lt (fun h => Q3.out _ h rfl))).trans cB, (World.cell?_of_block (w := wr) (hm.block g16 Q16.out.lt (fun h => Q3.out _ h rfl))).trans cC, (World.cell?_of_block (w := wr) (hm.block _ (by rw [block_add]; exact LB.out) (by rw [block_add]; exact NA.out))).trans hc0, (show w9.cell? ⟨(ae.add (j * 2)).block, (ae.add (j * 2)).off + 1, none⟩ = wr.cell? ⟨(ae.add (j * 2)).block, (ae.add (j * 2)).off + 1, none⟩ from World.cell?_of_block (hm.block (ae.add (j * 2)).block (by rw [block_add]; exact LB.out) (by rw [block_add]; exact NA.out))).trans hc1⟩)
              (first
                | ((with_reducible refine (TP.out _).mono ?_); rintro e w8 ⟨rfl, rfl⟩)
                | ((with_reducible refine (TW.out _ (Below.drew (Below.refl _ _))).mono ?_); rintro e w9 ⟨rfl, F3n, F4n, hd, hf1, hf2, hm⟩))
            rename_i hHeld
            have HM := Lib.hid (show Mod (fun k => F3' k ∨ F4' k) wr w9 from ⟨hm.os, hm.tape, hm.output, hm.size, hm.block⟩)
            have HD := Lib.hid hd
            have HF1 := Lib.hid hf1
            have HF2 := Lib.hid hf2
            clear hHeld hm hd hf1 hf2 cB cC hc0 hc1
            go_wp2
            refine ⟨⟨j + 1, by omega, by go_num, Q13.out.mod HM.out (fun h => by have := QB.out.new _ h; have := LE13.out.1; omega), Q14.out.mod HM.out (fun h => by have := QB.out.new _ h; have := LE13.out.2.1; omega), Q16.out.mod HM.out (fun h => Q3.out _ h rfl), QA.out.other HM.out (fun k h h2 => by have := QB.out.new _ h2; have := LE13.out.2.2 k h; omega) (fun k h => Nat.le_trans HV45.out (QB.out.new k h)), below_mod QX.out QX.out.size HM.out (fun k hk h => Nat.le_trans HV8w.out (QB.out.new k h)), _, F3n, F4n, fun i hi => ?_, HD.out, fun k h e => ?_⟩, by simp [intOf]; omega⟩
            · have := AG.out i hi
              rw [this]
              unfold Go.Proofs.Ytfoocpcpljlndaa.Mem.wr
              rw [if_neg (by omega)]
            · subst e
              exact Q3.out k (h.elim (fun h => .inl (HF1.out k Q16.out.lt h)) fun h => .inr (HF2.out k Q16.out.lt h)) rfl
          · have hjl : len2 = j := by omega
            subst hjl
            have TR := translate_agree AG.out CL.out s1 r6 va a user sum mxr HR6.out (HSO.out).1.1 HSO.out.2.1 HSO.out.2.2
            obtain ⟨p, hp⟩ : ∃ p, translate 0 8 (cm 8 (lf f) len) s1 r6 user sum mxr va a = p := ⟨_, rfl⟩
            have T1 := Lib.hid (fun (W : World) (h : Nat) (F : Nat → Prop) (r : Ram W h 0 8 (cm 8 (lf f) len) F) => translate_is r s1 r6 va a user sum mxr (HSO.out).1 HR6u.out HV.out hp)
            have T2 := Lib.hid (fun (W : World) (h : Nat) (F : Nat → Prop) (r : Ram W h 0 8 mem F) => translate_is r s1 r6 va a user sum mxr (HSO.out).1 HR6u.out HV.out (TR.symm.trans hp))
            clear TR hp
            obtain ⟨pa, gp, fa, wa⟩ := p
            have HK5 := Lib.hid (show wr.cell? ⟨g14, 0, none⟩ = some (.pointer (some ⟨h1, 0, none⟩)) ∧ wr.cell? ⟨g16, 0, none⟩ = some (.pointer (some ⟨h3, 0, none⟩)) ∧ wr.cell? ⟨g13, 0, none⟩ = some (.int .u64 s1) ∧ wr.cell? ⟨g13, 1, none⟩ = some (.int .u64 r6) ∧ wr.cell? ⟨g13, 2, none⟩ = some (.bool user) ∧ wr.cell? ⟨g13, 3, none⟩ = some (.bool sum) ∧ wr.cell? ⟨g13, 4, none⟩ = some (.bool mxr) from ⟨(Q14.out.cell 0).trans rfl, (Q16.out.cell 0).trans rfl, (Q13.out.cell 0).trans rfl, (Q13.out.cell 1).trans rfl, (Q13.out.cell 2).trans rfl, (Q13.out.cell 3).trans rfl, (Q13.out.cell 4).trans rfl⟩)
            go_wp2
            go_region_held3 (fun w' => w'.cell? ⟨g14, 0, none⟩ = some (.pointer (some ⟨h1, 0, none⟩)) ∧ w'.cell? ⟨g16, 0, none⟩ = some (.pointer (some ⟨h3, 0, none⟩)) ∧ w'.cell? ⟨g13, 0, none⟩ = some (.int .u64 s1) ∧ w'.cell? ⟨g13, 1, none⟩ = some (.int .u64 r6) ∧ w'.cell? ⟨g13, 2, none⟩ = some (.bool user) ∧ w'.cell? ⟨g13, 3, none⟩ = some (.bool sum) ∧ w'.cell? ⟨g13, 4, none⟩ = some (.bool mxr))
              (first
                | exact HK5.out
                | exact HK6.out
                | exact HK7.out
                | exact HK8.out)
              (first
                | ((with_reducible refine (T1.out _ _ _ (QA.out.below (Below.drew (Below.refl _ _))).one).mono ?_); rintro e w6 ⟨rfl, hb⟩; have hb5 := (Below.drew (Below.refl wr.heap.size wr)).trans hb; have X6 := Lib.hid hb5; have HK6 := Lib.hid (show w6.cell? ⟨g14, 0, none⟩ = some (.pointer (some ⟨h1, 0, none⟩)) ∧ w6.cell? ⟨g16, 0, none⟩ = some (.pointer (some ⟨h3, 0, none⟩)) ∧ w6.cell? ⟨g13, 0, none⟩ = some (.int .u64 s1) ∧ w6.cell? ⟨g13, 1, none⟩ = some (.int .u64 r6) ∧ w6.cell? ⟨g13, 2, none⟩ = some (.bool user) ∧ w6.cell? ⟨g13, 3, none⟩ = some (.bool sum) ∧ w6.cell? ⟨g13, 4, none⟩ = some (.bool mxr) from ⟨((Q14.out.below hb5).cell 0).trans rfl, ((Q16.out.below hb5).cell 0).trans rfl, ((Q13.out.below hb5).cell 0).trans rfl, ((Q13.out.below hb5).cell 1).trans rfl, ((Q13.out.below hb5).cell 2).trans rfl, ((Q13.out.below hb5).cell 3).trans rfl, ((Q13.out.below hb5).cell 4).trans rfl⟩); clear hb hb5)
                | ((with_reducible refine (T2.out _ _ _ (QB.out.below X6.out).one).mono ?_); rintro e w7 ⟨rfl, hb⟩; have hb7 := X6.out.trans (hb.mono X6.out.size); have X7 := Lib.hid hb7; have HK7 := Lib.hid (show w7.cell? ⟨g14, 0, none⟩ = some (.pointer (some ⟨h1, 0, none⟩)) ∧ w7.cell? ⟨g16, 0, none⟩ = some (.pointer (some ⟨h3, 0, none⟩)) ∧ w7.cell? ⟨g13, 0, none⟩ = some (.int .u64 s1) ∧ w7.cell? ⟨g13, 1, none⟩ = some (.int .u64 r6) ∧ w7.cell? ⟨g13, 2, none⟩ = some (.bool user) ∧ w7.cell? ⟨g13, 3, none⟩ = some (.bool sum) ∧ w7.cell? ⟨g13, 4, none⟩ = some (.bool mxr) from ⟨((Q14.out.below hb7).cell 0).trans rfl, ((Q16.out.below hb7).cell 0).trans rfl, ((Q13.out.below hb7).cell 0).trans rfl, ((Q13.out.below hb7).cell 1).trans rfl, ((Q13.out.below hb7).cell 2).trans rfl, ((Q13.out.below hb7).cell 3).trans rfl, ((Q13.out.below hb7).cell 4).trans rfl⟩); clear hb hb7)
                | ((with_reducible refine (AW.out _).mono ?_); rintro e w8 ⟨rfl, hb⟩; have hb8 := X7.out.trans (hb.mono X7.out.size); have X8 := Lib.hid hb8; have HK8 := Lib.hid (show w8.cell? ⟨g14, 0, none⟩ = some (.pointer (some ⟨h1, 0, none⟩)) ∧ w8.cell? ⟨g16, 0, none⟩ = some (.pointer (some ⟨h3, 0, none⟩)) ∧ w8.cell? ⟨g13, 0, none⟩ = some (.int .u64 s1) ∧ w8.cell? ⟨g13, 1, none⟩ = some (.int .u64 r6) ∧ w8.cell? ⟨g13, 2, none⟩ = some (.bool user) ∧ w8.cell? ⟨g13, 3, none⟩ = some (.bool sum) ∧ w8.cell? ⟨g13, 4, none⟩ = some (.bool mxr) from ⟨((Q14.out.below hb8).cell 0).trans rfl, ((Q16.out.below hb8).cell 0).trans rfl, ((Q13.out.below hb8).cell 0).trans rfl, ((Q13.out.below hb8).cell 1).trans rfl, ((Q13.out.below hb8).cell 2).trans rfl, ((Q13.out.below hb8).cell 3).trans rfl, ((Q13.out.below hb8).cell 4).trans rfl⟩); clear hb hb8))
            go_wp2
            go_ret
            exact ⟨rfl, HWR2.out.trans (X8.out.mono HWR2.out.size)⟩
      · have dz : (r6 != 0) = true := by simpa using hz
        obtain ⟨s2, es2⟩ : ∃ s2, s1 % 1152921504606846976 = s2 := ⟨_, rfl⟩
        have es2' : s1.tmod 1152921504606846976 = s2 := by rw [Int.tmod_eq_emod_of_nonneg HS1.out.1.1]; exact es2
        have HSO := Lib.hid (show U64 s2 ∧ s2 % 17592186044416 < 6 ∧ (r6 ≠ 0 → s2 < 1152921504606846976) from by have h1 := HS1.out.1.1; have h2 := HS1.out.2; exact ⟨⟨by omega, by omega⟩, by omega, fun _ => by omega⟩)
        clear hz
        go_wp2_with (first
          | ((with_reducible refine Step.gate_alloc (t := 25) rfl ?_); refine Step.freshAlloc rfl rfl (alloc_agg zero_env) ?_; intro g13 v1 b hg hb; have E13 := Lib.hid b; have BX1 := Lib.hid hb; have HG13 := Lib.hid hg; clear b hg hb)
          | ((with_reducible refine Step.gate_store (t := 25) rfl ?_); refine Step.storeAll (vs := #[.int .u64 satp, .int .u64 root, .bool user, .bool sum, .bool mxr]) E13.out rfl rfl rfl rfl rfl size_env5 rfl rfl ?_; intro v2 nb m; have E13a := Lib.hid nb; have BXa := Lib.hid (below_mod BX1.out BX1.out.size m (fun k hk e => by obtain rfl : k = g13 := e; exact HG13.out)); have r1 := nb.cell 1; simp only [List.getElem?_toArray, List.getElem?_cons_zero, List.getElem?_cons_succ] at r1; clear nb m k1 k2 k3 k4 k5)
          | ((with_reducible refine Step.gate_store (t := 23) rfl ?_); (first
            | (have this := Lib.hid E13c; refine Step.store E13c.out rfl rfl rfl rfl rfl pl_u64' rfl rfl ?_; intro v5 nb m; have E13d := Lib.hid (show Blk v5 g13 #[.int .u64 s2, .int .u64 r6, .bool user, .bool sum, .bool mxr] 25 from nb); have BXd := Lib.hid (below_mod BXc.out BXc.out.size m (fun k hk e => by obtain rfl : k = g13 := e; exact HG13.out)); clear nb m this u0 u1)
            | (have this := Lib.hid E13b; refine Step.store E13b.out rfl rfl rfl rfl rfl pl_u64' rfl rfl ?_; intro v4 nb m; have E13c := Lib.hid (show Blk v4 g13 #[.int .u64 s1, .int .u64 r6, .bool user, .bool sum, .bool mxr] 25 from nb); have BXc := Lib.hid (below_mod BXb.out BXb.out.size m (fun k hk e => by obtain rfl : k = g13 := e; exact HG13.out)); have u0 := E13c.out.cell 0; have u1 := E13c.out.cell 1; simp only [List.getElem?_toArray, List.getElem?_cons_zero, List.getElem?_cons_succ] at u0 u1; clear nb m this t0)
            | (refine Step.store E13a.out rfl rfl rfl rfl rfl pl_u64' rfl rfl ?_; intro v3 nb m; have E13b := Lib.hid (show Blk v3 g13 #[.int .u64 satp, .int .u64 r6, .bool user, .bool sum, .bool mxr] 25 from nb); have BXb := Lib.hid (below_mod BXa.out BXa.out.size m (fun k hk e => by obtain rfl : k = g13 := e; exact HG13.out)); have t0 := E13b.out.cell 0; simp only [List.getElem?_toArray, List.getElem?_cons_zero, List.getElem?_cons_succ] at t0; clear nb m r1)))
          | (go_at_call 15; (first
            | (have this := Lib.hid E14; refine (memory_any _ 0 8 8 rfl (by omega) (by decide) A' len cap' (lf f) ((RL.out.mod (Mod.of_below BXg.out Nil) (fun k hk h => h) (fun k hk => hk)).wide (fun k hk => Nat.lt_of_lt_of_le hk BXg.out.size)) HL.out).mono ?_; rintro e v9 ⟨h3, h4, F3, F4, rfl, d⟩; have DB := Lib.hid d; have DA2 := Lib.hid (DA1.out.below d.out); have E14b := Lib.hid (E14.out.below d.out); have E13g := Lib.hid (E13f.out.below d.out); have BXh := Lib.hid (BXg.out.trans (d.out.mono BXg.out.size)); clear d this)
            | (refine (memory_any _ 0 8 8 rfl (by omega) (by decide) A' len cap' (lf f) ((RL.out.mod (Mod.of_below BXd.out Nil) (fun k hk h => h) (fun k hk => hk)).wide (fun k hk => Nat.lt_of_lt_of_le hk BXd.out.size)) HL.out).mono ?_; rintro e v6 ⟨h1, h2, F1, F2, rfl, d⟩; have DA := Lib.hid d; have E13e := Lib.hid (E13d.out.below d.out); have BXe := Lib.hid (BXd.out.trans (d.out.mono BXd.out.size)); clear d)))
          | ((with_reducible refine Step.gate_alloc (t := 31) rfl ?_); refine Step.freshAlloc rfl rfl (alloc_agg zero_two) ?_; (first
            | (have this := Lib.hid DB; intro g16 v10 b hg hb; have E16 := Lib.hid b; have DA3 := Lib.hid (DA2.out.below hb); have DB1 := Lib.hid (DB.out.below hb); have E14c := Lib.hid (E14b.out.below hb); have E13h := Lib.hid (E13g.out.below hb); have BXi := Lib.hid (BXh.out.trans (hb.mono BXh.out.size)); have HG16 := Lib.hid (show ∀ k, (F1 k ∨ F2 k) ∨ (F3 k ∨ F4 k) → k ≠ g16 from fun k h e => by subst e; rcases h with h | h; (have := DA2.out.bound k h; omega); (have := DB.out.bound k h; omega)); have HN16 := Lib.hid (show v9.heap.size ≤ g16 ∧ v8.heap.size ≤ g16 ∧ v5.heap.size ≤ g16 from ⟨hg, Nat.le_trans DB.out.mod.size hg, Nat.le_trans DA2.out.mod.size hg⟩); have NE16 := Lib.hid (show g13 ≠ g16 ∧ g14 ≠ g16 from by have := E13g.out.lt; have := E14b.out.lt; omega); clear b hg hb this)
            | (intro g14 v7 b hg hb; have E14a := Lib.hid b; have DA0 := Lib.hid (DA.out.below hb); have E13e2 := Lib.hid (E13e.out.below hb); have BXf := Lib.hid (BXe.out.trans (hb.mono BXe.out.size)); have HG14 := Lib.hid (show ∀ k, F1 k ∨ F2 k → k ≠ g14 from fun k h e => by subst e; have := DA.out.bound k h; omega); have HN14 := Lib.hid (show v5.heap.size ≤ g14 from Nat.le_trans DA.out.mod.size hg); have NE14 := Lib.hid (show g13 ≠ g14 from by have := E13e.out.lt; omega); clear b hg hb)))
          | ((with_reducible refine Step.gate_store (t := 31) rfl ?_); (first
            | (have this := Lib.hid E16; refine Step.storeAll (vs := #[.pointer (some ⟨h3, 0, none⟩), .pointer (some ⟨h4, 0, none⟩)]) E16.out rfl rfl rfl rfl rfl size_two rfl rfl ?_; intro v11 nb m; have E16b := Lib.hid nb; have DA4 := Lib.hid (DA3.out.other m (fun k h e => HG16.out k (.inl h) e) (fun k e => by obtain rfl : k = g16 := e; exact HN16.out.2.2)); have DB2 := Lib.hid (DB1.out.other m (fun k h e => HG16.out k (.inr h) e) (fun k e => by obtain rfl : k = g16 := e; exact HN16.out.2.1)); have E14d := Lib.hid (E14c.out.one m NE16.out.2); have E13i := Lib.hid (E13h.out.one m NE16.out.1); have BXj := Lib.hid (below_mod BXi.out BXi.out.size m (fun k hk e => by obtain rfl : k = g16 := e; have := HN16.out.1; have := BXh.out.size; omega)); clear nb m this)
            | (refine Step.storeAll (vs := #[.pointer (some ⟨h1, 0, none⟩), .pointer (some ⟨h2, 0, none⟩)]) E14a.out rfl rfl rfl rfl rfl size_two rfl rfl ?_; intro v8 nb m; have E14 := Lib.hid nb; have DA1 := Lib.hid (DA0.out.other m (fun k h e => HG14.out k h e) (fun k e => by obtain rfl : k = g14 := e; exact HN14.out)); have E13f := Lib.hid (E13e2.out.one m NE14.out); have BXg := Lib.hid (below_mod BXf.out BXf.out.size m (fun k hk e => by obtain rfl : k = g14 := e; have := HN14.out; have := BXd.out.size; omega)); clear nb m))))
        have HV8 := Lib.hid (show W.heap.size ≤ v8.heap.size from by have := HWR.out.size; have := BXg.out.size; omega)
        have HV8w := Lib.hid (show wr.heap.size ≤ v8.heap.size from BXg.out.size)
        have HV45 := Lib.hid (show v5.heap.size ≤ v8.heap.size from DA1.out.mod.size)
        have L3 := Lib.hid (show ∀ k, F3 k ∨ F4 k → k ≠ g16 from fun k h => HG16.out k (.inr h))
        have LE13 := Lib.hid (show g13 < v8.heap.size ∧ g14 < v8.heap.size ∧ ∀ k, F1 k ∨ F2 k → k < v8.heap.size from ⟨E13f.out.lt, E14.out.lt, DA1.out.bound⟩)
        go_loopw [18] (fun i w => ∃ j : Nat, j ≤ len2 ∧ i = .int .i64 j ∧ Blk w g13 #[.int .u64 s2, .int .u64 r6, .bool user, .bool sum, .bool mxr] 25 ∧ Blk w g14 #[.pointer (some ⟨h1, 0, none⟩), .pointer (some ⟨h2, 0, none⟩)] 31 ∧ Blk w g16 #[.pointer (some ⟨h3, 0, none⟩), .pointer (some ⟨h4, 0, none⟩)] 31 ∧ Duo v5 w h1 h2 0 8 (cm 8 (lf f) len) F1 F2 ∧ Below wr.heap.size wr w ∧ ∃ mem F3 F4, Agree (cm 8 (lf f) len) mem ∧ Duo v8 w h3 h4 0 8 mem F3 F4 ∧ ∀ k, F3 k ∨ F4 k → k ≠ g16) (fun i _ => (len2 - intOf i).toNat)
        case atStart => exact ⟨0, Nat.zero_le _, rfl, E13i.out, E14d.out, E16b.out, DA4.out, BXj.out, _, F3, F4, fun _ _ => rfl, DB2.out, L3.out⟩
        case round =>
          obtain ⟨j, hj, rfl, q13, q14, q16, dA, bX, mem, F3', F4', ag, dB, l3⟩ := hrel
          have Q13 := Lib.hid q13
          have Q14 := Lib.hid q14
          have Q16 := Lib.hid q16
          have QA := Lib.hid dA
          have QX := Lib.hid bX
          have AG := Lib.hid ag
          have QB := Lib.hid dB
          have Q3 := Lib.hid l3
          clear q13 q14 q16 dA bX ag dB l3 DA DA0 DA1 DA2 DA3 DA4 DB DB1 DB2 E13 E13a E13b E13c E13e E13e2 E13f E13g E13h E13i E14 E14a E14b E14c E14d E16 E16b BX1 BXa BXb BXc BXe BXf BXg BXh BXi BXj E13d BXd
          have HWR2 := Lib.hid (show Below W.heap.size W wr from HWR.out.trans (QX.out.mono HWR.out.size))
          by_cases hj2 : j < len2
          · obtain ⟨ae, rfl, hab, hc0, hc1, hv0, hv1⟩ := (RM.out.mod (Mod.of_below HWR2.out Nil) (fun k hk h => h) (fun k hk => hk)) j hj2
            obtain ⟨q, hq⟩ := Int.eq_ofNat_of_zero_le (show 0 ≤ (f2 j).1 % 1024 by omega)
            have hq2 : (q : Int) < 1024 := by omega
            have TP := Lib.hid (fun w => (place_any (f2 j).1 1024 (by decide) hv0 (by decide) w).mono fun e w' h => (by rw [hq] at h; exact h : e = .returned (.int .i64 q) ∧ w = w'))
            have y1 : IntKind.i64.wrap (8 * (q : Int)) = 8 * q := IntWalk.i64_in _ (by omega)
            have y2 : IntKind.i64.wrap (24576 + 8 * (q : Int)) = 24576 + 8 * q := IntWalk.i64_in _ (by omega)
            have y3 : IntKind.u64.wrap (24576 + 8 * (q : Int)) = 24576 + 8 * q := IntWalk.u64_in _ (by omega)
            have y4 : IntKind.u64.wrap (8 * (q : Int)) = 8 * q := IntWalk.u64_in _ (by omega)
            have TW := Lib.hid (fun w (hw : Below wr.heap.size wr w) => wboth (QB.out.below hw) (24576 + 8 * q) (f2 j).2 (by omega) hv1 (decide_eq_true (by omega)))
            have LB := Lib.hid (show ae.block < wr.heap.size from Nat.lt_of_lt_of_le hab HWR2.out.size)
            have NA := Lib.hid (show ¬ (F3' ae.block ∨ F4' ae.block) from fun h => by have := QB.out.new _ h; have := HV8.out; omega)
            generalize (f2 j).1 = v0 at hc0 TP hq
            generalize (f2 j).2 = v1 at hc1 TW
            rw [← addr_snd] at hc1
            have cB := Q16.out.cell 0
            have cC := Q16.out.cell 1
            simp only [List.getElem?_toArray, List.getElem?_cons_zero, List.getElem?_cons_succ] at cB cC
            have hl2 := HL2.out
            clear hv0 hv1 hq hq2
            go_wp2
            go_region_held3 (fun w' => w'.cell? ⟨g16, 0, none⟩ = some (.pointer (some ⟨h3, 0, none⟩)) ∧ w'.cell? ⟨g16, 1, none⟩ = some (.pointer (some ⟨h4, 0, none⟩)) ∧ w'.cell? (ae.add (j * 2)) = some (.int .i64 v0) ∧ w'.cell? ⟨(ae.add (j * 2)).block, (ae.add (j * 2)).off + 1, none⟩ = some (.int .u64 v1))
              (first
                | exact ⟨cB, cC, hc0, hc1⟩
                | exact ⟨(World.cell?_of_block (w := wr) (hm.block g16 Q16.out.lt (fun h => Q3.out _ h rfl))).trans cB, (World.cell?_of_block (w := wr) (hm.block g16 Q16.out.lt (fun h => Q3.out _ h rfl))).trans cC, (World.cell?_of_block (w := wr) (hm.block _ (by rw [block_add]; exact LB.out) (by rw [block_add]; exact NA.out))).trans hc0, (show w9.cell? ⟨(ae.add (j * 2)).block, (ae.add (j * 2)).off + 1, none⟩ = wr.cell? ⟨(ae.add (j * 2)).block, (ae.add (j * 2)).off + 1, none⟩ from World.cell?_of_block (hm.block (ae.add (j * 2)).block (by rw [block_add]; exact LB.out) (by rw [block_add]; exact NA.out))).trans hc1⟩)
              (first
                | ((with_reducible refine (TP.out _).mono ?_); rintro e w8 ⟨rfl, rfl⟩)
                | ((with_reducible refine (TW.out _ (Below.drew (Below.refl _ _))).mono ?_); rintro e w9 ⟨rfl, F3n, F4n, hd, hf1, hf2, hm⟩))
            rename_i hHeld
            have HM := Lib.hid (show Mod (fun k => F3' k ∨ F4' k) wr w9 from ⟨hm.os, hm.tape, hm.output, hm.size, hm.block⟩)
            have HD := Lib.hid hd
            have HF1 := Lib.hid hf1
            have HF2 := Lib.hid hf2
            clear hHeld hm hd hf1 hf2 cB cC hc0 hc1
            go_wp2
            refine ⟨⟨j + 1, by omega, by go_num, Q13.out.mod HM.out (fun h => by have := QB.out.new _ h; have := LE13.out.1; omega), Q14.out.mod HM.out (fun h => by have := QB.out.new _ h; have := LE13.out.2.1; omega), Q16.out.mod HM.out (fun h => Q3.out _ h rfl), QA.out.other HM.out (fun k h h2 => by have := QB.out.new _ h2; have := LE13.out.2.2 k h; omega) (fun k h => Nat.le_trans HV45.out (QB.out.new k h)), below_mod QX.out QX.out.size HM.out (fun k hk h => Nat.le_trans HV8w.out (QB.out.new k h)), _, F3n, F4n, fun i hi => ?_, HD.out, fun k h e => ?_⟩, by simp [intOf]; omega⟩
            · have := AG.out i hi
              rw [this]
              unfold Go.Proofs.Ytfoocpcpljlndaa.Mem.wr
              rw [if_neg (by omega)]
            · subst e
              exact Q3.out k (h.elim (fun h => .inl (HF1.out k Q16.out.lt h)) fun h => .inr (HF2.out k Q16.out.lt h)) rfl
          · have hjl : len2 = j := by omega
            subst hjl
            have TR := translate_agree AG.out CL.out s2 r6 va a user sum mxr HR6.out (HSO.out).1.1 HSO.out.2.1 HSO.out.2.2
            obtain ⟨p, hp⟩ : ∃ p, translate 0 8 (cm 8 (lf f) len) s2 r6 user sum mxr va a = p := ⟨_, rfl⟩
            have T1 := Lib.hid (fun (W : World) (h : Nat) (F : Nat → Prop) (r : Ram W h 0 8 (cm 8 (lf f) len) F) => translate_is r s2 r6 va a user sum mxr (HSO.out).1 HR6u.out HV.out hp)
            have T2 := Lib.hid (fun (W : World) (h : Nat) (F : Nat → Prop) (r : Ram W h 0 8 mem F) => translate_is r s2 r6 va a user sum mxr (HSO.out).1 HR6u.out HV.out (TR.symm.trans hp))
            clear TR hp
            obtain ⟨pa, gp, fa, wa⟩ := p
            have HK5 := Lib.hid (show wr.cell? ⟨g14, 0, none⟩ = some (.pointer (some ⟨h1, 0, none⟩)) ∧ wr.cell? ⟨g16, 0, none⟩ = some (.pointer (some ⟨h3, 0, none⟩)) ∧ wr.cell? ⟨g13, 0, none⟩ = some (.int .u64 s2) ∧ wr.cell? ⟨g13, 1, none⟩ = some (.int .u64 r6) ∧ wr.cell? ⟨g13, 2, none⟩ = some (.bool user) ∧ wr.cell? ⟨g13, 3, none⟩ = some (.bool sum) ∧ wr.cell? ⟨g13, 4, none⟩ = some (.bool mxr) from ⟨(Q14.out.cell 0).trans rfl, (Q16.out.cell 0).trans rfl, (Q13.out.cell 0).trans rfl, (Q13.out.cell 1).trans rfl, (Q13.out.cell 2).trans rfl, (Q13.out.cell 3).trans rfl, (Q13.out.cell 4).trans rfl⟩)
            go_wp2
            go_region_held3 (fun w' => w'.cell? ⟨g14, 0, none⟩ = some (.pointer (some ⟨h1, 0, none⟩)) ∧ w'.cell? ⟨g16, 0, none⟩ = some (.pointer (some ⟨h3, 0, none⟩)) ∧ w'.cell? ⟨g13, 0, none⟩ = some (.int .u64 s2) ∧ w'.cell? ⟨g13, 1, none⟩ = some (.int .u64 r6) ∧ w'.cell? ⟨g13, 2, none⟩ = some (.bool user) ∧ w'.cell? ⟨g13, 3, none⟩ = some (.bool sum) ∧ w'.cell? ⟨g13, 4, none⟩ = some (.bool mxr))
              (first
                | exact HK5.out
                | exact HK6.out
                | exact HK7.out
                | exact HK8.out)
              (first
                | ((with_reducible refine (T1.out _ _ _ (QA.out.below (Below.drew (Below.refl _ _))).one).mono ?_); rintro e w6 ⟨rfl, hb⟩; have hb5 := (Below.drew (Below.refl wr.heap.size wr)).trans hb; have X6 := Lib.hid hb5; have HK6 := Lib.hid (show w6.cell? ⟨g14, 0, none⟩ = some (.pointer (some ⟨h1, 0, none⟩)) ∧ w6.cell? ⟨g16, 0, none⟩ = some (.pointer (some ⟨h3, 0, none⟩)) ∧ w6.cell? ⟨g13, 0, none⟩ = some (.int .u64 s2) ∧ w6.cell? ⟨g13, 1, none⟩ = some (.int .u64 r6) ∧ w6.cell? ⟨g13, 2, none⟩ = some (.bool user) ∧ w6.cell? ⟨g13, 3, none⟩ = some (.bool sum) ∧ w6.cell? ⟨g13, 4, none⟩ = some (.bool mxr) from ⟨((Q14.out.below hb5).cell 0).trans rfl, ((Q16.out.below hb5).cell 0).trans rfl, ((Q13.out.below hb5).cell 0).trans rfl, ((Q13.out.below hb5).cell 1).trans rfl, ((Q13.out.below hb5).cell 2).trans rfl, ((Q13.out.below hb5).cell 3).trans rfl, ((Q13.out.below hb5).cell 4).trans rfl⟩); clear hb hb5)
                | ((with_reducible refine (T2.out _ _ _ (QB.out.below X6.out).one).mono ?_); rintro e w7 ⟨rfl, hb⟩; have hb7 := X6.out.trans (hb.mono X6.out.size); have X7 := Lib.hid hb7; have HK7 := Lib.hid (show w7.cell? ⟨g14, 0, none⟩ = some (.pointer (some ⟨h1, 0, none⟩)) ∧ w7.cell? ⟨g16, 0, none⟩ = some (.pointer (some ⟨h3, 0, none⟩)) ∧ w7.cell? ⟨g13, 0, none⟩ = some (.int .u64 s2) ∧ w7.cell? ⟨g13, 1, none⟩ = some (.int .u64 r6) ∧ w7.cell? ⟨g13, 2, none⟩ = some (.bool user) ∧ w7.cell? ⟨g13, 3, none⟩ = some (.bool sum) ∧ w7.cell? ⟨g13, 4, none⟩ = some (.bool mxr) from ⟨((Q14.out.below hb7).cell 0).trans rfl, ((Q16.out.below hb7).cell 0).trans rfl, ((Q13.out.below hb7).cell 0).trans rfl, ((Q13.out.below hb7).cell 1).trans rfl, ((Q13.out.below hb7).cell 2).trans rfl, ((Q13.out.below hb7).cell 3).trans rfl, ((Q13.out.below hb7).cell 4).trans rfl⟩); clear hb hb7)
                | ((with_reducible refine (AW.out _).mono ?_); rintro e w8 ⟨rfl, hb⟩; have hb8 := X7.out.trans (hb.mono X7.out.size); have X8 := Lib.hid hb8; have HK8 := Lib.hid (show w8.cell? ⟨g14, 0, none⟩ = some (.pointer (some ⟨h1, 0, none⟩)) ∧ w8.cell? ⟨g16, 0, none⟩ = some (.pointer (some ⟨h3, 0, none⟩)) ∧ w8.cell? ⟨g13, 0, none⟩ = some (.int .u64 s2) ∧ w8.cell? ⟨g13, 1, none⟩ = some (.int .u64 r6) ∧ w8.cell? ⟨g13, 2, none⟩ = some (.bool user) ∧ w8.cell? ⟨g13, 3, none⟩ = some (.bool sum) ∧ w8.cell? ⟨g13, 4, none⟩ = some (.bool mxr) from ⟨((Q14.out.below hb8).cell 0).trans rfl, ((Q16.out.below hb8).cell 0).trans rfl, ((Q13.out.below hb8).cell 0).trans rfl, ((Q13.out.below hb8).cell 1).trans rfl, ((Q13.out.below hb8).cell 2).trans rfl, ((Q13.out.below hb8).cell 3).trans rfl, ((Q13.out.below hb8).cell 4).trans rfl⟩); clear hb hb8))
            go_wp2
            go_ret
            exact ⟨rfl, HWR2.out.trans (X8.out.mono HWR2.out.size)⟩
end Go.Proofs.Ytfoocpcpljlndaa.Duo
