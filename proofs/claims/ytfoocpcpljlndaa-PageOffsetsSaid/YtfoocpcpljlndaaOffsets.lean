/- The walk of PageOffsets (written by genoffs.py). -/
import Derived.Test.YtfoocpcpljlndaaAwakeB
import Derived.Test.YtfoocpcpljlndaaTranslate
namespace Go.Proofs.Ytfoocpcpljlndaa.Duo
open Go Go.RowKit Go.Proofs.Ytfoocpcpljlndaa.Step Go.Proofs.Ytfoocpcpljlndaa.Mem Go.Proofs.Ytfoocpcpljlndaa.Tab
set_option linter.unusedVariables false
set_option linter.unusedSimpArgs false
set_option maxRecDepth 100000

theorem translate_is {W : World} {h n : Nat} {base : Int} {mem : Nat → Int} {F : Nat → Prop} (r : Ram W h base n mem F) (satp root va a : Int) (user sum mxr : Bool) (hs : U64 satp) (hr : U64 root) (hv : U64 va) {p : Tab.Place} (e : translate base n mem satp root user sum mxr va a = p) :
    Calls Try.prog 18 #[.pointer (some ⟨h, 0, none⟩), .agg #[.int .u64 satp, .int .u64 root, .bool user, .bool sum, .bool mxr], .int .u64 va, .int .i64 a] W fun e W' => e = .returned (.agg #[.int .u64 p.pa, .int .u64 p.gpa, .int .i64 p.fault, .bool p.walk]) ∧ Below W.heap.size W W' :=
  e ▸ translate_any r satp root va a user sum mxr hs hr hv
theorem ix_off {x o : Int} (hx : x % 4096 = 0) (ho : 0 ≤ o ∧ o < 4096) {l : Nat} (hl : l ≤ 2) : ix (x + o) l = ix x l := by
  unfold ix
  obtain e | e | e : l = 0 ∨ l = 1 ∨ l = 2 := by omega
  · subst e; show (x + o) / 4096 % 512 = x / 4096 % 512; omega
  · subst e; show (x + o) / 2097152 % 512 = x / 2097152 % 512; omega
  · subst e; show (x + o) / 1073741824 % 512 = x / 1073741824 % 512; omega
theorem at_off (e : Int) {x o : Int} (hx : x % 4096 = 0) (ho : 0 ≤ o ∧ o < 4096) {l : Nat} (hl : l ≤ 2) : at_ e l (x + o) = at_ e l x + o ∧ at_ e l x % 4096 = 0 := by
  unfold at_
  obtain e | e | e : l = 0 ∨ l = 1 ∨ l = 2 := by omega
  · subst e; show pn _ * 4096 + (x + o) % 4096 = pn _ * 4096 + x % 4096 + o ∧ (pn _ * 4096 + x % 4096) % 4096 = 0; omega
  · subst e; show pn _ * 4096 + (x + o) % 2097152 = pn _ * 4096 + x % 2097152 + o ∧ (pn _ * 4096 + x % 2097152) % 4096 = 0; omega
  · subst e; show pn _ * 4096 + (x + o) % 1073741824 = pn _ * 4096 + x % 1073741824 + o ∧ (pn _ * 4096 + x % 1073741824) % 4096 = 0; omega
theorem down_off (rd : Int → Int → Int × Int) {x o : Int} (hx : x % 4096 = 0) (ho : 0 ≤ o ∧ o < 4096) : ∀ (l : Nat), l ≤ 3 → ∀ t, down rd (x + o) l t = down rd x l t
  | 0, _, _ => rfl
  | l + 1, hl, t => by
    have ih := down_off rd hx ho l (by omega)
    simp only [down, ix_off hx ho (l := l) (by omega), ih]
theorem guest_off (mem : Nat → Int) (hm : ∀ i, i < 8 * 4096 → 0 ≤ mem i ∧ mem i < 256) (root a : Int) {g o : Int} (hg : U64 g) (hx : g % 4096 = 0) (ho : 0 ≤ o ∧ o < 4096) :
    ((guest 0 8 mem root g a).2.2 ≠ 0 ∧ (guest 0 8 mem root g a).2.2 ≠ 1 ∧ (guest 0 8 mem root (g + o) a).2.2 = (guest 0 8 mem root g a).2.2) ∨
    ((guest 0 8 mem root g a).2.2 = 0 ∧ (guest 0 8 mem root (g + o) a).2.2 = 0 ∧ (guest 0 8 mem root (g + o) a).1 = (guest 0 8 mem root g a).1 + o ∧ (guest 0 8 mem root g a).1 % 4096 = 0) := by
  obtain ⟨g0, g1⟩ := hg
  unfold guest
  by_cases h0 : root = 0
  · rw [if_pos h0, if_pos h0]; exact .inr ⟨rfl, rfl, rfl, hx⟩
  rw [if_neg h0, if_neg h0]
  by_cases h1 : 549755813888 ≤ g
  · rw [if_pos h1, if_pos (by omega)]; exact .inl ⟨by decide, by decide, rfl⟩
  rw [if_neg h1, if_neg (by omega), down_off _ hx ho 3 (by decide)]
  have HU := fun t (l : Nat) => (phys_u (base := 0) (n := 8) (mem := mem) (t := t) (i := ix g l) (by decide) hm)
  cases hd : down (phys 0 8 mem) g 3 root with
  | bus f t i =>
    obtain ⟨_, f3⟩ := down_bus (P := fun f => f = 3) (fun t l => (HU t l).2) 3 _ _ _ _ hd
    subst f3
    exact .inl ⟨by show (3 : Int) ≠ 0; decide, by show (3 : Int) ≠ 1; decide, rfl⟩
  | page => exact .inl ⟨by show (2 : Int) ≠ 0; decide, by show (2 : Int) ≠ 1; decide, rfl⟩
  | leaf e l =>
    obtain ⟨_, hl, _⟩ := down_leaf (fun t l => (HU t l).1) 3 _ _ _ hd
    have h3 := at_off e hx ho (l := l) (by omega)
    by_cases hh : lets2 e a = true
    · have e1 : guestOf g a (.leaf e l) = (at_ e l g, perm e, 0) := if_pos hh
      have e2 : guestOf (g + o) a (.leaf e l) = (at_ e l (g + o), perm e, 0) := if_pos hh
      rw [e1, e2]
      exact .inr ⟨rfl, rfl, h3.1, h3.2⟩
    · have e1 : guestOf g a (.leaf e l) = (0, 0, 2) := if_neg hh
      have e2 : guestOf (g + o) a (.leaf e l) = (0, 0, 2) := if_neg hh
      rw [e1, e2]
      exact .inl ⟨by decide, by decide, rfl⟩
theorem fst_off (rd : Int → Int → Int × Int) (hu : ∀ t l, U64 (rd t l).1) (satp a : Int) (user sum mxr : Bool) {x o : Int} (hv : U64 x) (hx : x % 4096 = 0) (ho : 0 ≤ o ∧ o < 4096) :
    (∃ g, fst rd satp user sum mxr x a = .ok g ∧ fst rd satp user sum mxr (x + o) a = .ok (g + o) ∧ g % 4096 = 0) ∨ (fst rd satp user sum mxr x a = .page ∧ fst rd satp user sum mxr (x + o) a = .page) ∨ ∃ f t i, fst rd satp user sum mxr x a = .bus f t i ∧ fst rd satp user sum mxr (x + o) a = .bus f t i := by
  obtain ⟨x0, x1⟩ := hv
  unfold fst
  by_cases m0 : satp / 1152921504606846976 = 0
  · rw [if_pos m0, if_pos m0]; exact .inl ⟨x, rfl, rfl, hx⟩
  rw [if_neg m0, if_neg m0]
  by_cases m8 : satp / 1152921504606846976 ≠ 8
  · rw [if_pos m8, if_pos m8]; exact .inr (.inl ⟨rfl, rfl⟩)
  rw [if_neg m8, if_neg m8]
  have hc : canon (x + o) = canon x := by
    unfold canon
    rw [decide_eq_decide.2 (show x + o < 274877906944 ↔ x < 274877906944 by omega), decide_eq_decide.2 (show 18446743798831644672 ≤ x + o ↔ 18446743798831644672 ≤ x by omega)]
  rw [hc]
  by_cases h : canon x = false
  · rw [if_pos h, if_pos h]; exact .inr (.inl ⟨rfl, rfl⟩)
  rw [if_neg h, if_neg h, down_off _ hx ho 3 (by decide)]
  cases hd : down rd x 3 (satp % 17592186044416) with
  | bus f t i => exact .inr (.inr ⟨f, t, i, rfl, rfl⟩)
  | page => exact .inr (.inl ⟨rfl, rfl⟩)
  | leaf e l =>
    obtain ⟨_, hl, _⟩ := down_leaf (fun t l => hu t _) 3 _ _ _ hd
    have h3 := at_off e hx ho (l := l) (by omega)
    by_cases hh : lets1 user sum mxr e a = true
    · have e1 : fstOf user sum mxr x a (.leaf e l) = .ok (at_ e l x) := if_pos hh
      have e2 : fstOf user sum mxr (x + o) a (.leaf e l) = .ok (at_ e l (x + o)) := if_pos hh
      rw [e1, e2]
      exact .inl ⟨_, rfl, by rw [h3.1], h3.2⟩
    · have e1 : fstOf user sum mxr x a (.leaf e l) = .page := if_neg hh
      have e2 : fstOf user sum mxr (x + o) a (.leaf e l) = .page := if_neg hh
      rw [e1, e2]
      exact .inr (.inl ⟨rfl, rfl⟩)
/-- What two addresses of one page come to. -/
theorem translate_off (mem : Nat → Int) (hm : ∀ i, i < 8 * 4096 → 0 ≤ mem i ∧ mem i < 256) (satp root a : Int) (user sum mxr : Bool) {x o : Int} (hv : U64 x) (hx : x % 4096 = 0) (ho : 0 ≤ o ∧ o < 4096) :
    (∃ g q t, q ≠ 0 ∧ translate 0 8 mem satp root user sum mxr x a = ⟨0, g, q, t⟩ ∧ translate 0 8 mem satp root user sum mxr (x + o) a = ⟨0, g, q, t⟩ ∧ (t = true ∨ t = false ∧ q = 1 ∧ g = 0)) ∨
    (∃ g q, q ≠ 0 ∧ q ≠ 1 ∧ U64 g ∧ g % 4096 = 0 ∧ translate 0 8 mem satp root user sum mxr x a = ⟨0, g, q, false⟩ ∧ translate 0 8 mem satp root user sum mxr (x + o) a = ⟨0, g + o, q, false⟩) ∨
    ∃ g p, U64 g ∧ g % 4096 = 0 ∧ U64 p ∧ p % 4096 = 0 ∧ translate 0 8 mem satp root user sum mxr x a = ⟨p, g, 0, false⟩ ∧ translate 0 8 mem satp root user sum mxr (x + o) a = ⟨p + o, g + o, 0, false⟩ := by
  have HV := fun t i => virtAt_u (base := 0) (n := 8) (mem := mem) (root := root) (by decide) hm (vaddr_u t i)
  rw [translate_fst, translate_fst]
  have hc := fun va => fst_congr (rd := virtW 0 8 mem root) (rd' := virt 0 8 mem root) satp user sum mxr va a (fun t l ht => virtW_in ht (ix_u va l))
  rw [← hc x, ← hc (x + o)]
  rcases fst_off (virtW 0 8 mem root) (fun t l => (HV t l).1) satp a user sum mxr hv hx ho with ⟨g, e1, e2, hg⟩ | ⟨e1, e2⟩ | ⟨f, t, i, e1, e2⟩
  · rw [e1, e2]
    have gu := fst_ok hv (fun t l => (HV t _).1) e1
    have pu := (guest_u (base := 0) (n := 8) (mem := mem) (root := root) (by decide) hm gu a).1
    have s1 : thenP 0 8 mem root a (.ok g) = (if (guest 0 8 mem root g a).2.2 ≠ 0 then ⟨0, g, (guest 0 8 mem root g a).2.2, false⟩ else ⟨(guest 0 8 mem root g a).1, g, 0, false⟩) := rfl
    have s2 : thenP 0 8 mem root a (.ok (g + o)) = (if (guest 0 8 mem root (g + o) a).2.2 ≠ 0 then ⟨0, g + o, (guest 0 8 mem root (g + o) a).2.2, false⟩ else ⟨(guest 0 8 mem root (g + o) a).1, g + o, 0, false⟩) := rfl
    rw [s1, s2]
    rcases guest_off mem hm root a gu hg ho with ⟨q0, q1, qe⟩ | ⟨q0, q1, qe, qm⟩
    · refine .inr (.inl ⟨g, _, q0, q1, gu, hg, if_pos q0, ?_⟩)
      rw [qe]; exact if_pos q0
    · refine .inr (.inr ⟨g, _, gu, hg, pu, qm, if_neg (fun h => h q0), ?_⟩)
      rw [if_neg (fun h => h q1), qe]
  · rw [e1, e2]
    exact .inl ⟨0, 1, false, by decide, rfl, rfl, .inr ⟨rfl, rfl, rfl⟩⟩
  · rw [e1, e2]
    exact .inl ⟨_, f, true, (fst_bus e1).2.2.2, rfl, rfl, .inl rfl⟩

set_option maxHeartbeats 8000000 in
theorem offs_p (A : Option Addr) (len cap : Nat) (f : Nat → Int × Int) (satp root : Int) (user sum mxr : Bool) (va off a : Int) (W : World) (r : RdC W A len f (· < W.heap.size)) (hl : len ≤ 9223372036854775807) (hs : U64 satp) (hr : U64 root) (hv : U64 va) (hx : U64 off) 
    (e1 : translate 0 8 (cm 8 f len) satp root user sum mxr (va / 4096 * 4096) a = ⟨0, 0, 1, false⟩) (e2 : translate 0 8 (cm 8 f len) satp root user sum mxr (va / 4096 * 4096 + off.tmod 4096) a = ⟨0, 0, 1, false⟩) :
    Calls Try.prog 6 #[.agg (caseV A len cap satp root user sum mxr), .int .u64 va, .int .u64 off, .int .i64 a] W fun e w' => e = .returned (.bool true) ∧ Below W.heap.size W w' := by
  have R := Lib.hid r
  have HL := Lib.hid hl
  have om : 0 ≤ off.tmod 4096 ∧ off.tmod 4096 < 4096 := by rw [Int.tmod_eq_emod_of_nonneg hx.1]; omega
  have x1 : U64 (va / 4096 * 4096) := by have := hv.1; have := hv.2; exact ⟨by omega, by omega⟩
  have x2 : U64 (va / 4096 * 4096 + off.tmod 4096) := by have := hv.1; have := hv.2; exact ⟨by omega, by omega⟩
  have T1 := Lib.hid (fun (W : World) (h : Nat) (F : Nat → Prop) (r : Ram W h 0 8 (cm 8 f len) F) => translate_is r satp root (va / 4096 * 4096) a user sum mxr hs hr x1 e1)
  have T2 := Lib.hid (fun (W : World) (h : Nat) (F : Nat → Prop) (r : Ram W h 0 8 (cm 8 f len) F) => translate_is r satp root (va / 4096 * 4096 + off.tmod 4096) a user sum mxr hs hr x2 e2)
  have t0 : va.tdiv 4096 = va / 4096 := Int.tdiv_eq_ediv_of_nonneg hv.1
  have v0 : IntKind.u64.wrap (va / 4096) = va / 4096 := IntWalk.u64_in _ (by have := hv.1; have := hv.2; omega)
  have v1 : IntKind.u64.wrap (va / 4096 * 4096) = va / 4096 * 4096 := IntWalk.u64_in _ (by have := x1.1; have := x1.2; omega)
  have v2 : IntKind.u64.wrap (va / 4096 * 4096 + off.tmod 4096) = va / 4096 * 4096 + off.tmod 4096 := IntWalk.u64_in _ (by have := x2.1; have := x2.2; omega)
  have AW := Lib.hid awake_any
  have hu := Try.underlying31
  have hu2 := Try.underlying27
  have hu3 := Try.underlying25
  have hu4 := Try.underlying47
  clear r hl hs hr hv hx e1 e2 x1 x2 om
  simp only at T1 T2
  unfold caseV
  go_enter Try.func6, Try.ntmps6
  go_wp2_with (first
    | ((with_reducible refine Step.gate_box (t := 27) rfl ?_); refine Step.fresh (cs := #[.slice A len cap, .int .u64 satp, .int .u64 root, .bool user, .bool sum, .bool mxr]) (T := 27) rfl ?hr ?_; (case hr => first | (go_simp; done) | (go_simp; rfl)); intro g1 w1 b hg hb; have B1 := Lib.hid b; have HB1 := Lib.hid hb; clear b hg hb)
    | ((with_reducible refine Step.gate_load (t := 27) rfl ?_); refine Step.loadAll B1.out rfl rfl rfl hu2 rfl size_case ?_)
    | (go_at_call 11; refine (case_any _ A len cap f satp root user sum mxr ((R.out.mod (Mod.of_below HB1.out Nil) (fun k hk h => h) (fun k hk => hk)).wide (fun k hk => Nat.lt_of_lt_of_le hk HB1.out.size)) HL.out).mono ?_; rintro e w3 ⟨h1, h2, F1, F2, rfl, d⟩; have D := Lib.hid d; have B13 := Lib.hid (B1.out.mod d.mod (fun h => h)); clear d)
    | ((with_reducible refine Step.gate_alloc (t := 31) rfl ?_); refine Step.freshAlloc rfl rfl (alloc_agg zero_two) ?_; intro g2 w4 b hg hb; have B2 := Lib.hid b; have D2 := Lib.hid (D.out.below hb); have B14 := Lib.hid (B13.out.below hb); have HG2 := Lib.hid (show ∀ k, F1 k ∨ F2 k → k ≠ g2 from fun k h e => by subst e; have := D.out.bound k h; omega); have HN2 := Lib.hid (show w1.heap.size ≤ g2 from Nat.le_trans D.out.mod.size hg); have NE := Lib.hid (show g1 ≠ g2 from by have := B13.out.lt; omega); clear b hg hb)
    | ((with_reducible refine Step.gate_store (t := 31) rfl ?_); refine Step.storeAll (vs := #[.pointer (some ⟨h1, 0, none⟩), .pointer (some ⟨h2, 0, none⟩)]) B2.out rfl rfl rfl rfl rfl size_two rfl rfl ?_; intro w5 nb m; have N2 := Lib.hid nb; have N1 := Lib.hid (B14.out.one m NE.out); have c0 := nb.cell 0; have k1 := N1.out.cell 1; have k2 := N1.out.cell 2; have k3 := N1.out.cell 3; have k4 := N1.out.cell 4; have k5 := N1.out.cell 5; have D3 := Lib.hid (D2.out.other m (fun k h e => HG2.out k h e) (fun k e => by obtain rfl : k = g2 := e; exact HN2.out)); simp only [List.getElem?_toArray, List.getElem?_cons_zero, List.getElem?_cons_succ] at c0 k1 k2 k3 k4 k5; clear nb m)
    | (go_at_call 18; (first
        | (have this := Lib.hid P8; (with_reducible refine (T2.out _ _ _ D8.out.one).mono ?_); rintro e w9 ⟨rfl, hb⟩; have D9 := Lib.hid (D8.out.below hb); have P9 := Lib.hid (P8.out.below hb); clear hb this m0 m1 m2 m3 m4 m5)
        | ((with_reducible refine (T1.out _ _ _ D3.out.one).mono ?_); rintro e w6 ⟨rfl, hb⟩; have D6 := Lib.hid (D3.out.below hb); have N26 := Lib.hid (N2.out.below hb); have N16 := Lib.hid (N1.out.below hb); clear hb c0 k1 k2 k3 k4 k5)))
    | ((with_reducible refine Step.gate_alloc (t := 47) rfl ?_); refine Step.freshAlloc rfl rfl (alloc_agg zero_place) ?_; (first
        | (have this := Lib.hid P9; intro g13 w10 b hg hb; have Q10 := Lib.hid b; have D10 := Lib.hid (D9.out.below hb); have P10 := Lib.hid (P9.out.below hb); have HG13 := Lib.hid (show ∀ k, F1 k ∨ F2 k → k ≠ g13 from fun k h e => by subst e; have := D9.out.bound k h; omega); have HN13 := Lib.hid (show w1.heap.size ≤ g13 from by have := D9.out.mod.size; omega); have NE13 := Lib.hid (show g12 ≠ g13 from by have := P9.out.lt; omega); clear b hg hb this)
        | (intro g12 w7 b hg hb; have P7 := Lib.hid b; have D7 := Lib.hid (D6.out.below hb); have N27 := Lib.hid (N26.out.below hb); have N17 := Lib.hid (N16.out.below hb); have HG12 := Lib.hid (show ∀ k, F1 k ∨ F2 k → k ≠ g12 from fun k h e => by subst e; have := D6.out.bound k h; omega); have HN12 := Lib.hid (show w1.heap.size ≤ g12 from by have := D6.out.mod.size; omega); have NE12 := Lib.hid (show g1 ≠ g12 ∧ g2 ≠ g12 from by have := N16.out.lt; have := N26.out.lt; omega); clear b hg hb)))
    | ((with_reducible refine Step.gate_store (t := 47) rfl ?_); (first
        | (have this := Lib.hid Q10; refine Step.storeAll (vs := #[.int .u64 (0), .int .u64 (0), .int .i64 (1), .bool false]) Q10.out rfl rfl rfl rfl rfl size_place rfl rfl ?_; intro w11 nb m; have D11 := Lib.hid (D10.out.other m (fun k h e => HG13.out k h e) (fun k e => by obtain rfl : k = g13 := e; exact HN13.out)); have PP := P10.out.one m NE13.out; have p0 := PP.cell 0; have p1 := PP.cell 1; have p2 := PP.cell 2; have p3 := PP.cell 3; have r0 := nb.cell 0; have r1 := nb.cell 1; have r2 := nb.cell 2; have r3 := nb.cell 3; simp only [List.getElem?_toArray, List.getElem?_cons_zero, List.getElem?_cons_succ] at p0 p1 p2 p3 r0 r1 r2 r3; clear nb m this PP)
        | (refine Step.storeAll (vs := #[.int .u64 (0), .int .u64 (0), .int .i64 (1), .bool false]) P7.out rfl rfl rfl rfl rfl size_place rfl rfl ?_; intro w8 nb m; have P8 := Lib.hid nb; have D8 := Lib.hid (D7.out.other m (fun k h e => HG12.out k h e) (fun k e => by obtain rfl : k = g12 := e; exact HN12.out)); have m0 := (N27.out.one m NE12.out.2).cell 0; have m1 := (N17.out.one m NE12.out.1).cell 1; have m2 := (N17.out.one m NE12.out.1).cell 2; have m3 := (N17.out.one m NE12.out.1).cell 3; have m4 := (N17.out.one m NE12.out.1).cell 4; have m5 := (N17.out.one m NE12.out.1).cell 5; simp only [List.getElem?_toArray, List.getElem?_cons_zero, List.getElem?_cons_succ] at m0 m1 m2 m3 m4 m5; clear nb m)))
    | (go_at_call 13; refine (AW.out _).mono ?_; rintro e w15 ⟨rfl, hb⟩; have D15 := Lib.hid (D11.out.below hb); clear hb))
  go_ret
  exact ⟨rfl, HB1.out.trans (D15.out.out.mono HB1.out.size)⟩

set_option maxHeartbeats 8000000 in
theorem offs_b (A : Option Addr) (len cap : Nat) (f : Nat → Int × Int) (satp root : Int) (user sum mxr : Bool) (va off a : Int) (W : World) (r : RdC W A len f (· < W.heap.size)) (hl : len ≤ 9223372036854775807) (hs : U64 satp) (hr : U64 root) (hv : U64 va) (hx : U64 off) (g q : Int) (hq : q ≠ 0)
    (e1 : translate 0 8 (cm 8 f len) satp root user sum mxr (va / 4096 * 4096) a = ⟨0, g, q, true⟩) (e2 : translate 0 8 (cm 8 f len) satp root user sum mxr (va / 4096 * 4096 + off.tmod 4096) a = ⟨0, g, q, true⟩) :
    Calls Try.prog 6 #[.agg (caseV A len cap satp root user sum mxr), .int .u64 va, .int .u64 off, .int .i64 a] W fun e w' => e = .returned (.bool true) ∧ Below W.heap.size W w' := by
  have R := Lib.hid r
  have HL := Lib.hid hl
  have om : 0 ≤ off.tmod 4096 ∧ off.tmod 4096 < 4096 := by rw [Int.tmod_eq_emod_of_nonneg hx.1]; omega
  have x1 : U64 (va / 4096 * 4096) := by have := hv.1; have := hv.2; exact ⟨by omega, by omega⟩
  have x2 : U64 (va / 4096 * 4096 + off.tmod 4096) := by have := hv.1; have := hv.2; exact ⟨by omega, by omega⟩
  have T1 := Lib.hid (fun (W : World) (h : Nat) (F : Nat → Prop) (r : Ram W h 0 8 (cm 8 f len) F) => translate_is r satp root (va / 4096 * 4096) a user sum mxr hs hr x1 e1)
  have T2 := Lib.hid (fun (W : World) (h : Nat) (F : Nat → Prop) (r : Ram W h 0 8 (cm 8 f len) F) => translate_is r satp root (va / 4096 * 4096 + off.tmod 4096) a user sum mxr hs hr x2 e2)
  have t0 : va.tdiv 4096 = va / 4096 := Int.tdiv_eq_ediv_of_nonneg hv.1
  have v0 : IntKind.u64.wrap (va / 4096) = va / 4096 := IntWalk.u64_in _ (by have := hv.1; have := hv.2; omega)
  have v1 : IntKind.u64.wrap (va / 4096 * 4096) = va / 4096 * 4096 := IntWalk.u64_in _ (by have := x1.1; have := x1.2; omega)
  have v2 : IntKind.u64.wrap (va / 4096 * 4096 + off.tmod 4096) = va / 4096 * 4096 + off.tmod 4096 := IntWalk.u64_in _ (by have := x2.1; have := x2.2; omega)
  have dq : (q != 0) = true := by simpa using hq
  have AW := Lib.hid awake_any
  have hu := Try.underlying31
  have hu2 := Try.underlying27
  have hu3 := Try.underlying25
  have hu4 := Try.underlying47
  clear r hl hs hr hv hx e1 e2 x1 x2 om hq
  simp only at T1 T2
  unfold caseV
  go_enter Try.func6, Try.ntmps6
  go_wp2_with (first
    | ((with_reducible refine Step.gate_box (t := 27) rfl ?_); refine Step.fresh (cs := #[.slice A len cap, .int .u64 satp, .int .u64 root, .bool user, .bool sum, .bool mxr]) (T := 27) rfl ?hr ?_; (case hr => first | (go_simp; done) | (go_simp; rfl)); intro g1 w1 b hg hb; have B1 := Lib.hid b; have HB1 := Lib.hid hb; clear b hg hb)
    | ((with_reducible refine Step.gate_load (t := 27) rfl ?_); refine Step.loadAll B1.out rfl rfl rfl hu2 rfl size_case ?_)
    | (go_at_call 11; refine (case_any _ A len cap f satp root user sum mxr ((R.out.mod (Mod.of_below HB1.out Nil) (fun k hk h => h) (fun k hk => hk)).wide (fun k hk => Nat.lt_of_lt_of_le hk HB1.out.size)) HL.out).mono ?_; rintro e w3 ⟨h1, h2, F1, F2, rfl, d⟩; have D := Lib.hid d; have B13 := Lib.hid (B1.out.mod d.mod (fun h => h)); clear d)
    | ((with_reducible refine Step.gate_alloc (t := 31) rfl ?_); refine Step.freshAlloc rfl rfl (alloc_agg zero_two) ?_; intro g2 w4 b hg hb; have B2 := Lib.hid b; have D2 := Lib.hid (D.out.below hb); have B14 := Lib.hid (B13.out.below hb); have HG2 := Lib.hid (show ∀ k, F1 k ∨ F2 k → k ≠ g2 from fun k h e => by subst e; have := D.out.bound k h; omega); have HN2 := Lib.hid (show w1.heap.size ≤ g2 from Nat.le_trans D.out.mod.size hg); have NE := Lib.hid (show g1 ≠ g2 from by have := B13.out.lt; omega); clear b hg hb)
    | ((with_reducible refine Step.gate_store (t := 31) rfl ?_); refine Step.storeAll (vs := #[.pointer (some ⟨h1, 0, none⟩), .pointer (some ⟨h2, 0, none⟩)]) B2.out rfl rfl rfl rfl rfl size_two rfl rfl ?_; intro w5 nb m; have N2 := Lib.hid nb; have N1 := Lib.hid (B14.out.one m NE.out); have c0 := nb.cell 0; have k1 := N1.out.cell 1; have k2 := N1.out.cell 2; have k3 := N1.out.cell 3; have k4 := N1.out.cell 4; have k5 := N1.out.cell 5; have D3 := Lib.hid (D2.out.other m (fun k h e => HG2.out k h e) (fun k e => by obtain rfl : k = g2 := e; exact HN2.out)); simp only [List.getElem?_toArray, List.getElem?_cons_zero, List.getElem?_cons_succ] at c0 k1 k2 k3 k4 k5; clear nb m)
    | (go_at_call 18; (first
        | (have this := Lib.hid P8; (with_reducible refine (T2.out _ _ _ D8.out.one).mono ?_); rintro e w9 ⟨rfl, hb⟩; have D9 := Lib.hid (D8.out.below hb); have P9 := Lib.hid (P8.out.below hb); clear hb this m0 m1 m2 m3 m4 m5)
        | ((with_reducible refine (T1.out _ _ _ D3.out.one).mono ?_); rintro e w6 ⟨rfl, hb⟩; have D6 := Lib.hid (D3.out.below hb); have N26 := Lib.hid (N2.out.below hb); have N16 := Lib.hid (N1.out.below hb); clear hb c0 k1 k2 k3 k4 k5)))
    | ((with_reducible refine Step.gate_alloc (t := 47) rfl ?_); refine Step.freshAlloc rfl rfl (alloc_agg zero_place) ?_; (first
        | (have this := Lib.hid P9; intro g13 w10 b hg hb; have Q10 := Lib.hid b; have D10 := Lib.hid (D9.out.below hb); have P10 := Lib.hid (P9.out.below hb); have HG13 := Lib.hid (show ∀ k, F1 k ∨ F2 k → k ≠ g13 from fun k h e => by subst e; have := D9.out.bound k h; omega); have HN13 := Lib.hid (show w1.heap.size ≤ g13 from by have := D9.out.mod.size; omega); have NE13 := Lib.hid (show g12 ≠ g13 from by have := P9.out.lt; omega); clear b hg hb this)
        | (intro g12 w7 b hg hb; have P7 := Lib.hid b; have D7 := Lib.hid (D6.out.below hb); have N27 := Lib.hid (N26.out.below hb); have N17 := Lib.hid (N16.out.below hb); have HG12 := Lib.hid (show ∀ k, F1 k ∨ F2 k → k ≠ g12 from fun k h e => by subst e; have := D6.out.bound k h; omega); have HN12 := Lib.hid (show w1.heap.size ≤ g12 from by have := D6.out.mod.size; omega); have NE12 := Lib.hid (show g1 ≠ g12 ∧ g2 ≠ g12 from by have := N16.out.lt; have := N26.out.lt; omega); clear b hg hb)))
    | ((with_reducible refine Step.gate_store (t := 47) rfl ?_); (first
        | (have this := Lib.hid Q10; refine Step.storeAll (vs := #[.int .u64 (0), .int .u64 (g), .int .i64 (q), .bool true]) Q10.out rfl rfl rfl rfl rfl size_place rfl rfl ?_; intro w11 nb m; have D11 := Lib.hid (D10.out.other m (fun k h e => HG13.out k h e) (fun k e => by obtain rfl : k = g13 := e; exact HN13.out)); have PP := P10.out.one m NE13.out; have p0 := PP.cell 0; have p1 := PP.cell 1; have p2 := PP.cell 2; have p3 := PP.cell 3; have r0 := nb.cell 0; have r1 := nb.cell 1; have r2 := nb.cell 2; have r3 := nb.cell 3; simp only [List.getElem?_toArray, List.getElem?_cons_zero, List.getElem?_cons_succ] at p0 p1 p2 p3 r0 r1 r2 r3; clear nb m this PP)
        | (refine Step.storeAll (vs := #[.int .u64 (0), .int .u64 (g), .int .i64 (q), .bool true]) P7.out rfl rfl rfl rfl rfl size_place rfl rfl ?_; intro w8 nb m; have P8 := Lib.hid nb; have D8 := Lib.hid (D7.out.other m (fun k h e => HG12.out k h e) (fun k e => by obtain rfl : k = g12 := e; exact HN12.out)); have m0 := (N27.out.one m NE12.out.2).cell 0; have m1 := (N17.out.one m NE12.out.1).cell 1; have m2 := (N17.out.one m NE12.out.1).cell 2; have m3 := (N17.out.one m NE12.out.1).cell 3; have m4 := (N17.out.one m NE12.out.1).cell 4; have m5 := (N17.out.one m NE12.out.1).cell 5; simp only [List.getElem?_toArray, List.getElem?_cons_zero, List.getElem?_cons_succ] at m0 m1 m2 m3 m4 m5; clear nb m)))
    | (go_at_call 13; refine (AW.out _).mono ?_; rintro e w15 ⟨rfl, hb⟩; have D15 := Lib.hid (D11.out.below hb); clear hb))
  go_ret
  exact ⟨rfl, HB1.out.trans (D15.out.out.mono HB1.out.size)⟩

set_option maxHeartbeats 8000000 in
theorem offs_s (A : Option Addr) (len cap : Nat) (f : Nat → Int × Int) (satp root : Int) (user sum mxr : Bool) (va off a : Int) (W : World) (r : RdC W A len f (· < W.heap.size)) (hl : len ≤ 9223372036854775807) (hs : U64 satp) (hr : U64 root) (hv : U64 va) (hx : U64 off) (g q : Int) (hq : q ≠ 0) (hq1 : q ≠ 1) (hg : U64 g) (hgm : g % 4096 = 0)
    (e1 : translate 0 8 (cm 8 f len) satp root user sum mxr (va / 4096 * 4096) a = ⟨0, g, q, false⟩) (e2 : translate 0 8 (cm 8 f len) satp root user sum mxr (va / 4096 * 4096 + off.tmod 4096) a = ⟨0, g + off.tmod 4096, q, false⟩) :
    Calls Try.prog 6 #[.agg (caseV A len cap satp root user sum mxr), .int .u64 va, .int .u64 off, .int .i64 a] W fun e w' => e = .returned (.bool true) ∧ Below W.heap.size W w' := by
  have R := Lib.hid r
  have HL := Lib.hid hl
  have om : 0 ≤ off.tmod 4096 ∧ off.tmod 4096 < 4096 := by rw [Int.tmod_eq_emod_of_nonneg hx.1]; omega
  have x1 : U64 (va / 4096 * 4096) := by have := hv.1; have := hv.2; exact ⟨by omega, by omega⟩
  have x2 : U64 (va / 4096 * 4096 + off.tmod 4096) := by have := hv.1; have := hv.2; exact ⟨by omega, by omega⟩
  have T1 := Lib.hid (fun (W : World) (h : Nat) (F : Nat → Prop) (r : Ram W h 0 8 (cm 8 f len) F) => translate_is r satp root (va / 4096 * 4096) a user sum mxr hs hr x1 e1)
  have T2 := Lib.hid (fun (W : World) (h : Nat) (F : Nat → Prop) (r : Ram W h 0 8 (cm 8 f len) F) => translate_is r satp root (va / 4096 * 4096 + off.tmod 4096) a user sum mxr hs hr x2 e2)
  have t0 : va.tdiv 4096 = va / 4096 := Int.tdiv_eq_ediv_of_nonneg hv.1
  have v0 : IntKind.u64.wrap (va / 4096) = va / 4096 := IntWalk.u64_in _ (by have := hv.1; have := hv.2; omega)
  have v1 : IntKind.u64.wrap (va / 4096 * 4096) = va / 4096 * 4096 := IntWalk.u64_in _ (by have := x1.1; have := x1.2; omega)
  have v2 : IntKind.u64.wrap (va / 4096 * 4096 + off.tmod 4096) = va / 4096 * 4096 + off.tmod 4096 := IntWalk.u64_in _ (by have := x2.1; have := x2.2; omega)
  have dq : (q != 0) = true := by simpa using hq
  have dq1 : (q == 1) = false := by simpa using hq1
  have dq2 : (q != 1) = true := by simpa using hq1
  have wg : IntKind.u64.wrap (g + off.tmod 4096) = g + off.tmod 4096 := IntWalk.u64_in _ (by have := hg.1; have := hg.2; omega)
  have AW := Lib.hid awake_any
  have hu := Try.underlying31
  have hu2 := Try.underlying27
  have hu3 := Try.underlying25
  have hu4 := Try.underlying47
  clear r hl hs hr hv hx e1 e2 x1 x2 om hq hq1 hg hgm
  simp only at T1 T2
  unfold caseV
  go_enter Try.func6, Try.ntmps6
  go_wp2_with (first
    | ((with_reducible refine Step.gate_box (t := 27) rfl ?_); refine Step.fresh (cs := #[.slice A len cap, .int .u64 satp, .int .u64 root, .bool user, .bool sum, .bool mxr]) (T := 27) rfl ?hr ?_; (case hr => first | (go_simp; done) | (go_simp; rfl)); intro g1 w1 b hg hb; have B1 := Lib.hid b; have HB1 := Lib.hid hb; clear b hg hb)
    | ((with_reducible refine Step.gate_load (t := 27) rfl ?_); refine Step.loadAll B1.out rfl rfl rfl hu2 rfl size_case ?_)
    | (go_at_call 11; refine (case_any _ A len cap f satp root user sum mxr ((R.out.mod (Mod.of_below HB1.out Nil) (fun k hk h => h) (fun k hk => hk)).wide (fun k hk => Nat.lt_of_lt_of_le hk HB1.out.size)) HL.out).mono ?_; rintro e w3 ⟨h1, h2, F1, F2, rfl, d⟩; have D := Lib.hid d; have B13 := Lib.hid (B1.out.mod d.mod (fun h => h)); clear d)
    | ((with_reducible refine Step.gate_alloc (t := 31) rfl ?_); refine Step.freshAlloc rfl rfl (alloc_agg zero_two) ?_; intro g2 w4 b hg hb; have B2 := Lib.hid b; have D2 := Lib.hid (D.out.below hb); have B14 := Lib.hid (B13.out.below hb); have HG2 := Lib.hid (show ∀ k, F1 k ∨ F2 k → k ≠ g2 from fun k h e => by subst e; have := D.out.bound k h; omega); have HN2 := Lib.hid (show w1.heap.size ≤ g2 from Nat.le_trans D.out.mod.size hg); have NE := Lib.hid (show g1 ≠ g2 from by have := B13.out.lt; omega); clear b hg hb)
    | ((with_reducible refine Step.gate_store (t := 31) rfl ?_); refine Step.storeAll (vs := #[.pointer (some ⟨h1, 0, none⟩), .pointer (some ⟨h2, 0, none⟩)]) B2.out rfl rfl rfl rfl rfl size_two rfl rfl ?_; intro w5 nb m; have N2 := Lib.hid nb; have N1 := Lib.hid (B14.out.one m NE.out); have c0 := nb.cell 0; have k1 := N1.out.cell 1; have k2 := N1.out.cell 2; have k3 := N1.out.cell 3; have k4 := N1.out.cell 4; have k5 := N1.out.cell 5; have D3 := Lib.hid (D2.out.other m (fun k h e => HG2.out k h e) (fun k e => by obtain rfl : k = g2 := e; exact HN2.out)); simp only [List.getElem?_toArray, List.getElem?_cons_zero, List.getElem?_cons_succ] at c0 k1 k2 k3 k4 k5; clear nb m)
    | (go_at_call 18; (first
        | (have this := Lib.hid P8; (with_reducible refine (T2.out _ _ _ D8.out.one).mono ?_); rintro e w9 ⟨rfl, hb⟩; have D9 := Lib.hid (D8.out.below hb); have P9 := Lib.hid (P8.out.below hb); clear hb this m0 m1 m2 m3 m4 m5)
        | ((with_reducible refine (T1.out _ _ _ D3.out.one).mono ?_); rintro e w6 ⟨rfl, hb⟩; have D6 := Lib.hid (D3.out.below hb); have N26 := Lib.hid (N2.out.below hb); have N16 := Lib.hid (N1.out.below hb); clear hb c0 k1 k2 k3 k4 k5)))
    | ((with_reducible refine Step.gate_alloc (t := 47) rfl ?_); refine Step.freshAlloc rfl rfl (alloc_agg zero_place) ?_; (first
        | (have this := Lib.hid P9; intro g13 w10 b hg hb; have Q10 := Lib.hid b; have D10 := Lib.hid (D9.out.below hb); have P10 := Lib.hid (P9.out.below hb); have HG13 := Lib.hid (show ∀ k, F1 k ∨ F2 k → k ≠ g13 from fun k h e => by subst e; have := D9.out.bound k h; omega); have HN13 := Lib.hid (show w1.heap.size ≤ g13 from by have := D9.out.mod.size; omega); have NE13 := Lib.hid (show g12 ≠ g13 from by have := P9.out.lt; omega); clear b hg hb this)
        | (intro g12 w7 b hg hb; have P7 := Lib.hid b; have D7 := Lib.hid (D6.out.below hb); have N27 := Lib.hid (N26.out.below hb); have N17 := Lib.hid (N16.out.below hb); have HG12 := Lib.hid (show ∀ k, F1 k ∨ F2 k → k ≠ g12 from fun k h e => by subst e; have := D6.out.bound k h; omega); have HN12 := Lib.hid (show w1.heap.size ≤ g12 from by have := D6.out.mod.size; omega); have NE12 := Lib.hid (show g1 ≠ g12 ∧ g2 ≠ g12 from by have := N16.out.lt; have := N26.out.lt; omega); clear b hg hb)))
    | ((with_reducible refine Step.gate_store (t := 47) rfl ?_); (first
        | (have this := Lib.hid Q10; refine Step.storeAll (vs := #[.int .u64 (0), .int .u64 (g + off.tmod 4096), .int .i64 (q), .bool false]) Q10.out rfl rfl rfl rfl rfl size_place rfl rfl ?_; intro w11 nb m; have D11 := Lib.hid (D10.out.other m (fun k h e => HG13.out k h e) (fun k e => by obtain rfl : k = g13 := e; exact HN13.out)); have PP := P10.out.one m NE13.out; have p0 := PP.cell 0; have p1 := PP.cell 1; have p2 := PP.cell 2; have p3 := PP.cell 3; have r0 := nb.cell 0; have r1 := nb.cell 1; have r2 := nb.cell 2; have r3 := nb.cell 3; simp only [List.getElem?_toArray, List.getElem?_cons_zero, List.getElem?_cons_succ] at p0 p1 p2 p3 r0 r1 r2 r3; clear nb m this PP)
        | (refine Step.storeAll (vs := #[.int .u64 (0), .int .u64 (g), .int .i64 (q), .bool false]) P7.out rfl rfl rfl rfl rfl size_place rfl rfl ?_; intro w8 nb m; have P8 := Lib.hid nb; have D8 := Lib.hid (D7.out.other m (fun k h e => HG12.out k h e) (fun k e => by obtain rfl : k = g12 := e; exact HN12.out)); have m0 := (N27.out.one m NE12.out.2).cell 0; have m1 := (N17.out.one m NE12.out.1).cell 1; have m2 := (N17.out.one m NE12.out.1).cell 2; have m3 := (N17.out.one m NE12.out.1).cell 3; have m4 := (N17.out.one m NE12.out.1).cell 4; have m5 := (N17.out.one m NE12.out.1).cell 5; simp only [List.getElem?_toArray, List.getElem?_cons_zero, List.getElem?_cons_succ] at m0 m1 m2 m3 m4 m5; clear nb m)))
    | (go_at_call 13; refine (AW.out _).mono ?_; rintro e w15 ⟨rfl, hb⟩; have D15 := Lib.hid (D11.out.below hb); clear hb))
  go_ret
  exact ⟨rfl, HB1.out.trans (D15.out.out.mono HB1.out.size)⟩

set_option maxHeartbeats 8000000 in
theorem offs_k (A : Option Addr) (len cap : Nat) (f : Nat → Int × Int) (satp root : Int) (user sum mxr : Bool) (va off a : Int) (W : World) (r : RdC W A len f (· < W.heap.size)) (hl : len ≤ 9223372036854775807) (hs : U64 satp) (hr : U64 root) (hv : U64 va) (hx : U64 off) (g p : Int) (hg : U64 g) (hgm : g % 4096 = 0) (hp : U64 p) (hpm : p % 4096 = 0)
    (e1 : translate 0 8 (cm 8 f len) satp root user sum mxr (va / 4096 * 4096) a = ⟨p, g, 0, false⟩) (e2 : translate 0 8 (cm 8 f len) satp root user sum mxr (va / 4096 * 4096 + off.tmod 4096) a = ⟨p + off.tmod 4096, g + off.tmod 4096, 0, false⟩) :
    Calls Try.prog 6 #[.agg (caseV A len cap satp root user sum mxr), .int .u64 va, .int .u64 off, .int .i64 a] W fun e w' => e = .returned (.bool true) ∧ Below W.heap.size W w' := by
  have R := Lib.hid r
  have HL := Lib.hid hl
  have om : 0 ≤ off.tmod 4096 ∧ off.tmod 4096 < 4096 := by rw [Int.tmod_eq_emod_of_nonneg hx.1]; omega
  have x1 : U64 (va / 4096 * 4096) := by have := hv.1; have := hv.2; exact ⟨by omega, by omega⟩
  have x2 : U64 (va / 4096 * 4096 + off.tmod 4096) := by have := hv.1; have := hv.2; exact ⟨by omega, by omega⟩
  have T1 := Lib.hid (fun (W : World) (h : Nat) (F : Nat → Prop) (r : Ram W h 0 8 (cm 8 f len) F) => translate_is r satp root (va / 4096 * 4096) a user sum mxr hs hr x1 e1)
  have T2 := Lib.hid (fun (W : World) (h : Nat) (F : Nat → Prop) (r : Ram W h 0 8 (cm 8 f len) F) => translate_is r satp root (va / 4096 * 4096 + off.tmod 4096) a user sum mxr hs hr x2 e2)
  have t0 : va.tdiv 4096 = va / 4096 := Int.tdiv_eq_ediv_of_nonneg hv.1
  have v0 : IntKind.u64.wrap (va / 4096) = va / 4096 := IntWalk.u64_in _ (by have := hv.1; have := hv.2; omega)
  have v1 : IntKind.u64.wrap (va / 4096 * 4096) = va / 4096 * 4096 := IntWalk.u64_in _ (by have := x1.1; have := x1.2; omega)
  have v2 : IntKind.u64.wrap (va / 4096 * 4096 + off.tmod 4096) = va / 4096 * 4096 + off.tmod 4096 := IntWalk.u64_in _ (by have := x2.1; have := x2.2; omega)
  have wg : IntKind.u64.wrap (g + off.tmod 4096) = g + off.tmod 4096 := IntWalk.u64_in _ (by have := hg.1; have := hg.2; omega)
  have wp : IntKind.u64.wrap (p + off.tmod 4096) = p + off.tmod 4096 := IntWalk.u64_in _ (by have := hp.1; have := hp.2; omega)
  have AW := Lib.hid awake_any
  have hu := Try.underlying31
  have hu2 := Try.underlying27
  have hu3 := Try.underlying25
  have hu4 := Try.underlying47
  clear r hl hs hr hv hx e1 e2 x1 x2 om hg hgm hp hpm
  simp only at T1 T2
  unfold caseV
  go_enter Try.func6, Try.ntmps6
  go_wp2_with (first
    | ((with_reducible refine Step.gate_box (t := 27) rfl ?_); refine Step.fresh (cs := #[.slice A len cap, .int .u64 satp, .int .u64 root, .bool user, .bool sum, .bool mxr]) (T := 27) rfl ?hr ?_; (case hr => first | (go_simp; done) | (go_simp; rfl)); intro g1 w1 b hg hb; have B1 := Lib.hid b; have HB1 := Lib.hid hb; clear b hg hb)
    | ((with_reducible refine Step.gate_load (t := 27) rfl ?_); refine Step.loadAll B1.out rfl rfl rfl hu2 rfl size_case ?_)
    | (go_at_call 11; refine (case_any _ A len cap f satp root user sum mxr ((R.out.mod (Mod.of_below HB1.out Nil) (fun k hk h => h) (fun k hk => hk)).wide (fun k hk => Nat.lt_of_lt_of_le hk HB1.out.size)) HL.out).mono ?_; rintro e w3 ⟨h1, h2, F1, F2, rfl, d⟩; have D := Lib.hid d; have B13 := Lib.hid (B1.out.mod d.mod (fun h => h)); clear d)
    | ((with_reducible refine Step.gate_alloc (t := 31) rfl ?_); refine Step.freshAlloc rfl rfl (alloc_agg zero_two) ?_; intro g2 w4 b hg hb; have B2 := Lib.hid b; have D2 := Lib.hid (D.out.below hb); have B14 := Lib.hid (B13.out.below hb); have HG2 := Lib.hid (show ∀ k, F1 k ∨ F2 k → k ≠ g2 from fun k h e => by subst e; have := D.out.bound k h; omega); have HN2 := Lib.hid (show w1.heap.size ≤ g2 from Nat.le_trans D.out.mod.size hg); have NE := Lib.hid (show g1 ≠ g2 from by have := B13.out.lt; omega); clear b hg hb)
    | ((with_reducible refine Step.gate_store (t := 31) rfl ?_); refine Step.storeAll (vs := #[.pointer (some ⟨h1, 0, none⟩), .pointer (some ⟨h2, 0, none⟩)]) B2.out rfl rfl rfl rfl rfl size_two rfl rfl ?_; intro w5 nb m; have N2 := Lib.hid nb; have N1 := Lib.hid (B14.out.one m NE.out); have c0 := nb.cell 0; have k1 := N1.out.cell 1; have k2 := N1.out.cell 2; have k3 := N1.out.cell 3; have k4 := N1.out.cell 4; have k5 := N1.out.cell 5; have D3 := Lib.hid (D2.out.other m (fun k h e => HG2.out k h e) (fun k e => by obtain rfl : k = g2 := e; exact HN2.out)); simp only [List.getElem?_toArray, List.getElem?_cons_zero, List.getElem?_cons_succ] at c0 k1 k2 k3 k4 k5; clear nb m)
    | (go_at_call 18; (first
        | (have this := Lib.hid P8; (with_reducible refine (T2.out _ _ _ D8.out.one).mono ?_); rintro e w9 ⟨rfl, hb⟩; have D9 := Lib.hid (D8.out.below hb); have P9 := Lib.hid (P8.out.below hb); clear hb this m0 m1 m2 m3 m4 m5)
        | ((with_reducible refine (T1.out _ _ _ D3.out.one).mono ?_); rintro e w6 ⟨rfl, hb⟩; have D6 := Lib.hid (D3.out.below hb); have N26 := Lib.hid (N2.out.below hb); have N16 := Lib.hid (N1.out.below hb); clear hb c0 k1 k2 k3 k4 k5)))
    | ((with_reducible refine Step.gate_alloc (t := 47) rfl ?_); refine Step.freshAlloc rfl rfl (alloc_agg zero_place) ?_; (first
        | (have this := Lib.hid P9; intro g13 w10 b hg hb; have Q10 := Lib.hid b; have D10 := Lib.hid (D9.out.below hb); have P10 := Lib.hid (P9.out.below hb); have HG13 := Lib.hid (show ∀ k, F1 k ∨ F2 k → k ≠ g13 from fun k h e => by subst e; have := D9.out.bound k h; omega); have HN13 := Lib.hid (show w1.heap.size ≤ g13 from by have := D9.out.mod.size; omega); have NE13 := Lib.hid (show g12 ≠ g13 from by have := P9.out.lt; omega); clear b hg hb this)
        | (intro g12 w7 b hg hb; have P7 := Lib.hid b; have D7 := Lib.hid (D6.out.below hb); have N27 := Lib.hid (N26.out.below hb); have N17 := Lib.hid (N16.out.below hb); have HG12 := Lib.hid (show ∀ k, F1 k ∨ F2 k → k ≠ g12 from fun k h e => by subst e; have := D6.out.bound k h; omega); have HN12 := Lib.hid (show w1.heap.size ≤ g12 from by have := D6.out.mod.size; omega); have NE12 := Lib.hid (show g1 ≠ g12 ∧ g2 ≠ g12 from by have := N16.out.lt; have := N26.out.lt; omega); clear b hg hb)))
    | ((with_reducible refine Step.gate_store (t := 47) rfl ?_); (first
        | (have this := Lib.hid Q10; refine Step.storeAll (vs := #[.int .u64 (p + off.tmod 4096), .int .u64 (g + off.tmod 4096), .int .i64 (0), .bool false]) Q10.out rfl rfl rfl rfl rfl size_place rfl rfl ?_; intro w11 nb m; have D11 := Lib.hid (D10.out.other m (fun k h e => HG13.out k h e) (fun k e => by obtain rfl : k = g13 := e; exact HN13.out)); have PP := P10.out.one m NE13.out; have p0 := PP.cell 0; have p1 := PP.cell 1; have p2 := PP.cell 2; have p3 := PP.cell 3; have r0 := nb.cell 0; have r1 := nb.cell 1; have r2 := nb.cell 2; have r3 := nb.cell 3; simp only [List.getElem?_toArray, List.getElem?_cons_zero, List.getElem?_cons_succ] at p0 p1 p2 p3 r0 r1 r2 r3; clear nb m this PP)
        | (refine Step.storeAll (vs := #[.int .u64 (p), .int .u64 (g), .int .i64 (0), .bool false]) P7.out rfl rfl rfl rfl rfl size_place rfl rfl ?_; intro w8 nb m; have P8 := Lib.hid nb; have D8 := Lib.hid (D7.out.other m (fun k h e => HG12.out k h e) (fun k e => by obtain rfl : k = g12 := e; exact HN12.out)); have m0 := (N27.out.one m NE12.out.2).cell 0; have m1 := (N17.out.one m NE12.out.1).cell 1; have m2 := (N17.out.one m NE12.out.1).cell 2; have m3 := (N17.out.one m NE12.out.1).cell 3; have m4 := (N17.out.one m NE12.out.1).cell 4; have m5 := (N17.out.one m NE12.out.1).cell 5; simp only [List.getElem?_toArray, List.getElem?_cons_zero, List.getElem?_cons_succ] at m0 m1 m2 m3 m4 m5; clear nb m)))
    | (go_at_call 13; refine (AW.out _).mono ?_; rintro e w15 ⟨rfl, hb⟩; have D15 := Lib.hid (D11.out.below hb); clear hb))
  go_ret
  exact ⟨rfl, HB1.out.trans (D15.out.out.mono HB1.out.size)⟩

theorem cm_byte (n : Nat) (f : Nat → Int × Int) : ∀ k i, 0 ≤ cm n f k i ∧ cm n f k i < 256
  | 0, i => ⟨Int.le_refl _, by show (0 : Int) < 256; decide⟩
  | k + 1, i => by
    show 0 ≤ wr (cm n f k) (8 * ((f k).1 % ((512 * n : Nat) : Int))).toNat 8 (f k).2 i ∧ wr (cm n f k) (8 * ((f k).1 % ((512 * n : Nat) : Int))).toNat 8 (f k).2 i < 256
    unfold wr
    split
    · omega
    · exact cm_byte n f k i
theorem offsets_any (A : Option Addr) (len cap : Nat) (f : Nat → Int × Int) (satp root : Int) (user sum mxr : Bool) (va off a : Int) (W : World) (r : RdC W A len f (· < W.heap.size)) (hl : len ≤ 9223372036854775807) (hs : U64 satp) (hr : U64 root) (w1 : (Lit.int .u64 va).wf = true) (w2 : (Lit.int .u64 off).wf = true) (w3 : (Lit.int .i64 a).wf = true) :
    Calls Try.prog 6 #[.agg (caseV A len cap satp root user sum mxr), .int .u64 va, .int .u64 off, .int .i64 a] W fun e w' => e = .returned (.bool true) ∧ Below W.heap.size W w' := by
  have hv := u64_wf w1
  have hx := u64_wf w2
  have om : 0 ≤ off.tmod 4096 ∧ off.tmod 4096 < 4096 := by rw [Int.tmod_eq_emod_of_nonneg hx.1]; omega
  rcases translate_off (cm 8 f len) (fun i _ => cm_byte 8 f len i) satp root a user sum mxr (x := va / 4096 * 4096) (o := off.tmod 4096) (by have := hv.1; have := hv.2; exact ⟨by omega, by omega⟩) (by omega) om with ⟨g, q, t, hq, e1, e2, h⟩ | ⟨g, q, hq, hq1, hg, hgm, e1, e2⟩ | ⟨g, p, hg, hgm, hp, hpm, e1, e2⟩
  · rcases h with rfl | ⟨rfl, rfl, rfl⟩
    · exact offs_b A len cap f satp root user sum mxr va off a W r hl hs hr hv hx g q hq e1 e2
    · exact offs_p A len cap f satp root user sum mxr va off a W r hl hs hr hv hx e1 e2
  · exact offs_s A len cap f satp root user sum mxr va off a W r hl hs hr hv hx g q hq hq1 hg hgm e1 e2
  · exact offs_k A len cap f satp root user sum mxr va off a W r hl hs hr hv hx g p hg hgm hp hpm e1 e2
end Go.Proofs.Ytfoocpcpljlndaa.Duo
