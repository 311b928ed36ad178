/- The walk of PageRights (written by genrights.py). -/
import Derived.Test.YtfoocpcpljlndaaAwakeB
import Derived.Test.YtfoocpcpljlndaaNumW
import Derived.Test.YtfoocpcpljlndaaTranslate
import Derived.Deep.Cut
namespace Go.Proofs.Ytfoocpcpljlndaa.Duo
open Go Go.RowKit Go.Proofs.Ytfoocpcpljlndaa.Step Go.Proofs.Ytfoocpcpljlndaa.Mem Go.Proofs.Ytfoocpcpljlndaa.Tab
set_option linter.unusedVariables false
set_option linter.unusedSimpArgs false
set_option maxRecDepth 100000

def rf (b : Int) : Nat → Int × Int := fun j => if j = 0 then (512, 2049) else if j = 1 then (1024, 3073) else (1541, 7168 + b)
/-- Is a leaf one; what lets an access, as the law says it. -/
def validB (b : Int) : Bool := (bt b 0 && (!bt b 2 || bt b 1)) && (bt b 1 || bt b 3)
def baseB (mxr : Bool) (b how : Int) : Bool := if how = 1 then bt b 3 else if how = 2 then bt b 1 || (mxr && bt b 3) else if how = 3 then bt b 2 && bt b 7 else false
def letB (user sum mxr : Bool) (b how : Int) : Bool := if user = true then baseB mxr b how && bt b 4 else if bt b 4 = true then (baseB mxr b how && !decide (how = 1)) && sum else baseB mxr b how
def rightsP (user sum mxr : Bool) (b how : Int) : Tab.Place := if (validB b && letB user sum mxr b how && bt b 6) = true then ⟨28963, 28963, 0, false⟩ else ⟨0, 0, 1, false⟩
theorem virt_cell {mem : Nat → Int} {t i : Int} (ht : 0 ≤ t ∧ t < 8) (hi : 0 ≤ i ∧ i < 512) : virt 0 8 mem 0 t i = (num mem (t * 4096 + 8 * i).toNat 8, 0) := by
  have h : hasB 0 8 (t * 4096 + 8 * i) 8 = true := decide_eq_true (by omega)
  have g : guest 0 8 mem 0 (t * 4096 + 8 * i) 2 = (t * 4096 + 8 * i, 14, 0) := if_pos rfl
  unfold virt
  rw [g, if_neg (fun h => h rfl), if_pos h, Int.sub_zero]
theorem bt_r {b : Int} (h : 0 ≤ b ∧ b < 256) (i : Nat) : bt (7168 + b) i = bt b i := by
  unfold bt lo
  rw [show (7168 + b).toNat % 256 = b.toNat % 256 by omega]
theorem rights_tr (user sum mxr : Bool) {b how : Int} (h : 0 ≤ b ∧ b < 256) : translate 0 8 (cm 8 (rf b) 3) 9223372036854775809 0 user sum mxr 20771 how = rightsP user sum mxr b how := by
  have m1 : cm 8 (rf b) 1 = wr (fun _ => 0) (8 * 512) 8 2049 := at_cell (f := rf b) (k := 0) (j := 512) rfl rfl (by decide)
  have m2 : cm 8 (rf b) 2 = wr (cm 8 (rf b) 1) (8 * 1024) 8 3073 := at_cell (f := rf b) (k := 1) (j := 1024) rfl rfl (by decide)
  have m3 : cm 8 (rf b) 3 = wr (cm 8 (rf b) 2) (8 * 1541) 8 (7168 + b) := at_cell (f := rf b) (k := 2) (j := 1541) rfl rfl (by decide)
  have p1 : virt 0 8 (cm 8 (rf b) 3) 0 1 (ix 20771 2) = (2049, 0) := by
    rw [show ix 20771 2 = 0 from rfl, virt_cell (by decide) (by decide), show ((1 : Int) * 4096 + 8 * 0).toNat = 8 * 512 from rfl, m3, num_far (by decide), m2, num_far (by decide), m1, num_same ⟨by decide, by decide⟩]
  have p2 : virt 0 8 (cm 8 (rf b) 3) 0 2 (ix 20771 1) = (3073, 0) := by
    rw [show ix 20771 1 = 0 from rfl, virt_cell (by decide) (by decide), show ((2 : Int) * 4096 + 8 * 0).toNat = 8 * 1024 from rfl, m3, num_far (by decide), m2, num_same ⟨by decide, by decide⟩]
  have p3 : virt 0 8 (cm 8 (rf b) 3) 0 3 (ix 20771 0) = (7168 + b, 0) := by
    rw [show ix 20771 0 = 5 from rfl, virt_cell (by decide) (by decide), show ((3 : Int) * 4096 + 8 * 5).toNat = 8 * 1541 from rfl, m3, num_same ⟨by omega, by omega⟩]
  have hf : fst (virt 0 8 (cm 8 (rf b) 3) 0) 9223372036854775809 user sum mxr 20771 how = fstOf user sum mxr 20771 how (if wrongB (7168 + b) = true then .page else if ptr (7168 + b) = true then .page else .leaf (7168 + b) 0) := by
    unfold fst
    rw [if_neg (by decide), if_neg (by decide), if_neg (by decide), show (9223372036854775809 : Int) % 17592186044416 = 1 from rfl, down_step p1, if_neg (by decide), if_pos (by decide), show pn 2049 = 2 from rfl, down_step p2, if_neg (by decide), if_pos (by decide), show pn 3073 = 3 from rfl, down_step p3]
    have ho : odd (7168 + b) 0 = false := decide_eq_false (by omega)
    rw [if_neg (show ¬ odd (7168 + b) 0 = true by rw [ho]; decide)]
    rfl
  rw [translate_fst, hf]
  have hw : wrongB (7168 + b) = (!bt b 0 || (bt b 2 && !bt b 1) || false) := by unfold wrongB; rw [bt_r h, bt_r h, bt_r h, decide_eq_false (by omega)]
  have hp : ptr (7168 + b) = (!bt b 1 && !bt b 3) := by unfold ptr; rw [bt_r h, bt_r h]
  have hl : lets1 user sum mxr (7168 + b) how = (!((user && !bt b 4) || (!user && bt b 4 && (decide (how = 1) || !sum))) && bt b 6 && baseB mxr b how) := by unfold lets1 baseB; rw [bt_r h, bt_r h, bt_r h, bt_r h, bt_r h, bt_r h]
  have ha : at_ (7168 + b) 0 20771 = 28963 := by unfold at_ pn; show (7168 + b) / 1024 % 17592186044416 * 4096 + 20771 % 4096 = 28963; omega
  have hs : ∀ g, thenP 0 8 (cm 8 (rf b) 3) 0 how (.ok g) = ⟨g, g, 0, false⟩ := fun g => rfl
  have hg : thenP 0 8 (cm 8 (rf b) 3) 0 how .page = ⟨0, 0, 1, false⟩ := rfl
  have hlf : fstOf user sum mxr 20771 how (.leaf (7168 + b) 0) = if lets1 user sum mxr (7168 + b) how = true then .ok 28963 else .page := by rw [← ha]; rfl
  have hpg : fstOf user sum mxr 20771 how .page = .page := rfl
  rw [hw, hp]
  unfold rightsP validB letB
  generalize thenP 0 8 (cm 8 (rf b) 3) 0 how = tp at hs hg
  generalize decide (how = 1) = d1 at *
  generalize baseB mxr b how = ba at *
  generalize bt b 0 = b0 at *
  generalize bt b 1 = b1 at *
  generalize bt b 2 = b2 at *
  generalize bt b 3 = b3 at *
  generalize bt b 4 = b4 at *
  generalize bt b 6 = b6 at *
  clear hf p1 p2 p3 m1 m2 m3 ha
  cases b0 <;> cases b1 <;> cases b2 <;> cases b3 <;> first
    | (show tp (fstOf user sum mxr 20771 how .page) = _; rw [hpg, hg]; rfl)
    | (show tp (fstOf user sum mxr 20771 how (.leaf (7168 + b) 0)) = _; rw [hlf, hl]; cases user <;> cases sum <;> cases b4 <;> cases b6 <;> cases d1 <;> cases ba <;> first | exact hs _ | exact hg)
theorem translate_is {W : World} {h n : Nat} {base : Int} {mem : Nat → Int} {F : Nat → Prop} (r : Ram W h base n mem F) (satp root va a : Int) (user sum mxr : Bool) (hs : U64 satp) (hr : U64 root) (hv : U64 va) {p : Tab.Place} (e : translate base n mem satp root user sum mxr va a = p) :
    Calls Try.prog 18 #[.pointer (some ⟨h, 0, none⟩), .agg #[.int .u64 satp, .int .u64 root, .bool user, .bool sum, .bool mxr], .int .u64 va, .int .i64 a] W fun e W' => e = .returned (.agg #[.int .u64 p.pa, .int .u64 p.gpa, .int .i64 p.fault, .bool p.walk]) ∧ Below W.heap.size W W' :=
  e ▸ translate_any r satp root va a user sum mxr hs hr hv
theorem cells_r (b : Int) (h : 0 ≤ b ∧ b < 256) : ∀ j, j < 3 → (#[.int .i64 512, .int .u64 2049, .int .i64 1024, .int .u64 3073, .int .i64 1541, .int .u64 (7168 + b)] : Array Value)[j * 2]? = some (.int .i64 (rf b j).1) ∧ (#[.int .i64 512, .int .u64 2049, .int .i64 1024, .int .u64 3073, .int .i64 1541, .int .u64 (7168 + b)] : Array Value)[j * 2 + 1]? = some (.int .u64 (rf b j).2) ∧ (-9223372036854775808 ≤ (rf b j).1 ∧ (rf b j).1 < 9223372036854775808) ∧ (0 ≤ (rf b j).2 ∧ (rf b j).2 < 18446744073709551616) := by
  intro j hj
  obtain e | e | e : j = 0 ∨ j = 1 ∨ j = 2 := by omega
  · subst e; exact ⟨rfl, rfl, by show (-9223372036854775808 : Int) ≤ 512 ∧ (512 : Int) < 9223372036854775808; decide, by show (0 : Int) ≤ 2049 ∧ (2049 : Int) < 18446744073709551616; decide⟩
  · subst e; exact ⟨rfl, rfl, by show (-9223372036854775808 : Int) ≤ 1024 ∧ (1024 : Int) < 9223372036854775808; decide, by show (0 : Int) ≤ 3073 ∧ (3073 : Int) < 18446744073709551616; decide⟩
  · subst e; exact ⟨rfl, rfl, by show (-9223372036854775808 : Int) ≤ 1541 ∧ (1541 : Int) < 9223372036854775808; decide, by show (0 : Int) ≤ 7168 + b ∧ 7168 + b < 18446744073709551616; omega⟩

set_option maxHeartbeats 16000000 in
theorem rights_1 (bits0 access b : Int) (user sum mxr : Bool) (W : World) (hb0 : -9223372036854775808 ≤ bits0 ∧ bits0 < 9223372036854775808) (ha0 : -9223372036854775808 ≤ access ∧ access < 9223372036854775808) (eb : bits0 % 256 = b) (ea : access % 3 = 0) :
    Calls Try.prog 9 #[.int .i64 bits0, .bool user, .bool sum, .bool mxr, .int .i64 access] W fun e w' => e = .returned (.bool true) ∧ Below W.heap.size W w' := by
  have hb : 0 ≤ b ∧ b < 256 := by omega
  have bu : U64 b := ⟨by omega, by omega⟩
  have TP1 := Lib.hid (fun w => (place_any bits0 256 (by decide) hb0 (by decide) w).mono fun e w' h => (by rw [eb] at h; exact h : e = .returned (.int .i64 b) ∧ w = w'))
  have TP2 := Lib.hid (fun w => (place_any access 3 (by decide) ha0 (by decide) w).mono fun e w' h => (by rw [ea] at h; exact h : e = .returned (.int .i64 0) ∧ w = w'))
  have a1 : IntKind.u64.wrap b = b := IntWalk.u64_in _ (by omega)
  have a2 : bits .or .u64 7168 b = 7168 + b := or_add 10 ⟨by decide, by decide⟩ (by decide) (by show 0 ≤ b ∧ b < 1024; omega) (by omega)
  have CE := Lib.hid (cells_r b hb)
  have n1 := cn1 bu
  have n2 := cn2 bu
  have n4 := cn4 bu
  have n8 := cn8 bu
  have n16 := cn16 bu
  have n64 := cn64 bu
  have n128 := cn128 bu
  have e1 := ce1 bu
  have e2 := ce2 bu
  have e4 := ce4 bu
  have e8 := ce8 bu
  have e16 := ce16 bu
  have e64 := ce64 bu
  have e128 := ce128 bu
  obtain ⟨p, hp⟩ : ∃ p, rightsP user sum mxr b 1 = p := ⟨_, rfl⟩
  have TT := Lib.hid (fun (W : World) (h : Nat) (F : Nat → Prop) (r : Ram W h 0 8 (cm 8 (rf b) 3) F) => translate_is r 9223372036854775809 0 20771 1 user sum mxr ⟨by decide, by decide⟩ ⟨by decide, by decide⟩ ⟨by decide, by decide⟩ ((rights_tr user sum mxr hb).trans hp))
  have HP0 := Lib.hid hp
  clear hp
  obtain ⟨pa, gp, fa, wa⟩ := p
  have HP := Lib.hid (show rightsP user sum mxr b 1 = ⟨pa, gp, fa, wa⟩ from HP0.out)
  clear HP0
  simp only at TT
  have AW := Lib.hid awake_any
  have hu := Try.underlying31
  have hu2 := Try.underlying41
  have hu3 := Try.underlying25
  have hu4 := Try.underlying47
  clear hb0 ha0 eb ea hb bu
  go_enter Try.func9, Try.ntmps9
  go_upto_region 7 with (first
    | (go_at_call 14; (first
        | ((with_reducible refine (TP1.out _).mono ?_); rintro e w1 ⟨rfl, rfl⟩)
        | ((with_reducible refine (TP2.out _).mono ?_); rintro e w1 ⟨rfl, rfl⟩)))
    | ((with_reducible refine Step.gate_build (t := 22) rfl ?_); refine Step.freshSlice (cs := #[.int .i64 512, .int .u64 2049, .int .i64 1024, .int .u64 3073, .int .i64 1541, .int .u64 (7168 + b)]) (T := 41) (n := 3) (m := 3) rfl ?hr ?_; (case hr => first | (go_simp; done) | (go_simp; rfl)); intro g1 w1 b' hg hb; have RC := Lib.hid (rd_cells (n := 3) (c := 3) (f := rf b) b' CE.out); have HB1 := Lib.hid hb; clear b' hg hb)
    | (go_at_call 15; refine (memory_any _ 0 8 8 rfl (by omega) (by decide) (some ⟨g1, 0, none⟩) 3 3 (rf b) RC.out (by decide)).mono ?_; rintro e w3 ⟨h1, h2, F1, F2, rfl, d⟩; have D := Lib.hid d; clear d)
    | ((with_reducible refine Step.gate_alloc (t := 31) rfl ?_); refine Step.freshAlloc rfl rfl (alloc_agg zero_two) ?_; intro g2 w4 b' hg hb; have B2 := Lib.hid b'; have D2 := Lib.hid (D.out.below hb); have HG2 := Lib.hid (show ∀ k, F1 k ∨ F2 k → k ≠ g2 from fun k h e => by subst e; have := D.out.bound k h; omega); have HN2 := Lib.hid (show w1.heap.size ≤ g2 from Nat.le_trans D.out.mod.size hg); clear b' hg hb)
    | ((with_reducible refine Step.gate_store (t := 31) rfl ?_); refine Step.storeAll (vs := #[.pointer (some ⟨h1, 0, none⟩), .pointer (some ⟨h2, 0, none⟩)]) B2.out rfl rfl rfl rfl rfl size_two rfl rfl ?_; intro w5 nb m; have c0 := nb.cell 0; have D3 := Lib.hid (D2.out.other m (fun k h e => HG2.out k h e) (fun k e => by obtain rfl : k = g2 := e; exact HN2.out)); simp only [List.getElem?_toArray, List.getElem?_cons_zero] at c0; clear nb m)
    | (go_at_call 18; refine (TT.out _ _ _ D3.out.one).mono ?_; rintro e w6 ⟨rfl, hb⟩; have D6 := Lib.hid (D3.out.below hb); clear hb c0)
    | ((with_reducible refine Step.gate_alloc (t := 47) rfl ?_); refine Step.freshAlloc rfl rfl (alloc_agg zero_place) ?_; intro g15 w7 b' hg hb; have P7 := Lib.hid b'; have D7 := Lib.hid (D6.out.below hb); have HG15 := Lib.hid (show ∀ k, F1 k ∨ F2 k → k ≠ g15 from fun k h e => by subst e; have := D6.out.bound k h; omega); have HN15 := Lib.hid (show w1.heap.size ≤ g15 from Nat.le_trans D6.out.mod.size hg); clear b' hg hb)
    | ((with_reducible refine Step.gate_store (t := 47) rfl ?_); refine Step.storeAll (vs := #[.int .u64 pa, .int .u64 gp, .int .i64 fa, .bool wa]) P7.out rfl rfl rfl rfl rfl size_place rfl rfl ?_; intro w8 nb m; have P8 := Lib.hid nb; have D8 := Lib.hid (D7.out.other m (fun k h e => HG15.out k h e) (fun k e => by obtain rfl : k = g15 := e; exact HN15.out)); clear nb m))
  cases hV : bt b 0 with
  | true =>
    rw [hV] at n1 e1
    cases hW : bt b 2 with
    | true =>
      rw [hW] at n4 e4
      cases hR : bt b 1 with
      | true =>
        rw [hR] at n2 e2
        cases user with
        | true =>
          cases hX : bt b 3 with
          | true =>
            rw [hX] at n8 e8
            cases hU : bt b 4 with
            | true =>
              rw [hU] at n16 e16
              cases hA : bt b 6 with
              | true =>
                rw [hA] at n64 e64
                obtain ⟨r1, r2, r3, r4⟩ : pa = 28963 ∧ gp = 28963 ∧ fa = 0 ∧ wa = false := by
                  have hp := HP.out
                  simp [rightsP, validB, letB, baseB, hV, hW, hR, hX, hU, hA] at hp
                  obtain ⟨q1, q2, q3, q4⟩ := hp
                  exact ⟨q1.symm, q2.symm, q3.symm, q4⟩
                subst r1; subst r2; subst r3; subst r4
                clear HP
                try simp only [Bool.not_true, Bool.not_false] at e1 e2 e4 e8 e16 e64 e128
                go_wp2_with (first
                  | ((with_reducible refine Step.gate_load (t := 47) rfl ?_); refine Step.loadAll P8.out rfl rfl rfl hu4 rfl size_place ?_)
                  | (go_at_call 13; refine (AW.out _).mono ?_; rintro e w15 ⟨rfl, hb⟩; have D15 := Lib.hid (D8.out.below hb); clear hb))
                go_ret
                exact ⟨rfl, HB1.out.trans (D15.out.out.mono HB1.out.size)⟩
              | false =>
                rw [hA] at n64 e64
                obtain ⟨r1, r2, r3, r4⟩ : pa = 0 ∧ gp = 0 ∧ fa = 1 ∧ wa = false := by
                  have hp := HP.out
                  simp [rightsP, validB, letB, baseB, hV, hW, hR, hX, hU, hA] at hp
                  obtain ⟨q1, q2, q3, q4⟩ := hp
                  exact ⟨q1.symm, q2.symm, q3.symm, q4⟩
                subst r1; subst r2; subst r3; subst r4
                clear HP
                try simp only [Bool.not_true, Bool.not_false] at e1 e2 e4 e8 e16 e64 e128
                go_wp2_with (first
                  | ((with_reducible refine Step.gate_load (t := 47) rfl ?_); refine Step.loadAll P8.out rfl rfl rfl hu4 rfl size_place ?_)
                  | (go_at_call 13; refine (AW.out _).mono ?_; rintro e w15 ⟨rfl, hb⟩; have D15 := Lib.hid (D8.out.below hb); clear hb))
                go_ret
                exact ⟨rfl, HB1.out.trans (D15.out.out.mono HB1.out.size)⟩
            | false =>
              rw [hU] at n16 e16
              obtain ⟨r1, r2, r3, r4⟩ : pa = 0 ∧ gp = 0 ∧ fa = 1 ∧ wa = false := by
                have hp := HP.out
                simp [rightsP, validB, letB, baseB, hV, hW, hR, hX, hU] at hp
                obtain ⟨q1, q2, q3, q4⟩ := hp
                exact ⟨q1.symm, q2.symm, q3.symm, q4⟩
              subst r1; subst r2; subst r3; subst r4
              clear HP
              try simp only [Bool.not_true, Bool.not_false] at e1 e2 e4 e8 e16 e64 e128
              go_wp2_with (first
                | ((with_reducible refine Step.gate_load (t := 47) rfl ?_); refine Step.loadAll P8.out rfl rfl rfl hu4 rfl size_place ?_)
                | (go_at_call 13; refine (AW.out _).mono ?_; rintro e w15 ⟨rfl, hb⟩; have D15 := Lib.hid (D8.out.below hb); clear hb))
              go_ret
              exact ⟨rfl, HB1.out.trans (D15.out.out.mono HB1.out.size)⟩
          | false =>
            rw [hX] at n8 e8
            obtain ⟨r1, r2, r3, r4⟩ : pa = 0 ∧ gp = 0 ∧ fa = 1 ∧ wa = false := by
              have hp := HP.out
              simp [rightsP, validB, letB, baseB, hV, hW, hR, hX] at hp
              obtain ⟨q1, q2, q3, q4⟩ := hp
              exact ⟨q1.symm, q2.symm, q3.symm, q4⟩
            subst r1; subst r2; subst r3; subst r4
            clear HP
            try simp only [Bool.not_true, Bool.not_false] at e1 e2 e4 e8 e16 e64 e128
            go_wp2_with (first
              | ((with_reducible refine Step.gate_load (t := 47) rfl ?_); refine Step.loadAll P8.out rfl rfl rfl hu4 rfl size_place ?_)
              | (go_at_call 13; refine (AW.out _).mono ?_; rintro e w15 ⟨rfl, hb⟩; have D15 := Lib.hid (D8.out.below hb); clear hb))
            go_ret
            exact ⟨rfl, HB1.out.trans (D15.out.out.mono HB1.out.size)⟩
        | false =>
          cases hU : bt b 4 with
          | true =>
            rw [hU] at n16 e16
            cases hX : bt b 3 with
            | true =>
              rw [hX] at n8 e8
              obtain ⟨r1, r2, r3, r4⟩ : pa = 0 ∧ gp = 0 ∧ fa = 1 ∧ wa = false := by
                have hp := HP.out
                simp [rightsP, validB, letB, baseB, hV, hW, hR, hU, hX] at hp
                obtain ⟨q1, q2, q3, q4⟩ := hp
                exact ⟨q1.symm, q2.symm, q3.symm, q4⟩
              subst r1; subst r2; subst r3; subst r4
              clear HP
              try simp only [Bool.not_true, Bool.not_false] at e1 e2 e4 e8 e16 e64 e128
              go_wp2_with (first
                | ((with_reducible refine Step.gate_load (t := 47) rfl ?_); refine Step.loadAll P8.out rfl rfl rfl hu4 rfl size_place ?_)
                | (go_at_call 13; refine (AW.out _).mono ?_; rintro e w15 ⟨rfl, hb⟩; have D15 := Lib.hid (D8.out.below hb); clear hb))
              go_ret
              exact ⟨rfl, HB1.out.trans (D15.out.out.mono HB1.out.size)⟩
            | false =>
              rw [hX] at n8 e8
              obtain ⟨r1, r2, r3, r4⟩ : pa = 0 ∧ gp = 0 ∧ fa = 1 ∧ wa = false := by
                have hp := HP.out
                simp [rightsP, validB, letB, baseB, hV, hW, hR, hU, hX] at hp
                obtain ⟨q1, q2, q3, q4⟩ := hp
                exact ⟨q1.symm, q2.symm, q3.symm, q4⟩
              subst r1; subst r2; subst r3; subst r4
              clear HP
              try simp only [Bool.not_true, Bool.not_false] at e1 e2 e4 e8 e16 e64 e128
              go_wp2_with (first
                | ((with_reducible refine Step.gate_load (t := 47) rfl ?_); refine Step.loadAll P8.out rfl rfl rfl hu4 rfl size_place ?_)
                | (go_at_call 13; refine (AW.out _).mono ?_; rintro e w15 ⟨rfl, hb⟩; have D15 := Lib.hid (D8.out.below hb); clear hb))
              go_ret
              exact ⟨rfl, HB1.out.trans (D15.out.out.mono HB1.out.size)⟩
          | false =>
            rw [hU] at n16 e16
            cases hX : bt b 3 with
            | true =>
              rw [hX] at n8 e8
              cases hA : bt b 6 with
              | true =>
                rw [hA] at n64 e64
                obtain ⟨r1, r2, r3, r4⟩ : pa = 28963 ∧ gp = 28963 ∧ fa = 0 ∧ wa = false := by
                  have hp := HP.out
                  simp [rightsP, validB, letB, baseB, hV, hW, hR, hU, hX, hA] at hp
                  obtain ⟨q1, q2, q3, q4⟩ := hp
                  exact ⟨q1.symm, q2.symm, q3.symm, q4⟩
                subst r1; subst r2; subst r3; subst r4
                clear HP
                try simp only [Bool.not_true, Bool.not_false] at e1 e2 e4 e8 e16 e64 e128
                go_wp2_with (first
                  | ((with_reducible refine Step.gate_load (t := 47) rfl ?_); refine Step.loadAll P8.out rfl rfl rfl hu4 rfl size_place ?_)
                  | (go_at_call 13; refine (AW.out _).mono ?_; rintro e w15 ⟨rfl, hb⟩; have D15 := Lib.hid (D8.out.below hb); clear hb))
                go_ret
                exact ⟨rfl, HB1.out.trans (D15.out.out.mono HB1.out.size)⟩
              | false =>
                rw [hA] at n64 e64
                obtain ⟨r1, r2, r3, r4⟩ : pa = 0 ∧ gp = 0 ∧ fa = 1 ∧ wa = false := by
                  have hp := HP.out
                  simp [rightsP, validB, letB, baseB, hV, hW, hR, hU, hX, hA] at hp
                  obtain ⟨q1, q2, q3, q4⟩ := hp
                  exact ⟨q1.symm, q2.symm, q3.symm, q4⟩
                subst r1; subst r2; subst r3; subst r4
                clear HP
                try simp only [Bool.not_true, Bool.not_false] at e1 e2 e4 e8 e16 e64 e128
                go_wp2_with (first
                  | ((with_reducible refine Step.gate_load (t := 47) rfl ?_); refine Step.loadAll P8.out rfl rfl rfl hu4 rfl size_place ?_)
                  | (go_at_call 13; refine (AW.out _).mono ?_; rintro e w15 ⟨rfl, hb⟩; have D15 := Lib.hid (D8.out.below hb); clear hb))
                go_ret
                exact ⟨rfl, HB1.out.trans (D15.out.out.mono HB1.out.size)⟩
            | false =>
              rw [hX] at n8 e8
              obtain ⟨r1, r2, r3, r4⟩ : pa = 0 ∧ gp = 0 ∧ fa = 1 ∧ wa = false := by
                have hp := HP.out
                simp [rightsP, validB, letB, baseB, hV, hW, hR, hU, hX] at hp
                obtain ⟨q1, q2, q3, q4⟩ := hp
                exact ⟨q1.symm, q2.symm, q3.symm, q4⟩
              subst r1; subst r2; subst r3; subst r4
              clear HP
              try simp only [Bool.not_true, Bool.not_false] at e1 e2 e4 e8 e16 e64 e128
              go_wp2_with (first
                | ((with_reducible refine Step.gate_load (t := 47) rfl ?_); refine Step.loadAll P8.out rfl rfl rfl hu4 rfl size_place ?_)
                | (go_at_call 13; refine (AW.out _).mono ?_; rintro e w15 ⟨rfl, hb⟩; have D15 := Lib.hid (D8.out.below hb); clear hb))
              go_ret
              exact ⟨rfl, HB1.out.trans (D15.out.out.mono HB1.out.size)⟩
      | false =>
        rw [hR] at n2 e2
        cases user with
        | true =>
          cases hX : bt b 3 with
          | true =>
            rw [hX] at n8 e8
            obtain ⟨r1, r2, r3, r4⟩ : pa = 0 ∧ gp = 0 ∧ fa = 1 ∧ wa = false := by
              have hp := HP.out
              simp [rightsP, validB, letB, baseB, hV, hW, hR, hX] at hp
              obtain ⟨q1, q2, q3, q4⟩ := hp
              exact ⟨q1.symm, q2.symm, q3.symm, q4⟩
            subst r1; subst r2; subst r3; subst r4
            clear HP
            try simp only [Bool.not_true, Bool.not_false] at e1 e2 e4 e8 e16 e64 e128
            go_wp2_with (first
              | ((with_reducible refine Step.gate_load (t := 47) rfl ?_); refine Step.loadAll P8.out rfl rfl rfl hu4 rfl size_place ?_)
              | (go_at_call 13; refine (AW.out _).mono ?_; rintro e w15 ⟨rfl, hb⟩; have D15 := Lib.hid (D8.out.below hb); clear hb))
            go_ret
            exact ⟨rfl, HB1.out.trans (D15.out.out.mono HB1.out.size)⟩
          | false =>
            rw [hX] at n8 e8
            obtain ⟨r1, r2, r3, r4⟩ : pa = 0 ∧ gp = 0 ∧ fa = 1 ∧ wa = false := by
              have hp := HP.out
              simp [rightsP, validB, letB, baseB, hV, hW, hR, hX] at hp
              obtain ⟨q1, q2, q3, q4⟩ := hp
              exact ⟨q1.symm, q2.symm, q3.symm, q4⟩
            subst r1; subst r2; subst r3; subst r4
            clear HP
            try simp only [Bool.not_true, Bool.not_false] at e1 e2 e4 e8 e16 e64 e128
            go_wp2_with (first
              | ((with_reducible refine Step.gate_load (t := 47) rfl ?_); refine Step.loadAll P8.out rfl rfl rfl hu4 rfl size_place ?_)
              | (go_at_call 13; refine (AW.out _).mono ?_; rintro e w15 ⟨rfl, hb⟩; have D15 := Lib.hid (D8.out.below hb); clear hb))
            go_ret
            exact ⟨rfl, HB1.out.trans (D15.out.out.mono HB1.out.size)⟩
        | false =>
          cases hU : bt b 4 with
          | true =>
            rw [hU] at n16 e16
            cases hX : bt b 3 with
            | true =>
              rw [hX] at n8 e8
              obtain ⟨r1, r2, r3, r4⟩ : pa = 0 ∧ gp = 0 ∧ fa = 1 ∧ wa = false := by
                have hp := HP.out
                simp [rightsP, validB, letB, baseB, hV, hW, hR, hU, hX] at hp
                obtain ⟨q1, q2, q3, q4⟩ := hp
                exact ⟨q1.symm, q2.symm, q3.symm, q4⟩
              subst r1; subst r2; subst r3; subst r4
              clear HP
              try simp only [Bool.not_true, Bool.not_false] at e1 e2 e4 e8 e16 e64 e128
              go_wp2_with (first
                | ((with_reducible refine Step.gate_load (t := 47) rfl ?_); refine Step.loadAll P8.out rfl rfl rfl hu4 rfl size_place ?_)
                | (go_at_call 13; refine (AW.out _).mono ?_; rintro e w15 ⟨rfl, hb⟩; have D15 := Lib.hid (D8.out.below hb); clear hb))
              go_ret
              exact ⟨rfl, HB1.out.trans (D15.out.out.mono HB1.out.size)⟩
            | false =>
              rw [hX] at n8 e8
              obtain ⟨r1, r2, r3, r4⟩ : pa = 0 ∧ gp = 0 ∧ fa = 1 ∧ wa = false := by
                have hp := HP.out
                simp [rightsP, validB, letB, baseB, hV, hW, hR, hU, hX] at hp
                obtain ⟨q1, q2, q3, q4⟩ := hp
                exact ⟨q1.symm, q2.symm, q3.symm, q4⟩
              subst r1; subst r2; subst r3; subst r4
              clear HP
              try simp only [Bool.not_true, Bool.not_false] at e1 e2 e4 e8 e16 e64 e128
              go_wp2_with (first
                | ((with_reducible refine Step.gate_load (t := 47) rfl ?_); refine Step.loadAll P8.out rfl rfl rfl hu4 rfl size_place ?_)
                | (go_at_call 13; refine (AW.out _).mono ?_; rintro e w15 ⟨rfl, hb⟩; have D15 := Lib.hid (D8.out.below hb); clear hb))
              go_ret
              exact ⟨rfl, HB1.out.trans (D15.out.out.mono HB1.out.size)⟩
          | false =>
            rw [hU] at n16 e16
            obtain ⟨r1, r2, r3, r4⟩ : pa = 0 ∧ gp = 0 ∧ fa = 1 ∧ wa = false := by
              have hp := HP.out
              simp [rightsP, validB, letB, baseB, hV, hW, hR, hU] at hp
              obtain ⟨q1, q2, q3, q4⟩ := hp
              exact ⟨q1.symm, q2.symm, q3.symm, q4⟩
            subst r1; subst r2; subst r3; subst r4
            clear HP
            try simp only [Bool.not_true, Bool.not_false] at e1 e2 e4 e8 e16 e64 e128
            go_wp2_with (first
              | ((with_reducible refine Step.gate_load (t := 47) rfl ?_); refine Step.loadAll P8.out rfl rfl rfl hu4 rfl size_place ?_)
              | (go_at_call 13; refine (AW.out _).mono ?_; rintro e w15 ⟨rfl, hb⟩; have D15 := Lib.hid (D8.out.below hb); clear hb))
            go_ret
            exact ⟨rfl, HB1.out.trans (D15.out.out.mono HB1.out.size)⟩
    | false =>
      rw [hW] at n4 e4
      cases hR : bt b 1 with
      | true =>
        rw [hR] at n2 e2
        cases user with
        | true =>
          cases hX : bt b 3 with
          | true =>
            rw [hX] at n8 e8
            cases hU : bt b 4 with
            | true =>
              rw [hU] at n16 e16
              cases hA : bt b 6 with
              | true =>
                rw [hA] at n64 e64
                obtain ⟨r1, r2, r3, r4⟩ : pa = 28963 ∧ gp = 28963 ∧ fa = 0 ∧ wa = false := by
                  have hp := HP.out
                  simp [rightsP, validB, letB, baseB, hV, hW, hR, hX, hU, hA] at hp
                  obtain ⟨q1, q2, q3, q4⟩ := hp
                  exact ⟨q1.symm, q2.symm, q3.symm, q4⟩
                subst r1; subst r2; subst r3; subst r4
                clear HP
                try simp only [Bool.not_true, Bool.not_false] at e1 e2 e4 e8 e16 e64 e128
                go_wp2_with (first
                  | ((with_reducible refine Step.gate_load (t := 47) rfl ?_); refine Step.loadAll P8.out rfl rfl rfl hu4 rfl size_place ?_)
                  | (go_at_call 13; refine (AW.out _).mono ?_; rintro e w15 ⟨rfl, hb⟩; have D15 := Lib.hid (D8.out.below hb); clear hb))
                go_ret
                exact ⟨rfl, HB1.out.trans (D15.out.out.mono HB1.out.size)⟩
              | false =>
                rw [hA] at n64 e64
                obtain ⟨r1, r2, r3, r4⟩ : pa = 0 ∧ gp = 0 ∧ fa = 1 ∧ wa = false := by
                  have hp := HP.out
                  simp [rightsP, validB, letB, baseB, hV, hW, hR, hX, hU, hA] at hp
                  obtain ⟨q1, q2, q3, q4⟩ := hp
                  exact ⟨q1.symm, q2.symm, q3.symm, q4⟩
                subst r1; subst r2; subst r3; subst r4
                clear HP
                try simp only [Bool.not_true, Bool.not_false] at e1 e2 e4 e8 e16 e64 e128
                go_wp2_with (first
                  | ((with_reducible refine Step.gate_load (t := 47) rfl ?_); refine Step.loadAll P8.out rfl rfl rfl hu4 rfl size_place ?_)
                  | (go_at_call 13; refine (AW.out _).mono ?_; rintro e w15 ⟨rfl, hb⟩; have D15 := Lib.hid (D8.out.below hb); clear hb))
                go_ret
                exact ⟨rfl, HB1.out.trans (D15.out.out.mono HB1.out.size)⟩
            | false =>
              rw [hU] at n16 e16
              obtain ⟨r1, r2, r3, r4⟩ : pa = 0 ∧ gp = 0 ∧ fa = 1 ∧ wa = false := by
                have hp := HP.out
                simp [rightsP, validB, letB, baseB, hV, hW, hR, hX, hU] at hp
                obtain ⟨q1, q2, q3, q4⟩ := hp
                exact ⟨q1.symm, q2.symm, q3.symm, q4⟩
              subst r1; subst r2; subst r3; subst r4
              clear HP
              try simp only [Bool.not_true, Bool.not_false] at e1 e2 e4 e8 e16 e64 e128
              go_wp2_with (first
                | ((with_reducible refine Step.gate_load (t := 47) rfl ?_); refine Step.loadAll P8.out rfl rfl rfl hu4 rfl size_place ?_)
                | (go_at_call 13; refine (AW.out _).mono ?_; rintro e w15 ⟨rfl, hb⟩; have D15 := Lib.hid (D8.out.below hb); clear hb))
              go_ret
              exact ⟨rfl, HB1.out.trans (D15.out.out.mono HB1.out.size)⟩
          | false =>
            rw [hX] at n8 e8
            obtain ⟨r1, r2, r3, r4⟩ : pa = 0 ∧ gp = 0 ∧ fa = 1 ∧ wa = false := by
              have hp := HP.out
              simp [rightsP, validB, letB, baseB, hV, hW, hR, hX] at hp
              obtain ⟨q1, q2, q3, q4⟩ := hp
              exact ⟨q1.symm, q2.symm, q3.symm, q4⟩
            subst r1; subst r2; subst r3; subst r4
            clear HP
            try simp only [Bool.not_true, Bool.not_false] at e1 e2 e4 e8 e16 e64 e128
            go_wp2_with (first
              | ((with_reducible refine Step.gate_load (t := 47) rfl ?_); refine Step.loadAll P8.out rfl rfl rfl hu4 rfl size_place ?_)
              | (go_at_call 13; refine (AW.out _).mono ?_; rintro e w15 ⟨rfl, hb⟩; have D15 := Lib.hid (D8.out.below hb); clear hb))
            go_ret
            exact ⟨rfl, HB1.out.trans (D15.out.out.mono HB1.out.size)⟩
        | false =>
          cases hU : bt b 4 with
          | true =>
            rw [hU] at n16 e16
            cases hX : bt b 3 with
            | true =>
              rw [hX] at n8 e8
              obtain ⟨r1, r2, r3, r4⟩ : pa = 0 ∧ gp = 0 ∧ fa = 1 ∧ wa = false := by
                have hp := HP.out
                simp [rightsP, validB, letB, baseB, hV, hW, hR, hU, hX] at hp
                obtain ⟨q1, q2, q3, q4⟩ := hp
                exact ⟨q1.symm, q2.symm, q3.symm, q4⟩
              subst r1; subst r2; subst r3; subst r4
              clear HP
              try simp only [Bool.not_true, Bool.not_false] at e1 e2 e4 e8 e16 e64 e128
              go_wp2_with (first
                | ((with_reducible refine Step.gate_load (t := 47) rfl ?_); refine Step.loadAll P8.out rfl rfl rfl hu4 rfl size_place ?_)
                | (go_at_call 13; refine (AW.out _).mono ?_; rintro e w15 ⟨rfl, hb⟩; have D15 := Lib.hid (D8.out.below hb); clear hb))
              go_ret
              exact ⟨rfl, HB1.out.trans (D15.out.out.mono HB1.out.size)⟩
            | false =>
              rw [hX] at n8 e8
              obtain ⟨r1, r2, r3, r4⟩ : pa = 0 ∧ gp = 0 ∧ fa = 1 ∧ wa = false := by
                have hp := HP.out
                simp [rightsP, validB, letB, baseB, hV, hW, hR, hU, hX] at hp
                obtain ⟨q1, q2, q3, q4⟩ := hp
                exact ⟨q1.symm, q2.symm, q3.symm, q4⟩
              subst r1; subst r2; subst r3; subst r4
              clear HP
              try simp only [Bool.not_true, Bool.not_false] at e1 e2 e4 e8 e16 e64 e128
              go_wp2_with (first
                | ((with_reducible refine Step.gate_load (t := 47) rfl ?_); refine Step.loadAll P8.out rfl rfl rfl hu4 rfl size_place ?_)
                | (go_at_call 13; refine (AW.out _).mono ?_; rintro e w15 ⟨rfl, hb⟩; have D15 := Lib.hid (D8.out.below hb); clear hb))
              go_ret
              exact ⟨rfl, HB1.out.trans (D15.out.out.mono HB1.out.size)⟩
          | false =>
            rw [hU] at n16 e16
            cases hX : bt b 3 with
            | true =>
              rw [hX] at n8 e8
              cases hA : bt b 6 with
              | true =>
                rw [hA] at n64 e64
                obtain ⟨r1, r2, r3, r4⟩ : pa = 28963 ∧ gp = 28963 ∧ fa = 0 ∧ wa = false := by
                  have hp := HP.out
                  simp [rightsP, validB, letB, baseB, hV, hW, hR, hU, hX, hA] at hp
                  obtain ⟨q1, q2, q3, q4⟩ := hp
                  exact ⟨q1.symm, q2.symm, q3.symm, q4⟩
                subst r1; subst r2; subst r3; subst r4
                clear HP
                try simp only [Bool.not_true, Bool.not_false] at e1 e2 e4 e8 e16 e64 e128
                go_wp2_with (first
                  | ((with_reducible refine Step.gate_load (t := 47) rfl ?_); refine Step.loadAll P8.out rfl rfl rfl hu4 rfl size_place ?_)
                  | (go_at_call 13; refine (AW.out _).mono ?_; rintro e w15 ⟨rfl, hb⟩; have D15 := Lib.hid (D8.out.below hb); clear hb))
                go_ret
                exact ⟨rfl, HB1.out.trans (D15.out.out.mono HB1.out.size)⟩
              | false =>
                rw [hA] at n64 e64
                obtain ⟨r1, r2, r3, r4⟩ : pa = 0 ∧ gp = 0 ∧ fa = 1 ∧ wa = false := by
                  have hp := HP.out
                  simp [rightsP, validB, letB, baseB, hV, hW, hR, hU, hX, hA] at hp
                  obtain ⟨q1, q2, q3, q4⟩ := hp
                  exact ⟨q1.symm, q2.symm, q3.symm, q4⟩
                subst r1; subst r2; subst r3; subst r4
                clear HP
                try simp only [Bool.not_true, Bool.not_false] at e1 e2 e4 e8 e16 e64 e128
                go_wp2_with (first
                  | ((with_reducible refine Step.gate_load (t := 47) rfl ?_); refine Step.loadAll P8.out rfl rfl rfl hu4 rfl size_place ?_)
                  | (go_at_call 13; refine (AW.out _).mono ?_; rintro e w15 ⟨rfl, hb⟩; have D15 := Lib.hid (D8.out.below hb); clear hb))
                go_ret
                exact ⟨rfl, HB1.out.trans (D15.out.out.mono HB1.out.size)⟩
            | false =>
              rw [hX] at n8 e8
              obtain ⟨r1, r2, r3, r4⟩ : pa = 0 ∧ gp = 0 ∧ fa = 1 ∧ wa = false := by
                have hp := HP.out
                simp [rightsP, validB, letB, baseB, hV, hW, hR, hU, hX] at hp
                obtain ⟨q1, q2, q3, q4⟩ := hp
                exact ⟨q1.symm, q2.symm, q3.symm, q4⟩
              subst r1; subst r2; subst r3; subst r4
              clear HP
              try simp only [Bool.not_true, Bool.not_false] at e1 e2 e4 e8 e16 e64 e128
              go_wp2_with (first
                | ((with_reducible refine Step.gate_load (t := 47) rfl ?_); refine Step.loadAll P8.out rfl rfl rfl hu4 rfl size_place ?_)
                | (go_at_call 13; refine (AW.out _).mono ?_; rintro e w15 ⟨rfl, hb⟩; have D15 := Lib.hid (D8.out.below hb); clear hb))
              go_ret
              exact ⟨rfl, HB1.out.trans (D15.out.out.mono HB1.out.size)⟩
      | false =>
        rw [hR] at n2 e2
        cases user with
        | true =>
          cases hX : bt b 3 with
          | true =>
            rw [hX] at n8 e8
            cases hU : bt b 4 with
            | true =>
              rw [hU] at n16 e16
              cases hA : bt b 6 with
              | true =>
                rw [hA] at n64 e64
                obtain ⟨r1, r2, r3, r4⟩ : pa = 28963 ∧ gp = 28963 ∧ fa = 0 ∧ wa = false := by
                  have hp := HP.out
                  simp [rightsP, validB, letB, baseB, hV, hW, hR, hX, hU, hA] at hp
                  obtain ⟨q1, q2, q3, q4⟩ := hp
                  exact ⟨q1.symm, q2.symm, q3.symm, q4⟩
                subst r1; subst r2; subst r3; subst r4
                clear HP
                try simp only [Bool.not_true, Bool.not_false] at e1 e2 e4 e8 e16 e64 e128
                go_wp2_with (first
                  | ((with_reducible refine Step.gate_load (t := 47) rfl ?_); refine Step.loadAll P8.out rfl rfl rfl hu4 rfl size_place ?_)
                  | (go_at_call 13; refine (AW.out _).mono ?_; rintro e w15 ⟨rfl, hb⟩; have D15 := Lib.hid (D8.out.below hb); clear hb))
                go_ret
                exact ⟨rfl, HB1.out.trans (D15.out.out.mono HB1.out.size)⟩
              | false =>
                rw [hA] at n64 e64
                obtain ⟨r1, r2, r3, r4⟩ : pa = 0 ∧ gp = 0 ∧ fa = 1 ∧ wa = false := by
                  have hp := HP.out
                  simp [rightsP, validB, letB, baseB, hV, hW, hR, hX, hU, hA] at hp
                  obtain ⟨q1, q2, q3, q4⟩ := hp
                  exact ⟨q1.symm, q2.symm, q3.symm, q4⟩
                subst r1; subst r2; subst r3; subst r4
                clear HP
                try simp only [Bool.not_true, Bool.not_false] at e1 e2 e4 e8 e16 e64 e128
                go_wp2_with (first
                  | ((with_reducible refine Step.gate_load (t := 47) rfl ?_); refine Step.loadAll P8.out rfl rfl rfl hu4 rfl size_place ?_)
                  | (go_at_call 13; refine (AW.out _).mono ?_; rintro e w15 ⟨rfl, hb⟩; have D15 := Lib.hid (D8.out.below hb); clear hb))
                go_ret
                exact ⟨rfl, HB1.out.trans (D15.out.out.mono HB1.out.size)⟩
            | false =>
              rw [hU] at n16 e16
              obtain ⟨r1, r2, r3, r4⟩ : pa = 0 ∧ gp = 0 ∧ fa = 1 ∧ wa = false := by
                have hp := HP.out
                simp [rightsP, validB, letB, baseB, hV, hW, hR, hX, hU] at hp
                obtain ⟨q1, q2, q3, q4⟩ := hp
                exact ⟨q1.symm, q2.symm, q3.symm, q4⟩
              subst r1; subst r2; subst r3; subst r4
              clear HP
              try simp only [Bool.not_true, Bool.not_false] at e1 e2 e4 e8 e16 e64 e128
              go_wp2_with (first
                | ((with_reducible refine Step.gate_load (t := 47) rfl ?_); refine Step.loadAll P8.out rfl rfl rfl hu4 rfl size_place ?_)
                | (go_at_call 13; refine (AW.out _).mono ?_; rintro e w15 ⟨rfl, hb⟩; have D15 := Lib.hid (D8.out.below hb); clear hb))
              go_ret
              exact ⟨rfl, HB1.out.trans (D15.out.out.mono HB1.out.size)⟩
          | false =>
            rw [hX] at n8 e8
            obtain ⟨r1, r2, r3, r4⟩ : pa = 0 ∧ gp = 0 ∧ fa = 1 ∧ wa = false := by
              have hp := HP.out
              simp [rightsP, validB, letB, baseB, hV, hW, hR, hX] at hp
              obtain ⟨q1, q2, q3, q4⟩ := hp
              exact ⟨q1.symm, q2.symm, q3.symm, q4⟩
            subst r1; subst r2; subst r3; subst r4
            clear HP
            try simp only [Bool.not_true, Bool.not_false] at e1 e2 e4 e8 e16 e64 e128
            go_wp2_with (first
              | ((with_reducible refine Step.gate_load (t := 47) rfl ?_); refine Step.loadAll P8.out rfl rfl rfl hu4 rfl size_place ?_)
              | (go_at_call 13; refine (AW.out _).mono ?_; rintro e w15 ⟨rfl, hb⟩; have D15 := Lib.hid (D8.out.below hb); clear hb))
            go_ret
            exact ⟨rfl, HB1.out.trans (D15.out.out.mono HB1.out.size)⟩
        | false =>
          cases hU : bt b 4 with
          | true =>
            rw [hU] at n16 e16
            cases hX : bt b 3 with
            | true =>
              rw [hX] at n8 e8
              obtain ⟨r1, r2, r3, r4⟩ : pa = 0 ∧ gp = 0 ∧ fa = 1 ∧ wa = false := by
                have hp := HP.out
                simp [rightsP, validB, letB, baseB, hV, hW, hR, hU, hX] at hp
                obtain ⟨q1, q2, q3, q4⟩ := hp
                exact ⟨q1.symm, q2.symm, q3.symm, q4⟩
              subst r1; subst r2; subst r3; subst r4
              clear HP
              try simp only [Bool.not_true, Bool.not_false] at e1 e2 e4 e8 e16 e64 e128
              go_wp2_with (first
                | ((with_reducible refine Step.gate_load (t := 47) rfl ?_); refine Step.loadAll P8.out rfl rfl rfl hu4 rfl size_place ?_)
                | (go_at_call 13; refine (AW.out _).mono ?_; rintro e w15 ⟨rfl, hb⟩; have D15 := Lib.hid (D8.out.below hb); clear hb))
              go_ret
              exact ⟨rfl, HB1.out.trans (D15.out.out.mono HB1.out.size)⟩
            | false =>
              rw [hX] at n8 e8
              obtain ⟨r1, r2, r3, r4⟩ : pa = 0 ∧ gp = 0 ∧ fa = 1 ∧ wa = false := by
                have hp := HP.out
                simp [rightsP, validB, letB, baseB, hV, hW, hR, hU, hX] at hp
                obtain ⟨q1, q2, q3, q4⟩ := hp
                exact ⟨q1.symm, q2.symm, q3.symm, q4⟩
              subst r1; subst r2; subst r3; subst r4
              clear HP
              try simp only [Bool.not_true, Bool.not_false] at e1 e2 e4 e8 e16 e64 e128
              go_wp2_with (first
                | ((with_reducible refine Step.gate_load (t := 47) rfl ?_); refine Step.loadAll P8.out rfl rfl rfl hu4 rfl size_place ?_)
                | (go_at_call 13; refine (AW.out _).mono ?_; rintro e w15 ⟨rfl, hb⟩; have D15 := Lib.hid (D8.out.below hb); clear hb))
              go_ret
              exact ⟨rfl, HB1.out.trans (D15.out.out.mono HB1.out.size)⟩
          | false =>
            rw [hU] at n16 e16
            cases hX : bt b 3 with
            | true =>
              rw [hX] at n8 e8
              cases hA : bt b 6 with
              | true =>
                rw [hA] at n64 e64
                obtain ⟨r1, r2, r3, r4⟩ : pa = 28963 ∧ gp = 28963 ∧ fa = 0 ∧ wa = false := by
                  have hp := HP.out
                  simp [rightsP, validB, letB, baseB, hV, hW, hR, hU, hX, hA] at hp
                  obtain ⟨q1, q2, q3, q4⟩ := hp
                  exact ⟨q1.symm, q2.symm, q3.symm, q4⟩
                subst r1; subst r2; subst r3; subst r4
                clear HP
                try simp only [Bool.not_true, Bool.not_false] at e1 e2 e4 e8 e16 e64 e128
                go_wp2_with (first
                  | ((with_reducible refine Step.gate_load (t := 47) rfl ?_); refine Step.loadAll P8.out rfl rfl rfl hu4 rfl size_place ?_)
                  | (go_at_call 13; refine (AW.out _).mono ?_; rintro e w15 ⟨rfl, hb⟩; have D15 := Lib.hid (D8.out.below hb); clear hb))
                go_ret
                exact ⟨rfl, HB1.out.trans (D15.out.out.mono HB1.out.size)⟩
              | false =>
                rw [hA] at n64 e64
                obtain ⟨r1, r2, r3, r4⟩ : pa = 0 ∧ gp = 0 ∧ fa = 1 ∧ wa = false := by
                  have hp := HP.out
                  simp [rightsP, validB, letB, baseB, hV, hW, hR, hU, hX, hA] at hp
                  obtain ⟨q1, q2, q3, q4⟩ := hp
                  exact ⟨q1.symm, q2.symm, q3.symm, q4⟩
                subst r1; subst r2; subst r3; subst r4
                clear HP
                try simp only [Bool.not_true, Bool.not_false] at e1 e2 e4 e8 e16 e64 e128
                go_wp2_with (first
                  | ((with_reducible refine Step.gate_load (t := 47) rfl ?_); refine Step.loadAll P8.out rfl rfl rfl hu4 rfl size_place ?_)
                  | (go_at_call 13; refine (AW.out _).mono ?_; rintro e w15 ⟨rfl, hb⟩; have D15 := Lib.hid (D8.out.below hb); clear hb))
                go_ret
                exact ⟨rfl, HB1.out.trans (D15.out.out.mono HB1.out.size)⟩
            | false =>
              rw [hX] at n8 e8
              obtain ⟨r1, r2, r3, r4⟩ : pa = 0 ∧ gp = 0 ∧ fa = 1 ∧ wa = false := by
                have hp := HP.out
                simp [rightsP, validB, letB, baseB, hV, hW, hR, hU, hX] at hp
                obtain ⟨q1, q2, q3, q4⟩ := hp
                exact ⟨q1.symm, q2.symm, q3.symm, q4⟩
              subst r1; subst r2; subst r3; subst r4
              clear HP
              try simp only [Bool.not_true, Bool.not_false] at e1 e2 e4 e8 e16 e64 e128
              go_wp2_with (first
                | ((with_reducible refine Step.gate_load (t := 47) rfl ?_); refine Step.loadAll P8.out rfl rfl rfl hu4 rfl size_place ?_)
                | (go_at_call 13; refine (AW.out _).mono ?_; rintro e w15 ⟨rfl, hb⟩; have D15 := Lib.hid (D8.out.below hb); clear hb))
              go_ret
              exact ⟨rfl, HB1.out.trans (D15.out.out.mono HB1.out.size)⟩
  | false =>
    rw [hV] at n1 e1
    cases user with
    | true =>
      cases hX : bt b 3 with
      | true =>
        rw [hX] at n8 e8
        obtain ⟨r1, r2, r3, r4⟩ : pa = 0 ∧ gp = 0 ∧ fa = 1 ∧ wa = false := by
          have hp := HP.out
          simp [rightsP, validB, letB, baseB, hV, hX] at hp
          obtain ⟨q1, q2, q3, q4⟩ := hp
          exact ⟨q1.symm, q2.symm, q3.symm, q4⟩
        subst r1; subst r2; subst r3; subst r4
        clear HP
        try simp only [Bool.not_true, Bool.not_false] at e1 e2 e4 e8 e16 e64 e128
        go_wp2_with (first
          | ((with_reducible refine Step.gate_load (t := 47) rfl ?_); refine Step.loadAll P8.out rfl rfl rfl hu4 rfl size_place ?_)
          | (go_at_call 13; refine (AW.out _).mono ?_; rintro e w15 ⟨rfl, hb⟩; have D15 := Lib.hid (D8.out.below hb); clear hb))
        go_ret
        exact ⟨rfl, HB1.out.trans (D15.out.out.mono HB1.out.size)⟩
      | false =>
        rw [hX] at n8 e8
        obtain ⟨r1, r2, r3, r4⟩ : pa = 0 ∧ gp = 0 ∧ fa = 1 ∧ wa = false := by
          have hp := HP.out
          simp [rightsP, validB, letB, baseB, hV, hX] at hp
          obtain ⟨q1, q2, q3, q4⟩ := hp
          exact ⟨q1.symm, q2.symm, q3.symm, q4⟩
        subst r1; subst r2; subst r3; subst r4
        clear HP
        try simp only [Bool.not_true, Bool.not_false] at e1 e2 e4 e8 e16 e64 e128
        go_wp2_with (first
          | ((with_reducible refine Step.gate_load (t := 47) rfl ?_); refine Step.loadAll P8.out rfl rfl rfl hu4 rfl size_place ?_)
          | (go_at_call 13; refine (AW.out _).mono ?_; rintro e w15 ⟨rfl, hb⟩; have D15 := Lib.hid (D8.out.below hb); clear hb))
        go_ret
        exact ⟨rfl, HB1.out.trans (D15.out.out.mono HB1.out.size)⟩
    | false =>
      cases hU : bt b 4 with
      | true =>
        rw [hU] at n16 e16
        cases hX : bt b 3 with
        | true =>
          rw [hX] at n8 e8
          obtain ⟨r1, r2, r3, r4⟩ : pa = 0 ∧ gp = 0 ∧ fa = 1 ∧ wa = false := by
            have hp := HP.out
            simp [rightsP, validB, letB, baseB, hV, hU, hX] at hp
            obtain ⟨q1, q2, q3, q4⟩ := hp
            exact ⟨q1.symm, q2.symm, q3.symm, q4⟩
          subst r1; subst r2; subst r3; subst r4
          clear HP
          try simp only [Bool.not_true, Bool.not_false] at e1 e2 e4 e8 e16 e64 e128
          go_wp2_with (first
            | ((with_reducible refine Step.gate_load (t := 47) rfl ?_); refine Step.loadAll P8.out rfl rfl rfl hu4 rfl size_place ?_)
            | (go_at_call 13; refine (AW.out _).mono ?_; rintro e w15 ⟨rfl, hb⟩; have D15 := Lib.hid (D8.out.below hb); clear hb))
          go_ret
          exact ⟨rfl, HB1.out.trans (D15.out.out.mono HB1.out.size)⟩
        | false =>
          rw [hX] at n8 e8
          obtain ⟨r1, r2, r3, r4⟩ : pa = 0 ∧ gp = 0 ∧ fa = 1 ∧ wa = false := by
            have hp := HP.out
            simp [rightsP, validB, letB, baseB, hV, hU, hX] at hp
            obtain ⟨q1, q2, q3, q4⟩ := hp
            exact ⟨q1.symm, q2.symm, q3.symm, q4⟩
          subst r1; subst r2; subst r3; subst r4
          clear HP
          try simp only [Bool.not_true, Bool.not_false] at e1 e2 e4 e8 e16 e64 e128
          go_wp2_with (first
            | ((with_reducible refine Step.gate_load (t := 47) rfl ?_); refine Step.loadAll P8.out rfl rfl rfl hu4 rfl size_place ?_)
            | (go_at_call 13; refine (AW.out _).mono ?_; rintro e w15 ⟨rfl, hb⟩; have D15 := Lib.hid (D8.out.below hb); clear hb))
          go_ret
          exact ⟨rfl, HB1.out.trans (D15.out.out.mono HB1.out.size)⟩
      | false =>
        rw [hU] at n16 e16
        obtain ⟨r1, r2, r3, r4⟩ : pa = 0 ∧ gp = 0 ∧ fa = 1 ∧ wa = false := by
          have hp := HP.out
          simp [rightsP, validB, letB, baseB, hV, hU] at hp
          obtain ⟨q1, q2, q3, q4⟩ := hp
          exact ⟨q1.symm, q2.symm, q3.symm, q4⟩
        subst r1; subst r2; subst r3; subst r4
        clear HP
        try simp only [Bool.not_true, Bool.not_false] at e1 e2 e4 e8 e16 e64 e128
        go_wp2_with (first
          | ((with_reducible refine Step.gate_load (t := 47) rfl ?_); refine Step.loadAll P8.out rfl rfl rfl hu4 rfl size_place ?_)
          | (go_at_call 13; refine (AW.out _).mono ?_; rintro e w15 ⟨rfl, hb⟩; have D15 := Lib.hid (D8.out.below hb); clear hb))
        go_ret
        exact ⟨rfl, HB1.out.trans (D15.out.out.mono HB1.out.size)⟩

set_option maxHeartbeats 16000000 in
theorem rights_2 (bits0 access b : Int) (user sum mxr : Bool) (W : World) (hb0 : -9223372036854775808 ≤ bits0 ∧ bits0 < 9223372036854775808) (ha0 : -9223372036854775808 ≤ access ∧ access < 9223372036854775808) (eb : bits0 % 256 = b) (ea : access % 3 = 1) :
    Calls Try.prog 9 #[.int .i64 bits0, .bool user, .bool sum, .bool mxr, .int .i64 access] W fun e w' => e = .returned (.bool true) ∧ Below W.heap.size W w' := by
  have hb : 0 ≤ b ∧ b < 256 := by omega
  have bu : U64 b := ⟨by omega, by omega⟩
  have TP1 := Lib.hid (fun w => (place_any bits0 256 (by decide) hb0 (by decide) w).mono fun e w' h => (by rw [eb] at h; exact h : e = .returned (.int .i64 b) ∧ w = w'))
  have TP2 := Lib.hid (fun w => (place_any access 3 (by decide) ha0 (by decide) w).mono fun e w' h => (by rw [ea] at h; exact h : e = .returned (.int .i64 1) ∧ w = w'))
  have a1 : IntKind.u64.wrap b = b := IntWalk.u64_in _ (by omega)
  have a2 : bits .or .u64 7168 b = 7168 + b := or_add 10 ⟨by decide, by decide⟩ (by decide) (by show 0 ≤ b ∧ b < 1024; omega) (by omega)
  have CE := Lib.hid (cells_r b hb)
  have n1 := cn1 bu
  have n2 := cn2 bu
  have n4 := cn4 bu
  have n8 := cn8 bu
  have n16 := cn16 bu
  have n64 := cn64 bu
  have n128 := cn128 bu
  have e1 := ce1 bu
  have e2 := ce2 bu
  have e4 := ce4 bu
  have e8 := ce8 bu
  have e16 := ce16 bu
  have e64 := ce64 bu
  have e128 := ce128 bu
  obtain ⟨p, hp⟩ : ∃ p, rightsP user sum mxr b 2 = p := ⟨_, rfl⟩
  have TT := Lib.hid (fun (W : World) (h : Nat) (F : Nat → Prop) (r : Ram W h 0 8 (cm 8 (rf b) 3) F) => translate_is r 9223372036854775809 0 20771 2 user sum mxr ⟨by decide, by decide⟩ ⟨by decide, by decide⟩ ⟨by decide, by decide⟩ ((rights_tr user sum mxr hb).trans hp))
  have HP0 := Lib.hid hp
  clear hp
  obtain ⟨pa, gp, fa, wa⟩ := p
  have HP := Lib.hid (show rightsP user sum mxr b 2 = ⟨pa, gp, fa, wa⟩ from HP0.out)
  clear HP0
  simp only at TT
  have AW := Lib.hid awake_any
  have hu := Try.underlying31
  have hu2 := Try.underlying41
  have hu3 := Try.underlying25
  have hu4 := Try.underlying47
  clear hb0 ha0 eb ea hb bu
  go_enter Try.func9, Try.ntmps9
  go_upto_region 7 with (first
    | (go_at_call 14; (first
        | ((with_reducible refine (TP1.out _).mono ?_); rintro e w1 ⟨rfl, rfl⟩)
        | ((with_reducible refine (TP2.out _).mono ?_); rintro e w1 ⟨rfl, rfl⟩)))
    | ((with_reducible refine Step.gate_build (t := 22) rfl ?_); refine Step.freshSlice (cs := #[.int .i64 512, .int .u64 2049, .int .i64 1024, .int .u64 3073, .int .i64 1541, .int .u64 (7168 + b)]) (T := 41) (n := 3) (m := 3) rfl ?hr ?_; (case hr => first | (go_simp; done) | (go_simp; rfl)); intro g1 w1 b' hg hb; have RC := Lib.hid (rd_cells (n := 3) (c := 3) (f := rf b) b' CE.out); have HB1 := Lib.hid hb; clear b' hg hb)
    | (go_at_call 15; refine (memory_any _ 0 8 8 rfl (by omega) (by decide) (some ⟨g1, 0, none⟩) 3 3 (rf b) RC.out (by decide)).mono ?_; rintro e w3 ⟨h1, h2, F1, F2, rfl, d⟩; have D := Lib.hid d; clear d)
    | ((with_reducible refine Step.gate_alloc (t := 31) rfl ?_); refine Step.freshAlloc rfl rfl (alloc_agg zero_two) ?_; intro g2 w4 b' hg hb; have B2 := Lib.hid b'; have D2 := Lib.hid (D.out.below hb); have HG2 := Lib.hid (show ∀ k, F1 k ∨ F2 k → k ≠ g2 from fun k h e => by subst e; have := D.out.bound k h; omega); have HN2 := Lib.hid (show w1.heap.size ≤ g2 from Nat.le_trans D.out.mod.size hg); clear b' hg hb)
    | ((with_reducible refine Step.gate_store (t := 31) rfl ?_); refine Step.storeAll (vs := #[.pointer (some ⟨h1, 0, none⟩), .pointer (some ⟨h2, 0, none⟩)]) B2.out rfl rfl rfl rfl rfl size_two rfl rfl ?_; intro w5 nb m; have c0 := nb.cell 0; have D3 := Lib.hid (D2.out.other m (fun k h e => HG2.out k h e) (fun k e => by obtain rfl : k = g2 := e; exact HN2.out)); simp only [List.getElem?_toArray, List.getElem?_cons_zero] at c0; clear nb m)
    | (go_at_call 18; refine (TT.out _ _ _ D3.out.one).mono ?_; rintro e w6 ⟨rfl, hb⟩; have D6 := Lib.hid (D3.out.below hb); clear hb c0)
    | ((with_reducible refine Step.gate_alloc (t := 47) rfl ?_); refine Step.freshAlloc rfl rfl (alloc_agg zero_place) ?_; intro g15 w7 b' hg hb; have P7 := Lib.hid b'; have D7 := Lib.hid (D6.out.below hb); have HG15 := Lib.hid (show ∀ k, F1 k ∨ F2 k → k ≠ g15 from fun k h e => by subst e; have := D6.out.bound k h; omega); have HN15 := Lib.hid (show w1.heap.size ≤ g15 from Nat.le_trans D6.out.mod.size hg); clear b' hg hb)
    | ((with_reducible refine Step.gate_store (t := 47) rfl ?_); refine Step.storeAll (vs := #[.int .u64 pa, .int .u64 gp, .int .i64 fa, .bool wa]) P7.out rfl rfl rfl rfl rfl size_place rfl rfl ?_; intro w8 nb m; have P8 := Lib.hid nb; have D8 := Lib.hid (D7.out.other m (fun k h e => HG15.out k h e) (fun k e => by obtain rfl : k = g15 := e; exact HN15.out)); clear nb m))
  cases hV : bt b 0 with
  | true =>
    rw [hV] at n1 e1
    cases hW : bt b 2 with
    | true =>
      rw [hW] at n4 e4
      cases hR : bt b 1 with
      | true =>
        rw [hR] at n2 e2
        cases user with
        | true =>
          cases hU : bt b 4 with
          | true =>
            rw [hU] at n16 e16
            cases hA : bt b 6 with
            | true =>
              rw [hA] at n64 e64
              obtain ⟨r1, r2, r3, r4⟩ : pa = 28963 ∧ gp = 28963 ∧ fa = 0 ∧ wa = false := by
                have hp := HP.out
                simp [rightsP, validB, letB, baseB, hV, hW, hR, hU, hA] at hp
                obtain ⟨q1, q2, q3, q4⟩ := hp
                exact ⟨q1.symm, q2.symm, q3.symm, q4⟩
              subst r1; subst r2; subst r3; subst r4
              clear HP
              try simp only [Bool.not_true, Bool.not_false] at e1 e2 e4 e8 e16 e64 e128
              go_wp2_with (first
                | ((with_reducible refine Step.gate_load (t := 47) rfl ?_); refine Step.loadAll P8.out rfl rfl rfl hu4 rfl size_place ?_)
                | (go_at_call 13; refine (AW.out _).mono ?_; rintro e w15 ⟨rfl, hb⟩; have D15 := Lib.hid (D8.out.below hb); clear hb))
              go_ret
              exact ⟨rfl, HB1.out.trans (D15.out.out.mono HB1.out.size)⟩
            | false =>
              rw [hA] at n64 e64
              obtain ⟨r1, r2, r3, r4⟩ : pa = 0 ∧ gp = 0 ∧ fa = 1 ∧ wa = false := by
                have hp := HP.out
                simp [rightsP, validB, letB, baseB, hV, hW, hR, hU, hA] at hp
                obtain ⟨q1, q2, q3, q4⟩ := hp
                exact ⟨q1.symm, q2.symm, q3.symm, q4⟩
              subst r1; subst r2; subst r3; subst r4
              clear HP
              try simp only [Bool.not_true, Bool.not_false] at e1 e2 e4 e8 e16 e64 e128
              go_wp2_with (first
                | ((with_reducible refine Step.gate_load (t := 47) rfl ?_); refine Step.loadAll P8.out rfl rfl rfl hu4 rfl size_place ?_)
                | (go_at_call 13; refine (AW.out _).mono ?_; rintro e w15 ⟨rfl, hb⟩; have D15 := Lib.hid (D8.out.below hb); clear hb))
              go_ret
              exact ⟨rfl, HB1.out.trans (D15.out.out.mono HB1.out.size)⟩
          | false =>
            rw [hU] at n16 e16
            obtain ⟨r1, r2, r3, r4⟩ : pa = 0 ∧ gp = 0 ∧ fa = 1 ∧ wa = false := by
              have hp := HP.out
              simp [rightsP, validB, letB, baseB, hV, hW, hR, hU] at hp
              obtain ⟨q1, q2, q3, q4⟩ := hp
              exact ⟨q1.symm, q2.symm, q3.symm, q4⟩
            subst r1; subst r2; subst r3; subst r4
            clear HP
            try simp only [Bool.not_true, Bool.not_false] at e1 e2 e4 e8 e16 e64 e128
            go_wp2_with (first
              | ((with_reducible refine Step.gate_load (t := 47) rfl ?_); refine Step.loadAll P8.out rfl rfl rfl hu4 rfl size_place ?_)
              | (go_at_call 13; refine (AW.out _).mono ?_; rintro e w15 ⟨rfl, hb⟩; have D15 := Lib.hid (D8.out.below hb); clear hb))
            go_ret
            exact ⟨rfl, HB1.out.trans (D15.out.out.mono HB1.out.size)⟩
        | false =>
          cases hU : bt b 4 with
          | true =>
            rw [hU] at n16 e16
            cases sum with
            | true =>
              cases hA : bt b 6 with
              | true =>
                rw [hA] at n64 e64
                obtain ⟨r1, r2, r3, r4⟩ : pa = 28963 ∧ gp = 28963 ∧ fa = 0 ∧ wa = false := by
                  have hp := HP.out
                  simp [rightsP, validB, letB, baseB, hV, hW, hR, hU, hA] at hp
                  obtain ⟨q1, q2, q3, q4⟩ := hp
                  exact ⟨q1.symm, q2.symm, q3.symm, q4⟩
                subst r1; subst r2; subst r3; subst r4
                clear HP
                try simp only [Bool.not_true, Bool.not_false] at e1 e2 e4 e8 e16 e64 e128
                go_wp2_with (first
                  | ((with_reducible refine Step.gate_load (t := 47) rfl ?_); refine Step.loadAll P8.out rfl rfl rfl hu4 rfl size_place ?_)
                  | (go_at_call 13; refine (AW.out _).mono ?_; rintro e w15 ⟨rfl, hb⟩; have D15 := Lib.hid (D8.out.below hb); clear hb))
                go_ret
                exact ⟨rfl, HB1.out.trans (D15.out.out.mono HB1.out.size)⟩
              | false =>
                rw [hA] at n64 e64
                obtain ⟨r1, r2, r3, r4⟩ : pa = 0 ∧ gp = 0 ∧ fa = 1 ∧ wa = false := by
                  have hp := HP.out
                  simp [rightsP, validB, letB, baseB, hV, hW, hR, hU, hA] at hp
                  obtain ⟨q1, q2, q3, q4⟩ := hp
                  exact ⟨q1.symm, q2.symm, q3.symm, q4⟩
                subst r1; subst r2; subst r3; subst r4
                clear HP
                try simp only [Bool.not_true, Bool.not_false] at e1 e2 e4 e8 e16 e64 e128
                go_wp2_with (first
                  | ((with_reducible refine Step.gate_load (t := 47) rfl ?_); refine Step.loadAll P8.out rfl rfl rfl hu4 rfl size_place ?_)
                  | (go_at_call 13; refine (AW.out _).mono ?_; rintro e w15 ⟨rfl, hb⟩; have D15 := Lib.hid (D8.out.below hb); clear hb))
                go_ret
                exact ⟨rfl, HB1.out.trans (D15.out.out.mono HB1.out.size)⟩
            | false =>
              obtain ⟨r1, r2, r3, r4⟩ : pa = 0 ∧ gp = 0 ∧ fa = 1 ∧ wa = false := by
                have hp := HP.out
                simp [rightsP, validB, letB, baseB, hV, hW, hR, hU] at hp
                obtain ⟨q1, q2, q3, q4⟩ := hp
                exact ⟨q1.symm, q2.symm, q3.symm, q4⟩
              subst r1; subst r2; subst r3; subst r4
              clear HP
              try simp only [Bool.not_true, Bool.not_false] at e1 e2 e4 e8 e16 e64 e128
              go_wp2_with (first
                | ((with_reducible refine Step.gate_load (t := 47) rfl ?_); refine Step.loadAll P8.out rfl rfl rfl hu4 rfl size_place ?_)
                | (go_at_call 13; refine (AW.out _).mono ?_; rintro e w15 ⟨rfl, hb⟩; have D15 := Lib.hid (D8.out.below hb); clear hb))
              go_ret
              exact ⟨rfl, HB1.out.trans (D15.out.out.mono HB1.out.size)⟩
          | false =>
            rw [hU] at n16 e16
            cases hA : bt b 6 with
            | true =>
              rw [hA] at n64 e64
              obtain ⟨r1, r2, r3, r4⟩ : pa = 28963 ∧ gp = 28963 ∧ fa = 0 ∧ wa = false := by
                have hp := HP.out
                simp [rightsP, validB, letB, baseB, hV, hW, hR, hU, hA] at hp
                obtain ⟨q1, q2, q3, q4⟩ := hp
                exact ⟨q1.symm, q2.symm, q3.symm, q4⟩
              subst r1; subst r2; subst r3; subst r4
              clear HP
              try simp only [Bool.not_true, Bool.not_false] at e1 e2 e4 e8 e16 e64 e128
              go_wp2_with (first
                | ((with_reducible refine Step.gate_load (t := 47) rfl ?_); refine Step.loadAll P8.out rfl rfl rfl hu4 rfl size_place ?_)
                | (go_at_call 13; refine (AW.out _).mono ?_; rintro e w15 ⟨rfl, hb⟩; have D15 := Lib.hid (D8.out.below hb); clear hb))
              go_ret
              exact ⟨rfl, HB1.out.trans (D15.out.out.mono HB1.out.size)⟩
            | false =>
              rw [hA] at n64 e64
              obtain ⟨r1, r2, r3, r4⟩ : pa = 0 ∧ gp = 0 ∧ fa = 1 ∧ wa = false := by
                have hp := HP.out
                simp [rightsP, validB, letB, baseB, hV, hW, hR, hU, hA] at hp
                obtain ⟨q1, q2, q3, q4⟩ := hp
                exact ⟨q1.symm, q2.symm, q3.symm, q4⟩
              subst r1; subst r2; subst r3; subst r4
              clear HP
              try simp only [Bool.not_true, Bool.not_false] at e1 e2 e4 e8 e16 e64 e128
              go_wp2_with (first
                | ((with_reducible refine Step.gate_load (t := 47) rfl ?_); refine Step.loadAll P8.out rfl rfl rfl hu4 rfl size_place ?_)
                | (go_at_call 13; refine (AW.out _).mono ?_; rintro e w15 ⟨rfl, hb⟩; have D15 := Lib.hid (D8.out.below hb); clear hb))
              go_ret
              exact ⟨rfl, HB1.out.trans (D15.out.out.mono HB1.out.size)⟩
      | false =>
        rw [hR] at n2 e2
        cases mxr with
        | true =>
          cases user with
          | true =>
            cases hX : bt b 3 with
            | true =>
              rw [hX] at n8 e8
              obtain ⟨r1, r2, r3, r4⟩ : pa = 0 ∧ gp = 0 ∧ fa = 1 ∧ wa = false := by
                have hp := HP.out
                simp [rightsP, validB, letB, baseB, hV, hW, hR, hX] at hp
                obtain ⟨q1, q2, q3, q4⟩ := hp
                exact ⟨q1.symm, q2.symm, q3.symm, q4⟩
              subst r1; subst r2; subst r3; subst r4
              clear HP
              try simp only [Bool.not_true, Bool.not_false] at e1 e2 e4 e8 e16 e64 e128
              go_wp2_with (first
                | ((with_reducible refine Step.gate_load (t := 47) rfl ?_); refine Step.loadAll P8.out rfl rfl rfl hu4 rfl size_place ?_)
                | (go_at_call 13; refine (AW.out _).mono ?_; rintro e w15 ⟨rfl, hb⟩; have D15 := Lib.hid (D8.out.below hb); clear hb))
              go_ret
              exact ⟨rfl, HB1.out.trans (D15.out.out.mono HB1.out.size)⟩
            | false =>
              rw [hX] at n8 e8
              obtain ⟨r1, r2, r3, r4⟩ : pa = 0 ∧ gp = 0 ∧ fa = 1 ∧ wa = false := by
                have hp := HP.out
                simp [rightsP, validB, letB, baseB, hV, hW, hR, hX] at hp
                obtain ⟨q1, q2, q3, q4⟩ := hp
                exact ⟨q1.symm, q2.symm, q3.symm, q4⟩
              subst r1; subst r2; subst r3; subst r4
              clear HP
              try simp only [Bool.not_true, Bool.not_false] at e1 e2 e4 e8 e16 e64 e128
              go_wp2_with (first
                | ((with_reducible refine Step.gate_load (t := 47) rfl ?_); refine Step.loadAll P8.out rfl rfl rfl hu4 rfl size_place ?_)
                | (go_at_call 13; refine (AW.out _).mono ?_; rintro e w15 ⟨rfl, hb⟩; have D15 := Lib.hid (D8.out.below hb); clear hb))
              go_ret
              exact ⟨rfl, HB1.out.trans (D15.out.out.mono HB1.out.size)⟩
          | false =>
            cases hU : bt b 4 with
            | true =>
              rw [hU] at n16 e16
              cases hX : bt b 3 with
              | true =>
                rw [hX] at n8 e8
                obtain ⟨r1, r2, r3, r4⟩ : pa = 0 ∧ gp = 0 ∧ fa = 1 ∧ wa = false := by
                  have hp := HP.out
                  simp [rightsP, validB, letB, baseB, hV, hW, hR, hU, hX] at hp
                  obtain ⟨q1, q2, q3, q4⟩ := hp
                  exact ⟨q1.symm, q2.symm, q3.symm, q4⟩
                subst r1; subst r2; subst r3; subst r4
                clear HP
                try simp only [Bool.not_true, Bool.not_false] at e1 e2 e4 e8 e16 e64 e128
                go_wp2_with (first
                  | ((with_reducible refine Step.gate_load (t := 47) rfl ?_); refine Step.loadAll P8.out rfl rfl rfl hu4 rfl size_place ?_)
                  | (go_at_call 13; refine (AW.out _).mono ?_; rintro e w15 ⟨rfl, hb⟩; have D15 := Lib.hid (D8.out.below hb); clear hb))
                go_ret
                exact ⟨rfl, HB1.out.trans (D15.out.out.mono HB1.out.size)⟩
              | false =>
                rw [hX] at n8 e8
                obtain ⟨r1, r2, r3, r4⟩ : pa = 0 ∧ gp = 0 ∧ fa = 1 ∧ wa = false := by
                  have hp := HP.out
                  simp [rightsP, validB, letB, baseB, hV, hW, hR, hU, hX] at hp
                  obtain ⟨q1, q2, q3, q4⟩ := hp
                  exact ⟨q1.symm, q2.symm, q3.symm, q4⟩
                subst r1; subst r2; subst r3; subst r4
                clear HP
                try simp only [Bool.not_true, Bool.not_false] at e1 e2 e4 e8 e16 e64 e128
                go_wp2_with (first
                  | ((with_reducible refine Step.gate_load (t := 47) rfl ?_); refine Step.loadAll P8.out rfl rfl rfl hu4 rfl size_place ?_)
                  | (go_at_call 13; refine (AW.out _).mono ?_; rintro e w15 ⟨rfl, hb⟩; have D15 := Lib.hid (D8.out.below hb); clear hb))
                go_ret
                exact ⟨rfl, HB1.out.trans (D15.out.out.mono HB1.out.size)⟩
            | false =>
              rw [hU] at n16 e16
              obtain ⟨r1, r2, r3, r4⟩ : pa = 0 ∧ gp = 0 ∧ fa = 1 ∧ wa = false := by
                have hp := HP.out
                simp [rightsP, validB, letB, baseB, hV, hW, hR, hU] at hp
                obtain ⟨q1, q2, q3, q4⟩ := hp
                exact ⟨q1.symm, q2.symm, q3.symm, q4⟩
              subst r1; subst r2; subst r3; subst r4
              clear HP
              try simp only [Bool.not_true, Bool.not_false] at e1 e2 e4 e8 e16 e64 e128
              go_wp2_with (first
                | ((with_reducible refine Step.gate_load (t := 47) rfl ?_); refine Step.loadAll P8.out rfl rfl rfl hu4 rfl size_place ?_)
                | (go_at_call 13; refine (AW.out _).mono ?_; rintro e w15 ⟨rfl, hb⟩; have D15 := Lib.hid (D8.out.below hb); clear hb))
              go_ret
              exact ⟨rfl, HB1.out.trans (D15.out.out.mono HB1.out.size)⟩
        | false =>
          cases user with
          | true =>
            obtain ⟨r1, r2, r3, r4⟩ : pa = 0 ∧ gp = 0 ∧ fa = 1 ∧ wa = false := by
              have hp := HP.out
              simp [rightsP, validB, letB, baseB, hV, hW, hR] at hp
              obtain ⟨q1, q2, q3, q4⟩ := hp
              exact ⟨q1.symm, q2.symm, q3.symm, q4⟩
            subst r1; subst r2; subst r3; subst r4
            clear HP
            try simp only [Bool.not_true, Bool.not_false] at e1 e2 e4 e8 e16 e64 e128
            go_wp2_with (first
              | ((with_reducible refine Step.gate_load (t := 47) rfl ?_); refine Step.loadAll P8.out rfl rfl rfl hu4 rfl size_place ?_)
              | (go_at_call 13; refine (AW.out _).mono ?_; rintro e w15 ⟨rfl, hb⟩; have D15 := Lib.hid (D8.out.below hb); clear hb))
            go_ret
            exact ⟨rfl, HB1.out.trans (D15.out.out.mono HB1.out.size)⟩
          | false =>
            cases hU : bt b 4 with
            | true =>
              rw [hU] at n16 e16
              obtain ⟨r1, r2, r3, r4⟩ : pa = 0 ∧ gp = 0 ∧ fa = 1 ∧ wa = false := by
                have hp := HP.out
                simp [rightsP, validB, letB, baseB, hV, hW, hR, hU] at hp
                obtain ⟨q1, q2, q3, q4⟩ := hp
                exact ⟨q1.symm, q2.symm, q3.symm, q4⟩
              subst r1; subst r2; subst r3; subst r4
              clear HP
              try simp only [Bool.not_true, Bool.not_false] at e1 e2 e4 e8 e16 e64 e128
              go_wp2_with (first
                | ((with_reducible refine Step.gate_load (t := 47) rfl ?_); refine Step.loadAll P8.out rfl rfl rfl hu4 rfl size_place ?_)
                | (go_at_call 13; refine (AW.out _).mono ?_; rintro e w15 ⟨rfl, hb⟩; have D15 := Lib.hid (D8.out.below hb); clear hb))
              go_ret
              exact ⟨rfl, HB1.out.trans (D15.out.out.mono HB1.out.size)⟩
            | false =>
              rw [hU] at n16 e16
              obtain ⟨r1, r2, r3, r4⟩ : pa = 0 ∧ gp = 0 ∧ fa = 1 ∧ wa = false := by
                have hp := HP.out
                simp [rightsP, validB, letB, baseB, hV, hW, hR, hU] at hp
                obtain ⟨q1, q2, q3, q4⟩ := hp
                exact ⟨q1.symm, q2.symm, q3.symm, q4⟩
              subst r1; subst r2; subst r3; subst r4
              clear HP
              try simp only [Bool.not_true, Bool.not_false] at e1 e2 e4 e8 e16 e64 e128
              go_wp2_with (first
                | ((with_reducible refine Step.gate_load (t := 47) rfl ?_); refine Step.loadAll P8.out rfl rfl rfl hu4 rfl size_place ?_)
                | (go_at_call 13; refine (AW.out _).mono ?_; rintro e w15 ⟨rfl, hb⟩; have D15 := Lib.hid (D8.out.below hb); clear hb))
              go_ret
              exact ⟨rfl, HB1.out.trans (D15.out.out.mono HB1.out.size)⟩
    | false =>
      rw [hW] at n4 e4
      cases hR : bt b 1 with
      | true =>
        rw [hR] at n2 e2
        cases user with
        | true =>
          cases hU : bt b 4 with
          | true =>
            rw [hU] at n16 e16
            cases hA : bt b 6 with
            | true =>
              rw [hA] at n64 e64
              obtain ⟨r1, r2, r3, r4⟩ : pa = 28963 ∧ gp = 28963 ∧ fa = 0 ∧ wa = false := by
                have hp := HP.out
                simp [rightsP, validB, letB, baseB, hV, hW, hR, hU, hA] at hp
                obtain ⟨q1, q2, q3, q4⟩ := hp
                exact ⟨q1.symm, q2.symm, q3.symm, q4⟩
              subst r1; subst r2; subst r3; subst r4
              clear HP
              try simp only [Bool.not_true, Bool.not_false] at e1 e2 e4 e8 e16 e64 e128
              go_wp2_with (first
                | ((with_reducible refine Step.gate_load (t := 47) rfl ?_); refine Step.loadAll P8.out rfl rfl rfl hu4 rfl size_place ?_)
                | (go_at_call 13; refine (AW.out _).mono ?_; rintro e w15 ⟨rfl, hb⟩; have D15 := Lib.hid (D8.out.below hb); clear hb))
              go_ret
              exact ⟨rfl, HB1.out.trans (D15.out.out.mono HB1.out.size)⟩
            | false =>
              rw [hA] at n64 e64
              obtain ⟨r1, r2, r3, r4⟩ : pa = 0 ∧ gp = 0 ∧ fa = 1 ∧ wa = false := by
                have hp := HP.out
                simp [rightsP, validB, letB, baseB, hV, hW, hR, hU, hA] at hp
                obtain ⟨q1, q2, q3, q4⟩ := hp
                exact ⟨q1.symm, q2.symm, q3.symm, q4⟩
              subst r1; subst r2; subst r3; subst r4
              clear HP
              try simp only [Bool.not_true, Bool.not_false] at e1 e2 e4 e8 e16 e64 e128
              go_wp2_with (first
                | ((with_reducible refine Step.gate_load (t := 47) rfl ?_); refine Step.loadAll P8.out rfl rfl rfl hu4 rfl size_place ?_)
                | (go_at_call 13; refine (AW.out _).mono ?_; rintro e w15 ⟨rfl, hb⟩; have D15 := Lib.hid (D8.out.below hb); clear hb))
              go_ret
              exact ⟨rfl, HB1.out.trans (D15.out.out.mono HB1.out.size)⟩
          | false =>
            rw [hU] at n16 e16
            obtain ⟨r1, r2, r3, r4⟩ : pa = 0 ∧ gp = 0 ∧ fa = 1 ∧ wa = false := by
              have hp := HP.out
              simp [rightsP, validB, letB, baseB, hV, hW, hR, hU] at hp
              obtain ⟨q1, q2, q3, q4⟩ := hp
              exact ⟨q1.symm, q2.symm, q3.symm, q4⟩
            subst r1; subst r2; subst r3; subst r4
            clear HP
            try simp only [Bool.not_true, Bool.not_false] at e1 e2 e4 e8 e16 e64 e128
            go_wp2_with (first
              | ((with_reducible refine Step.gate_load (t := 47) rfl ?_); refine Step.loadAll P8.out rfl rfl rfl hu4 rfl size_place ?_)
              | (go_at_call 13; refine (AW.out _).mono ?_; rintro e w15 ⟨rfl, hb⟩; have D15 := Lib.hid (D8.out.below hb); clear hb))
            go_ret
            exact ⟨rfl, HB1.out.trans (D15.out.out.mono HB1.out.size)⟩
        | false =>
          cases hU : bt b 4 with
          | true =>
            rw [hU] at n16 e16
            cases sum with
            | true =>
              cases hA : bt b 6 with
              | true =>
                rw [hA] at n64 e64
                obtain ⟨r1, r2, r3, r4⟩ : pa = 28963 ∧ gp = 28963 ∧ fa = 0 ∧ wa = false := by
                  have hp := HP.out
                  simp [rightsP, validB, letB, baseB, hV, hW, hR, hU, hA] at hp
                  obtain ⟨q1, q2, q3, q4⟩ := hp
                  exact ⟨q1.symm, q2.symm, q3.symm, q4⟩
                subst r1; subst r2; subst r3; subst r4
                clear HP
                try simp only [Bool.not_true, Bool.not_false] at e1 e2 e4 e8 e16 e64 e128
                go_wp2_with (first
                  | ((with_reducible refine Step.gate_load (t := 47) rfl ?_); refine Step.loadAll P8.out rfl rfl rfl hu4 rfl size_place ?_)
                  | (go_at_call 13; refine (AW.out _).mono ?_; rintro e w15 ⟨rfl, hb⟩; have D15 := Lib.hid (D8.out.below hb); clear hb))
                go_ret
                exact ⟨rfl, HB1.out.trans (D15.out.out.mono HB1.out.size)⟩
              | false =>
                rw [hA] at n64 e64
                obtain ⟨r1, r2, r3, r4⟩ : pa = 0 ∧ gp = 0 ∧ fa = 1 ∧ wa = false := by
                  have hp := HP.out
                  simp [rightsP, validB, letB, baseB, hV, hW, hR, hU, hA] at hp
                  obtain ⟨q1, q2, q3, q4⟩ := hp
                  exact ⟨q1.symm, q2.symm, q3.symm, q4⟩
                subst r1; subst r2; subst r3; subst r4
                clear HP
                try simp only [Bool.not_true, Bool.not_false] at e1 e2 e4 e8 e16 e64 e128
                go_wp2_with (first
                  | ((with_reducible refine Step.gate_load (t := 47) rfl ?_); refine Step.loadAll P8.out rfl rfl rfl hu4 rfl size_place ?_)
                  | (go_at_call 13; refine (AW.out _).mono ?_; rintro e w15 ⟨rfl, hb⟩; have D15 := Lib.hid (D8.out.below hb); clear hb))
                go_ret
                exact ⟨rfl, HB1.out.trans (D15.out.out.mono HB1.out.size)⟩
            | false =>
              obtain ⟨r1, r2, r3, r4⟩ : pa = 0 ∧ gp = 0 ∧ fa = 1 ∧ wa = false := by
                have hp := HP.out
                simp [rightsP, validB, letB, baseB, hV, hW, hR, hU] at hp
                obtain ⟨q1, q2, q3, q4⟩ := hp
                exact ⟨q1.symm, q2.symm, q3.symm, q4⟩
              subst r1; subst r2; subst r3; subst r4
              clear HP
              try simp only [Bool.not_true, Bool.not_false] at e1 e2 e4 e8 e16 e64 e128
              go_wp2_with (first
                | ((with_reducible refine Step.gate_load (t := 47) rfl ?_); refine Step.loadAll P8.out rfl rfl rfl hu4 rfl size_place ?_)
                | (go_at_call 13; refine (AW.out _).mono ?_; rintro e w15 ⟨rfl, hb⟩; have D15 := Lib.hid (D8.out.below hb); clear hb))
              go_ret
              exact ⟨rfl, HB1.out.trans (D15.out.out.mono HB1.out.size)⟩
          | false =>
            rw [hU] at n16 e16
            cases hA : bt b 6 with
            | true =>
              rw [hA] at n64 e64
              obtain ⟨r1, r2, r3, r4⟩ : pa = 28963 ∧ gp = 28963 ∧ fa = 0 ∧ wa = false := by
                have hp := HP.out
                simp [rightsP, validB, letB, baseB, hV, hW, hR, hU, hA] at hp
                obtain ⟨q1, q2, q3, q4⟩ := hp
                exact ⟨q1.symm, q2.symm, q3.symm, q4⟩
              subst r1; subst r2; subst r3; subst r4
              clear HP
              try simp only [Bool.not_true, Bool.not_false] at e1 e2 e4 e8 e16 e64 e128
              go_wp2_with (first
                | ((with_reducible refine Step.gate_load (t := 47) rfl ?_); refine Step.loadAll P8.out rfl rfl rfl hu4 rfl size_place ?_)
                | (go_at_call 13; refine (AW.out _).mono ?_; rintro e w15 ⟨rfl, hb⟩; have D15 := Lib.hid (D8.out.below hb); clear hb))
              go_ret
              exact ⟨rfl, HB1.out.trans (D15.out.out.mono HB1.out.size)⟩
            | false =>
              rw [hA] at n64 e64
              obtain ⟨r1, r2, r3, r4⟩ : pa = 0 ∧ gp = 0 ∧ fa = 1 ∧ wa = false := by
                have hp := HP.out
                simp [rightsP, validB, letB, baseB, hV, hW, hR, hU, hA] at hp
                obtain ⟨q1, q2, q3, q4⟩ := hp
                exact ⟨q1.symm, q2.symm, q3.symm, q4⟩
              subst r1; subst r2; subst r3; subst r4
              clear HP
              try simp only [Bool.not_true, Bool.not_false] at e1 e2 e4 e8 e16 e64 e128
              go_wp2_with (first
                | ((with_reducible refine Step.gate_load (t := 47) rfl ?_); refine Step.loadAll P8.out rfl rfl rfl hu4 rfl size_place ?_)
                | (go_at_call 13; refine (AW.out _).mono ?_; rintro e w15 ⟨rfl, hb⟩; have D15 := Lib.hid (D8.out.below hb); clear hb))
              go_ret
              exact ⟨rfl, HB1.out.trans (D15.out.out.mono HB1.out.size)⟩
      | false =>
        rw [hR] at n2 e2
        cases mxr with
        | true =>
          cases user with
          | true =>
            cases hX : bt b 3 with
            | true =>
              rw [hX] at n8 e8
              cases hU : bt b 4 with
              | true =>
                rw [hU] at n16 e16
                cases hA : bt b 6 with
                | true =>
                  rw [hA] at n64 e64
                  obtain ⟨r1, r2, r3, r4⟩ : pa = 28963 ∧ gp = 28963 ∧ fa = 0 ∧ wa = false := by
                    have hp := HP.out
                    simp [rightsP, validB, letB, baseB, hV, hW, hR, hX, hU, hA] at hp
                    obtain ⟨q1, q2, q3, q4⟩ := hp
                    exact ⟨q1.symm, q2.symm, q3.symm, q4⟩
                  subst r1; subst r2; subst r3; subst r4
                  clear HP
                  try simp only [Bool.not_true, Bool.not_false] at e1 e2 e4 e8 e16 e64 e128
                  go_wp2_with (first
                    | ((with_reducible refine Step.gate_load (t := 47) rfl ?_); refine Step.loadAll P8.out rfl rfl rfl hu4 rfl size_place ?_)
                    | (go_at_call 13; refine (AW.out _).mono ?_; rintro e w15 ⟨rfl, hb⟩; have D15 := Lib.hid (D8.out.below hb); clear hb))
                  go_ret
                  exact ⟨rfl, HB1.out.trans (D15.out.out.mono HB1.out.size)⟩
                | false =>
                  rw [hA] at n64 e64
                  obtain ⟨r1, r2, r3, r4⟩ : pa = 0 ∧ gp = 0 ∧ fa = 1 ∧ wa = false := by
                    have hp := HP.out
                    simp [rightsP, validB, letB, baseB, hV, hW, hR, hX, hU, hA] at hp
                    obtain ⟨q1, q2, q3, q4⟩ := hp
                    exact ⟨q1.symm, q2.symm, q3.symm, q4⟩
                  subst r1; subst r2; subst r3; subst r4
                  clear HP
                  try simp only [Bool.not_true, Bool.not_false] at e1 e2 e4 e8 e16 e64 e128
                  go_wp2_with (first
                    | ((with_reducible refine Step.gate_load (t := 47) rfl ?_); refine Step.loadAll P8.out rfl rfl rfl hu4 rfl size_place ?_)
                    | (go_at_call 13; refine (AW.out _).mono ?_; rintro e w15 ⟨rfl, hb⟩; have D15 := Lib.hid (D8.out.below hb); clear hb))
                  go_ret
                  exact ⟨rfl, HB1.out.trans (D15.out.out.mono HB1.out.size)⟩
              | false =>
                rw [hU] at n16 e16
                obtain ⟨r1, r2, r3, r4⟩ : pa = 0 ∧ gp = 0 ∧ fa = 1 ∧ wa = false := by
                  have hp := HP.out
                  simp [rightsP, validB, letB, baseB, hV, hW, hR, hX, hU] at hp
                  obtain ⟨q1, q2, q3, q4⟩ := hp
                  exact ⟨q1.symm, q2.symm, q3.symm, q4⟩
                subst r1; subst r2; subst r3; subst r4
                clear HP
                try simp only [Bool.not_true, Bool.not_false] at e1 e2 e4 e8 e16 e64 e128
                go_wp2_with (first
                  | ((with_reducible refine Step.gate_load (t := 47) rfl ?_); refine Step.loadAll P8.out rfl rfl rfl hu4 rfl size_place ?_)
                  | (go_at_call 13; refine (AW.out _).mono ?_; rintro e w15 ⟨rfl, hb⟩; have D15 := Lib.hid (D8.out.below hb); clear hb))
                go_ret
                exact ⟨rfl, HB1.out.trans (D15.out.out.mono HB1.out.size)⟩
            | false =>
              rw [hX] at n8 e8
              obtain ⟨r1, r2, r3, r4⟩ : pa = 0 ∧ gp = 0 ∧ fa = 1 ∧ wa = false := by
                have hp := HP.out
                simp [rightsP, validB, letB, baseB, hV, hW, hR, hX] at hp
                obtain ⟨q1, q2, q3, q4⟩ := hp
                exact ⟨q1.symm, q2.symm, q3.symm, q4⟩
              subst r1; subst r2; subst r3; subst r4
              clear HP
              try simp only [Bool.not_true, Bool.not_false] at e1 e2 e4 e8 e16 e64 e128
              go_wp2_with (first
                | ((with_reducible refine Step.gate_load (t := 47) rfl ?_); refine Step.loadAll P8.out rfl rfl rfl hu4 rfl size_place ?_)
                | (go_at_call 13; refine (AW.out _).mono ?_; rintro e w15 ⟨rfl, hb⟩; have D15 := Lib.hid (D8.out.below hb); clear hb))
              go_ret
              exact ⟨rfl, HB1.out.trans (D15.out.out.mono HB1.out.size)⟩
          | false =>
            cases hU : bt b 4 with
            | true =>
              rw [hU] at n16 e16
              cases hX : bt b 3 with
              | true =>
                rw [hX] at n8 e8
                cases sum with
                | true =>
                  cases hA : bt b 6 with
                  | true =>
                    rw [hA] at n64 e64
                    obtain ⟨r1, r2, r3, r4⟩ : pa = 28963 ∧ gp = 28963 ∧ fa = 0 ∧ wa = false := by
                      have hp := HP.out
                      simp [rightsP, validB, letB, baseB, hV, hW, hR, hU, hX, hA] at hp
                      obtain ⟨q1, q2, q3, q4⟩ := hp
                      exact ⟨q1.symm, q2.symm, q3.symm, q4⟩
                    subst r1; subst r2; subst r3; subst r4
                    clear HP
                    try simp only [Bool.not_true, Bool.not_false] at e1 e2 e4 e8 e16 e64 e128
                    go_wp2_with (first
                      | ((with_reducible refine Step.gate_load (t := 47) rfl ?_); refine Step.loadAll P8.out rfl rfl rfl hu4 rfl size_place ?_)
                      | (go_at_call 13; refine (AW.out _).mono ?_; rintro e w15 ⟨rfl, hb⟩; have D15 := Lib.hid (D8.out.below hb); clear hb))
                    go_ret
                    exact ⟨rfl, HB1.out.trans (D15.out.out.mono HB1.out.size)⟩
                  | false =>
                    rw [hA] at n64 e64
                    obtain ⟨r1, r2, r3, r4⟩ : pa = 0 ∧ gp = 0 ∧ fa = 1 ∧ wa = false := by
                      have hp := HP.out
                      simp [rightsP, validB, letB, baseB, hV, hW, hR, hU, hX, hA] at hp
                      obtain ⟨q1, q2, q3, q4⟩ := hp
                      exact ⟨q1.symm, q2.symm, q3.symm, q4⟩
                    subst r1; subst r2; subst r3; subst r4
                    clear HP
                    try simp only [Bool.not_true, Bool.not_false] at e1 e2 e4 e8 e16 e64 e128
                    go_wp2_with (first
                      | ((with_reducible refine Step.gate_load (t := 47) rfl ?_); refine Step.loadAll P8.out rfl rfl rfl hu4 rfl size_place ?_)
                      | (go_at_call 13; refine (AW.out _).mono ?_; rintro e w15 ⟨rfl, hb⟩; have D15 := Lib.hid (D8.out.below hb); clear hb))
                    go_ret
                    exact ⟨rfl, HB1.out.trans (D15.out.out.mono HB1.out.size)⟩
                | false =>
                  obtain ⟨r1, r2, r3, r4⟩ : pa = 0 ∧ gp = 0 ∧ fa = 1 ∧ wa = false := by
                    have hp := HP.out
                    simp [rightsP, validB, letB, baseB, hV, hW, hR, hU, hX] at hp
                    obtain ⟨q1, q2, q3, q4⟩ := hp
                    exact ⟨q1.symm, q2.symm, q3.symm, q4⟩
                  subst r1; subst r2; subst r3; subst r4
                  clear HP
                  try simp only [Bool.not_true, Bool.not_false] at e1 e2 e4 e8 e16 e64 e128
                  go_wp2_with (first
                    | ((with_reducible refine Step.gate_load (t := 47) rfl ?_); refine Step.loadAll P8.out rfl rfl rfl hu4 rfl size_place ?_)
                    | (go_at_call 13; refine (AW.out _).mono ?_; rintro e w15 ⟨rfl, hb⟩; have D15 := Lib.hid (D8.out.below hb); clear hb))
                  go_ret
                  exact ⟨rfl, HB1.out.trans (D15.out.out.mono HB1.out.size)⟩
              | false =>
                rw [hX] at n8 e8
                obtain ⟨r1, r2, r3, r4⟩ : pa = 0 ∧ gp = 0 ∧ fa = 1 ∧ wa = false := by
                  have hp := HP.out
                  simp [rightsP, validB, letB, baseB, hV, hW, hR, hU, hX] at hp
                  obtain ⟨q1, q2, q3, q4⟩ := hp
                  exact ⟨q1.symm, q2.symm, q3.symm, q4⟩
                subst r1; subst r2; subst r3; subst r4
                clear HP
                try simp only [Bool.not_true, Bool.not_false] at e1 e2 e4 e8 e16 e64 e128
                go_wp2_with (first
                  | ((with_reducible refine Step.gate_load (t := 47) rfl ?_); refine Step.loadAll P8.out rfl rfl rfl hu4 rfl size_place ?_)
                  | (go_at_call 13; refine (AW.out _).mono ?_; rintro e w15 ⟨rfl, hb⟩; have D15 := Lib.hid (D8.out.below hb); clear hb))
                go_ret
                exact ⟨rfl, HB1.out.trans (D15.out.out.mono HB1.out.size)⟩
            | false =>
              rw [hU] at n16 e16
              cases hX : bt b 3 with
              | true =>
                rw [hX] at n8 e8
                cases hA : bt b 6 with
                | true =>
                  rw [hA] at n64 e64
                  obtain ⟨r1, r2, r3, r4⟩ : pa = 28963 ∧ gp = 28963 ∧ fa = 0 ∧ wa = false := by
                    have hp := HP.out
                    simp [rightsP, validB, letB, baseB, hV, hW, hR, hU, hX, hA] at hp
                    obtain ⟨q1, q2, q3, q4⟩ := hp
                    exact ⟨q1.symm, q2.symm, q3.symm, q4⟩
                  subst r1; subst r2; subst r3; subst r4
                  clear HP
                  try simp only [Bool.not_true, Bool.not_false] at e1 e2 e4 e8 e16 e64 e128
                  go_wp2_with (first
                    | ((with_reducible refine Step.gate_load (t := 47) rfl ?_); refine Step.loadAll P8.out rfl rfl rfl hu4 rfl size_place ?_)
                    | (go_at_call 13; refine (AW.out _).mono ?_; rintro e w15 ⟨rfl, hb⟩; have D15 := Lib.hid (D8.out.below hb); clear hb))
                  go_ret
                  exact ⟨rfl, HB1.out.trans (D15.out.out.mono HB1.out.size)⟩
                | false =>
                  rw [hA] at n64 e64
                  obtain ⟨r1, r2, r3, r4⟩ : pa = 0 ∧ gp = 0 ∧ fa = 1 ∧ wa = false := by
                    have hp := HP.out
                    simp [rightsP, validB, letB, baseB, hV, hW, hR, hU, hX, hA] at hp
                    obtain ⟨q1, q2, q3, q4⟩ := hp
                    exact ⟨q1.symm, q2.symm, q3.symm, q4⟩
                  subst r1; subst r2; subst r3; subst r4
                  clear HP
                  try simp only [Bool.not_true, Bool.not_false] at e1 e2 e4 e8 e16 e64 e128
                  go_wp2_with (first
                    | ((with_reducible refine Step.gate_load (t := 47) rfl ?_); refine Step.loadAll P8.out rfl rfl rfl hu4 rfl size_place ?_)
                    | (go_at_call 13; refine (AW.out _).mono ?_; rintro e w15 ⟨rfl, hb⟩; have D15 := Lib.hid (D8.out.below hb); clear hb))
                  go_ret
                  exact ⟨rfl, HB1.out.trans (D15.out.out.mono HB1.out.size)⟩
              | false =>
                rw [hX] at n8 e8
                obtain ⟨r1, r2, r3, r4⟩ : pa = 0 ∧ gp = 0 ∧ fa = 1 ∧ wa = false := by
                  have hp := HP.out
                  simp [rightsP, validB, letB, baseB, hV, hW, hR, hU, hX] at hp
                  obtain ⟨q1, q2, q3, q4⟩ := hp
                  exact ⟨q1.symm, q2.symm, q3.symm, q4⟩
                subst r1; subst r2; subst r3; subst r4
                clear HP
                try simp only [Bool.not_true, Bool.not_false] at e1 e2 e4 e8 e16 e64 e128
                go_wp2_with (first
                  | ((with_reducible refine Step.gate_load (t := 47) rfl ?_); refine Step.loadAll P8.out rfl rfl rfl hu4 rfl size_place ?_)
                  | (go_at_call 13; refine (AW.out _).mono ?_; rintro e w15 ⟨rfl, hb⟩; have D15 := Lib.hid (D8.out.below hb); clear hb))
                go_ret
                exact ⟨rfl, HB1.out.trans (D15.out.out.mono HB1.out.size)⟩
        | false =>
          cases user with
          | true =>
            cases hX : bt b 3 with
            | true =>
              rw [hX] at n8 e8
              obtain ⟨r1, r2, r3, r4⟩ : pa = 0 ∧ gp = 0 ∧ fa = 1 ∧ wa = false := by
                have hp := HP.out
                simp [rightsP, validB, letB, baseB, hV, hW, hR, hX] at hp
                obtain ⟨q1, q2, q3, q4⟩ := hp
                exact ⟨q1.symm, q2.symm, q3.symm, q4⟩
              subst r1; subst r2; subst r3; subst r4
              clear HP
              try simp only [Bool.not_true, Bool.not_false] at e1 e2 e4 e8 e16 e64 e128
              go_wp2_with (first
                | ((with_reducible refine Step.gate_load (t := 47) rfl ?_); refine Step.loadAll P8.out rfl rfl rfl hu4 rfl size_place ?_)
                | (go_at_call 13; refine (AW.out _).mono ?_; rintro e w15 ⟨rfl, hb⟩; have D15 := Lib.hid (D8.out.below hb); clear hb))
              go_ret
              exact ⟨rfl, HB1.out.trans (D15.out.out.mono HB1.out.size)⟩
            | false =>
              rw [hX] at n8 e8
              obtain ⟨r1, r2, r3, r4⟩ : pa = 0 ∧ gp = 0 ∧ fa = 1 ∧ wa = false := by
                have hp := HP.out
                simp [rightsP, validB, letB, baseB, hV, hW, hR, hX] at hp
                obtain ⟨q1, q2, q3, q4⟩ := hp
                exact ⟨q1.symm, q2.symm, q3.symm, q4⟩
              subst r1; subst r2; subst r3; subst r4
              clear HP
              try simp only [Bool.not_true, Bool.not_false] at e1 e2 e4 e8 e16 e64 e128
              go_wp2_with (first
                | ((with_reducible refine Step.gate_load (t := 47) rfl ?_); refine Step.loadAll P8.out rfl rfl rfl hu4 rfl size_place ?_)
                | (go_at_call 13; refine (AW.out _).mono ?_; rintro e w15 ⟨rfl, hb⟩; have D15 := Lib.hid (D8.out.below hb); clear hb))
              go_ret
              exact ⟨rfl, HB1.out.trans (D15.out.out.mono HB1.out.size)⟩
          | false =>
            cases hU : bt b 4 with
            | true =>
              rw [hU] at n16 e16
              cases hX : bt b 3 with
              | true =>
                rw [hX] at n8 e8
                obtain ⟨r1, r2, r3, r4⟩ : pa = 0 ∧ gp = 0 ∧ fa = 1 ∧ wa = false := by
                  have hp := HP.out
                  simp [rightsP, validB, letB, baseB, hV, hW, hR, hU, hX] at hp
                  obtain ⟨q1, q2, q3, q4⟩ := hp
                  exact ⟨q1.symm, q2.symm, q3.symm, q4⟩
                subst r1; subst r2; subst r3; subst r4
                clear HP
                try simp only [Bool.not_true, Bool.not_false] at e1 e2 e4 e8 e16 e64 e128
                go_wp2_with (first
                  | ((with_reducible refine Step.gate_load (t := 47) rfl ?_); refine Step.loadAll P8.out rfl rfl rfl hu4 rfl size_place ?_)
                  | (go_at_call 13; refine (AW.out _).mono ?_; rintro e w15 ⟨rfl, hb⟩; have D15 := Lib.hid (D8.out.below hb); clear hb))
                go_ret
                exact ⟨rfl, HB1.out.trans (D15.out.out.mono HB1.out.size)⟩
              | false =>
                rw [hX] at n8 e8
                obtain ⟨r1, r2, r3, r4⟩ : pa = 0 ∧ gp = 0 ∧ fa = 1 ∧ wa = false := by
                  have hp := HP.out
                  simp [rightsP, validB, letB, baseB, hV, hW, hR, hU, hX] at hp
                  obtain ⟨q1, q2, q3, q4⟩ := hp
                  exact ⟨q1.symm, q2.symm, q3.symm, q4⟩
                subst r1; subst r2; subst r3; subst r4
                clear HP
                try simp only [Bool.not_true, Bool.not_false] at e1 e2 e4 e8 e16 e64 e128
                go_wp2_with (first
                  | ((with_reducible refine Step.gate_load (t := 47) rfl ?_); refine Step.loadAll P8.out rfl rfl rfl hu4 rfl size_place ?_)
                  | (go_at_call 13; refine (AW.out _).mono ?_; rintro e w15 ⟨rfl, hb⟩; have D15 := Lib.hid (D8.out.below hb); clear hb))
                go_ret
                exact ⟨rfl, HB1.out.trans (D15.out.out.mono HB1.out.size)⟩
            | false =>
              rw [hU] at n16 e16
              cases hX : bt b 3 with
              | true =>
                rw [hX] at n8 e8
                obtain ⟨r1, r2, r3, r4⟩ : pa = 0 ∧ gp = 0 ∧ fa = 1 ∧ wa = false := by
                  have hp := HP.out
                  simp [rightsP, validB, letB, baseB, hV, hW, hR, hU, hX] at hp
                  obtain ⟨q1, q2, q3, q4⟩ := hp
                  exact ⟨q1.symm, q2.symm, q3.symm, q4⟩
                subst r1; subst r2; subst r3; subst r4
                clear HP
                try simp only [Bool.not_true, Bool.not_false] at e1 e2 e4 e8 e16 e64 e128
                go_wp2_with (first
                  | ((with_reducible refine Step.gate_load (t := 47) rfl ?_); refine Step.loadAll P8.out rfl rfl rfl hu4 rfl size_place ?_)
                  | (go_at_call 13; refine (AW.out _).mono ?_; rintro e w15 ⟨rfl, hb⟩; have D15 := Lib.hid (D8.out.below hb); clear hb))
                go_ret
                exact ⟨rfl, HB1.out.trans (D15.out.out.mono HB1.out.size)⟩
              | false =>
                rw [hX] at n8 e8
                obtain ⟨r1, r2, r3, r4⟩ : pa = 0 ∧ gp = 0 ∧ fa = 1 ∧ wa = false := by
                  have hp := HP.out
                  simp [rightsP, validB, letB, baseB, hV, hW, hR, hU, hX] at hp
                  obtain ⟨q1, q2, q3, q4⟩ := hp
                  exact ⟨q1.symm, q2.symm, q3.symm, q4⟩
                subst r1; subst r2; subst r3; subst r4
                clear HP
                try simp only [Bool.not_true, Bool.not_false] at e1 e2 e4 e8 e16 e64 e128
                go_wp2_with (first
                  | ((with_reducible refine Step.gate_load (t := 47) rfl ?_); refine Step.loadAll P8.out rfl rfl rfl hu4 rfl size_place ?_)
                  | (go_at_call 13; refine (AW.out _).mono ?_; rintro e w15 ⟨rfl, hb⟩; have D15 := Lib.hid (D8.out.below hb); clear hb))
                go_ret
                exact ⟨rfl, HB1.out.trans (D15.out.out.mono HB1.out.size)⟩
  | false =>
    rw [hV] at n1 e1
    cases hR : bt b 1 with
    | true =>
      rw [hR] at n2 e2
      cases user with
      | true =>
        obtain ⟨r1, r2, r3, r4⟩ : pa = 0 ∧ gp = 0 ∧ fa = 1 ∧ wa = false := by
          have hp := HP.out
          simp [rightsP, validB, letB, baseB, hV, hR] at hp
          obtain ⟨q1, q2, q3, q4⟩ := hp
          exact ⟨q1.symm, q2.symm, q3.symm, q4⟩
        subst r1; subst r2; subst r3; subst r4
        clear HP
        try simp only [Bool.not_true, Bool.not_false] at e1 e2 e4 e8 e16 e64 e128
        go_wp2_with (first
          | ((with_reducible refine Step.gate_load (t := 47) rfl ?_); refine Step.loadAll P8.out rfl rfl rfl hu4 rfl size_place ?_)
          | (go_at_call 13; refine (AW.out _).mono ?_; rintro e w15 ⟨rfl, hb⟩; have D15 := Lib.hid (D8.out.below hb); clear hb))
        go_ret
        exact ⟨rfl, HB1.out.trans (D15.out.out.mono HB1.out.size)⟩
      | false =>
        cases hU : bt b 4 with
        | true =>
          rw [hU] at n16 e16
          obtain ⟨r1, r2, r3, r4⟩ : pa = 0 ∧ gp = 0 ∧ fa = 1 ∧ wa = false := by
            have hp := HP.out
            simp [rightsP, validB, letB, baseB, hV, hR, hU] at hp
            obtain ⟨q1, q2, q3, q4⟩ := hp
            exact ⟨q1.symm, q2.symm, q3.symm, q4⟩
          subst r1; subst r2; subst r3; subst r4
          clear HP
          try simp only [Bool.not_true, Bool.not_false] at e1 e2 e4 e8 e16 e64 e128
          go_wp2_with (first
            | ((with_reducible refine Step.gate_load (t := 47) rfl ?_); refine Step.loadAll P8.out rfl rfl rfl hu4 rfl size_place ?_)
            | (go_at_call 13; refine (AW.out _).mono ?_; rintro e w15 ⟨rfl, hb⟩; have D15 := Lib.hid (D8.out.below hb); clear hb))
          go_ret
          exact ⟨rfl, HB1.out.trans (D15.out.out.mono HB1.out.size)⟩
        | false =>
          rw [hU] at n16 e16
          obtain ⟨r1, r2, r3, r4⟩ : pa = 0 ∧ gp = 0 ∧ fa = 1 ∧ wa = false := by
            have hp := HP.out
            simp [rightsP, validB, letB, baseB, hV, hR, hU] at hp
            obtain ⟨q1, q2, q3, q4⟩ := hp
            exact ⟨q1.symm, q2.symm, q3.symm, q4⟩
          subst r1; subst r2; subst r3; subst r4
          clear HP
          try simp only [Bool.not_true, Bool.not_false] at e1 e2 e4 e8 e16 e64 e128
          go_wp2_with (first
            | ((with_reducible refine Step.gate_load (t := 47) rfl ?_); refine Step.loadAll P8.out rfl rfl rfl hu4 rfl size_place ?_)
            | (go_at_call 13; refine (AW.out _).mono ?_; rintro e w15 ⟨rfl, hb⟩; have D15 := Lib.hid (D8.out.below hb); clear hb))
          go_ret
          exact ⟨rfl, HB1.out.trans (D15.out.out.mono HB1.out.size)⟩
    | false =>
      rw [hR] at n2 e2
      cases mxr with
      | true =>
        cases user with
        | true =>
          cases hX : bt b 3 with
          | true =>
            rw [hX] at n8 e8
            obtain ⟨r1, r2, r3, r4⟩ : pa = 0 ∧ gp = 0 ∧ fa = 1 ∧ wa = false := by
              have hp := HP.out
              simp [rightsP, validB, letB, baseB, hV, hR, hX] at hp
              obtain ⟨q1, q2, q3, q4⟩ := hp
              exact ⟨q1.symm, q2.symm, q3.symm, q4⟩
            subst r1; subst r2; subst r3; subst r4
            clear HP
            try simp only [Bool.not_true, Bool.not_false] at e1 e2 e4 e8 e16 e64 e128
            go_wp2_with (first
              | ((with_reducible refine Step.gate_load (t := 47) rfl ?_); refine Step.loadAll P8.out rfl rfl rfl hu4 rfl size_place ?_)
              | (go_at_call 13; refine (AW.out _).mono ?_; rintro e w15 ⟨rfl, hb⟩; have D15 := Lib.hid (D8.out.below hb); clear hb))
            go_ret
            exact ⟨rfl, HB1.out.trans (D15.out.out.mono HB1.out.size)⟩
          | false =>
            rw [hX] at n8 e8
            obtain ⟨r1, r2, r3, r4⟩ : pa = 0 ∧ gp = 0 ∧ fa = 1 ∧ wa = false := by
              have hp := HP.out
              simp [rightsP, validB, letB, baseB, hV, hR, hX] at hp
              obtain ⟨q1, q2, q3, q4⟩ := hp
              exact ⟨q1.symm, q2.symm, q3.symm, q4⟩
            subst r1; subst r2; subst r3; subst r4
            clear HP
            try simp only [Bool.not_true, Bool.not_false] at e1 e2 e4 e8 e16 e64 e128
            go_wp2_with (first
              | ((with_reducible refine Step.gate_load (t := 47) rfl ?_); refine Step.loadAll P8.out rfl rfl rfl hu4 rfl size_place ?_)
              | (go_at_call 13; refine (AW.out _).mono ?_; rintro e w15 ⟨rfl, hb⟩; have D15 := Lib.hid (D8.out.below hb); clear hb))
            go_ret
            exact ⟨rfl, HB1.out.trans (D15.out.out.mono HB1.out.size)⟩
        | false =>
          cases hU : bt b 4 with
          | true =>
            rw [hU] at n16 e16
            cases hX : bt b 3 with
            | true =>
              rw [hX] at n8 e8
              obtain ⟨r1, r2, r3, r4⟩ : pa = 0 ∧ gp = 0 ∧ fa = 1 ∧ wa = false := by
                have hp := HP.out
                simp [rightsP, validB, letB, baseB, hV, hR, hU, hX] at hp
                obtain ⟨q1, q2, q3, q4⟩ := hp
                exact ⟨q1.symm, q2.symm, q3.symm, q4⟩
              subst r1; subst r2; subst r3; subst r4
              clear HP
              try simp only [Bool.not_true, Bool.not_false] at e1 e2 e4 e8 e16 e64 e128
              go_wp2_with (first
                | ((with_reducible refine Step.gate_load (t := 47) rfl ?_); refine Step.loadAll P8.out rfl rfl rfl hu4 rfl size_place ?_)
                | (go_at_call 13; refine (AW.out _).mono ?_; rintro e w15 ⟨rfl, hb⟩; have D15 := Lib.hid (D8.out.below hb); clear hb))
              go_ret
              exact ⟨rfl, HB1.out.trans (D15.out.out.mono HB1.out.size)⟩
            | false =>
              rw [hX] at n8 e8
              obtain ⟨r1, r2, r3, r4⟩ : pa = 0 ∧ gp = 0 ∧ fa = 1 ∧ wa = false := by
                have hp := HP.out
                simp [rightsP, validB, letB, baseB, hV, hR, hU, hX] at hp
                obtain ⟨q1, q2, q3, q4⟩ := hp
                exact ⟨q1.symm, q2.symm, q3.symm, q4⟩
              subst r1; subst r2; subst r3; subst r4
              clear HP
              try simp only [Bool.not_true, Bool.not_false] at e1 e2 e4 e8 e16 e64 e128
              go_wp2_with (first
                | ((with_reducible refine Step.gate_load (t := 47) rfl ?_); refine Step.loadAll P8.out rfl rfl rfl hu4 rfl size_place ?_)
                | (go_at_call 13; refine (AW.out _).mono ?_; rintro e w15 ⟨rfl, hb⟩; have D15 := Lib.hid (D8.out.below hb); clear hb))
              go_ret
              exact ⟨rfl, HB1.out.trans (D15.out.out.mono HB1.out.size)⟩
          | false =>
            rw [hU] at n16 e16
            obtain ⟨r1, r2, r3, r4⟩ : pa = 0 ∧ gp = 0 ∧ fa = 1 ∧ wa = false := by
              have hp := HP.out
              simp [rightsP, validB, letB, baseB, hV, hR, hU] at hp
              obtain ⟨q1, q2, q3, q4⟩ := hp
              exact ⟨q1.symm, q2.symm, q3.symm, q4⟩
            subst r1; subst r2; subst r3; subst r4
            clear HP
            try simp only [Bool.not_true, Bool.not_false] at e1 e2 e4 e8 e16 e64 e128
            go_wp2_with (first
              | ((with_reducible refine Step.gate_load (t := 47) rfl ?_); refine Step.loadAll P8.out rfl rfl rfl hu4 rfl size_place ?_)
              | (go_at_call 13; refine (AW.out _).mono ?_; rintro e w15 ⟨rfl, hb⟩; have D15 := Lib.hid (D8.out.below hb); clear hb))
            go_ret
            exact ⟨rfl, HB1.out.trans (D15.out.out.mono HB1.out.size)⟩
      | false =>
        cases user with
        | true =>
          obtain ⟨r1, r2, r3, r4⟩ : pa = 0 ∧ gp = 0 ∧ fa = 1 ∧ wa = false := by
            have hp := HP.out
            simp [rightsP, validB, letB, baseB, hV, hR] at hp
            obtain ⟨q1, q2, q3, q4⟩ := hp
            exact ⟨q1.symm, q2.symm, q3.symm, q4⟩
          subst r1; subst r2; subst r3; subst r4
          clear HP
          try simp only [Bool.not_true, Bool.not_false] at e1 e2 e4 e8 e16 e64 e128
          go_wp2_with (first
            | ((with_reducible refine Step.gate_load (t := 47) rfl ?_); refine Step.loadAll P8.out rfl rfl rfl hu4 rfl size_place ?_)
            | (go_at_call 13; refine (AW.out _).mono ?_; rintro e w15 ⟨rfl, hb⟩; have D15 := Lib.hid (D8.out.below hb); clear hb))
          go_ret
          exact ⟨rfl, HB1.out.trans (D15.out.out.mono HB1.out.size)⟩
        | false =>
          cases hU : bt b 4 with
          | true =>
            rw [hU] at n16 e16
            obtain ⟨r1, r2, r3, r4⟩ : pa = 0 ∧ gp = 0 ∧ fa = 1 ∧ wa = false := by
              have hp := HP.out
              simp [rightsP, validB, letB, baseB, hV, hR, hU] at hp
              obtain ⟨q1, q2, q3, q4⟩ := hp
              exact ⟨q1.symm, q2.symm, q3.symm, q4⟩
            subst r1; subst r2; subst r3; subst r4
            clear HP
            try simp only [Bool.not_true, Bool.not_false] at e1 e2 e4 e8 e16 e64 e128
            go_wp2_with (first
              | ((with_reducible refine Step.gate_load (t := 47) rfl ?_); refine Step.loadAll P8.out rfl rfl rfl hu4 rfl size_place ?_)
              | (go_at_call 13; refine (AW.out _).mono ?_; rintro e w15 ⟨rfl, hb⟩; have D15 := Lib.hid (D8.out.below hb); clear hb))
            go_ret
            exact ⟨rfl, HB1.out.trans (D15.out.out.mono HB1.out.size)⟩
          | false =>
            rw [hU] at n16 e16
            obtain ⟨r1, r2, r3, r4⟩ : pa = 0 ∧ gp = 0 ∧ fa = 1 ∧ wa = false := by
              have hp := HP.out
              simp [rightsP, validB, letB, baseB, hV, hR, hU] at hp
              obtain ⟨q1, q2, q3, q4⟩ := hp
              exact ⟨q1.symm, q2.symm, q3.symm, q4⟩
            subst r1; subst r2; subst r3; subst r4
            clear HP
            try simp only [Bool.not_true, Bool.not_false] at e1 e2 e4 e8 e16 e64 e128
            go_wp2_with (first
              | ((with_reducible refine Step.gate_load (t := 47) rfl ?_); refine Step.loadAll P8.out rfl rfl rfl hu4 rfl size_place ?_)
              | (go_at_call 13; refine (AW.out _).mono ?_; rintro e w15 ⟨rfl, hb⟩; have D15 := Lib.hid (D8.out.below hb); clear hb))
            go_ret
            exact ⟨rfl, HB1.out.trans (D15.out.out.mono HB1.out.size)⟩

set_option maxHeartbeats 16000000 in
theorem rights_3 (bits0 access b : Int) (user sum mxr : Bool) (W : World) (hb0 : -9223372036854775808 ≤ bits0 ∧ bits0 < 9223372036854775808) (ha0 : -9223372036854775808 ≤ access ∧ access < 9223372036854775808) (eb : bits0 % 256 = b) (ea : access % 3 = 2) :
    Calls Try.prog 9 #[.int .i64 bits0, .bool user, .bool sum, .bool mxr, .int .i64 access] W fun e w' => e = .returned (.bool true) ∧ Below W.heap.size W w' := by
  have hb : 0 ≤ b ∧ b < 256 := by omega
  have bu : U64 b := ⟨by omega, by omega⟩
  have TP1 := Lib.hid (fun w => (place_any bits0 256 (by decide) hb0 (by decide) w).mono fun e w' h => (by rw [eb] at h; exact h : e = .returned (.int .i64 b) ∧ w = w'))
  have TP2 := Lib.hid (fun w => (place_any access 3 (by decide) ha0 (by decide) w).mono fun e w' h => (by rw [ea] at h; exact h : e = .returned (.int .i64 2) ∧ w = w'))
  have a1 : IntKind.u64.wrap b = b := IntWalk.u64_in _ (by omega)
  have a2 : bits .or .u64 7168 b = 7168 + b := or_add 10 ⟨by decide, by decide⟩ (by decide) (by show 0 ≤ b ∧ b < 1024; omega) (by omega)
  have CE := Lib.hid (cells_r b hb)
  have n1 := cn1 bu
  have n2 := cn2 bu
  have n4 := cn4 bu
  have n8 := cn8 bu
  have n16 := cn16 bu
  have n64 := cn64 bu
  have n128 := cn128 bu
  have e1 := ce1 bu
  have e2 := ce2 bu
  have e4 := ce4 bu
  have e8 := ce8 bu
  have e16 := ce16 bu
  have e64 := ce64 bu
  have e128 := ce128 bu
  obtain ⟨p, hp⟩ : ∃ p, rightsP user sum mxr b 3 = p := ⟨_, rfl⟩
  have TT := Lib.hid (fun (W : World) (h : Nat) (F : Nat → Prop) (r : Ram W h 0 8 (cm 8 (rf b) 3) F) => translate_is r 9223372036854775809 0 20771 3 user sum mxr ⟨by decide, by decide⟩ ⟨by decide, by decide⟩ ⟨by decide, by decide⟩ ((rights_tr user sum mxr hb).trans hp))
  have HP0 := Lib.hid hp
  clear hp
  obtain ⟨pa, gp, fa, wa⟩ := p
  have HP := Lib.hid (show rightsP user sum mxr b 3 = ⟨pa, gp, fa, wa⟩ from HP0.out)
  clear HP0
  simp only at TT
  have AW := Lib.hid awake_any
  have hu := Try.underlying31
  have hu2 := Try.underlying41
  have hu3 := Try.underlying25
  have hu4 := Try.underlying47
  clear hb0 ha0 eb ea hb bu
  go_enter Try.func9, Try.ntmps9
  go_upto_region 7 with (first
    | (go_at_call 14; (first
        | ((with_reducible refine (TP1.out _).mono ?_); rintro e w1 ⟨rfl, rfl⟩)
        | ((with_reducible refine (TP2.out _).mono ?_); rintro e w1 ⟨rfl, rfl⟩)))
    | ((with_reducible refine Step.gate_build (t := 22) rfl ?_); refine Step.freshSlice (cs := #[.int .i64 512, .int .u64 2049, .int .i64 1024, .int .u64 3073, .int .i64 1541, .int .u64 (7168 + b)]) (T := 41) (n := 3) (m := 3) rfl ?hr ?_; (case hr => first | (go_simp; done) | (go_simp; rfl)); intro g1 w1 b' hg hb; have RC := Lib.hid (rd_cells (n := 3) (c := 3) (f := rf b) b' CE.out); have HB1 := Lib.hid hb; clear b' hg hb)
    | (go_at_call 15; refine (memory_any _ 0 8 8 rfl (by omega) (by decide) (some ⟨g1, 0, none⟩) 3 3 (rf b) RC.out (by decide)).mono ?_; rintro e w3 ⟨h1, h2, F1, F2, rfl, d⟩; have D := Lib.hid d; clear d)
    | ((with_reducible refine Step.gate_alloc (t := 31) rfl ?_); refine Step.freshAlloc rfl rfl (alloc_agg zero_two) ?_; intro g2 w4 b' hg hb; have B2 := Lib.hid b'; have D2 := Lib.hid (D.out.below hb); have HG2 := Lib.hid (show ∀ k, F1 k ∨ F2 k → k ≠ g2 from fun k h e => by subst e; have := D.out.bound k h; omega); have HN2 := Lib.hid (show w1.heap.size ≤ g2 from Nat.le_trans D.out.mod.size hg); clear b' hg hb)
    | ((with_reducible refine Step.gate_store (t := 31) rfl ?_); refine Step.storeAll (vs := #[.pointer (some ⟨h1, 0, none⟩), .pointer (some ⟨h2, 0, none⟩)]) B2.out rfl rfl rfl rfl rfl size_two rfl rfl ?_; intro w5 nb m; have c0 := nb.cell 0; have D3 := Lib.hid (D2.out.other m (fun k h e => HG2.out k h e) (fun k e => by obtain rfl : k = g2 := e; exact HN2.out)); simp only [List.getElem?_toArray, List.getElem?_cons_zero] at c0; clear nb m)
    | (go_at_call 18; refine (TT.out _ _ _ D3.out.one).mono ?_; rintro e w6 ⟨rfl, hb⟩; have D6 := Lib.hid (D3.out.below hb); clear hb c0)
    | ((with_reducible refine Step.gate_alloc (t := 47) rfl ?_); refine Step.freshAlloc rfl rfl (alloc_agg zero_place) ?_; intro g15 w7 b' hg hb; have P7 := Lib.hid b'; have D7 := Lib.hid (D6.out.below hb); have HG15 := Lib.hid (show ∀ k, F1 k ∨ F2 k → k ≠ g15 from fun k h e => by subst e; have := D6.out.bound k h; omega); have HN15 := Lib.hid (show w1.heap.size ≤ g15 from Nat.le_trans D6.out.mod.size hg); clear b' hg hb)
    | ((with_reducible refine Step.gate_store (t := 47) rfl ?_); refine Step.storeAll (vs := #[.int .u64 pa, .int .u64 gp, .int .i64 fa, .bool wa]) P7.out rfl rfl rfl rfl rfl size_place rfl rfl ?_; intro w8 nb m; have P8 := Lib.hid nb; have D8 := Lib.hid (D7.out.other m (fun k h e => HG15.out k h e) (fun k e => by obtain rfl : k = g15 := e; exact HN15.out)); clear nb m))
  cases hV : bt b 0 with
  | true =>
    rw [hV] at n1 e1
    cases hW : bt b 2 with
    | true =>
      rw [hW] at n4 e4
      cases hR : bt b 1 with
      | true =>
        rw [hR] at n2 e2
        cases user with
        | true =>
          cases hD : bt b 7 with
          | true =>
            rw [hD] at n128 e128
            cases hU : bt b 4 with
            | true =>
              rw [hU] at n16 e16
              cases hA : bt b 6 with
              | true =>
                rw [hA] at n64 e64
                obtain ⟨r1, r2, r3, r4⟩ : pa = 28963 ∧ gp = 28963 ∧ fa = 0 ∧ wa = false := by
                  have hp := HP.out
                  simp [rightsP, validB, letB, baseB, hV, hW, hR, hD, hU, hA] at hp
                  obtain ⟨q1, q2, q3, q4⟩ := hp
                  exact ⟨q1.symm, q2.symm, q3.symm, q4⟩
                subst r1; subst r2; subst r3; subst r4
                clear HP
                try simp only [Bool.not_true, Bool.not_false] at e1 e2 e4 e8 e16 e64 e128
                go_wp2_with (first
                  | ((with_reducible refine Step.gate_load (t := 47) rfl ?_); refine Step.loadAll P8.out rfl rfl rfl hu4 rfl size_place ?_)
                  | (go_at_call 13; refine (AW.out _).mono ?_; rintro e w15 ⟨rfl, hb⟩; have D15 := Lib.hid (D8.out.below hb); clear hb))
                go_ret
                exact ⟨rfl, HB1.out.trans (D15.out.out.mono HB1.out.size)⟩
              | false =>
                rw [hA] at n64 e64
                obtain ⟨r1, r2, r3, r4⟩ : pa = 0 ∧ gp = 0 ∧ fa = 1 ∧ wa = false := by
                  have hp := HP.out
                  simp [rightsP, validB, letB, baseB, hV, hW, hR, hD, hU, hA] at hp
                  obtain ⟨q1, q2, q3, q4⟩ := hp
                  exact ⟨q1.symm, q2.symm, q3.symm, q4⟩
                subst r1; subst r2; subst r3; subst r4
                clear HP
                try simp only [Bool.not_true, Bool.not_false] at e1 e2 e4 e8 e16 e64 e128
                go_wp2_with (first
                  | ((with_reducible refine Step.gate_load (t := 47) rfl ?_); refine Step.loadAll P8.out rfl rfl rfl hu4 rfl size_place ?_)
                  | (go_at_call 13; refine (AW.out _).mono ?_; rintro e w15 ⟨rfl, hb⟩; have D15 := Lib.hid (D8.out.below hb); clear hb))
                go_ret
                exact ⟨rfl, HB1.out.trans (D15.out.out.mono HB1.out.size)⟩
            | false =>
              rw [hU] at n16 e16
              obtain ⟨r1, r2, r3, r4⟩ : pa = 0 ∧ gp = 0 ∧ fa = 1 ∧ wa = false := by
                have hp := HP.out
                simp [rightsP, validB, letB, baseB, hV, hW, hR, hD, hU] at hp
                obtain ⟨q1, q2, q3, q4⟩ := hp
                exact ⟨q1.symm, q2.symm, q3.symm, q4⟩
              subst r1; subst r2; subst r3; subst r4
              clear HP
              try simp only [Bool.not_true, Bool.not_false] at e1 e2 e4 e8 e16 e64 e128
              go_wp2_with (first
                | ((with_reducible refine Step.gate_load (t := 47) rfl ?_); refine Step.loadAll P8.out rfl rfl rfl hu4 rfl size_place ?_)
                | (go_at_call 13; refine (AW.out _).mono ?_; rintro e w15 ⟨rfl, hb⟩; have D15 := Lib.hid (D8.out.below hb); clear hb))
              go_ret
              exact ⟨rfl, HB1.out.trans (D15.out.out.mono HB1.out.size)⟩
          | false =>
            rw [hD] at n128 e128
            obtain ⟨r1, r2, r3, r4⟩ : pa = 0 ∧ gp = 0 ∧ fa = 1 ∧ wa = false := by
              have hp := HP.out
              simp [rightsP, validB, letB, baseB, hV, hW, hR, hD] at hp
              obtain ⟨q1, q2, q3, q4⟩ := hp
              exact ⟨q1.symm, q2.symm, q3.symm, q4⟩
            subst r1; subst r2; subst r3; subst r4
            clear HP
            try simp only [Bool.not_true, Bool.not_false] at e1 e2 e4 e8 e16 e64 e128
            go_wp2_with (first
              | ((with_reducible refine Step.gate_load (t := 47) rfl ?_); refine Step.loadAll P8.out rfl rfl rfl hu4 rfl size_place ?_)
              | (go_at_call 13; refine (AW.out _).mono ?_; rintro e w15 ⟨rfl, hb⟩; have D15 := Lib.hid (D8.out.below hb); clear hb))
            go_ret
            exact ⟨rfl, HB1.out.trans (D15.out.out.mono HB1.out.size)⟩
        | false =>
          cases hU : bt b 4 with
          | true =>
            rw [hU] at n16 e16
            cases hD : bt b 7 with
            | true =>
              rw [hD] at n128 e128
              cases sum with
              | true =>
                cases hA : bt b 6 with
                | true =>
                  rw [hA] at n64 e64
                  obtain ⟨r1, r2, r3, r4⟩ : pa = 28963 ∧ gp = 28963 ∧ fa = 0 ∧ wa = false := by
                    have hp := HP.out
                    simp [rightsP, validB, letB, baseB, hV, hW, hR, hU, hD, hA] at hp
                    obtain ⟨q1, q2, q3, q4⟩ := hp
                    exact ⟨q1.symm, q2.symm, q3.symm, q4⟩
                  subst r1; subst r2; subst r3; subst r4
                  clear HP
                  try simp only [Bool.not_true, Bool.not_false] at e1 e2 e4 e8 e16 e64 e128
                  go_wp2_with (first
                    | ((with_reducible refine Step.gate_load (t := 47) rfl ?_); refine Step.loadAll P8.out rfl rfl rfl hu4 rfl size_place ?_)
                    | (go_at_call 13; refine (AW.out _).mono ?_; rintro e w15 ⟨rfl, hb⟩; have D15 := Lib.hid (D8.out.below hb); clear hb))
                  go_ret
                  exact ⟨rfl, HB1.out.trans (D15.out.out.mono HB1.out.size)⟩
                | false =>
                  rw [hA] at n64 e64
                  obtain ⟨r1, r2, r3, r4⟩ : pa = 0 ∧ gp = 0 ∧ fa = 1 ∧ wa = false := by
                    have hp := HP.out
                    simp [rightsP, validB, letB, baseB, hV, hW, hR, hU, hD, hA] at hp
                    obtain ⟨q1, q2, q3, q4⟩ := hp
                    exact ⟨q1.symm, q2.symm, q3.symm, q4⟩
                  subst r1; subst r2; subst r3; subst r4
                  clear HP
                  try simp only [Bool.not_true, Bool.not_false] at e1 e2 e4 e8 e16 e64 e128
                  go_wp2_with (first
                    | ((with_reducible refine Step.gate_load (t := 47) rfl ?_); refine Step.loadAll P8.out rfl rfl rfl hu4 rfl size_place ?_)
                    | (go_at_call 13; refine (AW.out _).mono ?_; rintro e w15 ⟨rfl, hb⟩; have D15 := Lib.hid (D8.out.below hb); clear hb))
                  go_ret
                  exact ⟨rfl, HB1.out.trans (D15.out.out.mono HB1.out.size)⟩
              | false =>
                obtain ⟨r1, r2, r3, r4⟩ : pa = 0 ∧ gp = 0 ∧ fa = 1 ∧ wa = false := by
                  have hp := HP.out
                  simp [rightsP, validB, letB, baseB, hV, hW, hR, hU, hD] at hp
                  obtain ⟨q1, q2, q3, q4⟩ := hp
                  exact ⟨q1.symm, q2.symm, q3.symm, q4⟩
                subst r1; subst r2; subst r3; subst r4
                clear HP
                try simp only [Bool.not_true, Bool.not_false] at e1 e2 e4 e8 e16 e64 e128
                go_wp2_with (first
                  | ((with_reducible refine Step.gate_load (t := 47) rfl ?_); refine Step.loadAll P8.out rfl rfl rfl hu4 rfl size_place ?_)
                  | (go_at_call 13; refine (AW.out _).mono ?_; rintro e w15 ⟨rfl, hb⟩; have D15 := Lib.hid (D8.out.below hb); clear hb))
                go_ret
                exact ⟨rfl, HB1.out.trans (D15.out.out.mono HB1.out.size)⟩
            | false =>
              rw [hD] at n128 e128
              obtain ⟨r1, r2, r3, r4⟩ : pa = 0 ∧ gp = 0 ∧ fa = 1 ∧ wa = false := by
                have hp := HP.out
                simp [rightsP, validB, letB, baseB, hV, hW, hR, hU, hD] at hp
                obtain ⟨q1, q2, q3, q4⟩ := hp
                exact ⟨q1.symm, q2.symm, q3.symm, q4⟩
              subst r1; subst r2; subst r3; subst r4
              clear HP
              try simp only [Bool.not_true, Bool.not_false] at e1 e2 e4 e8 e16 e64 e128
              go_wp2_with (first
                | ((with_reducible refine Step.gate_load (t := 47) rfl ?_); refine Step.loadAll P8.out rfl rfl rfl hu4 rfl size_place ?_)
                | (go_at_call 13; refine (AW.out _).mono ?_; rintro e w15 ⟨rfl, hb⟩; have D15 := Lib.hid (D8.out.below hb); clear hb))
              go_ret
              exact ⟨rfl, HB1.out.trans (D15.out.out.mono HB1.out.size)⟩
          | false =>
            rw [hU] at n16 e16
            cases hD : bt b 7 with
            | true =>
              rw [hD] at n128 e128
              cases hA : bt b 6 with
              | true =>
                rw [hA] at n64 e64
                obtain ⟨r1, r2, r3, r4⟩ : pa = 28963 ∧ gp = 28963 ∧ fa = 0 ∧ wa = false := by
                  have hp := HP.out
                  simp [rightsP, validB, letB, baseB, hV, hW, hR, hU, hD, hA] at hp
                  obtain ⟨q1, q2, q3, q4⟩ := hp
                  exact ⟨q1.symm, q2.symm, q3.symm, q4⟩
                subst r1; subst r2; subst r3; subst r4
                clear HP
                try simp only [Bool.not_true, Bool.not_false] at e1 e2 e4 e8 e16 e64 e128
                go_wp2_with (first
                  | ((with_reducible refine Step.gate_load (t := 47) rfl ?_); refine Step.loadAll P8.out rfl rfl rfl hu4 rfl size_place ?_)
                  | (go_at_call 13; refine (AW.out _).mono ?_; rintro e w15 ⟨rfl, hb⟩; have D15 := Lib.hid (D8.out.below hb); clear hb))
                go_ret
                exact ⟨rfl, HB1.out.trans (D15.out.out.mono HB1.out.size)⟩
              | false =>
                rw [hA] at n64 e64
                obtain ⟨r1, r2, r3, r4⟩ : pa = 0 ∧ gp = 0 ∧ fa = 1 ∧ wa = false := by
                  have hp := HP.out
                  simp [rightsP, validB, letB, baseB, hV, hW, hR, hU, hD, hA] at hp
                  obtain ⟨q1, q2, q3, q4⟩ := hp
                  exact ⟨q1.symm, q2.symm, q3.symm, q4⟩
                subst r1; subst r2; subst r3; subst r4
                clear HP
                try simp only [Bool.not_true, Bool.not_false] at e1 e2 e4 e8 e16 e64 e128
                go_wp2_with (first
                  | ((with_reducible refine Step.gate_load (t := 47) rfl ?_); refine Step.loadAll P8.out rfl rfl rfl hu4 rfl size_place ?_)
                  | (go_at_call 13; refine (AW.out _).mono ?_; rintro e w15 ⟨rfl, hb⟩; have D15 := Lib.hid (D8.out.below hb); clear hb))
                go_ret
                exact ⟨rfl, HB1.out.trans (D15.out.out.mono HB1.out.size)⟩
            | false =>
              rw [hD] at n128 e128
              obtain ⟨r1, r2, r3, r4⟩ : pa = 0 ∧ gp = 0 ∧ fa = 1 ∧ wa = false := by
                have hp := HP.out
                simp [rightsP, validB, letB, baseB, hV, hW, hR, hU, hD] at hp
                obtain ⟨q1, q2, q3, q4⟩ := hp
                exact ⟨q1.symm, q2.symm, q3.symm, q4⟩
              subst r1; subst r2; subst r3; subst r4
              clear HP
              try simp only [Bool.not_true, Bool.not_false] at e1 e2 e4 e8 e16 e64 e128
              go_wp2_with (first
                | ((with_reducible refine Step.gate_load (t := 47) rfl ?_); refine Step.loadAll P8.out rfl rfl rfl hu4 rfl size_place ?_)
                | (go_at_call 13; refine (AW.out _).mono ?_; rintro e w15 ⟨rfl, hb⟩; have D15 := Lib.hid (D8.out.below hb); clear hb))
              go_ret
              exact ⟨rfl, HB1.out.trans (D15.out.out.mono HB1.out.size)⟩
      | false =>
        rw [hR] at n2 e2
        cases user with
        | true =>
          cases hD : bt b 7 with
          | true =>
            rw [hD] at n128 e128
            obtain ⟨r1, r2, r3, r4⟩ : pa = 0 ∧ gp = 0 ∧ fa = 1 ∧ wa = false := by
              have hp := HP.out
              simp [rightsP, validB, letB, baseB, hV, hW, hR, hD] at hp
              obtain ⟨q1, q2, q3, q4⟩ := hp
              exact ⟨q1.symm, q2.symm, q3.symm, q4⟩
            subst r1; subst r2; subst r3; subst r4
            clear HP
            try simp only [Bool.not_true, Bool.not_false] at e1 e2 e4 e8 e16 e64 e128
            go_wp2_with (first
              | ((with_reducible refine Step.gate_load (t := 47) rfl ?_); refine Step.loadAll P8.out rfl rfl rfl hu4 rfl size_place ?_)
              | (go_at_call 13; refine (AW.out _).mono ?_; rintro e w15 ⟨rfl, hb⟩; have D15 := Lib.hid (D8.out.below hb); clear hb))
            go_ret
            exact ⟨rfl, HB1.out.trans (D15.out.out.mono HB1.out.size)⟩
          | false =>
            rw [hD] at n128 e128
            obtain ⟨r1, r2, r3, r4⟩ : pa = 0 ∧ gp = 0 ∧ fa = 1 ∧ wa = false := by
              have hp := HP.out
              simp [rightsP, validB, letB, baseB, hV, hW, hR, hD] at hp
              obtain ⟨q1, q2, q3, q4⟩ := hp
              exact ⟨q1.symm, q2.symm, q3.symm, q4⟩
            subst r1; subst r2; subst r3; subst r4
            clear HP
            try simp only [Bool.not_true, Bool.not_false] at e1 e2 e4 e8 e16 e64 e128
            go_wp2_with (first
              | ((with_reducible refine Step.gate_load (t := 47) rfl ?_); refine Step.loadAll P8.out rfl rfl rfl hu4 rfl size_place ?_)
              | (go_at_call 13; refine (AW.out _).mono ?_; rintro e w15 ⟨rfl, hb⟩; have D15 := Lib.hid (D8.out.below hb); clear hb))
            go_ret
            exact ⟨rfl, HB1.out.trans (D15.out.out.mono HB1.out.size)⟩
        | false =>
          cases hU : bt b 4 with
          | true =>
            rw [hU] at n16 e16
            cases hD : bt b 7 with
            | true =>
              rw [hD] at n128 e128
              obtain ⟨r1, r2, r3, r4⟩ : pa = 0 ∧ gp = 0 ∧ fa = 1 ∧ wa = false := by
                have hp := HP.out
                simp [rightsP, validB, letB, baseB, hV, hW, hR, hU, hD] at hp
                obtain ⟨q1, q2, q3, q4⟩ := hp
                exact ⟨q1.symm, q2.symm, q3.symm, q4⟩
              subst r1; subst r2; subst r3; subst r4
              clear HP
              try simp only [Bool.not_true, Bool.not_false] at e1 e2 e4 e8 e16 e64 e128
              go_wp2_with (first
                | ((with_reducible refine Step.gate_load (t := 47) rfl ?_); refine Step.loadAll P8.out rfl rfl rfl hu4 rfl size_place ?_)
                | (go_at_call 13; refine (AW.out _).mono ?_; rintro e w15 ⟨rfl, hb⟩; have D15 := Lib.hid (D8.out.below hb); clear hb))
              go_ret
              exact ⟨rfl, HB1.out.trans (D15.out.out.mono HB1.out.size)⟩
            | false =>
              rw [hD] at n128 e128
              obtain ⟨r1, r2, r3, r4⟩ : pa = 0 ∧ gp = 0 ∧ fa = 1 ∧ wa = false := by
                have hp := HP.out
                simp [rightsP, validB, letB, baseB, hV, hW, hR, hU, hD] at hp
                obtain ⟨q1, q2, q3, q4⟩ := hp
                exact ⟨q1.symm, q2.symm, q3.symm, q4⟩
              subst r1; subst r2; subst r3; subst r4
              clear HP
              try simp only [Bool.not_true, Bool.not_false] at e1 e2 e4 e8 e16 e64 e128
              go_wp2_with (first
                | ((with_reducible refine Step.gate_load (t := 47) rfl ?_); refine Step.loadAll P8.out rfl rfl rfl hu4 rfl size_place ?_)
                | (go_at_call 13; refine (AW.out _).mono ?_; rintro e w15 ⟨rfl, hb⟩; have D15 := Lib.hid (D8.out.below hb); clear hb))
              go_ret
              exact ⟨rfl, HB1.out.trans (D15.out.out.mono HB1.out.size)⟩
          | false =>
            rw [hU] at n16 e16
            obtain ⟨r1, r2, r3, r4⟩ : pa = 0 ∧ gp = 0 ∧ fa = 1 ∧ wa = false := by
              have hp := HP.out
              simp [rightsP, validB, letB, baseB, hV, hW, hR, hU] at hp
              obtain ⟨q1, q2, q3, q4⟩ := hp
              exact ⟨q1.symm, q2.symm, q3.symm, q4⟩
            subst r1; subst r2; subst r3; subst r4
            clear HP
            try simp only [Bool.not_true, Bool.not_false] at e1 e2 e4 e8 e16 e64 e128
            go_wp2_with (first
              | ((with_reducible refine Step.gate_load (t := 47) rfl ?_); refine Step.loadAll P8.out rfl rfl rfl hu4 rfl size_place ?_)
              | (go_at_call 13; refine (AW.out _).mono ?_; rintro e w15 ⟨rfl, hb⟩; have D15 := Lib.hid (D8.out.below hb); clear hb))
            go_ret
            exact ⟨rfl, HB1.out.trans (D15.out.out.mono HB1.out.size)⟩
    | false =>
      rw [hW] at n4 e4
      cases hR : bt b 1 with
      | true =>
        rw [hR] at n2 e2
        cases user with
        | true =>
          obtain ⟨r1, r2, r3, r4⟩ : pa = 0 ∧ gp = 0 ∧ fa = 1 ∧ wa = false := by
            have hp := HP.out
            simp [rightsP, validB, letB, baseB, hV, hW, hR] at hp
            obtain ⟨q1, q2, q3, q4⟩ := hp
            exact ⟨q1.symm, q2.symm, q3.symm, q4⟩
          subst r1; subst r2; subst r3; subst r4
          clear HP
          try simp only [Bool.not_true, Bool.not_false] at e1 e2 e4 e8 e16 e64 e128
          go_wp2_with (first
            | ((with_reducible refine Step.gate_load (t := 47) rfl ?_); refine Step.loadAll P8.out rfl rfl rfl hu4 rfl size_place ?_)
            | (go_at_call 13; refine (AW.out _).mono ?_; rintro e w15 ⟨rfl, hb⟩; have D15 := Lib.hid (D8.out.below hb); clear hb))
          go_ret
          exact ⟨rfl, HB1.out.trans (D15.out.out.mono HB1.out.size)⟩
        | false =>
          cases hU : bt b 4 with
          | true =>
            rw [hU] at n16 e16
            obtain ⟨r1, r2, r3, r4⟩ : pa = 0 ∧ gp = 0 ∧ fa = 1 ∧ wa = false := by
              have hp := HP.out
              simp [rightsP, validB, letB, baseB, hV, hW, hR, hU] at hp
              obtain ⟨q1, q2, q3, q4⟩ := hp
              exact ⟨q1.symm, q2.symm, q3.symm, q4⟩
            subst r1; subst r2; subst r3; subst r4
            clear HP
            try simp only [Bool.not_true, Bool.not_false] at e1 e2 e4 e8 e16 e64 e128
            go_wp2_with (first
              | ((with_reducible refine Step.gate_load (t := 47) rfl ?_); refine Step.loadAll P8.out rfl rfl rfl hu4 rfl size_place ?_)
              | (go_at_call 13; refine (AW.out _).mono ?_; rintro e w15 ⟨rfl, hb⟩; have D15 := Lib.hid (D8.out.below hb); clear hb))
            go_ret
            exact ⟨rfl, HB1.out.trans (D15.out.out.mono HB1.out.size)⟩
          | false =>
            rw [hU] at n16 e16
            obtain ⟨r1, r2, r3, r4⟩ : pa = 0 ∧ gp = 0 ∧ fa = 1 ∧ wa = false := by
              have hp := HP.out
              simp [rightsP, validB, letB, baseB, hV, hW, hR, hU] at hp
              obtain ⟨q1, q2, q3, q4⟩ := hp
              exact ⟨q1.symm, q2.symm, q3.symm, q4⟩
            subst r1; subst r2; subst r3; subst r4
            clear HP
            try simp only [Bool.not_true, Bool.not_false] at e1 e2 e4 e8 e16 e64 e128
            go_wp2_with (first
              | ((with_reducible refine Step.gate_load (t := 47) rfl ?_); refine Step.loadAll P8.out rfl rfl rfl hu4 rfl size_place ?_)
              | (go_at_call 13; refine (AW.out _).mono ?_; rintro e w15 ⟨rfl, hb⟩; have D15 := Lib.hid (D8.out.below hb); clear hb))
            go_ret
            exact ⟨rfl, HB1.out.trans (D15.out.out.mono HB1.out.size)⟩
      | false =>
        rw [hR] at n2 e2
        cases user with
        | true =>
          cases hX : bt b 3 with
          | true =>
            rw [hX] at n8 e8
            obtain ⟨r1, r2, r3, r4⟩ : pa = 0 ∧ gp = 0 ∧ fa = 1 ∧ wa = false := by
              have hp := HP.out
              simp [rightsP, validB, letB, baseB, hV, hW, hR, hX] at hp
              obtain ⟨q1, q2, q3, q4⟩ := hp
              exact ⟨q1.symm, q2.symm, q3.symm, q4⟩
            subst r1; subst r2; subst r3; subst r4
            clear HP
            try simp only [Bool.not_true, Bool.not_false] at e1 e2 e4 e8 e16 e64 e128
            go_wp2_with (first
              | ((with_reducible refine Step.gate_load (t := 47) rfl ?_); refine Step.loadAll P8.out rfl rfl rfl hu4 rfl size_place ?_)
              | (go_at_call 13; refine (AW.out _).mono ?_; rintro e w15 ⟨rfl, hb⟩; have D15 := Lib.hid (D8.out.below hb); clear hb))
            go_ret
            exact ⟨rfl, HB1.out.trans (D15.out.out.mono HB1.out.size)⟩
          | false =>
            rw [hX] at n8 e8
            obtain ⟨r1, r2, r3, r4⟩ : pa = 0 ∧ gp = 0 ∧ fa = 1 ∧ wa = false := by
              have hp := HP.out
              simp [rightsP, validB, letB, baseB, hV, hW, hR, hX] at hp
              obtain ⟨q1, q2, q3, q4⟩ := hp
              exact ⟨q1.symm, q2.symm, q3.symm, q4⟩
            subst r1; subst r2; subst r3; subst r4
            clear HP
            try simp only [Bool.not_true, Bool.not_false] at e1 e2 e4 e8 e16 e64 e128
            go_wp2_with (first
              | ((with_reducible refine Step.gate_load (t := 47) rfl ?_); refine Step.loadAll P8.out rfl rfl rfl hu4 rfl size_place ?_)
              | (go_at_call 13; refine (AW.out _).mono ?_; rintro e w15 ⟨rfl, hb⟩; have D15 := Lib.hid (D8.out.below hb); clear hb))
            go_ret
            exact ⟨rfl, HB1.out.trans (D15.out.out.mono HB1.out.size)⟩
        | false =>
          cases hU : bt b 4 with
          | true =>
            rw [hU] at n16 e16
            cases hX : bt b 3 with
            | true =>
              rw [hX] at n8 e8
              obtain ⟨r1, r2, r3, r4⟩ : pa = 0 ∧ gp = 0 ∧ fa = 1 ∧ wa = false := by
                have hp := HP.out
                simp [rightsP, validB, letB, baseB, hV, hW, hR, hU, hX] at hp
                obtain ⟨q1, q2, q3, q4⟩ := hp
                exact ⟨q1.symm, q2.symm, q3.symm, q4⟩
              subst r1; subst r2; subst r3; subst r4
              clear HP
              try simp only [Bool.not_true, Bool.not_false] at e1 e2 e4 e8 e16 e64 e128
              go_wp2_with (first
                | ((with_reducible refine Step.gate_load (t := 47) rfl ?_); refine Step.loadAll P8.out rfl rfl rfl hu4 rfl size_place ?_)
                | (go_at_call 13; refine (AW.out _).mono ?_; rintro e w15 ⟨rfl, hb⟩; have D15 := Lib.hid (D8.out.below hb); clear hb))
              go_ret
              exact ⟨rfl, HB1.out.trans (D15.out.out.mono HB1.out.size)⟩
            | false =>
              rw [hX] at n8 e8
              obtain ⟨r1, r2, r3, r4⟩ : pa = 0 ∧ gp = 0 ∧ fa = 1 ∧ wa = false := by
                have hp := HP.out
                simp [rightsP, validB, letB, baseB, hV, hW, hR, hU, hX] at hp
                obtain ⟨q1, q2, q3, q4⟩ := hp
                exact ⟨q1.symm, q2.symm, q3.symm, q4⟩
              subst r1; subst r2; subst r3; subst r4
              clear HP
              try simp only [Bool.not_true, Bool.not_false] at e1 e2 e4 e8 e16 e64 e128
              go_wp2_with (first
                | ((with_reducible refine Step.gate_load (t := 47) rfl ?_); refine Step.loadAll P8.out rfl rfl rfl hu4 rfl size_place ?_)
                | (go_at_call 13; refine (AW.out _).mono ?_; rintro e w15 ⟨rfl, hb⟩; have D15 := Lib.hid (D8.out.below hb); clear hb))
              go_ret
              exact ⟨rfl, HB1.out.trans (D15.out.out.mono HB1.out.size)⟩
          | false =>
            rw [hU] at n16 e16
            cases hX : bt b 3 with
            | true =>
              rw [hX] at n8 e8
              obtain ⟨r1, r2, r3, r4⟩ : pa = 0 ∧ gp = 0 ∧ fa = 1 ∧ wa = false := by
                have hp := HP.out
                simp [rightsP, validB, letB, baseB, hV, hW, hR, hU, hX] at hp
                obtain ⟨q1, q2, q3, q4⟩ := hp
                exact ⟨q1.symm, q2.symm, q3.symm, q4⟩
              subst r1; subst r2; subst r3; subst r4
              clear HP
              try simp only [Bool.not_true, Bool.not_false] at e1 e2 e4 e8 e16 e64 e128
              go_wp2_with (first
                | ((with_reducible refine Step.gate_load (t := 47) rfl ?_); refine Step.loadAll P8.out rfl rfl rfl hu4 rfl size_place ?_)
                | (go_at_call 13; refine (AW.out _).mono ?_; rintro e w15 ⟨rfl, hb⟩; have D15 := Lib.hid (D8.out.below hb); clear hb))
              go_ret
              exact ⟨rfl, HB1.out.trans (D15.out.out.mono HB1.out.size)⟩
            | false =>
              rw [hX] at n8 e8
              obtain ⟨r1, r2, r3, r4⟩ : pa = 0 ∧ gp = 0 ∧ fa = 1 ∧ wa = false := by
                have hp := HP.out
                simp [rightsP, validB, letB, baseB, hV, hW, hR, hU, hX] at hp
                obtain ⟨q1, q2, q3, q4⟩ := hp
                exact ⟨q1.symm, q2.symm, q3.symm, q4⟩
              subst r1; subst r2; subst r3; subst r4
              clear HP
              try simp only [Bool.not_true, Bool.not_false] at e1 e2 e4 e8 e16 e64 e128
              go_wp2_with (first
                | ((with_reducible refine Step.gate_load (t := 47) rfl ?_); refine Step.loadAll P8.out rfl rfl rfl hu4 rfl size_place ?_)
                | (go_at_call 13; refine (AW.out _).mono ?_; rintro e w15 ⟨rfl, hb⟩; have D15 := Lib.hid (D8.out.below hb); clear hb))
              go_ret
              exact ⟨rfl, HB1.out.trans (D15.out.out.mono HB1.out.size)⟩
  | false =>
    rw [hV] at n1 e1
    cases hW : bt b 2 with
    | true =>
      rw [hW] at n4 e4
      cases user with
      | true =>
        cases hD : bt b 7 with
        | true =>
          rw [hD] at n128 e128
          obtain ⟨r1, r2, r3, r4⟩ : pa = 0 ∧ gp = 0 ∧ fa = 1 ∧ wa = false := by
            have hp := HP.out
            simp [rightsP, validB, letB, baseB, hV, hW, hD] at hp
            obtain ⟨q1, q2, q3, q4⟩ := hp
            exact ⟨q1.symm, q2.symm, q3.symm, q4⟩
          subst r1; subst r2; subst r3; subst r4
          clear HP
          try simp only [Bool.not_true, Bool.not_false] at e1 e2 e4 e8 e16 e64 e128
          go_wp2_with (first
            | ((with_reducible refine Step.gate_load (t := 47) rfl ?_); refine Step.loadAll P8.out rfl rfl rfl hu4 rfl size_place ?_)
            | (go_at_call 13; refine (AW.out _).mono ?_; rintro e w15 ⟨rfl, hb⟩; have D15 := Lib.hid (D8.out.below hb); clear hb))
          go_ret
          exact ⟨rfl, HB1.out.trans (D15.out.out.mono HB1.out.size)⟩
        | false =>
          rw [hD] at n128 e128
          obtain ⟨r1, r2, r3, r4⟩ : pa = 0 ∧ gp = 0 ∧ fa = 1 ∧ wa = false := by
            have hp := HP.out
            simp [rightsP, validB, letB, baseB, hV, hW, hD] at hp
            obtain ⟨q1, q2, q3, q4⟩ := hp
            exact ⟨q1.symm, q2.symm, q3.symm, q4⟩
          subst r1; subst r2; subst r3; subst r4
          clear HP
          try simp only [Bool.not_true, Bool.not_false] at e1 e2 e4 e8 e16 e64 e128
          go_wp2_with (first
            | ((with_reducible refine Step.gate_load (t := 47) rfl ?_); refine Step.loadAll P8.out rfl rfl rfl hu4 rfl size_place ?_)
            | (go_at_call 13; refine (AW.out _).mono ?_; rintro e w15 ⟨rfl, hb⟩; have D15 := Lib.hid (D8.out.below hb); clear hb))
          go_ret
          exact ⟨rfl, HB1.out.trans (D15.out.out.mono HB1.out.size)⟩
      | false =>
        cases hU : bt b 4 with
        | true =>
          rw [hU] at n16 e16
          cases hD : bt b 7 with
          | true =>
            rw [hD] at n128 e128
            obtain ⟨r1, r2, r3, r4⟩ : pa = 0 ∧ gp = 0 ∧ fa = 1 ∧ wa = false := by
              have hp := HP.out
              simp [rightsP, validB, letB, baseB, hV, hW, hU, hD] at hp
              obtain ⟨q1, q2, q3, q4⟩ := hp
              exact ⟨q1.symm, q2.symm, q3.symm, q4⟩
            subst r1; subst r2; subst r3; subst r4
            clear HP
            try simp only [Bool.not_true, Bool.not_false] at e1 e2 e4 e8 e16 e64 e128
            go_wp2_with (first
              | ((with_reducible refine Step.gate_load (t := 47) rfl ?_); refine Step.loadAll P8.out rfl rfl rfl hu4 rfl size_place ?_)
              | (go_at_call 13; refine (AW.out _).mono ?_; rintro e w15 ⟨rfl, hb⟩; have D15 := Lib.hid (D8.out.below hb); clear hb))
            go_ret
            exact ⟨rfl, HB1.out.trans (D15.out.out.mono HB1.out.size)⟩
          | false =>
            rw [hD] at n128 e128
            obtain ⟨r1, r2, r3, r4⟩ : pa = 0 ∧ gp = 0 ∧ fa = 1 ∧ wa = false := by
              have hp := HP.out
              simp [rightsP, validB, letB, baseB, hV, hW, hU, hD] at hp
              obtain ⟨q1, q2, q3, q4⟩ := hp
              exact ⟨q1.symm, q2.symm, q3.symm, q4⟩
            subst r1; subst r2; subst r3; subst r4
            clear HP
            try simp only [Bool.not_true, Bool.not_false] at e1 e2 e4 e8 e16 e64 e128
            go_wp2_with (first
              | ((with_reducible refine Step.gate_load (t := 47) rfl ?_); refine Step.loadAll P8.out rfl rfl rfl hu4 rfl size_place ?_)
              | (go_at_call 13; refine (AW.out _).mono ?_; rintro e w15 ⟨rfl, hb⟩; have D15 := Lib.hid (D8.out.below hb); clear hb))
            go_ret
            exact ⟨rfl, HB1.out.trans (D15.out.out.mono HB1.out.size)⟩
        | false =>
          rw [hU] at n16 e16
          obtain ⟨r1, r2, r3, r4⟩ : pa = 0 ∧ gp = 0 ∧ fa = 1 ∧ wa = false := by
            have hp := HP.out
            simp [rightsP, validB, letB, baseB, hV, hW, hU] at hp
            obtain ⟨q1, q2, q3, q4⟩ := hp
            exact ⟨q1.symm, q2.symm, q3.symm, q4⟩
          subst r1; subst r2; subst r3; subst r4
          clear HP
          try simp only [Bool.not_true, Bool.not_false] at e1 e2 e4 e8 e16 e64 e128
          go_wp2_with (first
            | ((with_reducible refine Step.gate_load (t := 47) rfl ?_); refine Step.loadAll P8.out rfl rfl rfl hu4 rfl size_place ?_)
            | (go_at_call 13; refine (AW.out _).mono ?_; rintro e w15 ⟨rfl, hb⟩; have D15 := Lib.hid (D8.out.below hb); clear hb))
          go_ret
          exact ⟨rfl, HB1.out.trans (D15.out.out.mono HB1.out.size)⟩
    | false =>
      rw [hW] at n4 e4
      cases user with
      | true =>
        obtain ⟨r1, r2, r3, r4⟩ : pa = 0 ∧ gp = 0 ∧ fa = 1 ∧ wa = false := by
          have hp := HP.out
          simp [rightsP, validB, letB, baseB, hV, hW] at hp
          obtain ⟨q1, q2, q3, q4⟩ := hp
          exact ⟨q1.symm, q2.symm, q3.symm, q4⟩
        subst r1; subst r2; subst r3; subst r4
        clear HP
        try simp only [Bool.not_true, Bool.not_false] at e1 e2 e4 e8 e16 e64 e128
        go_wp2_with (first
          | ((with_reducible refine Step.gate_load (t := 47) rfl ?_); refine Step.loadAll P8.out rfl rfl rfl hu4 rfl size_place ?_)
          | (go_at_call 13; refine (AW.out _).mono ?_; rintro e w15 ⟨rfl, hb⟩; have D15 := Lib.hid (D8.out.below hb); clear hb))
        go_ret
        exact ⟨rfl, HB1.out.trans (D15.out.out.mono HB1.out.size)⟩
      | false =>
        cases hU : bt b 4 with
        | true =>
          rw [hU] at n16 e16
          obtain ⟨r1, r2, r3, r4⟩ : pa = 0 ∧ gp = 0 ∧ fa = 1 ∧ wa = false := by
            have hp := HP.out
            simp [rightsP, validB, letB, baseB, hV, hW, hU] at hp
            obtain ⟨q1, q2, q3, q4⟩ := hp
            exact ⟨q1.symm, q2.symm, q3.symm, q4⟩
          subst r1; subst r2; subst r3; subst r4
          clear HP
          try simp only [Bool.not_true, Bool.not_false] at e1 e2 e4 e8 e16 e64 e128
          go_wp2_with (first
            | ((with_reducible refine Step.gate_load (t := 47) rfl ?_); refine Step.loadAll P8.out rfl rfl rfl hu4 rfl size_place ?_)
            | (go_at_call 13; refine (AW.out _).mono ?_; rintro e w15 ⟨rfl, hb⟩; have D15 := Lib.hid (D8.out.below hb); clear hb))
          go_ret
          exact ⟨rfl, HB1.out.trans (D15.out.out.mono HB1.out.size)⟩
        | false =>
          rw [hU] at n16 e16
          obtain ⟨r1, r2, r3, r4⟩ : pa = 0 ∧ gp = 0 ∧ fa = 1 ∧ wa = false := by
            have hp := HP.out
            simp [rightsP, validB, letB, baseB, hV, hW, hU] at hp
            obtain ⟨q1, q2, q3, q4⟩ := hp
            exact ⟨q1.symm, q2.symm, q3.symm, q4⟩
          subst r1; subst r2; subst r3; subst r4
          clear HP
          try simp only [Bool.not_true, Bool.not_false] at e1 e2 e4 e8 e16 e64 e128
          go_wp2_with (first
            | ((with_reducible refine Step.gate_load (t := 47) rfl ?_); refine Step.loadAll P8.out rfl rfl rfl hu4 rfl size_place ?_)
            | (go_at_call 13; refine (AW.out _).mono ?_; rintro e w15 ⟨rfl, hb⟩; have D15 := Lib.hid (D8.out.below hb); clear hb))
          go_ret
          exact ⟨rfl, HB1.out.trans (D15.out.out.mono HB1.out.size)⟩

theorem rights_any (bits0 : Int) (user sum mxr : Bool) (access : Int) (W : World) (w1 : (Lit.int .i64 bits0).wf = true) (w2 : (Lit.int .i64 access).wf = true) :
    Calls Try.prog 9 #[.int .i64 bits0, .bool user, .bool sum, .bool mxr, .int .i64 access] W fun e w' => e = .returned (.bool true) ∧ Below W.heap.size W w' := by
  obtain h | h | h : access % 3 = 0 ∨ access % 3 = 1 ∨ access % 3 = 2 := by omega
  · exact rights_1 bits0 access _ user sum mxr W (i64_wf w1) (i64_wf w2) rfl h
  · exact rights_2 bits0 access _ user sum mxr W (i64_wf w1) (i64_wf w2) rfl h
  · exact rights_3 bits0 access _ user sum mxr W (i64_wf w1) (i64_wf w2) rfl h
end Go.Proofs.Ytfoocpcpljlndaa.Duo
