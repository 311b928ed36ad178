/- Parts of the walks and laws for the claim: RefW; no conditions beyond the theorems' own. -/
import Derived.Test.YtchpnbckgofiaaaGreatQ5
import Derived.Test.YtchpnbckgofiaaaGreatQ9
section
namespace Go.Proofs.YtchpnbckgofiaaaGreat.Tab
open Go Go.RowKit Go.Proofs.YtchpnbckgofiaaaGreat.Step Go.Proofs.YtchpnbckgofiaaaGreat.Mem Go.Proofs.YtchpnbckgofiaaaGreat.Duo
set_option linter.unusedVariables false
set_option linter.unusedSimpArgs false
set_option maxRecDepth 100000
/-- What walk hands back. -/
def walkOf : Fst → Place × Bool
  | .ok g => (⟨0, g, 0, false⟩, true)
  | .page => (⟨0, 0, 1, false⟩, false)
  | .bus f t i => (⟨0, t * 4096 + 8 * i, f, true⟩, false)
theorem put_z {W : World} {e addr z : Int} {l : Nat} (hz : z = l) (hl : l ≤ 2) (h : U64 e) (ha : U64 addr) :
    Calls Tryz.prog 96 #[.agg #[.int .u64 e, .int .i64 z], .int .u64 addr] W fun x w' => x = .returned (.int .u64 (at_ e l addr)) ∧ Below W.heap.size W w' := by subst hz; exact put_any hl h ha
set_option maxHeartbeats 16000000 in
theorem rwalk_any {W : World} {h n : Nat} {base : Int} {mem : Nat → Int} {F : Nat → Prop} (r : Ref.Mem W h base n mem F) (satp root va a : Int) (user sum mxr : Bool) (hs : U64 satp) (hr : U64 root) (hv : U64 va) :
    Calls Tryz.prog 61 #[.pointer (some ⟨h, 0, none⟩), .agg (envV satp root user sum mxr), .int .u64 va, .int .i64 a] W fun e W' => e = .returned (.tuple #[.agg (placeV (walkOf (fstOf user sum mxr va a (down (virt base n mem root) va 3 (satp % 17592186044416)))).1), .bool (walkOf (fstOf user sum mxr va a (down (virt base n mem root) va 3 (satp % 17592186044416)))).2]) ∧ Below W.heap.size W W' := by
  obtain ⟨n1, n2, b1, b2⟩ := r.size
  have hby := fun i (hi : i < n * 4096) => r.byte hi
  have HU := Lib.hid (fun t (ht : 0 ≤ t ∧ t < 17592186044416) (l : Nat) => (virtAt_u (root := root) b1 hby (show U64 (t * 4096 + 8 * ix va l) from by have := ix_u va l; exact ⟨by omega, by omega⟩)).1)
  have HGU := Lib.hid (fun g (hg : U64 g) => guest_u (root := root) b1 hby hg 2)
  have R := Lib.hid r
  have HR := Lib.hid hr
  have HV := Lib.hid hv
  have hmask : bits .and .u64 satp 17592186044415 = satp % 17592186044416 := and_mask 44 hs (by decide)
  have hu := Tryz.underlying79
  have hu2 := Tryz.underlying82
  have hu5 := Tryz.underlying146
  have HST := Lib.hid (show 0 ≤ satp % 17592186044416 ∧ satp % 17592186044416 < 17592186044416 from by omega)
  generalize hres : down (virt base n mem root) va 3 (satp % 17592186044416) = res
  unfold envV
  clear r hr hv hby n1 n2 b1 b2 hs
  go_enter Tryz.func61, Tryz.ntmps61
  go_wp2_with (first
 | ((with_reducible refine Step.gate_box (t := 82) rfl ?_); refine Step.fresh (cs := #[.int .u64 satp, .int .u64 root, .bool user, .bool sum, .bool mxr]) (T := 82) rfl ?hr ?_; (case hr => go_simp); intro q5 w1 b hg hb; have A5 := Lib.hid b; have HB1 := Lib.hid hb; have S1 := Lib.hid (show W.heap.size ≤ q5 ∧ q5 < w1.heap.size from ⟨hg, b.lt⟩); clear b hg hb)
 | (refine Step.freshAlloc rfl rfl (alloc_agg zero_place) ?_; intro g8 w2 b hg hb; have A8 := Lib.hid b; have A52 := Lib.hid (A5.out.below hb); have HB2 := Lib.hid (HB1.out.trans (hb.mono HB1.out.size)); have S2 := Lib.hid (show w1.heap.size ≤ g8 ∧ g8 < w2.heap.size from ⟨hg, b.lt⟩); have k0 := (A5.out.below hb).cell 0; simp only [List.getElem?_toArray, List.getElem?_cons_zero, List.getElem?_cons_succ] at k0; clear b hg hb))
  have HS8 := Lib.hid (show W.heap.size ≤ g8 ∧ g8 < w2.heap.size from by have := S1.out; have := S2.out; omega)
  have HRES := Lib.hid hres
  clear hres k0 S1 S2 HB1 A5
  go_loopw [10, 11, 12, 13, 14, 15, 16, 17] (fun t l _ _ _ _ _ _ w => ∃ (tv : Int) (k : Nat), k ≤ 3 ∧ t = .int .u64 tv ∧ l = .int .i64 ((k : Int) - 1) ∧ (0 ≤ tv ∧ tv < 17592186044416) ∧ down (virt base n mem root) va k tv = res ∧ Below w2.heap.size w2 w) (fun _ l _ _ _ _ _ _ _ => (intOf l + 1).toNat)
  case atStart => exact ⟨_, 3, by decide, rfl, rfl, HST.out, HRES.out, Below.refl _ _⟩
  case round =>
    obtain ⟨tv, k, hk, rfl, rfl, htv, hdn, hbw⟩ := hrel
    have HBW := Lib.hid hbw
    have A8r := Lib.hid (A8.out.below hbw)
    have A5r := Lib.hid (A52.out.below hbw)
    have HBr := Lib.hid (HB2.out.trans (hbw.mono HB2.out.size))
    have Rr := Lib.hid (R.out.below (HB2.out.trans (hbw.mono HB2.out.size)))
    have k1 := A5r.out.cell 1
    simp only [List.getElem?_toArray, List.getElem?_cons_zero, List.getElem?_cons_succ] at k1
    clear hbw HRES
    obtain hk | hk | hk | hk : k = 0 ∨ k = 1 ∨ k = 2 ∨ k = 3 := by omega
    · subst hk
      have E := Lib.hid (show res = Res.page from hdn.symm)
      clear hdn htv
      go_wp2_with (first
 | (refine Step.storeAll (vs := #[.int .u64 0, .int .u64 0, .int .i64 1, .bool false]) A8r.out rfl rfl rfl rfl rfl size_place rfl rfl ?_; intro w9 nb m; have N9 := Lib.hid nb; have HB9 := Lib.hid (below_mod HBr.out HBr.out.size m (fun k hk e => by obtain rfl : k = g8 := e; have := HS8.out; omega)); clear nb m))
      refine bodyPost_ret (results_row_tmp rfl _ _ g8 _ _ _ rfl N9.out hu rfl size_place) rfl ⟨by rw [E.out]; rfl, HB9.out⟩
    · subst hk
      have z0 : (((1 : Nat) : Int) - 1) = 0 := by decide
      have z1 : IntKind.i64.wrap 0 = 0 := by decide
      have z2 : IntKind.i64.wrap 12 = 12 := by decide
      have ixu := ix_u va 0
      obtain ⟨v0, v1⟩ := HV.out
      obtain ⟨t0, t1⟩ := htv
      have D := Lib.hid (show res = (if (virt base n mem root tv (ix va 0)).2 ≠ 0 then Res.bus (virt base n mem root tv (ix va 0)).2 tv (ix va 0) else if wrongB (virt base n mem root tv (ix va 0)).1 = true then .page else if ptr (virt base n mem root tv (ix va 0)).1 = true then down (virt base n mem root) va 0 (pn (virt base n mem root tv (ix va 0)).1) else if odd (virt base n mem root tv (ix va 0)).1 0 = true then .page else .leaf (virt base n mem root tv (ix va 0)).1 0) from hdn.symm)
      have HUV := Lib.hid (show U64 (virt base n mem root tv (ix va 0)).1 from HU.out tv ⟨t0, t1⟩ 0)
      clear hdn
      rw [z0]
      clear z0
      have w1 : IntKind.u64.wrap (tv * 4096) = tv * 4096 := IntWalk.u64_in _ (by omega)
      have w0 : (va / 4096).tmod 512 = ix va 0 := by rw [Int.tmod_eq_emod_of_nonneg (by omega)]; rfl
      have w0' : va / 4096 % 512 = ix va 0 := rfl
      have w2' : IntKind.u64.wrap (ix va 0 * 8) = 8 * ix va 0 := by rw [Int.mul_comm]; exact IntWalk.u64_in _ (by omega)
      have w3 : IntKind.u64.wrap (tv * 4096 + 8 * ix va 0) = tv * 4096 + 8 * ix va 0 := IntWalk.u64_in _ (by omega)
      have AR : U64 (tv * 4096 + 8 * ix va 0) := ⟨by omega, by omega⟩
      have HG := Lib.hid (fun w (v : Ref.Mem w h base n mem F) => rguest_any v root (tv * 4096 + 8 * ix va 0) 2 HR.out AR)
      have hgu := HGU.out _ AR
      have VD : virt base n mem root tv (ix va 0) = (if (guest base n mem root (tv * 4096 + 8 * ix va 0) 2).2.2 ≠ 0 then (0, (guest base n mem root (tv * 4096 + 8 * ix va 0) 2).2.2) else if hasB base n (guest base n mem root (tv * 4096 + 8 * ix va 0) 2).1 8 = true then (num mem ((guest base n mem root (tv * 4096 + 8 * ix va 0) 2).1 - base).toNat 8, 0) else (0, 3)) := rfl
      generalize guest base n mem root (tv * 4096 + 8 * ix va 0) 2 = G at HG VD hgu
      obtain ⟨pa, pm, q⟩ := G
      simp only at VD hgu HG
      clear AR ixu
      by_cases hq : q = 0
      · subst hq
        rw [if_neg (fun h => h rfl)] at VD
        cases hh : hasB base n pa 8 with
        | false =>
          rw [if_neg (by rw [hh]; decide)] at VD
          have E := Lib.hid (show res = .bus 3 tv (ix va 0) by rw [D.out, VD]; rfl)
          have T := Lib.hid (fun w (v : Ref.Mem w h base n mem F) => Ref.read_no v pa 8 hgu.1 (by omega) (by rw [hh]; rfl))
          clear D HUV VD hh hgu
          go_wp2_with (first
 | (go_at_call 62; refine (HG.out _ Rr.out).mono ?_; rintro e w4 ⟨rfl, hb⟩; have R4 := Lib.hid (Rr.out.below hb); have A84 := Lib.hid (A8r.out.below hb); have A54 := Lib.hid (A5r.out.below hb); have HB4 := Lib.hid (HBr.out.trans (hb.mono HBr.out.size)); have HBW4 := Lib.hid (HBW.out.trans (hb.mono HBW.out.size)); have e0 := A54.out.cell 0; have e1 := A54.out.cell 1; have e2 := A54.out.cell 2; have e3 := A54.out.cell 3; have e4 := A54.out.cell 4; simp only [List.getElem?_toArray, List.getElem?_cons_zero, List.getElem?_cons_succ] at e0 e1 e2 e3 e4; clear hb)
 | (go_at_call 36; refine (T.out _ R4.out).mono ?_; rintro e w5 ⟨rfl, rfl⟩)
 | (refine Step.storeAll (vs := #[.int .u64 0, .int .u64 (tv * 4096 + 8 * ix va 0), .int .i64 3, .bool true]) A84.out rfl rfl rfl rfl rfl size_place rfl rfl ?_; intro w9 nb m; have N9 := Lib.hid nb; have HB9 := Lib.hid (below_mod HB4.out HB4.out.size m (fun k hk e => by obtain rfl : k = g8 := e; have := HS8.out; omega)); clear nb m))
          refine bodyPost_ret (results_row_tmp rfl _ _ g8 _ _ _ rfl N9.out hu rfl size_place) rfl ⟨by rw [E.out]; rfl, HB9.out⟩
        | true =>
          rw [if_pos hh] at VD
          rw [VD] at D HUV
          have T := Lib.hid (fun w (v : Ref.Mem w h base n mem F) => rread_z v pa 8 8 rfl hgu.1 (by decide) hh)
          clear VD hh hgu
          generalize num mem (pa - base).toNat 8 = v at D HUV T
          have cp : (bits .and .u64 v 10 == 0) = ptr v := c_p HUV.out
          have HX := Lib.hid (show ∀ (b : Bool) (w : World), wrongB v = b → Calls Tryz.prog 92 #[.int .u64 v] w fun x w' => x = .returned (.bool b) ∧ w = w' from fun b w hb => hb ▸ rwrong_any HUV.out w)
          cases hwr : wrongB v with
          | true =>
            have E := Lib.hid (show res = .page by rw [D.out, if_neg (fun h => h rfl), if_pos hwr])
            have XW := Lib.hid (HX.out true · hwr)
            clear D hwr
            go_wp2_with (first
 | (go_at_call 62; refine (HG.out _ Rr.out).mono ?_; rintro e w4 ⟨rfl, hb⟩; have R4 := Lib.hid (Rr.out.below hb); have A84 := Lib.hid (A8r.out.below hb); have A54 := Lib.hid (A5r.out.below hb); have HB4 := Lib.hid (HBr.out.trans (hb.mono HBr.out.size)); have HBW4 := Lib.hid (HBW.out.trans (hb.mono HBW.out.size)); have e0 := A54.out.cell 0; have e1 := A54.out.cell 1; have e2 := A54.out.cell 2; have e3 := A54.out.cell 3; have e4 := A54.out.cell 4; simp only [List.getElem?_toArray, List.getElem?_cons_zero, List.getElem?_cons_succ] at e0 e1 e2 e3 e4; clear hb)
 | (go_at_call 36; refine (T.out _ R4.out).mono ?_; rintro e w5 ⟨rfl, rfl⟩)
 | (go_at_call 92; refine (XW.out _).mono ?_; rintro e w5 ⟨rfl, rfl⟩)
 | (refine Step.storeAll (vs := #[.int .u64 0, .int .u64 0, .int .i64 1, .bool false]) A84.out rfl rfl rfl rfl rfl size_place rfl rfl ?_; intro w9 nb m; have N9 := Lib.hid nb; have HB9 := Lib.hid (below_mod HB4.out HB4.out.size m (fun k hk e => by obtain rfl : k = g8 := e; have := HS8.out; omega)); clear nb m))
            refine bodyPost_ret (results_row_tmp rfl _ _ g8 _ _ _ rfl N9.out hu rfl size_place) rfl ⟨by rw [E.out]; rfl, HB9.out⟩
          | false =>
            have XW := Lib.hid (HX.out false · hwr)
            cases hpt : ptr v with
            | true =>
              rw [hpt] at cp
              have E := Lib.hid (show down (virt base n mem root) va 0 (pn v) = res by rw [D.out, if_neg (fun h => h rfl), if_neg (by rw [hwr]; decide), if_pos hpt])
              have TN := Lib.hid (number_any HUV.out)
              clear D hwr hpt
              go_wp2_with (first
 | (go_at_call 62; refine (HG.out _ Rr.out).mono ?_; rintro e w4 ⟨rfl, hb⟩; have R4 := Lib.hid (Rr.out.below hb); have A84 := Lib.hid (A8r.out.below hb); have A54 := Lib.hid (A5r.out.below hb); have HB4 := Lib.hid (HBr.out.trans (hb.mono HBr.out.size)); have HBW4 := Lib.hid (HBW.out.trans (hb.mono HBW.out.size)); have e0 := A54.out.cell 0; have e1 := A54.out.cell 1; have e2 := A54.out.cell 2; have e3 := A54.out.cell 3; have e4 := A54.out.cell 4; simp only [List.getElem?_toArray, List.getElem?_cons_zero, List.getElem?_cons_succ] at e0 e1 e2 e3 e4; clear hb)
 | (go_at_call 36; refine (T.out _ R4.out).mono ?_; rintro e w5 ⟨rfl, rfl⟩)
 | (go_at_call 92; refine (XW.out _).mono ?_; rintro e w5 ⟨rfl, rfl⟩)
 | (go_at_call 93; refine (TN.out _).mono ?_; rintro e w5 ⟨rfl, rfl⟩))
              exact ⟨⟨pn v, 0, by decide, rfl, rfl, pn_u v, E.out, HBW4.out⟩, by decide⟩
            | false =>
              rw [hpt] at cp
              have TM := Lib.hid (show ∀ (b : Bool) (w : World), odd v 0 = b → Calls Tryz.prog 94 #[.int .u64 v, .int .i64 0] w fun x w' => x = .returned (.bool b) ∧ w = w' from fun b w hb => hb ▸ misplaced_any (l := 0) (by decide) HUV.out w)
              cases hod : odd v 0 with
              | true =>
                have E := Lib.hid (show res = .page by rw [D.out, if_neg (fun h => h rfl), if_neg (by rw [hwr]; decide), if_neg (by rw [hpt]; decide), if_pos hod])
                have TO := Lib.hid (TM.out true · hod)
                clear D hwr hpt hod
                go_wp2_with (first
 | (go_at_call 62; refine (HG.out _ Rr.out).mono ?_; rintro e w4 ⟨rfl, hb⟩; have R4 := Lib.hid (Rr.out.below hb); have A84 := Lib.hid (A8r.out.below hb); have A54 := Lib.hid (A5r.out.below hb); have HB4 := Lib.hid (HBr.out.trans (hb.mono HBr.out.size)); have HBW4 := Lib.hid (HBW.out.trans (hb.mono HBW.out.size)); have e0 := A54.out.cell 0; have e1 := A54.out.cell 1; have e2 := A54.out.cell 2; have e3 := A54.out.cell 3; have e4 := A54.out.cell 4; simp only [List.getElem?_toArray, List.getElem?_cons_zero, List.getElem?_cons_succ] at e0 e1 e2 e3 e4; clear hb)
 | (go_at_call 36; refine (T.out _ R4.out).mono ?_; rintro e w5 ⟨rfl, rfl⟩)
 | (go_at_call 92; refine (XW.out _).mono ?_; rintro e w5 ⟨rfl, rfl⟩)
 | (go_at_call 94; refine (TO.out _).mono ?_; rintro e w5 ⟨rfl, rfl⟩)
 | (refine Step.storeAll (vs := #[.int .u64 0, .int .u64 0, .int .i64 1, .bool false]) A84.out rfl rfl rfl rfl rfl size_place rfl rfl ?_; intro w9 nb m; have N9 := Lib.hid nb; have HB9 := Lib.hid (below_mod HB4.out HB4.out.size m (fun k hk e => by obtain rfl : k = g8 := e; have := HS8.out; omega)); clear nb m))
                refine bodyPost_ret (results_row_tmp rfl _ _ g8 _ _ _ rfl N9.out hu rfl size_place) rfl ⟨by rw [E.out]; rfl, HB9.out⟩
              | false =>
                have TO := Lib.hid (TM.out false · hod)
                have TLL := Lib.hid (show ∀ (b : Bool) (w : World), lets1 user sum mxr v a = b → Calls Tryz.prog 95 #[.int .u64 v, .agg #[.int .u64 satp, .int .u64 root, .bool user, .bool sum, .bool mxr], .int .i64 a] w fun x w' => x = .returned (.bool b) ∧ Below w.heap.size w w' from fun b w hb => hb ▸ rfirst_any HUV.out _ _ user sum mxr a w)
                cases hl : lets1 user sum mxr v a with
                | false =>
                  have E := Lib.hid (show fstOf user sum mxr va a res = .page by rw [D.out, if_neg (fun h => h rfl), if_neg (by rw [hwr]; decide), if_neg (by rw [hpt]; decide), if_neg (by rw [hod]; decide)]; exact if_neg (by rw [hl]; decide))
                  have TL := Lib.hid (TLL.out false · hl)
                  clear D hwr hpt hod hl
                  go_wp2_with (first
 | (go_at_call 62; refine (HG.out _ Rr.out).mono ?_; rintro e w4 ⟨rfl, hb⟩; have R4 := Lib.hid (Rr.out.below hb); have A84 := Lib.hid (A8r.out.below hb); have A54 := Lib.hid (A5r.out.below hb); have HB4 := Lib.hid (HBr.out.trans (hb.mono HBr.out.size)); have HBW4 := Lib.hid (HBW.out.trans (hb.mono HBW.out.size)); have e0 := A54.out.cell 0; have e1 := A54.out.cell 1; have e2 := A54.out.cell 2; have e3 := A54.out.cell 3; have e4 := A54.out.cell 4; simp only [List.getElem?_toArray, List.getElem?_cons_zero, List.getElem?_cons_succ] at e0 e1 e2 e3 e4; clear hb)
 | (go_at_call 36; refine (T.out _ R4.out).mono ?_; rintro e w5 ⟨rfl, rfl⟩)
 | (go_at_call 92; refine (XW.out _).mono ?_; rintro e w5 ⟨rfl, rfl⟩)
 | (go_at_call 94; refine (TO.out _).mono ?_; rintro e w5 ⟨rfl, rfl⟩)
 | (go_at_call 95; refine (TL.out _).mono ?_; rintro e w6 ⟨rfl, hb⟩; have A86 := Lib.hid (A84.out.below hb); have HB6 := Lib.hid (HB4.out.trans (hb.mono HB4.out.size)); clear hb)
 | (refine Step.storeAll (vs := #[.int .u64 0, .int .u64 0, .int .i64 1, .bool false]) A86.out rfl rfl rfl rfl rfl size_place rfl rfl ?_; intro w9 nb m; have N9 := Lib.hid nb; have HB9 := Lib.hid (below_mod HB6.out HB6.out.size m (fun k hk e => by obtain rfl : k = g8 := e; have := HS8.out; omega)); clear nb m))
                  refine bodyPost_ret (results_row_tmp rfl _ _ g8 _ _ _ rfl N9.out hu rfl size_place) rfl ⟨by rw [E.out]; rfl, HB9.out⟩
                | true =>
                  have E := Lib.hid (show fstOf user sum mxr va a res = .ok (at_ v 0 va) by rw [D.out, if_neg (fun h => h rfl), if_neg (by rw [hwr]; decide), if_neg (by rw [hpt]; decide), if_neg (by rw [hod]; decide)]; exact if_pos hl)
                  have TL := Lib.hid (TLL.out true · hl)
                  have TP := Lib.hid (fun w => put_z (W := w) (l := 0) (z := 0) rfl (by decide) HUV.out (show U64 va from HV.out))
                  clear D hwr hpt hod hl
                  go_wp2_with (first
 | (go_at_call 62; refine (HG.out _ Rr.out).mono ?_; rintro e w4 ⟨rfl, hb⟩; have R4 := Lib.hid (Rr.out.below hb); have A84 := Lib.hid (A8r.out.below hb); have A54 := Lib.hid (A5r.out.below hb); have HB4 := Lib.hid (HBr.out.trans (hb.mono HBr.out.size)); have HBW4 := Lib.hid (HBW.out.trans (hb.mono HBW.out.size)); have e0 := A54.out.cell 0; have e1 := A54.out.cell 1; have e2 := A54.out.cell 2; have e3 := A54.out.cell 3; have e4 := A54.out.cell 4; simp only [List.getElem?_toArray, List.getElem?_cons_zero, List.getElem?_cons_succ] at e0 e1 e2 e3 e4; clear hb)
 | (go_at_call 36; refine (T.out _ R4.out).mono ?_; rintro e w5 ⟨rfl, rfl⟩)
 | (go_at_call 92; refine (XW.out _).mono ?_; rintro e w5 ⟨rfl, rfl⟩)
 | (go_at_call 94; refine (TO.out _).mono ?_; rintro e w5 ⟨rfl, rfl⟩)
 | (go_at_call 95; refine (TL.out _).mono ?_; rintro e w6 ⟨rfl, hb⟩; have A86 := Lib.hid (A84.out.below hb); have HB6 := Lib.hid (HB4.out.trans (hb.mono HB4.out.size)); clear hb)
 | (go_at_call 96; refine (TP.out _).mono ?_; rintro e w7 ⟨rfl, hb⟩; have A87 := Lib.hid (A86.out.below hb); have HB7 := Lib.hid (HB6.out.trans (hb.mono HB6.out.size)); clear hb)
 | (refine Step.storeAll (vs := #[.int .u64 0, .int .u64 (at_ v 0 va), .int .i64 0, .bool false]) A87.out rfl rfl rfl rfl rfl size_place rfl rfl ?_; intro w9 nb m; have N9 := Lib.hid nb; have HB9 := Lib.hid (below_mod HB7.out HB7.out.size m (fun k hk e => by obtain rfl : k = g8 := e; have := HS8.out; omega)); clear nb m))
                  refine bodyPost_ret (results_row_tmp rfl _ _ g8 _ _ _ rfl N9.out hu rfl size_place) rfl ⟨by rw [E.out]; rfl, HB9.out⟩
      · rw [if_pos hq] at VD
        have E := Lib.hid (show res = .bus q tv (ix va 0) by rw [D.out, VD]; exact if_pos hq)
        have dq : (q != 0) = true := by simpa using hq
        clear D HUV VD hgu hq
        go_wp2_with (first
 | (go_at_call 62; refine (HG.out _ Rr.out).mono ?_; rintro e w4 ⟨rfl, hb⟩; have R4 := Lib.hid (Rr.out.below hb); have A84 := Lib.hid (A8r.out.below hb); have A54 := Lib.hid (A5r.out.below hb); have HB4 := Lib.hid (HBr.out.trans (hb.mono HBr.out.size)); have HBW4 := Lib.hid (HBW.out.trans (hb.mono HBW.out.size)); have e0 := A54.out.cell 0; have e1 := A54.out.cell 1; have e2 := A54.out.cell 2; have e3 := A54.out.cell 3; have e4 := A54.out.cell 4; simp only [List.getElem?_toArray, List.getElem?_cons_zero, List.getElem?_cons_succ] at e0 e1 e2 e3 e4; clear hb)
 | (refine Step.storeAll (vs := #[.int .u64 0, .int .u64 (tv * 4096 + 8 * ix va 0), .int .i64 q, .bool true]) A84.out rfl rfl rfl rfl rfl size_place rfl rfl ?_; intro w9 nb m; have N9 := Lib.hid nb; have HB9 := Lib.hid (below_mod HB4.out HB4.out.size m (fun k hk e => by obtain rfl : k = g8 := e; have := HS8.out; omega)); clear nb m))
        refine bodyPost_ret (results_row_tmp rfl _ _ g8 _ _ _ rfl N9.out hu rfl size_place) rfl ⟨by rw [E.out]; rfl, HB9.out⟩
    · subst hk
      have z0 : (((2 : Nat) : Int) - 1) = 1 := by decide
      have z1 : IntKind.i64.wrap 9 = 9 := by decide
      have z2 : IntKind.i64.wrap 21 = 21 := by decide
      have ixu := ix_u va 1
      obtain ⟨v0, v1⟩ := HV.out
      obtain ⟨t0, t1⟩ := htv
      have D := Lib.hid (show res = (if (virt base n mem root tv (ix va 1)).2 ≠ 0 then Res.bus (virt base n mem root tv (ix va 1)).2 tv (ix va 1) else if wrongB (virt base n mem root tv (ix va 1)).1 = true then .page else if ptr (virt base n mem root tv (ix va 1)).1 = true then down (virt base n mem root) va 1 (pn (virt base n mem root tv (ix va 1)).1) else if odd (virt base n mem root tv (ix va 1)).1 1 = true then .page else .leaf (virt base n mem root tv (ix va 1)).1 1) from hdn.symm)
      have HUV := Lib.hid (show U64 (virt base n mem root tv (ix va 1)).1 from HU.out tv ⟨t0, t1⟩ 1)
      clear hdn
      rw [z0]
      clear z0
      have w1 : IntKind.u64.wrap (tv * 4096) = tv * 4096 := IntWalk.u64_in _ (by omega)
      have w0 : (va / 2097152).tmod 512 = ix va 1 := by rw [Int.tmod_eq_emod_of_nonneg (by omega)]; rfl
      have w0' : va / 2097152 % 512 = ix va 1 := rfl
      have w2' : IntKind.u64.wrap (ix va 1 * 8) = 8 * ix va 1 := by rw [Int.mul_comm]; exact IntWalk.u64_in _ (by omega)
      have w3 : IntKind.u64.wrap (tv * 4096 + 8 * ix va 1) = tv * 4096 + 8 * ix va 1 := IntWalk.u64_in _ (by omega)
      have AR : U64 (tv * 4096 + 8 * ix va 1) := ⟨by omega, by omega⟩
      have HG := Lib.hid (fun w (v : Ref.Mem w h base n mem F) => rguest_any v root (tv * 4096 + 8 * ix va 1) 2 HR.out AR)
      have hgu := HGU.out _ AR
      have VD : virt base n mem root tv (ix va 1) = (if (guest base n mem root (tv * 4096 + 8 * ix va 1) 2).2.2 ≠ 0 then (0, (guest base n mem root (tv * 4096 + 8 * ix va 1) 2).2.2) else if hasB base n (guest base n mem root (tv * 4096 + 8 * ix va 1) 2).1 8 = true then (num mem ((guest base n mem root (tv * 4096 + 8 * ix va 1) 2).1 - base).toNat 8, 0) else (0, 3)) := rfl
      generalize guest base n mem root (tv * 4096 + 8 * ix va 1) 2 = G at HG VD hgu
      obtain ⟨pa, pm, q⟩ := G
      simp only at VD hgu HG
      clear AR ixu
      by_cases hq : q = 0
      · subst hq
        rw [if_neg (fun h => h rfl)] at VD
        cases hh : hasB base n pa 8 with
        | false =>
          rw [if_neg (by rw [hh]; decide)] at VD
          have E := Lib.hid (show res = .bus 3 tv (ix va 1) by rw [D.out, VD]; rfl)
          have T := Lib.hid (fun w (v : Ref.Mem w h base n mem F) => Ref.read_no v pa 8 hgu.1 (by omega) (by rw [hh]; rfl))
          clear D HUV VD hh hgu
          go_wp2_with (first
 | (go_at_call 62; refine (HG.out _ Rr.out).mono ?_; rintro e w4 ⟨rfl, hb⟩; have R4 := Lib.hid (Rr.out.below hb); have A84 := Lib.hid (A8r.out.below hb); have A54 := Lib.hid (A5r.out.below hb); have HB4 := Lib.hid (HBr.out.trans (hb.mono HBr.out.size)); have HBW4 := Lib.hid (HBW.out.trans (hb.mono HBW.out.size)); have e0 := A54.out.cell 0; have e1 := A54.out.cell 1; have e2 := A54.out.cell 2; have e3 := A54.out.cell 3; have e4 := A54.out.cell 4; simp only [List.getElem?_toArray, List.getElem?_cons_zero, List.getElem?_cons_succ] at e0 e1 e2 e3 e4; clear hb)
 | (go_at_call 36; refine (T.out _ R4.out).mono ?_; rintro e w5 ⟨rfl, rfl⟩)
 | (refine Step.storeAll (vs := #[.int .u64 0, .int .u64 (tv * 4096 + 8 * ix va 1), .int .i64 3, .bool true]) A84.out rfl rfl rfl rfl rfl size_place rfl rfl ?_; intro w9 nb m; have N9 := Lib.hid nb; have HB9 := Lib.hid (below_mod HB4.out HB4.out.size m (fun k hk e => by obtain rfl : k = g8 := e; have := HS8.out; omega)); clear nb m))
          refine bodyPost_ret (results_row_tmp rfl _ _ g8 _ _ _ rfl N9.out hu rfl size_place) rfl ⟨by rw [E.out]; rfl, HB9.out⟩
        | true =>
          rw [if_pos hh] at VD
          rw [VD] at D HUV
          have T := Lib.hid (fun w (v : Ref.Mem w h base n mem F) => rread_z v pa 8 8 rfl hgu.1 (by decide) hh)
          clear VD hh hgu
          generalize num mem (pa - base).toNat 8 = v at D HUV T
          have cp : (bits .and .u64 v 10 == 0) = ptr v := c_p HUV.out
          have HX := Lib.hid (show ∀ (b : Bool) (w : World), wrongB v = b → Calls Tryz.prog 92 #[.int .u64 v] w fun x w' => x = .returned (.bool b) ∧ w = w' from fun b w hb => hb ▸ rwrong_any HUV.out w)
          cases hwr : wrongB v with
          | true =>
            have E := Lib.hid (show res = .page by rw [D.out, if_neg (fun h => h rfl), if_pos hwr])
            have XW := Lib.hid (HX.out true · hwr)
            clear D hwr
            go_wp2_with (first
 | (go_at_call 62; refine (HG.out _ Rr.out).mono ?_; rintro e w4 ⟨rfl, hb⟩; have R4 := Lib.hid (Rr.out.below hb); have A84 := Lib.hid (A8r.out.below hb); have A54 := Lib.hid (A5r.out.below hb); have HB4 := Lib.hid (HBr.out.trans (hb.mono HBr.out.size)); have HBW4 := Lib.hid (HBW.out.trans (hb.mono HBW.out.size)); have e0 := A54.out.cell 0; have e1 := A54.out.cell 1; have e2 := A54.out.cell 2; have e3 := A54.out.cell 3; have e4 := A54.out.cell 4; simp only [List.getElem?_toArray, List.getElem?_cons_zero, List.getElem?_cons_succ] at e0 e1 e2 e3 e4; clear hb)
 | (go_at_call 36; refine (T.out _ R4.out).mono ?_; rintro e w5 ⟨rfl, rfl⟩)
 | (go_at_call 92; refine (XW.out _).mono ?_; rintro e w5 ⟨rfl, rfl⟩)
 | (refine Step.storeAll (vs := #[.int .u64 0, .int .u64 0, .int .i64 1, .bool false]) A84.out rfl rfl rfl rfl rfl size_place rfl rfl ?_; intro w9 nb m; have N9 := Lib.hid nb; have HB9 := Lib.hid (below_mod HB4.out HB4.out.size m (fun k hk e => by obtain rfl : k = g8 := e; have := HS8.out; omega)); clear nb m))
            refine bodyPost_ret (results_row_tmp rfl _ _ g8 _ _ _ rfl N9.out hu rfl size_place) rfl ⟨by rw [E.out]; rfl, HB9.out⟩
          | false =>
            have XW := Lib.hid (HX.out false · hwr)
            cases hpt : ptr v with
            | true =>
              rw [hpt] at cp
              have E := Lib.hid (show down (virt base n mem root) va 1 (pn v) = res by rw [D.out, if_neg (fun h => h rfl), if_neg (by rw [hwr]; decide), if_pos hpt])
              have TN := Lib.hid (number_any HUV.out)
              clear D hwr hpt
              go_wp2_with (first
 | (go_at_call 62; refine (HG.out _ Rr.out).mono ?_; rintro e w4 ⟨rfl, hb⟩; have R4 := Lib.hid (Rr.out.below hb); have A84 := Lib.hid (A8r.out.below hb); have A54 := Lib.hid (A5r.out.below hb); have HB4 := Lib.hid (HBr.out.trans (hb.mono HBr.out.size)); have HBW4 := Lib.hid (HBW.out.trans (hb.mono HBW.out.size)); have e0 := A54.out.cell 0; have e1 := A54.out.cell 1; have e2 := A54.out.cell 2; have e3 := A54.out.cell 3; have e4 := A54.out.cell 4; simp only [List.getElem?_toArray, List.getElem?_cons_zero, List.getElem?_cons_succ] at e0 e1 e2 e3 e4; clear hb)
 | (go_at_call 36; refine (T.out _ R4.out).mono ?_; rintro e w5 ⟨rfl, rfl⟩)
 | (go_at_call 92; refine (XW.out _).mono ?_; rintro e w5 ⟨rfl, rfl⟩)
 | (go_at_call 93; refine (TN.out _).mono ?_; rintro e w5 ⟨rfl, rfl⟩))
              exact ⟨⟨pn v, 1, by decide, rfl, rfl, pn_u v, E.out, HBW4.out⟩, by decide⟩
            | false =>
              rw [hpt] at cp
              have TM := Lib.hid (show ∀ (b : Bool) (w : World), odd v 1 = b → Calls Tryz.prog 94 #[.int .u64 v, .int .i64 1] w fun x w' => x = .returned (.bool b) ∧ w = w' from fun b w hb => hb ▸ misplaced_any (l := 1) (by decide) HUV.out w)
              cases hod : odd v 1 with
              | true =>
                have E := Lib.hid (show res = .page by rw [D.out, if_neg (fun h => h rfl), if_neg (by rw [hwr]; decide), if_neg (by rw [hpt]; decide), if_pos hod])
                have TO := Lib.hid (TM.out true · hod)
                clear D hwr hpt hod
                go_wp2_with (first
 | (go_at_call 62; refine (HG.out _ Rr.out).mono ?_; rintro e w4 ⟨rfl, hb⟩; have R4 := Lib.hid (Rr.out.below hb); have A84 := Lib.hid (A8r.out.below hb); have A54 := Lib.hid (A5r.out.below hb); have HB4 := Lib.hid (HBr.out.trans (hb.mono HBr.out.size)); have HBW4 := Lib.hid (HBW.out.trans (hb.mono HBW.out.size)); have e0 := A54.out.cell 0; have e1 := A54.out.cell 1; have e2 := A54.out.cell 2; have e3 := A54.out.cell 3; have e4 := A54.out.cell 4; simp only [List.getElem?_toArray, List.getElem?_cons_zero, List.getElem?_cons_succ] at e0 e1 e2 e3 e4; clear hb)
 | (go_at_call 36; refine (T.out _ R4.out).mono ?_; rintro e w5 ⟨rfl, rfl⟩)
 | (go_at_call 92; refine (XW.out _).mono ?_; rintro e w5 ⟨rfl, rfl⟩)
 | (go_at_call 94; refine (TO.out _).mono ?_; rintro e w5 ⟨rfl, rfl⟩)
 | (refine Step.storeAll (vs := #[.int .u64 0, .int .u64 0, .int .i64 1, .bool false]) A84.out rfl rfl rfl rfl rfl size_place rfl rfl ?_; intro w9 nb m; have N9 := Lib.hid nb; have HB9 := Lib.hid (below_mod HB4.out HB4.out.size m (fun k hk e => by obtain rfl : k = g8 := e; have := HS8.out; omega)); clear nb m))
                refine bodyPost_ret (results_row_tmp rfl _ _ g8 _ _ _ rfl N9.out hu rfl size_place) rfl ⟨by rw [E.out]; rfl, HB9.out⟩
              | false =>
                have TO := Lib.hid (TM.out false · hod)
                have TLL := Lib.hid (show ∀ (b : Bool) (w : World), lets1 user sum mxr v a = b → Calls Tryz.prog 95 #[.int .u64 v, .agg #[.int .u64 satp, .int .u64 root, .bool user, .bool sum, .bool mxr], .int .i64 a] w fun x w' => x = .returned (.bool b) ∧ Below w.heap.size w w' from fun b w hb => hb ▸ rfirst_any HUV.out _ _ user sum mxr a w)
                cases hl : lets1 user sum mxr v a with
                | false =>
                  have E := Lib.hid (show fstOf user sum mxr va a res = .page by rw [D.out, if_neg (fun h => h rfl), if_neg (by rw [hwr]; decide), if_neg (by rw [hpt]; decide), if_neg (by rw [hod]; decide)]; exact if_neg (by rw [hl]; decide))
                  have TL := Lib.hid (TLL.out false · hl)
                  clear D hwr hpt hod hl
                  go_wp2_with (first
 | (go_at_call 62; refine (HG.out _ Rr.out).mono ?_; rintro e w4 ⟨rfl, hb⟩; have R4 := Lib.hid (Rr.out.below hb); have A84 := Lib.hid (A8r.out.below hb); have A54 := Lib.hid (A5r.out.below hb); have HB4 := Lib.hid (HBr.out.trans (hb.mono HBr.out.size)); have HBW4 := Lib.hid (HBW.out.trans (hb.mono HBW.out.size)); have e0 := A54.out.cell 0; have e1 := A54.out.cell 1; have e2 := A54.out.cell 2; have e3 := A54.out.cell 3; have e4 := A54.out.cell 4; simp only [List.getElem?_toArray, List.getElem?_cons_zero, List.getElem?_cons_succ] at e0 e1 e2 e3 e4; clear hb)
 | (go_at_call 36; refine (T.out _ R4.out).mono ?_; rintro e w5 ⟨rfl, rfl⟩)
 | (go_at_call 92; refine (XW.out _).mono ?_; rintro e w5 ⟨rfl, rfl⟩)
 | (go_at_call 94; refine (TO.out _).mono ?_; rintro e w5 ⟨rfl, rfl⟩)
 | (go_at_call 95; refine (TL.out _).mono ?_; rintro e w6 ⟨rfl, hb⟩; have A86 := Lib.hid (A84.out.below hb); have HB6 := Lib.hid (HB4.out.trans (hb.mono HB4.out.size)); clear hb)
 | (refine Step.storeAll (vs := #[.int .u64 0, .int .u64 0, .int .i64 1, .bool false]) A86.out rfl rfl rfl rfl rfl size_place rfl rfl ?_; intro w9 nb m; have N9 := Lib.hid nb; have HB9 := Lib.hid (below_mod HB6.out HB6.out.size m (fun k hk e => by obtain rfl : k = g8 := e; have := HS8.out; omega)); clear nb m))
                  refine bodyPost_ret (results_row_tmp rfl _ _ g8 _ _ _ rfl N9.out hu rfl size_place) rfl ⟨by rw [E.out]; rfl, HB9.out⟩
                | true =>
                  have E := Lib.hid (show fstOf user sum mxr va a res = .ok (at_ v 1 va) by rw [D.out, if_neg (fun h => h rfl), if_neg (by rw [hwr]; decide), if_neg (by rw [hpt]; decide), if_neg (by rw [hod]; decide)]; exact if_pos hl)
                  have TL := Lib.hid (TLL.out true · hl)
                  have TP := Lib.hid (fun w => put_z (W := w) (l := 1) (z := 1) rfl (by decide) HUV.out (show U64 va from HV.out))
                  clear D hwr hpt hod hl
                  go_wp2_with (first
 | (go_at_call 62; refine (HG.out _ Rr.out).mono ?_; rintro e w4 ⟨rfl, hb⟩; have R4 := Lib.hid (Rr.out.below hb); have A84 := Lib.hid (A8r.out.below hb); have A54 := Lib.hid (A5r.out.below hb); have HB4 := Lib.hid (HBr.out.trans (hb.mono HBr.out.size)); have HBW4 := Lib.hid (HBW.out.trans (hb.mono HBW.out.size)); have e0 := A54.out.cell 0; have e1 := A54.out.cell 1; have e2 := A54.out.cell 2; have e3 := A54.out.cell 3; have e4 := A54.out.cell 4; simp only [List.getElem?_toArray, List.getElem?_cons_zero, List.getElem?_cons_succ] at e0 e1 e2 e3 e4; clear hb)
 | (go_at_call 36; refine (T.out _ R4.out).mono ?_; rintro e w5 ⟨rfl, rfl⟩)
 | (go_at_call 92; refine (XW.out _).mono ?_; rintro e w5 ⟨rfl, rfl⟩)
 | (go_at_call 94; refine (TO.out _).mono ?_; rintro e w5 ⟨rfl, rfl⟩)
 | (go_at_call 95; refine (TL.out _).mono ?_; rintro e w6 ⟨rfl, hb⟩; have A86 := Lib.hid (A84.out.below hb); have HB6 := Lib.hid (HB4.out.trans (hb.mono HB4.out.size)); clear hb)
 | (go_at_call 96; refine (TP.out _).mono ?_; rintro e w7 ⟨rfl, hb⟩; have A87 := Lib.hid (A86.out.below hb); have HB7 := Lib.hid (HB6.out.trans (hb.mono HB6.out.size)); clear hb)
 | (refine Step.storeAll (vs := #[.int .u64 0, .int .u64 (at_ v 1 va), .int .i64 0, .bool false]) A87.out rfl rfl rfl rfl rfl size_place rfl rfl ?_; intro w9 nb m; have N9 := Lib.hid nb; have HB9 := Lib.hid (below_mod HB7.out HB7.out.size m (fun k hk e => by obtain rfl : k = g8 := e; have := HS8.out; omega)); clear nb m))
                  refine bodyPost_ret (results_row_tmp rfl _ _ g8 _ _ _ rfl N9.out hu rfl size_place) rfl ⟨by rw [E.out]; rfl, HB9.out⟩
      · rw [if_pos hq] at VD
        have E := Lib.hid (show res = .bus q tv (ix va 1) by rw [D.out, VD]; exact if_pos hq)
        have dq : (q != 0) = true := by simpa using hq
        clear D HUV VD hgu hq
        go_wp2_with (first
 | (go_at_call 62; refine (HG.out _ Rr.out).mono ?_; rintro e w4 ⟨rfl, hb⟩; have R4 := Lib.hid (Rr.out.below hb); have A84 := Lib.hid (A8r.out.below hb); have A54 := Lib.hid (A5r.out.below hb); have HB4 := Lib.hid (HBr.out.trans (hb.mono HBr.out.size)); have HBW4 := Lib.hid (HBW.out.trans (hb.mono HBW.out.size)); have e0 := A54.out.cell 0; have e1 := A54.out.cell 1; have e2 := A54.out.cell 2; have e3 := A54.out.cell 3; have e4 := A54.out.cell 4; simp only [List.getElem?_toArray, List.getElem?_cons_zero, List.getElem?_cons_succ] at e0 e1 e2 e3 e4; clear hb)
 | (refine Step.storeAll (vs := #[.int .u64 0, .int .u64 (tv * 4096 + 8 * ix va 1), .int .i64 q, .bool true]) A84.out rfl rfl rfl rfl rfl size_place rfl rfl ?_; intro w9 nb m; have N9 := Lib.hid nb; have HB9 := Lib.hid (below_mod HB4.out HB4.out.size m (fun k hk e => by obtain rfl : k = g8 := e; have := HS8.out; omega)); clear nb m))
        refine bodyPost_ret (results_row_tmp rfl _ _ g8 _ _ _ rfl N9.out hu rfl size_place) rfl ⟨by rw [E.out]; rfl, HB9.out⟩
    · subst hk
      have z0 : (((3 : Nat) : Int) - 1) = 2 := by decide
      have z1 : IntKind.i64.wrap 18 = 18 := by decide
      have z2 : IntKind.i64.wrap 30 = 30 := by decide
      have ixu := ix_u va 2
      obtain ⟨v0, v1⟩ := HV.out
      obtain ⟨t0, t1⟩ := htv
      have D := Lib.hid (show res = (if (virt base n mem root tv (ix va 2)).2 ≠ 0 then Res.bus (virt base n mem root tv (ix va 2)).2 tv (ix va 2) else if wrongB (virt base n mem root tv (ix va 2)).1 = true then .page else if ptr (virt base n mem root tv (ix va 2)).1 = true then down (virt base n mem root) va 2 (pn (virt base n mem root tv (ix va 2)).1) else if odd (virt base n mem root tv (ix va 2)).1 2 = true then .page else .leaf (virt base n mem root tv (ix va 2)).1 2) from hdn.symm)
      have HUV := Lib.hid (show U64 (virt base n mem root tv (ix va 2)).1 from HU.out tv ⟨t0, t1⟩ 2)
      clear hdn
      rw [z0]
      clear z0
      have w1 : IntKind.u64.wrap (tv * 4096) = tv * 4096 := IntWalk.u64_in _ (by omega)
      have w0 : (va / 1073741824).tmod 512 = ix va 2 := by rw [Int.tmod_eq_emod_of_nonneg (by omega)]; rfl
      have w0' : va / 1073741824 % 512 = ix va 2 := rfl
      have w2' : IntKind.u64.wrap (ix va 2 * 8) = 8 * ix va 2 := by rw [Int.mul_comm]; exact IntWalk.u64_in _ (by omega)
      have w3 : IntKind.u64.wrap (tv * 4096 + 8 * ix va 2) = tv * 4096 + 8 * ix va 2 := IntWalk.u64_in _ (by omega)
      have AR : U64 (tv * 4096 + 8 * ix va 2) := ⟨by omega, by omega⟩
      have HG := Lib.hid (fun w (v : Ref.Mem w h base n mem F) => rguest_any v root (tv * 4096 + 8 * ix va 2) 2 HR.out AR)
      have hgu := HGU.out _ AR
      have VD : virt base n mem root tv (ix va 2) = (if (guest base n mem root (tv * 4096 + 8 * ix va 2) 2).2.2 ≠ 0 then (0, (guest base n mem root (tv * 4096 + 8 * ix va 2) 2).2.2) else if hasB base n (guest base n mem root (tv * 4096 + 8 * ix va 2) 2).1 8 = true then (num mem ((guest base n mem root (tv * 4096 + 8 * ix va 2) 2).1 - base).toNat 8, 0) else (0, 3)) := rfl
      generalize guest base n mem root (tv * 4096 + 8 * ix va 2) 2 = G at HG VD hgu
      obtain ⟨pa, pm, q⟩ := G
      simp only at VD hgu HG
      clear AR ixu
      by_cases hq : q = 0
      · subst hq
        rw [if_neg (fun h => h rfl)] at VD
        cases hh : hasB base n pa 8 with
        | false =>
          rw [if_neg (by rw [hh]; decide)] at VD
          have E := Lib.hid (show res = .bus 3 tv (ix va 2) by rw [D.out, VD]; rfl)
          have T := Lib.hid (fun w (v : Ref.Mem w h base n mem F) => Ref.read_no v pa 8 hgu.1 (by omega) (by rw [hh]; rfl))
          clear D HUV VD hh hgu
          go_wp2_with (first
 | (go_at_call 62; refine (HG.out _ Rr.out).mono ?_; rintro e w4 ⟨rfl, hb⟩; have R4 := Lib.hid (Rr.out.below hb); have A84 := Lib.hid (A8r.out.below hb); have A54 := Lib.hid (A5r.out.below hb); have HB4 := Lib.hid (HBr.out.trans (hb.mono HBr.out.size)); have HBW4 := Lib.hid (HBW.out.trans (hb.mono HBW.out.size)); have e0 := A54.out.cell 0; have e1 := A54.out.cell 1; have e2 := A54.out.cell 2; have e3 := A54.out.cell 3; have e4 := A54.out.cell 4; simp only [List.getElem?_toArray, List.getElem?_cons_zero, List.getElem?_cons_succ] at e0 e1 e2 e3 e4; clear hb)
 | (go_at_call 36; refine (T.out _ R4.out).mono ?_; rintro e w5 ⟨rfl, rfl⟩)
 | (refine Step.storeAll (vs := #[.int .u64 0, .int .u64 (tv * 4096 + 8 * ix va 2), .int .i64 3, .bool true]) A84.out rfl rfl rfl rfl rfl size_place rfl rfl ?_; intro w9 nb m; have N9 := Lib.hid nb; have HB9 := Lib.hid (below_mod HB4.out HB4.out.size m (fun k hk e => by obtain rfl : k = g8 := e; have := HS8.out; omega)); clear nb m))
          refine bodyPost_ret (results_row_tmp rfl _ _ g8 _ _ _ rfl N9.out hu rfl size_place) rfl ⟨by rw [E.out]; rfl, HB9.out⟩
        | true =>
          rw [if_pos hh] at VD
          rw [VD] at D HUV
          have T := Lib.hid (fun w (v : Ref.Mem w h base n mem F) => rread_z v pa 8 8 rfl hgu.1 (by decide) hh)
          clear VD hh hgu
          generalize num mem (pa - base).toNat 8 = v at D HUV T
          have cp : (bits .and .u64 v 10 == 0) = ptr v := c_p HUV.out
          have HX := Lib.hid (show ∀ (b : Bool) (w : World), wrongB v = b → Calls Tryz.prog 92 #[.int .u64 v] w fun x w' => x = .returned (.bool b) ∧ w = w' from fun b w hb => hb ▸ rwrong_any HUV.out w)
          cases hwr : wrongB v with
          | true =>
            have E := Lib.hid (show res = .page by rw [D.out, if_neg (fun h => h rfl), if_pos hwr])
            have XW := Lib.hid (HX.out true · hwr)
            clear D hwr
            go_wp2_with (first
 | (go_at_call 62; refine (HG.out _ Rr.out).mono ?_; rintro e w4 ⟨rfl, hb⟩; have R4 := Lib.hid (Rr.out.below hb); have A84 := Lib.hid (A8r.out.below hb); have A54 := Lib.hid (A5r.out.below hb); have HB4 := Lib.hid (HBr.out.trans (hb.mono HBr.out.size)); have HBW4 := Lib.hid (HBW.out.trans (hb.mono HBW.out.size)); have e0 := A54.out.cell 0; have e1 := A54.out.cell 1; have e2 := A54.out.cell 2; have e3 := A54.out.cell 3; have e4 := A54.out.cell 4; simp only [List.getElem?_toArray, List.getElem?_cons_zero, List.getElem?_cons_succ] at e0 e1 e2 e3 e4; clear hb)
 | (go_at_call 36; refine (T.out _ R4.out).mono ?_; rintro e w5 ⟨rfl, rfl⟩)
 | (go_at_call 92; refine (XW.out _).mono ?_; rintro e w5 ⟨rfl, rfl⟩)
 | (refine Step.storeAll (vs := #[.int .u64 0, .int .u64 0, .int .i64 1, .bool false]) A84.out rfl rfl rfl rfl rfl size_place rfl rfl ?_; intro w9 nb m; have N9 := Lib.hid nb; have HB9 := Lib.hid (below_mod HB4.out HB4.out.size m (fun k hk e => by obtain rfl : k = g8 := e; have := HS8.out; omega)); clear nb m))
            refine bodyPost_ret (results_row_tmp rfl _ _ g8 _ _ _ rfl N9.out hu rfl size_place) rfl ⟨by rw [E.out]; rfl, HB9.out⟩
          | false =>
            have XW := Lib.hid (HX.out false · hwr)
            cases hpt : ptr v with
            | true =>
              rw [hpt] at cp
              have E := Lib.hid (show down (virt base n mem root) va 2 (pn v) = res by rw [D.out, if_neg (fun h => h rfl), if_neg (by rw [hwr]; decide), if_pos hpt])
              have TN := Lib.hid (number_any HUV.out)
              clear D hwr hpt
              go_wp2_with (first
 | (go_at_call 62; refine (HG.out _ Rr.out).mono ?_; rintro e w4 ⟨rfl, hb⟩; have R4 := Lib.hid (Rr.out.below hb); have A84 := Lib.hid (A8r.out.below hb); have A54 := Lib.hid (A5r.out.below hb); have HB4 := Lib.hid (HBr.out.trans (hb.mono HBr.out.size)); have HBW4 := Lib.hid (HBW.out.trans (hb.mono HBW.out.size)); have e0 := A54.out.cell 0; have e1 := A54.out.cell 1; have e2 := A54.out.cell 2; have e3 := A54.out.cell 3; have e4 := A54.out.cell 4; simp only [List.getElem?_toArray, List.getElem?_cons_zero, List.getElem?_cons_succ] at e0 e1 e2 e3 e4; clear hb)
 | (go_at_call 36; refine (T.out _ R4.out).mono ?_; rintro e w5 ⟨rfl, rfl⟩)
 | (go_at_call 92; refine (XW.out _).mono ?_; rintro e w5 ⟨rfl, rfl⟩)
 | (go_at_call 93; refine (TN.out _).mono ?_; rintro e w5 ⟨rfl, rfl⟩))
              exact ⟨⟨pn v, 2, by decide, rfl, rfl, pn_u v, E.out, HBW4.out⟩, by decide⟩
            | false =>
              rw [hpt] at cp
              have TM := Lib.hid (show ∀ (b : Bool) (w : World), odd v 2 = b → Calls Tryz.prog 94 #[.int .u64 v, .int .i64 2] w fun x w' => x = .returned (.bool b) ∧ w = w' from fun b w hb => hb ▸ misplaced_any (l := 2) (by decide) HUV.out w)
              cases hod : odd v 2 with
              | true =>
                have E := Lib.hid (show res = .page by rw [D.out, if_neg (fun h => h rfl), if_neg (by rw [hwr]; decide), if_neg (by rw [hpt]; decide), if_pos hod])
                have TO := Lib.hid (TM.out true · hod)
                clear D hwr hpt hod
                go_wp2_with (first
 | (go_at_call 62; refine (HG.out _ Rr.out).mono ?_; rintro e w4 ⟨rfl, hb⟩; have R4 := Lib.hid (Rr.out.below hb); have A84 := Lib.hid (A8r.out.below hb); have A54 := Lib.hid (A5r.out.below hb); have HB4 := Lib.hid (HBr.out.trans (hb.mono HBr.out.size)); have HBW4 := Lib.hid (HBW.out.trans (hb.mono HBW.out.size)); have e0 := A54.out.cell 0; have e1 := A54.out.cell 1; have e2 := A54.out.cell 2; have e3 := A54.out.cell 3; have e4 := A54.out.cell 4; simp only [List.getElem?_toArray, List.getElem?_cons_zero, List.getElem?_cons_succ] at e0 e1 e2 e3 e4; clear hb)
 | (go_at_call 36; refine (T.out _ R4.out).mono ?_; rintro e w5 ⟨rfl, rfl⟩)
 | (go_at_call 92; refine (XW.out _).mono ?_; rintro e w5 ⟨rfl, rfl⟩)
 | (go_at_call 94; refine (TO.out _).mono ?_; rintro e w5 ⟨rfl, rfl⟩)
 | (refine Step.storeAll (vs := #[.int .u64 0, .int .u64 0, .int .i64 1, .bool false]) A84.out rfl rfl rfl rfl rfl size_place rfl rfl ?_; intro w9 nb m; have N9 := Lib.hid nb; have HB9 := Lib.hid (below_mod HB4.out HB4.out.size m (fun k hk e => by obtain rfl : k = g8 := e; have := HS8.out; omega)); clear nb m))
                refine bodyPost_ret (results_row_tmp rfl _ _ g8 _ _ _ rfl N9.out hu rfl size_place) rfl ⟨by rw [E.out]; rfl, HB9.out⟩
              | false =>
                have TO := Lib.hid (TM.out false · hod)
                have TLL := Lib.hid (show ∀ (b : Bool) (w : World), lets1 user sum mxr v a = b → Calls Tryz.prog 95 #[.int .u64 v, .agg #[.int .u64 satp, .int .u64 root, .bool user, .bool sum, .bool mxr], .int .i64 a] w fun x w' => x = .returned (.bool b) ∧ Below w.heap.size w w' from fun b w hb => hb ▸ rfirst_any HUV.out _ _ user sum mxr a w)
                cases hl : lets1 user sum mxr v a with
                | false =>
                  have E := Lib.hid (show fstOf user sum mxr va a res = .page by rw [D.out, if_neg (fun h => h rfl), if_neg (by rw [hwr]; decide), if_neg (by rw [hpt]; decide), if_neg (by rw [hod]; decide)]; exact if_neg (by rw [hl]; decide))
                  have TL := Lib.hid (TLL.out false · hl)
                  clear D hwr hpt hod hl
                  go_wp2_with (first
 | (go_at_call 62; refine (HG.out _ Rr.out).mono ?_; rintro e w4 ⟨rfl, hb⟩; have R4 := Lib.hid (Rr.out.below hb); have A84 := Lib.hid (A8r.out.below hb); have A54 := Lib.hid (A5r.out.below hb); have HB4 := Lib.hid (HBr.out.trans (hb.mono HBr.out.size)); have HBW4 := Lib.hid (HBW.out.trans (hb.mono HBW.out.size)); have e0 := A54.out.cell 0; have e1 := A54.out.cell 1; have e2 := A54.out.cell 2; have e3 := A54.out.cell 3; have e4 := A54.out.cell 4; simp only [List.getElem?_toArray, List.getElem?_cons_zero, List.getElem?_cons_succ] at e0 e1 e2 e3 e4; clear hb)
 | (go_at_call 36; refine (T.out _ R4.out).mono ?_; rintro e w5 ⟨rfl, rfl⟩)
 | (go_at_call 92; refine (XW.out _).mono ?_; rintro e w5 ⟨rfl, rfl⟩)
 | (go_at_call 94; refine (TO.out _).mono ?_; rintro e w5 ⟨rfl, rfl⟩)
 | (go_at_call 95; refine (TL.out _).mono ?_; rintro e w6 ⟨rfl, hb⟩; have A86 := Lib.hid (A84.out.below hb); have HB6 := Lib.hid (HB4.out.trans (hb.mono HB4.out.size)); clear hb)
 | (refine Step.storeAll (vs := #[.int .u64 0, .int .u64 0, .int .i64 1, .bool false]) A86.out rfl rfl rfl rfl rfl size_place rfl rfl ?_; intro w9 nb m; have N9 := Lib.hid nb; have HB9 := Lib.hid (below_mod HB6.out HB6.out.size m (fun k hk e => by obtain rfl : k = g8 := e; have := HS8.out; omega)); clear nb m))
                  refine bodyPost_ret (results_row_tmp rfl _ _ g8 _ _ _ rfl N9.out hu rfl size_place) rfl ⟨by rw [E.out]; rfl, HB9.out⟩
                | true =>
                  have E := Lib.hid (show fstOf user sum mxr va a res = .ok (at_ v 2 va) by rw [D.out, if_neg (fun h => h rfl), if_neg (by rw [hwr]; decide), if_neg (by rw [hpt]; decide), if_neg (by rw [hod]; decide)]; exact if_pos hl)
                  have TL := Lib.hid (TLL.out true · hl)
                  have TP := Lib.hid (fun w => put_z (W := w) (l := 2) (z := 2) rfl (by decide) HUV.out (show U64 va from HV.out))
                  clear D hwr hpt hod hl
                  go_wp2_with (first
 | (go_at_call 62; refine (HG.out _ Rr.out).mono ?_; rintro e w4 ⟨rfl, hb⟩; have R4 := Lib.hid (Rr.out.below hb); have A84 := Lib.hid (A8r.out.below hb); have A54 := Lib.hid (A5r.out.below hb); have HB4 := Lib.hid (HBr.out.trans (hb.mono HBr.out.size)); have HBW4 := Lib.hid (HBW.out.trans (hb.mono HBW.out.size)); have e0 := A54.out.cell 0; have e1 := A54.out.cell 1; have e2 := A54.out.cell 2; have e3 := A54.out.cell 3; have e4 := A54.out.cell 4; simp only [List.getElem?_toArray, List.getElem?_cons_zero, List.getElem?_cons_succ] at e0 e1 e2 e3 e4; clear hb)
 | (go_at_call 36; refine (T.out _ R4.out).mono ?_; rintro e w5 ⟨rfl, rfl⟩)
 | (go_at_call 92; refine (XW.out _).mono ?_; rintro e w5 ⟨rfl, rfl⟩)
 | (go_at_call 94; refine (TO.out _).mono ?_; rintro e w5 ⟨rfl, rfl⟩)
 | (go_at_call 95; refine (TL.out _).mono ?_; rintro e w6 ⟨rfl, hb⟩; have A86 := Lib.hid (A84.out.below hb); have HB6 := Lib.hid (HB4.out.trans (hb.mono HB4.out.size)); clear hb)
 | (go_at_call 96; refine (TP.out _).mono ?_; rintro e w7 ⟨rfl, hb⟩; have A87 := Lib.hid (A86.out.below hb); have HB7 := Lib.hid (HB6.out.trans (hb.mono HB6.out.size)); clear hb)
 | (refine Step.storeAll (vs := #[.int .u64 0, .int .u64 (at_ v 2 va), .int .i64 0, .bool false]) A87.out rfl rfl rfl rfl rfl size_place rfl rfl ?_; intro w9 nb m; have N9 := Lib.hid nb; have HB9 := Lib.hid (below_mod HB7.out HB7.out.size m (fun k hk e => by obtain rfl : k = g8 := e; have := HS8.out; omega)); clear nb m))
                  refine bodyPost_ret (results_row_tmp rfl _ _ g8 _ _ _ rfl N9.out hu rfl size_place) rfl ⟨by rw [E.out]; rfl, HB9.out⟩
      · rw [if_pos hq] at VD
        have E := Lib.hid (show res = .bus q tv (ix va 2) by rw [D.out, VD]; exact if_pos hq)
        have dq : (q != 0) = true := by simpa using hq
        clear D HUV VD hgu hq
        go_wp2_with (first
 | (go_at_call 62; refine (HG.out _ Rr.out).mono ?_; rintro e w4 ⟨rfl, hb⟩; have R4 := Lib.hid (Rr.out.below hb); have A84 := Lib.hid (A8r.out.below hb); have A54 := Lib.hid (A5r.out.below hb); have HB4 := Lib.hid (HBr.out.trans (hb.mono HBr.out.size)); have HBW4 := Lib.hid (HBW.out.trans (hb.mono HBW.out.size)); have e0 := A54.out.cell 0; have e1 := A54.out.cell 1; have e2 := A54.out.cell 2; have e3 := A54.out.cell 3; have e4 := A54.out.cell 4; simp only [List.getElem?_toArray, List.getElem?_cons_zero, List.getElem?_cons_succ] at e0 e1 e2 e3 e4; clear hb)
 | (refine Step.storeAll (vs := #[.int .u64 0, .int .u64 (tv * 4096 + 8 * ix va 2), .int .i64 q, .bool true]) A84.out rfl rfl rfl rfl rfl size_place rfl rfl ?_; intro w9 nb m; have N9 := Lib.hid nb; have HB9 := Lib.hid (below_mod HB4.out HB4.out.size m (fun k hk e => by obtain rfl : k = g8 := e; have := HS8.out; omega)); clear nb m))
        refine bodyPost_ret (results_row_tmp rfl _ _ g8 _ _ _ rfl N9.out hu rfl size_place) rfl ⟨by rw [E.out]; rfl, HB9.out⟩
end Go.Proofs.YtchpnbckgofiaaaGreat.Tab
end
