/- Parts of the walks and laws for the claim: DownA; no conditions beyond the theorems' own. -/
import Derived.Test.YtchpnbckgofiaaaGreatQ5
section
namespace Go.Proofs.YtchpnbckgofiaaaGreat.Tab
open Go Go.RowKit Go.Proofs.YtchpnbckgofiaaaGreat.Step Go.Proofs.YtchpnbckgofiaaaGreat.Mem
set_option linter.unusedVariables false
set_option linter.unusedSimpArgs false
set_option maxRecDepth 100000
/-- What is asked of the closure: it answers as rd says, keeps Inv where that is no fault, turns only what S names. -/
def Reads2 (c1 : Nat) (rd : Int → Int → Int × Int) (Inv : World → Prop) (Bad : Int → Int → World → Prop) (S : Nat → Prop) : Prop :=
  ∀ w t i, Inv w → U64 t → 0 ≤ i ∧ i < 512 → Calls Tryz.prog 110 #[.int .u64 t, .int .u64 i, .pointer (some ⟨c1, 0, none⟩)] w fun e w' => e = .returned (.tuple #[.int .u64 (rd t i).1, .int .i64 (rd t i).2]) ∧ Mod S w w' ∧ ((rd t i).2 = 0 → Inv w') ∧ ((rd t i).2 ≠ 0 → Bad t i w')
def J2 (W : World) (g c1 : Nat) (cs : Array Value) (T : TypeId) (addr t0 : Int) (rd : Int → Int → Int × Int) (Inv : World → Prop) (S : Nat → Prop) (a' : Act) (w' : World) : Prop := ∃ (tv : Int) (k : Nat) (cs' : Array Value), a' = { tmps := #[.pointer (some ⟨g, 0, none⟩), .int .u64 tv, .int .u64 addr, a'.tmps.getD 3 undef, a'.tmps.getD 4 undef, a'.tmps.getD 5 undef, a'.tmps.getD 6 undef, a'.tmps.getD 7 undef, a'.tmps.getD 8 undef, a'.tmps.getD 9 undef, a'.tmps.getD 10 undef, a'.tmps.getD 11 undef, a'.tmps.getD 12 undef, a'.tmps.getD 13 undef, a'.tmps.getD 14 undef, a'.tmps.getD 15 undef, a'.tmps.getD 16 undef, a'.tmps.getD 17 undef, a'.tmps.getD 18 undef, a'.tmps.getD 19 undef, a'.tmps.getD 20 undef, a'.tmps.getD 21 undef, a'.tmps.getD 22 undef, a'.tmps.getD 23 undef, a'.tmps.getD 24 undef, a'.tmps.getD 25 undef, a'.tmps.getD 26 undef, a'.tmps.getD 27 undef, a'.tmps.getD 28 undef, a'.tmps.getD 29 undef, a'.tmps.getD 30 undef, a'.tmps.getD 31 undef, a'.tmps.getD 32 undef, a'.tmps.getD 33 undef, a'.tmps.getD 34 undef, a'.tmps.getD 35 undef, a'.tmps.getD 36 undef, a'.tmps.getD 37 undef, a'.tmps.getD 38 undef, a'.tmps.getD 39 undef, a'.tmps.getD 40 undef, a'.tmps.getD 41 undef, a'.tmps.getD 42 undef, a'.tmps.getD 43 undef, a'.tmps.getD 44 undef, a'.tmps.getD 45 undef, a'.tmps.getD 46 undef, a'.tmps.getD 47 undef, a'.tmps.getD 48 undef, a'.tmps.getD 49 undef, a'.tmps.getD 50 undef, a'.tmps.getD 51 undef, a'.tmps.getD 52 undef, a'.tmps.getD 53 undef, a'.tmps.getD 54 undef, a'.tmps.getD 55 undef, a'.tmps.getD 56 undef, a'.tmps.getD 57 undef, a'.tmps.getD 58 undef, a'.tmps.getD 59 undef, a'.tmps.getD 60 undef, a'.tmps.getD 61 undef, a'.tmps.getD 62 undef, a'.tmps.getD 63 undef, a'.tmps.getD 64 undef, a'.tmps.getD 65 undef, a'.tmps.getD 66 undef, a'.tmps.getD 67 undef, a'.tmps.getD 68 undef, a'.tmps.getD 69 undef, a'.tmps.getD 70 undef, a'.tmps.getD 71 undef, a'.tmps.getD 72 undef, a'.tmps.getD 73 undef, a'.tmps.getD 74 undef, a'.tmps.getD 75 undef], defers := [] } ∧ k < 3 ∧ U64 tv ∧ Wk w' g cs' T (.func (.func 110) #[] #[.pointer (some ⟨c1, 0, none⟩)]) k ∧ Like cs cs' ∧ Inv w' ∧ Mod (fun k => S k ∨ k = g) W w' ∧ down rd addr (k + 1) tv = down rd addr 3 t0
theorem J2.of {W : World} {g c1 : Nat} {cs : Array Value} {T : TypeId} {addr t0 : Int} {rd : Int → Int → Int × Int} {Inv : World → Prop} {S : Nat → Prop} {a' : Act} {w' : World}
    (h : ∃ (tv : Int) (k : Nat) (cs' : Array Value), a' = { tmps := #[.pointer (some ⟨g, 0, none⟩), .int .u64 tv, .int .u64 addr, a'.tmps.getD 3 undef, a'.tmps.getD 4 undef, a'.tmps.getD 5 undef, a'.tmps.getD 6 undef, a'.tmps.getD 7 undef, a'.tmps.getD 8 undef, a'.tmps.getD 9 undef, a'.tmps.getD 10 undef, a'.tmps.getD 11 undef, a'.tmps.getD 12 undef, a'.tmps.getD 13 undef, a'.tmps.getD 14 undef, a'.tmps.getD 15 undef, a'.tmps.getD 16 undef, a'.tmps.getD 17 undef, a'.tmps.getD 18 undef, a'.tmps.getD 19 undef, a'.tmps.getD 20 undef, a'.tmps.getD 21 undef, a'.tmps.getD 22 undef, a'.tmps.getD 23 undef, a'.tmps.getD 24 undef, a'.tmps.getD 25 undef, a'.tmps.getD 26 undef, a'.tmps.getD 27 undef, a'.tmps.getD 28 undef, a'.tmps.getD 29 undef, a'.tmps.getD 30 undef, a'.tmps.getD 31 undef, a'.tmps.getD 32 undef, a'.tmps.getD 33 undef, a'.tmps.getD 34 undef, a'.tmps.getD 35 undef, a'.tmps.getD 36 undef, a'.tmps.getD 37 undef, a'.tmps.getD 38 undef, a'.tmps.getD 39 undef, a'.tmps.getD 40 undef, a'.tmps.getD 41 undef, a'.tmps.getD 42 undef, a'.tmps.getD 43 undef, a'.tmps.getD 44 undef, a'.tmps.getD 45 undef, a'.tmps.getD 46 undef, a'.tmps.getD 47 undef, a'.tmps.getD 48 undef, a'.tmps.getD 49 undef, a'.tmps.getD 50 undef, a'.tmps.getD 51 undef, a'.tmps.getD 52 undef, a'.tmps.getD 53 undef, a'.tmps.getD 54 undef, a'.tmps.getD 55 undef, a'.tmps.getD 56 undef, a'.tmps.getD 57 undef, a'.tmps.getD 58 undef, a'.tmps.getD 59 undef, a'.tmps.getD 60 undef, a'.tmps.getD 61 undef, a'.tmps.getD 62 undef, a'.tmps.getD 63 undef, a'.tmps.getD 64 undef, a'.tmps.getD 65 undef, a'.tmps.getD 66 undef, a'.tmps.getD 67 undef, a'.tmps.getD 68 undef, a'.tmps.getD 69 undef, a'.tmps.getD 70 undef, a'.tmps.getD 71 undef, a'.tmps.getD 72 undef, a'.tmps.getD 73 undef, a'.tmps.getD 74 undef, a'.tmps.getD 75 undef], defers := [] } ∧ k < 3 ∧ U64 tv ∧ Wk w' g cs' T (.func (.func 110) #[] #[.pointer (some ⟨c1, 0, none⟩)]) k ∧ Like cs cs' ∧ Inv w' ∧ Mod (fun k => S k ∨ k = g) W w' ∧ down rd addr (k + 1) tv = down rd addr 3 t0) : J2 W g c1 cs T addr t0 rd Inv S a' w' := h
theorem J2.out {W : World} {g c1 : Nat} {cs : Array Value} {T : TypeId} {addr t0 : Int} {rd : Int → Int → Int × Int} {Inv : World → Prop} {S : Nat → Prop} {a' : Act} {w' : World}
    (h : J2 W g c1 cs T addr t0 rd Inv S a' w') : ∃ (tv : Int) (k : Nat) (cs' : Array Value), a' = { tmps := #[.pointer (some ⟨g, 0, none⟩), .int .u64 tv, .int .u64 addr, a'.tmps.getD 3 undef, a'.tmps.getD 4 undef, a'.tmps.getD 5 undef, a'.tmps.getD 6 undef, a'.tmps.getD 7 undef, a'.tmps.getD 8 undef, a'.tmps.getD 9 undef, a'.tmps.getD 10 undef, a'.tmps.getD 11 undef, a'.tmps.getD 12 undef, a'.tmps.getD 13 undef, a'.tmps.getD 14 undef, a'.tmps.getD 15 undef, a'.tmps.getD 16 undef, a'.tmps.getD 17 undef, a'.tmps.getD 18 undef, a'.tmps.getD 19 undef, a'.tmps.getD 20 undef, a'.tmps.getD 21 undef, a'.tmps.getD 22 undef, a'.tmps.getD 23 undef, a'.tmps.getD 24 undef, a'.tmps.getD 25 undef, a'.tmps.getD 26 undef, a'.tmps.getD 27 undef, a'.tmps.getD 28 undef, a'.tmps.getD 29 undef, a'.tmps.getD 30 undef, a'.tmps.getD 31 undef, a'.tmps.getD 32 undef, a'.tmps.getD 33 undef, a'.tmps.getD 34 undef, a'.tmps.getD 35 undef, a'.tmps.getD 36 undef, a'.tmps.getD 37 undef, a'.tmps.getD 38 undef, a'.tmps.getD 39 undef, a'.tmps.getD 40 undef, a'.tmps.getD 41 undef, a'.tmps.getD 42 undef, a'.tmps.getD 43 undef, a'.tmps.getD 44 undef, a'.tmps.getD 45 undef, a'.tmps.getD 46 undef, a'.tmps.getD 47 undef, a'.tmps.getD 48 undef, a'.tmps.getD 49 undef, a'.tmps.getD 50 undef, a'.tmps.getD 51 undef, a'.tmps.getD 52 undef, a'.tmps.getD 53 undef, a'.tmps.getD 54 undef, a'.tmps.getD 55 undef, a'.tmps.getD 56 undef, a'.tmps.getD 57 undef, a'.tmps.getD 58 undef, a'.tmps.getD 59 undef, a'.tmps.getD 60 undef, a'.tmps.getD 61 undef, a'.tmps.getD 62 undef, a'.tmps.getD 63 undef, a'.tmps.getD 64 undef, a'.tmps.getD 65 undef, a'.tmps.getD 66 undef, a'.tmps.getD 67 undef, a'.tmps.getD 68 undef, a'.tmps.getD 69 undef, a'.tmps.getD 70 undef, a'.tmps.getD 71 undef, a'.tmps.getD 72 undef, a'.tmps.getD 73 undef, a'.tmps.getD 74 undef, a'.tmps.getD 75 undef], defers := [] } ∧ k < 3 ∧ U64 tv ∧ Wk w' g cs' T (.func (.func 110) #[] #[.pointer (some ⟨c1, 0, none⟩)]) k ∧ Like cs cs' ∧ Inv w' ∧ Mod (fun k => S k ∨ k = g) W w' ∧ down rd addr (k + 1) tv = down rd addr 3 t0 := h
def Post2 (W W' : World) (g : Nat) (cs : Array Value) (T : TypeId) (Inv : World → Prop) (Bad : Int → Int → World → Prop) (S : Nat → Prop) (e : Ending) : Res → Prop
  | .bus f t i => e = .returned (.int .i64 f) ∧ Bad t i W' ∧ Mod (fun k => S k ∨ k = g) W W' ∧ ∃ cs', Blk W' g cs' T ∧ Like cs cs'
  | .page => e = .returned (.int .i64 1) ∧ Inv W' ∧ Mod (fun k => S k ∨ k = g) W W' ∧ ∃ cs', Blk W' g cs' T ∧ Like cs cs'
  | .leaf x l => e = .returned (.int .i64 0) ∧ Inv W' ∧ Mod (fun k => S k ∨ k = g) W W' ∧ ∃ cs', Blk W' g cs' T ∧ Like cs cs' ∧ cs'[1]? = some (.int .u64 x) ∧ cs'[2]? = some (.int .i64 l)
set_option maxHeartbeats 8000000 in
theorem down2 {W : World} {g c1 : Nat} {cs : Array Value} {T : TypeId} {lev t0 addr : Int} {rd : Int → Int → Int × Int} {Inv : World → Prop} {Bad : Int → Int → World → Prop} {S : Nat → Prop}
    (hw : Wk W g cs T (.func (.func 110) #[] #[.pointer (some ⟨c1, 0, none⟩)]) lev) (hr : Reads2 c1 rd Inv Bad S) (hu : ∀ t l, U64 (rd t (ix addr l)).1) (hi : Inv W) (hg : ¬ S g) (hk : ∀ w w', Inv w → Mod (One g) w w' → Inv w') (ht : U64 t0) (ha : U64 addr) :
    Calls Tryz.prog 72 #[.pointer (some ⟨g, 0, none⟩), .int .u64 t0, .int .u64 addr] W fun e W' => Post2 W W' g cs T Inv Bad S e (down rd addr 3 t0) := by
  have HW := Lib.hid hw
  have HR := Lib.hid hr
  have HU := Lib.hid hu
  have HI := Lib.hid hi
  have HG := Lib.hid hg
  have HK := Lib.hid hk
  have HT := Lib.hid ht
  have HA := Lib.hid ha
  have HL := Lib.hid (show Nat.blt 2 cs.size = true from Nat.ble_eq_true_of_le ((Array.getElem?_eq_some_iff.1 hw.level).1))
  clear hw hr hu hi hg hk ht ha
  go_enter Tryz.func72, Tryz.ntmps72
  go_wp2
  refine scope_label 0 (J2 W g c1 cs T addr t0 rd Inv S) (fun _ w' => lev2 g w') rfl ?_ ?_
  · go_wp2_with (first
 | (refine Step.store HW.out.blk rfl rfl rfl rfl rfl pl_int rfl HL.out ?_; intro w1 n1 m1; have N1 := Lib.hid n1; have M1 := Lib.hid m1; clear n1 m1))
    refine J2.of ⟨t0, 2, _, rfl, by decide, HT.out, ⟨N1.out, ?_, ?_, ?_⟩, (Like.refl cs).set (.inr rfl) _, HK.out _ _ HI.out M1.out, M1.out.mono fun k _ e => .inr e, rfl⟩
    · rw [Array.getElem?_setIfInBounds_ne (by decide)]; exact HW.out.read
    · obtain ⟨v, hv⟩ := HW.out.leaf
      exact ⟨v, by rw [Array.getElem?_setIfInBounds_ne (by decide)]; exact hv⟩
    · rw [Array.getElem?_setIfInBounds_self_of_lt (by have := (Array.getElem?_eq_some_iff.1 HW.out.level).1; omega)]; rfl
  · intro a' wr hJ
    obtain ⟨tv, k, cs', ha', hk3, htv, hwk, hlk, hinv, hmod, hdn⟩ := hJ.out
    clear hJ
    obtain ⟨u, hu⟩ : ∃ u : Nat → Value, a' = { tmps := #[.pointer (some ⟨g, 0, none⟩), .int .u64 tv, .int .u64 addr, u 3, u 4, u 5, u 6, u 7, u 8, u 9, u 10, u 11, u 12, u 13, u 14, u 15, u 16, u 17, u 18, u 19, u 20, u 21, u 22, u 23, u 24, u 25, u 26, u 27, u 28, u 29, u 30, u 31, u 32, u 33, u 34, u 35, u 36, u 37, u 38, u 39, u 40, u 41, u 42, u 43, u 44, u 45, u 46, u 47, u 48, u 49, u 50, u 51, u 52, u 53, u 54, u 55, u 56, u 57, u 58, u 59, u 60, u 61, u 62, u 63, u 64, u 65, u 66, u 67, u 68, u 69, u 70, u 71, u 72, u 73, u 74, u 75], defers := [] } := ⟨fun i => a'.tmps.getD i undef, ha'⟩
    clear ha'
    subst hu
    have lg := hwk.blk.lt
    have HWK := Lib.hid hwk
    have HLK := Lib.hid hlk
    have HMOD := Lib.hid hmod
    have HTV := Lib.hid htv
    have HUV := Lib.hid (HU.out tv k)
    have HINV := Lib.hid hinv
    have D := Lib.hid (show down rd addr 3 t0 = (if (rd tv (ix addr k)).2 ≠ 0 then Res.bus (rd tv (ix addr k)).2 tv (ix addr k) else if wrongB (rd tv (ix addr k)).1 = true then .page else if ptr (rd tv (ix addr k)).1 = true then down rd addr k (pn (rd tv (ix addr k)).1) else if odd (rd tv (ix addr k)).1 k = true then .page else .leaf (rd tv (ix addr k)).1 k) from hdn.symm)
    have HT := Lib.hid (fun w (hb : Below wr.heap.size wr w) => HR.out w tv (ix addr k) (HK.out _ _ hinv (Mod.of_below hb _)) htv (ix_u addr k))
    have c0 := (hwk.blk.cell 0).trans hwk.read
    have c2 := (hwk.blk.cell 2).trans hwk.level
    have HL1 := Lib.hid (show Nat.blt 1 cs'.size = true from by obtain ⟨v, hv⟩ := hwk.leaf; exact Nat.ble_eq_true_of_le ((Array.getElem?_eq_some_iff.1 hv).1))
    have HL2 := Lib.hid (show Nat.blt 2 cs'.size = true from Nat.ble_eq_true_of_le ((Array.getElem?_eq_some_iff.1 hwk.level).1))
    clear hwk hlk hmod htv hinv hdn
    generalize hrd : rd tv (ix addr k) = r at HUV D HT
    obtain ⟨v, f⟩ := r
    clear hrd
    have HX := Lib.hid (show ∀ (b : Bool) (w : World), wrongB v = b → Calls Tryz.prog 113 #[.int .u64 v] w fun x w' => x = .returned (.bool b) ∧ w = w' from fun b w hb => hb ▸ wrong_any HUV.out w)
    obtain hk | hk | hk : k = 0 ∨ k = 1 ∨ k = 2 := by omega
    · subst hk
      have z1 : IntKind.i64.wrap 0 = 0 := by decide
      have z2 : IntKind.i64.wrap 12 = 12 := by decide
      have hix : bits .and .u64 (addr / 4096) 511 = ix addr 0 := and_mask 9 ⟨by have := HA.out.1; omega, by have := HA.out.2; omega⟩ (by decide)
      have co : (bits .and .u64 (v / 1024) 0 != 0) = odd v 0 := c_o0 HUV.out
      have cp : (bits .and .u64 v 10 == 0) = ptr v := c_p HUV.out
      by_cases hf : f = 0
      · subst hf
        cases hwr : wrongB v with
        | true =>
          have E := Lib.hid (show down rd addr 3 t0 = .page by rw [D.out, if_neg (fun h => h rfl), if_pos hwr])
          have XW := Lib.hid (HX.out true · hwr)
          clear co cp hwr D
          go_wp2
          go_region_held3 (fun w' => w'.cell? ⟨g, 0, none⟩ = some (.func (.func 110) #[] #[.pointer (some ⟨c1, 0, none⟩)]) ∧ w'.cell? ⟨g, 2, none⟩ = some (.int .i64 0))
            (first
              | (go_keep; done)
              | exact ⟨(World.cell?_of_block (hm.block g lg HG.out)).trans c0, (World.cell?_of_block (hm.block g lg HG.out)).trans c2⟩)
            (((with_reducible refine (HT.out _ (Below.drew (Below.refl _ _))).mono ?_); rintro e w9 ⟨rfl, hm, hI, hB⟩))
          rename_i hHeld
          have HM := Lib.hid (show Mod S wr w9 from ⟨hm.os, hm.tape, hm.output, hm.size, hm.block⟩)
          have HB := Lib.hid hB
          have HI9 := Lib.hid hI
          obtain ⟨c0', c2'⟩ := hHeld
          clear hm hB hI c0 c2
          go_wp2_with (go_at_call 113; refine (XW.out _).mono ?_; rintro e w10 ⟨rfl, rfl⟩)
          simp only [Exit.jump]
          go_ret
          rw [E.out]
          exact ⟨rfl, HI9.out (by simp), HMOD.out.trans_new HM.out fun i _ h => .inl h, _, HWK.out.blk.mod HM.out HG.out, HLK.out⟩
        | false =>
          have XW := Lib.hid (HX.out false · hwr)
          cases hpt : ptr v with
          | true =>
            rw [hpt] at cp
            have E := Lib.hid (show down rd addr 3 t0 = .page by rw [D.out, if_neg (fun h => h rfl), if_neg (by rw [hwr]; decide), if_pos hpt]; rfl)
            clear co hwr D hpt
            go_wp2
            go_region_held3 (fun w' => w'.cell? ⟨g, 0, none⟩ = some (.func (.func 110) #[] #[.pointer (some ⟨c1, 0, none⟩)]) ∧ w'.cell? ⟨g, 2, none⟩ = some (.int .i64 0))
              (first
                | (go_keep; done)
                | exact ⟨(World.cell?_of_block (hm.block g lg HG.out)).trans c0, (World.cell?_of_block (hm.block g lg HG.out)).trans c2⟩)
              (((with_reducible refine (HT.out _ (Below.drew (Below.refl _ _))).mono ?_); rintro e w9 ⟨rfl, hm, hI, hB⟩))
            rename_i hHeld
            have HM := Lib.hid (show Mod S wr w9 from ⟨hm.os, hm.tape, hm.output, hm.size, hm.block⟩)
            have HB := Lib.hid hB
            have HI9 := Lib.hid hI
            obtain ⟨c0', c2'⟩ := hHeld
            clear hm hB hI c0 c2
            go_wp2_with (go_at_call 113; refine (XW.out _).mono ?_; rintro e w10 ⟨rfl, rfl⟩)
            simp only [Exit.jump]
            go_ret
            rw [E.out]
            exact ⟨rfl, HI9.out (by simp), HMOD.out.trans_new HM.out fun i _ h => .inl h, _, HWK.out.blk.mod HM.out HG.out, HLK.out⟩
          | false =>
            rw [hpt] at cp
            cases hod : odd v 0 with
            | true =>
              rw [hod] at co
              have E := Lib.hid (show down rd addr 3 t0 = .page by rw [D.out, if_neg (fun h => h rfl), if_neg (by rw [hwr]; decide), if_neg (by rw [hpt]; decide), if_pos hod])
              clear hwr D hpt hod
              go_wp2
              go_region_held3 (fun w' => w'.cell? ⟨g, 0, none⟩ = some (.func (.func 110) #[] #[.pointer (some ⟨c1, 0, none⟩)]) ∧ w'.cell? ⟨g, 2, none⟩ = some (.int .i64 0))
                (first
                  | (go_keep; done)
                  | exact ⟨(World.cell?_of_block (hm.block g lg HG.out)).trans c0, (World.cell?_of_block (hm.block g lg HG.out)).trans c2⟩)
                (((with_reducible refine (HT.out _ (Below.drew (Below.refl _ _))).mono ?_); rintro e w9 ⟨rfl, hm, hI, hB⟩))
              rename_i hHeld
              have HM := Lib.hid (show Mod S wr w9 from ⟨hm.os, hm.tape, hm.output, hm.size, hm.block⟩)
              have HB := Lib.hid hB
              have HI9 := Lib.hid hI
              obtain ⟨c0', c2'⟩ := hHeld
              clear hm hB hI c0 c2
              have BK := Lib.hid (HWK.out.blk.mod HM.out HG.out)
              go_wp2_with (first
 | (go_at_call 113; refine (XW.out _).mono ?_; rintro e w10 ⟨rfl, rfl⟩)
 | (refine Step.store BK.out rfl rfl rfl rfl rfl pl_u64 rfl HL1.out ?_; intro w11 n1 m1; have N1 := Lib.hid n1; have M1 := Lib.hid m1; have c2n := (N1.out.cell 2).trans (show (cs'.setIfInBounds 1 (.int .u64 v))[2]? = some (.int .i64 0) by rw [Array.getElem?_setIfInBounds_ne (by decide)]; exact HWK.out.level); clear n1 m1))
              simp only [Exit.jump]
              go_ret
              rw [E.out]
              exact ⟨rfl, HK.out _ _ (HI9.out (by simp)) M1.out, (HMOD.out.trans_new HM.out fun i _ h => .inl h).trans_new M1.out fun i _ h => .inr h, _, N1.out, HLK.out.set (.inl rfl) _⟩
            | false =>
              rw [hod] at co
              have E := Lib.hid (show down rd addr 3 t0 = .leaf v 0 by rw [D.out, if_neg (fun h => h rfl), if_neg (by rw [hwr]; decide), if_neg (by rw [hpt]; decide), if_neg (by rw [hod]; decide)])
              clear hwr D hpt hod
              go_wp2
              go_region_held3 (fun w' => w'.cell? ⟨g, 0, none⟩ = some (.func (.func 110) #[] #[.pointer (some ⟨c1, 0, none⟩)]) ∧ w'.cell? ⟨g, 2, none⟩ = some (.int .i64 0))
                (first
                  | (go_keep; done)
                  | exact ⟨(World.cell?_of_block (hm.block g lg HG.out)).trans c0, (World.cell?_of_block (hm.block g lg HG.out)).trans c2⟩)
                (((with_reducible refine (HT.out _ (Below.drew (Below.refl _ _))).mono ?_); rintro e w9 ⟨rfl, hm, hI, hB⟩))
              rename_i hHeld
              have HM := Lib.hid (show Mod S wr w9 from ⟨hm.os, hm.tape, hm.output, hm.size, hm.block⟩)
              have HB := Lib.hid hB
              have HI9 := Lib.hid hI
              obtain ⟨c0', c2'⟩ := hHeld
              clear hm hB hI c0 c2
              have BK := Lib.hid (HWK.out.blk.mod HM.out HG.out)
              go_wp2_with (first
 | (go_at_call 113; refine (XW.out _).mono ?_; rintro e w10 ⟨rfl, rfl⟩)
 | (refine Step.store BK.out rfl rfl rfl rfl rfl pl_u64 rfl HL1.out ?_; intro w11 n1 m1; have N1 := Lib.hid n1; have M1 := Lib.hid m1; have c2n := (N1.out.cell 2).trans (show (cs'.setIfInBounds 1 (.int .u64 v))[2]? = some (.int .i64 0) by rw [Array.getElem?_setIfInBounds_ne (by decide)]; exact HWK.out.level); clear n1 m1))
              simp only [Exit.jump]
              go_ret
              rw [E.out]
              refine ⟨rfl, HK.out _ _ (HI9.out (by simp)) M1.out, (HMOD.out.trans_new HM.out fun i _ h => .inl h).trans_new M1.out fun i _ h => .inr h, _, N1.out, HLK.out.set (.inl rfl) _, ?_, ?_⟩
              · rw [Array.getElem?_setIfInBounds_self_of_lt (by obtain ⟨v, hv⟩ := HWK.out.leaf; have := (Array.getElem?_eq_some_iff.1 hv).1; omega)]; rfl
              · rw [Array.getElem?_setIfInBounds_ne (by decide)]; exact HWK.out.level
      · have E := Lib.hid (show down rd addr 3 t0 = .bus f tv (ix addr 0) by rw [D.out, if_pos hf])
        have d : (f != 0) = true := by simpa using hf
        have HF := Lib.hid hf
        clear co cp D hf
        go_wp2
        go_region_held3 (fun w' => w'.cell? ⟨g, 0, none⟩ = some (.func (.func 110) #[] #[.pointer (some ⟨c1, 0, none⟩)]) ∧ w'.cell? ⟨g, 2, none⟩ = some (.int .i64 0))
          (first
            | (go_keep; done)
            | exact ⟨(World.cell?_of_block (hm.block g lg HG.out)).trans c0, (World.cell?_of_block (hm.block g lg HG.out)).trans c2⟩)
          (((with_reducible refine (HT.out _ (Below.drew (Below.refl _ _))).mono ?_); rintro e w9 ⟨rfl, hm, hI, hB⟩))
        rename_i hHeld
        have HM := Lib.hid (show Mod S wr w9 from ⟨hm.os, hm.tape, hm.output, hm.size, hm.block⟩)
        have HB := Lib.hid hB
        have HI9 := Lib.hid hI
        obtain ⟨c0', c2'⟩ := hHeld
        clear hm hB hI c0 c2
        go_wp2
        simp only [Exit.jump]
        go_ret
        rw [E.out]
        exact ⟨rfl, HB.out HF.out, HMOD.out.trans_new HM.out fun i _ h => .inl h, _, HWK.out.blk.mod HM.out HG.out, HLK.out⟩
    · subst hk
      have z1 : IntKind.i64.wrap 9 = 9 := by decide
      have z2 : IntKind.i64.wrap 21 = 21 := by decide
      have hix : bits .and .u64 (addr / 2097152) 511 = ix addr 1 := and_mask 9 ⟨by have := HA.out.1; omega, by have := HA.out.2; omega⟩ (by decide)
      have co : (bits .and .u64 (v / 1024) 511 != 0) = odd v 1 := c_o1 HUV.out
      have cp : (bits .and .u64 v 10 == 0) = ptr v := c_p HUV.out
      by_cases hf : f = 0
      · subst hf
        cases hwr : wrongB v with
        | true =>
          have E := Lib.hid (show down rd addr 3 t0 = .page by rw [D.out, if_neg (fun h => h rfl), if_pos hwr])
          have XW := Lib.hid (HX.out true · hwr)
          clear co cp hwr D
          go_wp2
          go_region_held3 (fun w' => w'.cell? ⟨g, 0, none⟩ = some (.func (.func 110) #[] #[.pointer (some ⟨c1, 0, none⟩)]) ∧ w'.cell? ⟨g, 2, none⟩ = some (.int .i64 1))
            (first
              | (go_keep; done)
              | exact ⟨(World.cell?_of_block (hm.block g lg HG.out)).trans c0, (World.cell?_of_block (hm.block g lg HG.out)).trans c2⟩)
            (((with_reducible refine (HT.out _ (Below.drew (Below.refl _ _))).mono ?_); rintro e w9 ⟨rfl, hm, hI, hB⟩))
          rename_i hHeld
          have HM := Lib.hid (show Mod S wr w9 from ⟨hm.os, hm.tape, hm.output, hm.size, hm.block⟩)
          have HB := Lib.hid hB
          have HI9 := Lib.hid hI
          obtain ⟨c0', c2'⟩ := hHeld
          clear hm hB hI c0 c2
          go_wp2_with (go_at_call 113; refine (XW.out _).mono ?_; rintro e w10 ⟨rfl, rfl⟩)
          simp only [Exit.jump]
          go_ret
          rw [E.out]
          exact ⟨rfl, HI9.out (by simp), HMOD.out.trans_new HM.out fun i _ h => .inl h, _, HWK.out.blk.mod HM.out HG.out, HLK.out⟩
        | false =>
          have XW := Lib.hid (HX.out false · hwr)
          cases hpt : ptr v with
          | true =>
            rw [hpt] at cp
            have E := Lib.hid (show down rd addr 1 (pn v) = down rd addr 3 t0 by rw [D.out, if_neg (fun h => h rfl), if_neg (by rw [hwr]; decide), if_pos hpt])
            have hn : bits .and .u64 (v / 1024) 17592186044415 = pn v := and_mask 44 ⟨by have := HUV.out.1; omega, by have := HUV.out.2; omega⟩ (by decide)
            clear co hwr D hpt
            go_wp2
            go_region_held3 (fun w' => w'.cell? ⟨g, 0, none⟩ = some (.func (.func 110) #[] #[.pointer (some ⟨c1, 0, none⟩)]) ∧ w'.cell? ⟨g, 2, none⟩ = some (.int .i64 1))
              (first
                | (go_keep; done)
                | exact ⟨(World.cell?_of_block (hm.block g lg HG.out)).trans c0, (World.cell?_of_block (hm.block g lg HG.out)).trans c2⟩)
              (((with_reducible refine (HT.out _ (Below.drew (Below.refl _ _))).mono ?_); rintro e w9 ⟨rfl, hm, hI, hB⟩))
            rename_i hHeld
            have HM := Lib.hid (show Mod S wr w9 from ⟨hm.os, hm.tape, hm.output, hm.size, hm.block⟩)
            have HB := Lib.hid hB
            have HI9 := Lib.hid hI
            obtain ⟨c0', c2'⟩ := hHeld
            clear hm hB hI c0 c2
            have BK := Lib.hid (HWK.out.blk.mod HM.out HG.out)
            go_wp2_with (first
 | (go_at_call 113; refine (XW.out _).mono ?_; rintro e w10 ⟨rfl, rfl⟩)
 | (refine Step.store BK.out rfl rfl rfl rfl rfl pl_int rfl HL2.out ?_; intro w11 n1 m1; have N1 := Lib.hid n1; have M1 := Lib.hid m1; clear n1 m1))
            go_step3
            refine ⟨rfl, J2.of ⟨pn v, 0, _, rfl, by decide, ⟨(pn_u v).1, by have := (pn_u v).2; omega⟩, ⟨N1.out, ?_, ?_, ?_⟩, HLK.out.set (.inr rfl) _, HK.out _ _ (HI9.out (by simp)) M1.out, (HMOD.out.trans_new HM.out fun i _ h => .inl h).trans_new M1.out fun i _ h => .inr h, E.out⟩, ?_⟩
            · rw [Array.getElem?_setIfInBounds_ne (by decide)]; exact HWK.out.read
            · obtain ⟨v, hv⟩ := HWK.out.leaf
              exact ⟨v, by rw [Array.getElem?_setIfInBounds_ne (by decide)]; exact hv⟩
            · rw [Array.getElem?_setIfInBounds_self_of_lt (by have := (Array.getElem?_eq_some_iff.1 HWK.out.level).1; omega)]; rfl
            · have e1 : w11.cell? ⟨g, 2, none⟩ = some (.int .i64 0) := (N1.out.cell 2).trans (by rw [Array.getElem?_setIfInBounds_self_of_lt (by have := (Array.getElem?_eq_some_iff.1 HWK.out.level).1; omega)]; rfl)
              have e2 := (HWK.out.blk.cell 2).trans HWK.out.level
              rw [lev2_of e1, lev2_of e2]; decide
          | false =>
            rw [hpt] at cp
            cases hod : odd v 1 with
            | true =>
              rw [hod] at co
              have E := Lib.hid (show down rd addr 3 t0 = .page by rw [D.out, if_neg (fun h => h rfl), if_neg (by rw [hwr]; decide), if_neg (by rw [hpt]; decide), if_pos hod])
              clear hwr D hpt hod
              go_wp2
              go_region_held3 (fun w' => w'.cell? ⟨g, 0, none⟩ = some (.func (.func 110) #[] #[.pointer (some ⟨c1, 0, none⟩)]) ∧ w'.cell? ⟨g, 2, none⟩ = some (.int .i64 1))
                (first
                  | (go_keep; done)
                  | exact ⟨(World.cell?_of_block (hm.block g lg HG.out)).trans c0, (World.cell?_of_block (hm.block g lg HG.out)).trans c2⟩)
                (((with_reducible refine (HT.out _ (Below.drew (Below.refl _ _))).mono ?_); rintro e w9 ⟨rfl, hm, hI, hB⟩))
              rename_i hHeld
              have HM := Lib.hid (show Mod S wr w9 from ⟨hm.os, hm.tape, hm.output, hm.size, hm.block⟩)
              have HB := Lib.hid hB
              have HI9 := Lib.hid hI
              obtain ⟨c0', c2'⟩ := hHeld
              clear hm hB hI c0 c2
              have BK := Lib.hid (HWK.out.blk.mod HM.out HG.out)
              go_wp2_with (first
 | (go_at_call 113; refine (XW.out _).mono ?_; rintro e w10 ⟨rfl, rfl⟩)
 | (refine Step.store BK.out rfl rfl rfl rfl rfl pl_u64 rfl HL1.out ?_; intro w11 n1 m1; have N1 := Lib.hid n1; have M1 := Lib.hid m1; have c2n := (N1.out.cell 2).trans (show (cs'.setIfInBounds 1 (.int .u64 v))[2]? = some (.int .i64 1) by rw [Array.getElem?_setIfInBounds_ne (by decide)]; exact HWK.out.level); clear n1 m1))
              simp only [Exit.jump]
              go_ret
              rw [E.out]
              exact ⟨rfl, HK.out _ _ (HI9.out (by simp)) M1.out, (HMOD.out.trans_new HM.out fun i _ h => .inl h).trans_new M1.out fun i _ h => .inr h, _, N1.out, HLK.out.set (.inl rfl) _⟩
            | false =>
              rw [hod] at co
              have E := Lib.hid (show down rd addr 3 t0 = .leaf v 1 by rw [D.out, if_neg (fun h => h rfl), if_neg (by rw [hwr]; decide), if_neg (by rw [hpt]; decide), if_neg (by rw [hod]; decide)])
              clear hwr D hpt hod
              go_wp2
              go_region_held3 (fun w' => w'.cell? ⟨g, 0, none⟩ = some (.func (.func 110) #[] #[.pointer (some ⟨c1, 0, none⟩)]) ∧ w'.cell? ⟨g, 2, none⟩ = some (.int .i64 1))
                (first
                  | (go_keep; done)
                  | exact ⟨(World.cell?_of_block (hm.block g lg HG.out)).trans c0, (World.cell?_of_block (hm.block g lg HG.out)).trans c2⟩)
                (((with_reducible refine (HT.out _ (Below.drew (Below.refl _ _))).mono ?_); rintro e w9 ⟨rfl, hm, hI, hB⟩))
              rename_i hHeld
              have HM := Lib.hid (show Mod S wr w9 from ⟨hm.os, hm.tape, hm.output, hm.size, hm.block⟩)
              have HB := Lib.hid hB
              have HI9 := Lib.hid hI
              obtain ⟨c0', c2'⟩ := hHeld
              clear hm hB hI c0 c2
              have BK := Lib.hid (HWK.out.blk.mod HM.out HG.out)
              go_wp2_with (first
 | (go_at_call 113; refine (XW.out _).mono ?_; rintro e w10 ⟨rfl, rfl⟩)
 | (refine Step.store BK.out rfl rfl rfl rfl rfl pl_u64 rfl HL1.out ?_; intro w11 n1 m1; have N1 := Lib.hid n1; have M1 := Lib.hid m1; have c2n := (N1.out.cell 2).trans (show (cs'.setIfInBounds 1 (.int .u64 v))[2]? = some (.int .i64 1) by rw [Array.getElem?_setIfInBounds_ne (by decide)]; exact HWK.out.level); clear n1 m1))
              simp only [Exit.jump]
              go_ret
              rw [E.out]
              refine ⟨rfl, HK.out _ _ (HI9.out (by simp)) M1.out, (HMOD.out.trans_new HM.out fun i _ h => .inl h).trans_new M1.out fun i _ h => .inr h, _, N1.out, HLK.out.set (.inl rfl) _, ?_, ?_⟩
              · rw [Array.getElem?_setIfInBounds_self_of_lt (by obtain ⟨v, hv⟩ := HWK.out.leaf; have := (Array.getElem?_eq_some_iff.1 hv).1; omega)]; rfl
              · rw [Array.getElem?_setIfInBounds_ne (by decide)]; exact HWK.out.level
      · have E := Lib.hid (show down rd addr 3 t0 = .bus f tv (ix addr 1) by rw [D.out, if_pos hf])
        have d : (f != 0) = true := by simpa using hf
        have HF := Lib.hid hf
        clear co cp D hf
        go_wp2
        go_region_held3 (fun w' => w'.cell? ⟨g, 0, none⟩ = some (.func (.func 110) #[] #[.pointer (some ⟨c1, 0, none⟩)]) ∧ w'.cell? ⟨g, 2, none⟩ = some (.int .i64 1))
          (first
            | (go_keep; done)
            | exact ⟨(World.cell?_of_block (hm.block g lg HG.out)).trans c0, (World.cell?_of_block (hm.block g lg HG.out)).trans c2⟩)
          (((with_reducible refine (HT.out _ (Below.drew (Below.refl _ _))).mono ?_); rintro e w9 ⟨rfl, hm, hI, hB⟩))
        rename_i hHeld
        have HM := Lib.hid (show Mod S wr w9 from ⟨hm.os, hm.tape, hm.output, hm.size, hm.block⟩)
        have HB := Lib.hid hB
        have HI9 := Lib.hid hI
        obtain ⟨c0', c2'⟩ := hHeld
        clear hm hB hI c0 c2
        go_wp2
        simp only [Exit.jump]
        go_ret
        rw [E.out]
        exact ⟨rfl, HB.out HF.out, HMOD.out.trans_new HM.out fun i _ h => .inl h, _, HWK.out.blk.mod HM.out HG.out, HLK.out⟩
    · subst hk
      have z1 : IntKind.i64.wrap 18 = 18 := by decide
      have z2 : IntKind.i64.wrap 30 = 30 := by decide
      have hix : bits .and .u64 (addr / 1073741824) 511 = ix addr 2 := and_mask 9 ⟨by have := HA.out.1; omega, by have := HA.out.2; omega⟩ (by decide)
      have co : (bits .and .u64 (v / 1024) 262143 != 0) = odd v 2 := c_o2 HUV.out
      have cp : (bits .and .u64 v 10 == 0) = ptr v := c_p HUV.out
      by_cases hf : f = 0
      · subst hf
        cases hwr : wrongB v with
        | true =>
          have E := Lib.hid (show down rd addr 3 t0 = .page by rw [D.out, if_neg (fun h => h rfl), if_pos hwr])
          have XW := Lib.hid (HX.out true · hwr)
          clear co cp hwr D
          go_wp2
          go_region_held3 (fun w' => w'.cell? ⟨g, 0, none⟩ = some (.func (.func 110) #[] #[.pointer (some ⟨c1, 0, none⟩)]) ∧ w'.cell? ⟨g, 2, none⟩ = some (.int .i64 2))
            (first
              | (go_keep; done)
              | exact ⟨(World.cell?_of_block (hm.block g lg HG.out)).trans c0, (World.cell?_of_block (hm.block g lg HG.out)).trans c2⟩)
            (((with_reducible refine (HT.out _ (Below.drew (Below.refl _ _))).mono ?_); rintro e w9 ⟨rfl, hm, hI, hB⟩))
          rename_i hHeld
          have HM := Lib.hid (show Mod S wr w9 from ⟨hm.os, hm.tape, hm.output, hm.size, hm.block⟩)
          have HB := Lib.hid hB
          have HI9 := Lib.hid hI
          obtain ⟨c0', c2'⟩ := hHeld
          clear hm hB hI c0 c2
          go_wp2_with (go_at_call 113; refine (XW.out _).mono ?_; rintro e w10 ⟨rfl, rfl⟩)
          simp only [Exit.jump]
          go_ret
          rw [E.out]
          exact ⟨rfl, HI9.out (by simp), HMOD.out.trans_new HM.out fun i _ h => .inl h, _, HWK.out.blk.mod HM.out HG.out, HLK.out⟩
        | false =>
          have XW := Lib.hid (HX.out false · hwr)
          cases hpt : ptr v with
          | true =>
            rw [hpt] at cp
            have E := Lib.hid (show down rd addr 2 (pn v) = down rd addr 3 t0 by rw [D.out, if_neg (fun h => h rfl), if_neg (by rw [hwr]; decide), if_pos hpt])
            have hn : bits .and .u64 (v / 1024) 17592186044415 = pn v := and_mask 44 ⟨by have := HUV.out.1; omega, by have := HUV.out.2; omega⟩ (by decide)
            clear co hwr D hpt
            go_wp2
            go_region_held3 (fun w' => w'.cell? ⟨g, 0, none⟩ = some (.func (.func 110) #[] #[.pointer (some ⟨c1, 0, none⟩)]) ∧ w'.cell? ⟨g, 2, none⟩ = some (.int .i64 2))
              (first
                | (go_keep; done)
                | exact ⟨(World.cell?_of_block (hm.block g lg HG.out)).trans c0, (World.cell?_of_block (hm.block g lg HG.out)).trans c2⟩)
              (((with_reducible refine (HT.out _ (Below.drew (Below.refl _ _))).mono ?_); rintro e w9 ⟨rfl, hm, hI, hB⟩))
            rename_i hHeld
            have HM := Lib.hid (show Mod S wr w9 from ⟨hm.os, hm.tape, hm.output, hm.size, hm.block⟩)
            have HB := Lib.hid hB
            have HI9 := Lib.hid hI
            obtain ⟨c0', c2'⟩ := hHeld
            clear hm hB hI c0 c2
            have BK := Lib.hid (HWK.out.blk.mod HM.out HG.out)
            go_wp2_with (first
 | (go_at_call 113; refine (XW.out _).mono ?_; rintro e w10 ⟨rfl, rfl⟩)
 | (refine Step.store BK.out rfl rfl rfl rfl rfl pl_int rfl HL2.out ?_; intro w11 n1 m1; have N1 := Lib.hid n1; have M1 := Lib.hid m1; clear n1 m1))
            go_step3
            refine ⟨rfl, J2.of ⟨pn v, 1, _, rfl, by decide, ⟨(pn_u v).1, by have := (pn_u v).2; omega⟩, ⟨N1.out, ?_, ?_, ?_⟩, HLK.out.set (.inr rfl) _, HK.out _ _ (HI9.out (by simp)) M1.out, (HMOD.out.trans_new HM.out fun i _ h => .inl h).trans_new M1.out fun i _ h => .inr h, E.out⟩, ?_⟩
            · rw [Array.getElem?_setIfInBounds_ne (by decide)]; exact HWK.out.read
            · obtain ⟨v, hv⟩ := HWK.out.leaf
              exact ⟨v, by rw [Array.getElem?_setIfInBounds_ne (by decide)]; exact hv⟩
            · rw [Array.getElem?_setIfInBounds_self_of_lt (by have := (Array.getElem?_eq_some_iff.1 HWK.out.level).1; omega)]; rfl
            · have e1 : w11.cell? ⟨g, 2, none⟩ = some (.int .i64 1) := (N1.out.cell 2).trans (by rw [Array.getElem?_setIfInBounds_self_of_lt (by have := (Array.getElem?_eq_some_iff.1 HWK.out.level).1; omega)]; rfl)
              have e2 := (HWK.out.blk.cell 2).trans HWK.out.level
              rw [lev2_of e1, lev2_of e2]; decide
          | false =>
            rw [hpt] at cp
            cases hod : odd v 2 with
            | true =>
              rw [hod] at co
              have E := Lib.hid (show down rd addr 3 t0 = .page by rw [D.out, if_neg (fun h => h rfl), if_neg (by rw [hwr]; decide), if_neg (by rw [hpt]; decide), if_pos hod])
              clear hwr D hpt hod
              go_wp2
              go_region_held3 (fun w' => w'.cell? ⟨g, 0, none⟩ = some (.func (.func 110) #[] #[.pointer (some ⟨c1, 0, none⟩)]) ∧ w'.cell? ⟨g, 2, none⟩ = some (.int .i64 2))
                (first
                  | (go_keep; done)
                  | exact ⟨(World.cell?_of_block (hm.block g lg HG.out)).trans c0, (World.cell?_of_block (hm.block g lg HG.out)).trans c2⟩)
                (((with_reducible refine (HT.out _ (Below.drew (Below.refl _ _))).mono ?_); rintro e w9 ⟨rfl, hm, hI, hB⟩))
              rename_i hHeld
              have HM := Lib.hid (show Mod S wr w9 from ⟨hm.os, hm.tape, hm.output, hm.size, hm.block⟩)
              have HB := Lib.hid hB
              have HI9 := Lib.hid hI
              obtain ⟨c0', c2'⟩ := hHeld
              clear hm hB hI c0 c2
              have BK := Lib.hid (HWK.out.blk.mod HM.out HG.out)
              go_wp2_with (first
 | (go_at_call 113; refine (XW.out _).mono ?_; rintro e w10 ⟨rfl, rfl⟩)
 | (refine Step.store BK.out rfl rfl rfl rfl rfl pl_u64 rfl HL1.out ?_; intro w11 n1 m1; have N1 := Lib.hid n1; have M1 := Lib.hid m1; have c2n := (N1.out.cell 2).trans (show (cs'.setIfInBounds 1 (.int .u64 v))[2]? = some (.int .i64 2) by rw [Array.getElem?_setIfInBounds_ne (by decide)]; exact HWK.out.level); clear n1 m1))
              simp only [Exit.jump]
              go_ret
              rw [E.out]
              exact ⟨rfl, HK.out _ _ (HI9.out (by simp)) M1.out, (HMOD.out.trans_new HM.out fun i _ h => .inl h).trans_new M1.out fun i _ h => .inr h, _, N1.out, HLK.out.set (.inl rfl) _⟩
            | false =>
              rw [hod] at co
              have E := Lib.hid (show down rd addr 3 t0 = .leaf v 2 by rw [D.out, if_neg (fun h => h rfl), if_neg (by rw [hwr]; decide), if_neg (by rw [hpt]; decide), if_neg (by rw [hod]; decide)])
              clear hwr D hpt hod
              go_wp2
              go_region_held3 (fun w' => w'.cell? ⟨g, 0, none⟩ = some (.func (.func 110) #[] #[.pointer (some ⟨c1, 0, none⟩)]) ∧ w'.cell? ⟨g, 2, none⟩ = some (.int .i64 2))
                (first
                  | (go_keep; done)
                  | exact ⟨(World.cell?_of_block (hm.block g lg HG.out)).trans c0, (World.cell?_of_block (hm.block g lg HG.out)).trans c2⟩)
                (((with_reducible refine (HT.out _ (Below.drew (Below.refl _ _))).mono ?_); rintro e w9 ⟨rfl, hm, hI, hB⟩))
              rename_i hHeld
              have HM := Lib.hid (show Mod S wr w9 from ⟨hm.os, hm.tape, hm.output, hm.size, hm.block⟩)
              have HB := Lib.hid hB
              have HI9 := Lib.hid hI
              obtain ⟨c0', c2'⟩ := hHeld
              clear hm hB hI c0 c2
              have BK := Lib.hid (HWK.out.blk.mod HM.out HG.out)
              go_wp2_with (first
 | (go_at_call 113; refine (XW.out _).mono ?_; rintro e w10 ⟨rfl, rfl⟩)
 | (refine Step.store BK.out rfl rfl rfl rfl rfl pl_u64 rfl HL1.out ?_; intro w11 n1 m1; have N1 := Lib.hid n1; have M1 := Lib.hid m1; have c2n := (N1.out.cell 2).trans (show (cs'.setIfInBounds 1 (.int .u64 v))[2]? = some (.int .i64 2) by rw [Array.getElem?_setIfInBounds_ne (by decide)]; exact HWK.out.level); clear n1 m1))
              simp only [Exit.jump]
              go_ret
              rw [E.out]
              refine ⟨rfl, HK.out _ _ (HI9.out (by simp)) M1.out, (HMOD.out.trans_new HM.out fun i _ h => .inl h).trans_new M1.out fun i _ h => .inr h, _, N1.out, HLK.out.set (.inl rfl) _, ?_, ?_⟩
              · rw [Array.getElem?_setIfInBounds_self_of_lt (by obtain ⟨v, hv⟩ := HWK.out.leaf; have := (Array.getElem?_eq_some_iff.1 hv).1; omega)]; rfl
              · rw [Array.getElem?_setIfInBounds_ne (by decide)]; exact HWK.out.level
      · have E := Lib.hid (show down rd addr 3 t0 = .bus f tv (ix addr 2) by rw [D.out, if_pos hf])
        have d : (f != 0) = true := by simpa using hf
        have HF := Lib.hid hf
        clear co cp D hf
        go_wp2
        go_region_held3 (fun w' => w'.cell? ⟨g, 0, none⟩ = some (.func (.func 110) #[] #[.pointer (some ⟨c1, 0, none⟩)]) ∧ w'.cell? ⟨g, 2, none⟩ = some (.int .i64 2))
          (first
            | (go_keep; done)
            | exact ⟨(World.cell?_of_block (hm.block g lg HG.out)).trans c0, (World.cell?_of_block (hm.block g lg HG.out)).trans c2⟩)
          (((with_reducible refine (HT.out _ (Below.drew (Below.refl _ _))).mono ?_); rintro e w9 ⟨rfl, hm, hI, hB⟩))
        rename_i hHeld
        have HM := Lib.hid (show Mod S wr w9 from ⟨hm.os, hm.tape, hm.output, hm.size, hm.block⟩)
        have HB := Lib.hid hB
        have HI9 := Lib.hid hI
        obtain ⟨c0', c2'⟩ := hHeld
        clear hm hB hI c0 c2
        go_wp2
        simp only [Exit.jump]
        go_ret
        rw [E.out]
        exact ⟨rfl, HB.out HF.out, HMOD.out.trans_new HM.out fun i _ h => .inl h, _, HWK.out.blk.mod HM.out HG.out, HLK.out⟩
end Go.Proofs.YtchpnbckgofiaaaGreat.Tab
end
