/- A memory is copied. -/
import Derived.Test.YtkdohejocmkljaaRamE
import Derived.Deep.RegionHeld3
namespace Go.Proofs.Ytkdohejocmkljaa.Mem
open Go Go.RowKit Go.Proofs.Ytkdohejocmkljaa.Step
set_option linter.unusedVariables false
set_option linter.unusedSimpArgs false
set_option maxRecDepth 100000

theorem make_frs (n : Nat) (hn : n ≤ 1024) (w : World) : (Instr.makeSlice 64 (.int .i64 n) (.int .i64 n)).run Try.prog w = .ok (.slice (some ⟨w.heap.size, 0, none⟩) n n) (w.alloc (.cells (Array.replicate n (.pointer none)) 69 (0, 0))) := by
  have h := mk_frs
  cases hi' : Try.prog.info? 69 with
  | none => rw [hi'] at h; cases h
  | some i =>
    rw [hi'] at h
    simp only [Option.map_some, Option.some.injEq, Prod.mk.injEq] at h
    obtain ⟨h1, h2, h3⟩ := h
    have hr := run_make (P := Try.prog) w 64 69 i _ Try.underlying64 hi' h3 .i64 .i64 n n (by omega) (Int.le_refl _) (by rw [h2]; omega) (by omega)
    simp only [Int.toNat_natCast, h1, Nat.mul_one, Value.cells, madeCells_one] at hr
    exact hr
theorem size_frame : (Try.prog.info? 71).map (·.size) = some 4096 := by kernel_rfl
/-- A frame is laid into a memory. -/
theorem RamIn.lay {W W' : World} {h fb : Nat} {cs : Array Value} {fs : Nat → Option Nat} {base : Int} {n : Nat} {mem mem' : Nat → Int} {F : Nat → Prop} (r : RamIn W h fb cs fs base n mem F) {k g : Nat} {bs : Array Value} (hk : k < n)
    (hfb : Blk W' fb (cs.setIfInBounds k (.pointer (some ⟨g, 0, none⟩))) 69) (hg : Blk W' g bs 71) (hsz : bs.size = 4096) (hbs : ∀ j, j < 4096 → bs[j]? = some (.int .u8 (mem' (k * 4096 + j)))) (hnew : W.heap.size ≤ g) (m : Mod (One fb) W W')
    (hm : ∀ i, i / 4096 ≠ k → mem' i = mem i) (hb : ∀ j, j < 4096 → 0 ≤ mem' (k * 4096 + j) ∧ mem' (k * 4096 + j) < 256) : RamIn W' h fb (cs.setIfInBounds k (.pointer (some ⟨g, 0, none⟩))) (fun i => if i = k then some g else fs i) base n mem' (Grow F W W') := by
  have hne : h ≠ fb := fun e => by subst e; have := (r.hdr.inj r.row).2; revert this; decide
  have old : ∀ c, c < n → fs c ≠ some g := fun c hc hcg => by
    have := r.bound g (r.frame c g hc hcg).1
    omega
  refine { hdr := r.hdr.one m hne, row := hfb, csz := by simpa using r.csz, n_lo := r.n_lo, n_hi := r.n_hi, b_lo := r.b_lo, b_hi := r.b_hi, at_ := fun k' hk' => ?_, frame := fun k' g' hk' hf' => ?_, none_ := fun k' hk' hf' j' hj' => ?_, inj := fun a b g' ha hb h1 h2 => ?_, foot_h := .inl r.foot_h, foot_fb := .inl r.foot_fb, bound := Grow.bound r.bound m.size, byte := fun i hi => ?_ }
  · by_cases e : k = k'
    · subst e; simp [r.csz, hk]
    · rw [Array.getElem?_setIfInBounds_ne e]; simp only [if_neg (Ne.symm e)]; exact r.at_ k' hk'
  · by_cases e : k' = k
    · subst e
      simp only [if_true, Option.some.injEq] at hf'
      subst hf'
      exact ⟨.inr ⟨hnew, hg.lt⟩, _, hg, hsz, hbs⟩
    · simp only [if_neg e] at hf'
      obtain ⟨hF', bs', hb2, hsz', hbs'⟩ := r.frame k' g' hk' hf'
      have : g' ≠ fb := fun eg => by subst eg; have := (hb2.inj r.row).2; revert this; decide
      refine ⟨.inl hF', bs', hb2.one m this, hsz', fun j' hj' => ?_⟩
      rw [hm _ (by omega)]; exact hbs' j' hj'
  · by_cases e : k' = k
    · simp [e] at hf'
    · simp only [if_neg e] at hf'
      rw [hm _ (by omega)]; exact r.none_ k' hk' hf' j' hj'
  · by_cases ea : a = k <;> by_cases eb : b = k
    · rw [ea, eb]
    · simp only [if_pos ea, if_neg eb, Option.some.injEq] at h1 h2; subst h1; exact absurd h2 (old b hb)
    · simp only [if_neg ea, if_pos eb, Option.some.injEq] at h1 h2; subst h2; exact absurd h1 (old a ha)
    · simp only [if_neg ea, if_neg eb] at h1 h2; exact r.inj a b g' ha hb h1 h2
  · by_cases e : i / 4096 = k
    · have := hb (i % 4096) (by omega)
      rwa [show k * 4096 + i % 4096 = i by omega] at this
    · rw [hm i e]; exact r.byte i hi
/-- The first k frames of a content. -/
def first (mem : Nat → Int) (k : Nat) : Nat → Int := fun i => if i < k * 4096 then mem i else 0
set_option maxHeartbeats 1000000 in
theorem copy_any {W : World} {h n : Nat} {base : Int} {mem : Nat → Int} {F : Nat → Prop} (r : Ram W h base n mem F) :
    Calls Try.prog 20 #[.pointer (some ⟨h, 0, none⟩)] W fun e W' => ∃ h', e = .returned (.pointer (some ⟨h', 0, none⟩)) ∧ Ram W' h' base n mem (Grow Nil W W') ∧ Below W.heap.size W W' := by
  obtain ⟨fb, cs, fs, r⟩ := r
  have c0 := r.hdr.cell 0
  have c1 := r.hdr.cell 1
  simp only [List.getElem?_toArray, List.getElem?_cons_zero, List.getElem?_cons_succ] at c0 c1
  have lh := r.hdr.lt
  have n2 := r.n_hi
  have HMK := make_frs n n2
  have hu66 := Try.underlying66
  have R := Lib.hid r
  clear r
  go_enter Try.func20, Try.ntmps20
  go_wp2
  go_region_held3 (fun w' => w'.cell? ⟨h, 0, none⟩ = some (.int .u64 base) ∧ w'.cell? ⟨h, 1, none⟩ = some (.slice (some ⟨fb, 0, none⟩) n n)) (go_keep) (fail)
  obtain ⟨W2, hW2⟩ : ∃ W2, W2 = ((W.alloc (Obj.cells (Array.replicate n (Value.pointer none)) 69)).alloc (Obj.cells #[Value.int IntKind.u64 base, Value.slice (some { block := W.heap.size, off := 0 }) n n] 66)).drew := ⟨_, rfl⟩
  have hb : Below W.heap.size W W2 := by rw [hW2]; exact (((Below.refl _ _).alloc (Nat.le_refl _) _).alloc (by simp) _).drew
  have k1 : Blk W2 W.heap.size (Array.replicate n (.pointer none)) 69 := by rw [hW2]; exact ⟨((alloc_out W _ _).below (alloc_below _ _)).out⟩
  have k2 : Blk W2 (W.heap.size + 1) #[.int .u64 base, .slice (some ⟨W.heap.size, 0, none⟩) n n] 66 := by rw [hW2]; have := alloc_out (W.alloc (Obj.cells (Array.replicate n (Value.pointer none)) 69)) #[.int .u64 base, .slice (some ⟨W.heap.size, 0, none⟩) n n] 66; simp at this; exact ⟨this.out⟩
  have hsz2 : W2.heap.size = W.heap.size + 2 := by rw [hW2]; simp [World.drew]
  have R2 : RamIn W2 (W.heap.size + 1) W.heap.size (Array.replicate n (.pointer none)) (fun _ => none) base n (first mem 0) (Grow Nil W W2) := by
    have r := R.out
    exact { hdr := k2, row := k1, csz := by simp, n_lo := r.n_lo, n_hi := r.n_hi, b_lo := r.b_lo, b_hi := r.b_hi, at_ := fun k hk => by simp [hk], frame := fun k g hk hf => (by cases hf), none_ := fun k hk hf j hj => if_neg (by omega), inj := fun k k' g hk hk' h1 h2 => (by cases h1), foot_h := .inr ⟨by omega, by omega⟩, foot_fb := .inr ⟨by omega, by omega⟩, bound := fun k hk => hk.elim (fun h => h.elim) (fun h => h.2), byte := fun i hi => (by rw [first, if_neg (by omega)]; decide) }
  have HB := Lib.hid hb
  have HR2 := Lib.hid R2
  rw [← hW2]
  have d0 := (hb.cell (p := ⟨h, 0, none⟩) lh).trans c0
  have d1 := (hb.cell (p := ⟨h, 1, none⟩) lh).trans c1
  clear hW2 hb k1 k2 R2 c0 c1
  go_wp2
  go_loopw [4, 5, 6, 24] (fun a b c i w => ∃ k : Nat, k ≤ n ∧ i = .int .i64 k ∧ (∃ cs' fs', RamIn w (W.heap.size + 1) W.heap.size cs' fs' base n (first mem k) (Grow Nil W w)) ∧ Mod Nil W w) (fun _ _ _ i _ => (n - intOf i).toNat)
  case atStart => exact ⟨0, Nat.zero_le _, rfl, ⟨_, _, HR2.out⟩, Mod.of_below HB.out Nil⟩
  case round =>
    obtain ⟨k, hk, rfl, ⟨cs', fs', hR⟩, hM⟩ := hrel
    clear d0 d1
    by_cases hlt : k < n
    · have r0 := R.out.mod hM fun _ _ h => h
      have ck := (r0.row.cell k).trans (r0.at_ k hlt)
      cases hf : fs k with
      | none =>
        rw [hf] at ck
        simp only [Option.map_none] at ck
        have hz := r0.none_ k hlt hf
        have he : first mem (k + 1) = first mem k := funext fun i => by
          unfold first
          by_cases h1 : i < k * 4096
          · rw [if_pos h1, if_pos (by omega)]
          · rw [if_neg h1]
            by_cases h2 : i < (k + 1) * 4096
            · rw [if_pos h2]
              have := hz (i - k * 4096) (by omega)
              rwa [show k * 4096 + (i - k * 4096) = i by omega] at this
            · rw [if_neg h2]
        have E := Lib.hid he
        have HR := Lib.hid hR
        have HM := Lib.hid hM
        clear hR hM r0 hz he hf
        go_wp2
        exact ⟨⟨k + 1, by omega, by go_num, ⟨cs', fs', by rw [E.out]; exact HR.out⟩, HM.out⟩, by simp [intOf]; omega⟩
      | some g =>
        rw [hf] at ck
        simp only [Option.map_some] at ck
        obtain ⟨hF, bs, hg, hsz, hbs⟩ := r0.frame k g hlt hf
        have BG := Lib.hid hg
        have SZ := Lib.hid (show (Try.prog.info? 71).map (·.size) = some bs.size by rw [hsz]; exact size_frame)
        have SZ2 := Lib.hid (show zeros.size = bs.size by rw [hsz]; simp [zeros])
        have ONE := Lib.hid (show bs.toList.all (·.oneCell') = true by
          rw [List.all_eq_true]
          intro x hx
          obtain ⟨j, hj, rfl⟩ := List.mem_iff_getElem.1 hx
          have h4 : j < 4096 := by simpa [hsz] using hj
          have := hbs j h4
          rw [Array.getElem?_eq_getElem (by omega)] at this
          simp only [Array.getElem_toList]
          rw [Option.some.inj this]; rfl)
        have HBS := Lib.hid hbs
        have HSZ := Lib.hid hsz
        have HR := Lib.hid hR
        have HM := Lib.hid hM
        have BY := Lib.hid (fun i hi => r0.byte i hi)
        have e0 := hR.hdr.cell 1
        simp only [List.getElem?_toArray, List.getElem?_cons_zero, List.getElem?_cons_succ] at e0
        have e1 := hR.hdr.lt
        have KS := Lib.hid (show Nat.blt k cs'.size = true by rw [hR.csz]; exact Nat.ble_eq_true_of_le hlt)
        have HF := Lib.hid hf
        have gl := hg.lt
        clear hR hM r0 hf hg hsz hbs hF
        go_wp2_with (first
          | ((with_reducible refine Step.gate_load (t := 71) rfl ?_); refine Step.loadAll BG.out rfl rfl rfl Try.underlying71 rfl SZ.out ?_)
          | ((with_reducible refine Step.gate_alloc (t := 71) rfl ?_); refine Step.freshAlloc rfl rfl alloc_frame ?_; intro g2 w1 b2 hg2 hbel; have B2 := Lib.hid b2; have HG2 := Lib.hid hg2; have HB1 := Lib.hid hbel; clear b2 hg2 hbel)
          | ((with_reducible refine Step.gate_store (t := 71) rfl ?_); refine Step.storeAll B2.out rfl rfl rfl rfl rfl SZ.out SZ2.out ONE.out ?_; intro w3 n3 m3; have B3 := Lib.hid n3; have M3 := Lib.hid m3; clear n3 m3;
              have e2 : w3.cell? ⟨W.heap.size + 1, 1, none⟩ = some (.slice (some ⟨W.heap.size, 0, none⟩) n n) := (((HR.out.hdr.below HB1.out).one M3.out (by have := HG2.out; omega)).cell 1).trans rfl;
              have B4 := Lib.hid ((HR.out.row.below HB1.out).one M3.out (by have := HG2.out; omega)))
          | ((with_reducible refine Step.gate_store (t := 69) rfl ?_); refine Step.store B4.out rfl rfl rfl rfl rfl pl_fr rfl KS.out ?_; intro w4 n4 m4; have B5 := Lib.hid n4; have M5 := Lib.hid m4; clear n4 m4))
        have hg2 := HG2.out
        have hsz := HR.out.row.lt
        have m : Mod (One W.heap.size) wr w4 := ((Mod.of_below HB1.out (One W.heap.size)).trans_new M3.out (fun i hi e => by obtain rfl : i = g2 := e; omega)).trans M5.out
        have hl := HR.out.lay (mem' := first mem (k + 1)) hlt B5.out (B3.out.one M5.out (by omega)) HSZ.out (fun j hj => by rw [HBS.out j hj, first, if_pos (by omega)]) hg2 m
          (fun i hi => by
            unfold first
            by_cases h1 : i < k * 4096
            · rw [if_pos h1, if_pos (by omega)]
            · rw [if_neg h1, if_neg (by omega)])
          (fun j hj => by rw [first, if_pos (by omega)]; exact BY.out _ (by omega))
        refine ⟨⟨k + 1, by omega, by go_num, ⟨_, _, { hl with frame := fun k g hk hf => ⟨Grow.grow HM.out.size m.size _ (hl.frame k g hk hf).1, (hl.frame k g hk hf).2⟩, foot_h := Grow.grow HM.out.size m.size _ hl.foot_h, foot_fb := Grow.grow HM.out.size m.size _ hl.foot_fb, bound := Grow.bound (fun _ h => h.elim) (Nat.le_trans HM.out.size m.size) }⟩, ?_⟩, by simp [intOf]; omega⟩
        exact HM.out.trans_new m fun i hi e => by obtain rfl : i = W.heap.size := e; omega
    · obtain rfl : k = n := by omega
      have HR := Lib.hid hR
      have HM := Lib.hid hM
      clear hR hM
      go_wp2
      go_ret
      refine ⟨_, rfl, ?_, HM.out.below⟩
      refine Ram.congr ⟨_, _, _, HR.out⟩ fun i hi => ?_
      unfold first
      rw [if_pos hi]
end Go.Proofs.Ytkdohejocmkljaa.Mem
