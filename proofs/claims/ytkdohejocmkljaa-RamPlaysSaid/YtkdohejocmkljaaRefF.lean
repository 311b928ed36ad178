/- The document's memory: Copy. -/
import Derived.Test.YtkdohejocmkljaaRefE
import Derived.Deep.RegionHeld3
import Derived.Deep.AppendLies
namespace Go.Proofs.Ytkdohejocmkljaa.Ref
open Go Go.RowKit Go.Proofs.Ytkdohejocmkljaa.Step Go.Proofs.Ytkdohejocmkljaa.Mem
set_option linter.unusedVariables false
set_option linter.unusedSimpArgs false
set_option maxRecDepth 100000

theorem make_rows (n : Nat) (hn : n ≤ 1024) (w : World) : (Instr.makeSlice 72 (.int .i64 n) (.int .i64 n)).run Try.prog w = .ok (.slice (some ⟨w.heap.size, 0, none⟩) n n) (w.alloc (.cells (Array.replicate n (.slice none 0 0)) 35 (0, 0))) := by
  have h := mk_rows
  cases hi' : Try.prog.info? 35 with
  | none => rw [hi'] at h; cases h
  | some i =>
    rw [hi'] at h
    simp only [Option.map_some, Option.some.injEq, Prod.mk.injEq] at h
    obtain ⟨h1, h2, h3⟩ := h
    have hr := run_make (P := Try.prog) w 72 35 i _ Try.underlying72 hi' h3 .i64 .i64 n n (by omega) (Int.le_refl _) (by rw [h2]; omega) (by omega)
    simp only [Int.toNat_natCast, h1, Nat.mul_one, Value.cells, madeCells_one] at hr
    exact hr
theorem neq_nil (w : World) : (binOp .neq 35 (.slice none 0 0) (.slice none 0 0)).run Try.prog w = .ok (.bool false) w := run_neq_slice_nil (P := Try.prog) w 35 _ none 0 0 Try.underlying35
theorem neq_some (w : World) (ad : Addr) (n c : Nat) : (binOp .neq 35 (.slice (some ad) n c) (.slice none 0 0)).run Try.prog w = .ok (.bool true) w := run_neq_slice_nil (P := Try.prog) w 35 _ (some ad) n c Try.underlying35
theorem MemIn.lay {W W' : World} {h fb : Nat} {cs : Array Value} {fs : Nat → Option (Nat × Nat)} {base : Int} {n : Nat} {mem mem' : Nat → Int} {F : Nat → Prop} (r : MemIn W h fb cs fs base n mem F) {k g c : Nat} {bs : Array Value} (hk : k < n)
    (hfb : Blk W' fb (cs.setIfInBounds k (.slice (some ⟨g, 0, none⟩) 4096 c)) 35) (hg : Blk W' g bs 5) (hsz : 4096 ≤ bs.size) (hbs : ∀ j, j < 4096 → bs[j]? = some (.int .u8 (mem' (k * 4096 + j)))) (hnew : W.heap.size ≤ g) (m : Mod (One fb) W W')
    (hm : ∀ i, i / 4096 ≠ k → mem' i = mem i) (hb : ∀ j, j < 4096 → 0 ≤ mem' (k * 4096 + j) ∧ mem' (k * 4096 + j) < 256) : MemIn W' h fb (cs.setIfInBounds k (.slice (some ⟨g, 0, none⟩) 4096 c)) (fun i => if i = k then some (g, c) else fs i) base n mem' (Grow F W W') := by
  have hne : h ≠ fb := fun e => by subst e; have := (r.hdr.inj r.row).2; revert this; decide
  have old : ∀ d c', d < n → fs d ≠ some (g, c') := fun d c' hd hcg => by
    have := r.bound g (r.frame d g c' hd hcg).1
    omega
  refine { hdr := r.hdr.one m hne, row := hfb, csz := by simpa using r.csz, n_lo := r.n_lo, n_hi := r.n_hi, b_lo := r.b_lo, b_hi := r.b_hi, at_ := fun k' hk' => ?_, frame := fun k' g' c' hk' hf' => ?_, none_ := fun k' hk' hf' j' hj' => ?_, inj := fun a b g' c1 c2 ha hb h1 h2 => ?_, foot_h := .inl r.foot_h, foot_fb := .inl r.foot_fb, bound := Grow.bound r.bound m.size, byte := fun i hi => ?_ }
  · by_cases e : k = k'
    · subst e; simp [r.csz, hk, sl]
    · rw [Array.getElem?_setIfInBounds_ne e]; simp only [if_neg (Ne.symm e)]; exact r.at_ k' hk'
  · by_cases e : k' = k
    · subst e
      simp only [if_true, Option.some.injEq, Prod.mk.injEq] at hf'
      obtain ⟨rfl, rfl⟩ := hf'
      exact ⟨.inr ⟨hnew, hg.lt⟩, _, hg, hsz, hbs⟩
    · simp only [if_neg e] at hf'
      obtain ⟨hF', bs', hb2, hsz', hbs'⟩ := r.frame k' g' c' hk' hf'
      have : g' ≠ fb := fun eg => by subst eg; have := (hb2.inj r.row).2; revert this; decide
      refine ⟨.inl hF', bs', hb2.one m this, hsz', fun j' hj' => ?_⟩
      rw [hm _ (by omega)]; exact hbs' j' hj'
  · by_cases e : k' = k
    · simp [e] at hf'
    · simp only [if_neg e] at hf'
      rw [hm _ (by omega)]; exact r.none_ k' hk' hf' j' hj'
  · by_cases ea : a = k <;> by_cases eb : b = k
    · rw [ea, eb]
    · simp only [if_pos ea, if_neg eb, Option.some.injEq, Prod.mk.injEq] at h1 h2; obtain ⟨rfl, _⟩ := h1; exact absurd h2 (old b _ hb)
    · simp only [if_neg ea, if_pos eb, Option.some.injEq, Prod.mk.injEq] at h1 h2; obtain ⟨rfl, _⟩ := h2; exact absurd h1 (old a _ ha)
    · simp only [if_neg ea, if_neg eb] at h1 h2; exact r.inj a b g' c1 c2 ha hb h1 h2
  · by_cases e : i / 4096 = k
    · have := hb (i % 4096) (by omega)
      rwa [show k * 4096 + i % 4096 = i by omega] at this
    · rw [hm i e]; exact r.byte i hi
theorem Mem.congr {W : World} {h n : Nat} {base : Int} {mem mem' : Nat → Int} {F : Nat → Prop} (r : Mem W h base n mem F) (hm : ∀ i, i < n * 4096 → mem i = mem' i) : Mem W h base n mem' F := by
  obtain ⟨fb, cs, fs, r⟩ := r
  have lt : ∀ k j, k < n → j < 4096 → k * 4096 + j < n * 4096 := fun k j hk hj => by have := Nat.mul_le_mul_right 4096 (show k + 1 ≤ n from hk); omega
  refine ⟨fb, cs, fs, { r with frame := fun k g c hk hf => ?_, none_ := fun k hk hf j hj => ?_, byte := fun i hi => ?_ }⟩
  · obtain ⟨hF, bs, hb, h2, h3⟩ := r.frame k g c hk hf
    exact ⟨hF, bs, hb, h2, fun j hj => by rw [← hm _ (lt k j hk hj)]; exact h3 j hj⟩
  · rw [← hm _ (lt k j hk hj)]; exact r.none_ k hk hf j hj
  · rw [← hm _ hi]; exact r.byte i hi
set_option maxHeartbeats 1000000 in
theorem copy_any {W : World} {h n : Nat} {base : Int} {mem : Nat → Int} {F : Nat → Prop} (r : Mem W h base n mem F) :
    Calls Try.prog 32 #[.pointer (some ⟨h, 0, none⟩)] W fun e W' => ∃ h', e = .returned (.pointer (some ⟨h', 0, none⟩)) ∧ Mem W' h' base n mem (Grow Nil W W') ∧ Below W.heap.size W W' := by
  obtain ⟨fb, cs, fs, r⟩ := r
  have c0 := r.hdr.cell 0
  have c1 := r.hdr.cell 1
  have c2 := r.hdr.cell 2
  simp only [List.getElem?_toArray, List.getElem?_cons_zero, List.getElem?_cons_succ] at c0 c1 c2
  have lh := r.hdr.lt
  have n2 := r.n_hi
  have HMK := make_rows n n2
  have hu74 := Try.underlying74
  have R := Lib.hid r
  clear r
  go_enter Try.func32, Try.ntmps32
  go_wp2
  go_region_held3 (fun w' => w'.cell? ⟨h, 0, none⟩ = some (.int .u64 base) ∧ w'.cell? ⟨h, 1, none⟩ = some (.int .i64 n)) (go_keep) (fail)
  rename_i hHeld
  obtain ⟨W2, hW2⟩ : ∃ W2, W2 = ((W.alloc (Obj.cells (Array.replicate n (Value.slice none 0 0)) 35)).alloc (Obj.cells #[Value.int IntKind.u64 base, Value.int IntKind.i64 n, Value.slice (some { block := W.heap.size, off := 0 }) n n] 74)).drew := ⟨_, rfl⟩
  have hb : Below W.heap.size W W2 := by rw [hW2]; exact (((Below.refl _ _).alloc (Nat.le_refl _) _).alloc (by simp) _).drew
  have k1 : Blk W2 W.heap.size (Array.replicate n (.slice none 0 0)) 35 := by rw [hW2]; exact ⟨((alloc_out W _ _).below (alloc_below _ _)).out⟩
  have k2 : Blk W2 (W.heap.size + 1) #[.int .u64 base, .int .i64 n, .slice (some ⟨W.heap.size, 0, none⟩) n n] 74 := by rw [hW2]; have := alloc_out (W.alloc (Obj.cells (Array.replicate n (Value.slice none 0 0)) 35)) #[.int .u64 base, .int .i64 n, .slice (some ⟨W.heap.size, 0, none⟩) n n] 74; simp at this; exact ⟨this.out⟩
  have hsz2 : W2.heap.size = W.heap.size + 2 := by rw [hW2]; simp [World.drew]
  have R2 : MemIn W2 (W.heap.size + 1) W.heap.size (Array.replicate n (.slice none 0 0)) (fun _ => none) base n (first mem 0) (Grow Nil W W2) := by
    have r := R.out
    exact { hdr := k2, row := k1, csz := by simp, n_lo := r.n_lo, n_hi := r.n_hi, b_lo := r.b_lo, b_hi := r.b_hi, at_ := fun k hk => by simp [hk, sl], frame := fun k g c hk hf => (by cases hf), none_ := fun k hk hf j hj => if_neg (by omega), inj := fun k k' g c c' hk hk' h1 h2 => (by cases h1), foot_h := .inr ⟨by omega, by omega⟩, foot_fb := .inr ⟨by omega, by omega⟩, bound := fun k hk => hk.elim (fun h => h.elim) (fun h => h.2), byte := fun i hi => (by rw [first, if_neg (by omega)]; decide) }
  have HB := Lib.hid hb
  have HR2 := Lib.hid R2
  rw [← hW2]
  clear hW2 hb k1 k2 R2 c0 c1 c2 hHeld
  go_wp2
  go_loopw [4] (fun i w => ∃ k : Nat, k ≤ n ∧ i = .int .i64 k ∧ (∃ cs' fs', MemIn w (W.heap.size + 1) W.heap.size cs' fs' base n (first mem k) (Grow Nil W w)) ∧ Mod Nil W w) (fun i _ => (n - intOf i).toNat)
  case atStart => exact ⟨0, Nat.zero_le _, rfl, ⟨_, _, HR2.out⟩, Mod.of_below HB.out Nil⟩
  case round =>
    obtain ⟨k, hk, rfl, ⟨cs', fs', hR⟩, hM⟩ := hrel
    have r0 := R.out
    have hdr0 := r0.hdr.mod hM fun h => h
    have row0 := r0.row.mod hM fun h => h
    have d1 := hdr0.cell 1
    have d2 := hdr0.cell 2
    simp only [List.getElem?_toArray, List.getElem?_cons_zero, List.getElem?_cons_succ] at d1 d2
    have nn := neq_nil
    have ns := neq_some
    by_cases hlt : k < n
    · have ck := (row0.cell k).trans (r0.at_ k hlt)
      cases hf : fs k with
      | none =>
        rw [hf] at ck
        simp only [sl] at ck
        have hz := r0.none_ k hlt hf
        have he : first mem (k + 1) = first mem k := funext fun i => by
          unfold first
          by_cases h1 : i < k * 4096
          · rw [if_pos h1, if_pos (by omega)]
          · rw [if_neg h1]
            by_cases h2 : i < (k + 1) * 4096
            · rw [if_pos h2]
              have := hz (i - k * 4096) (by omega)
              rwa [show k * 4096 + (i - k * 4096) = i by omega] at this
            · rw [if_neg h2]
        have E := Lib.hid he
        have HR := Lib.hid hR
        have HM := Lib.hid hM
        clear hR hM r0 hz he hf hdr0 row0
        go_wp2
        exact ⟨⟨k + 1, by omega, by go_num, ⟨cs', fs', by rw [E.out]; exact HR.out⟩, HM.out⟩, by simp [intOf]; omega⟩
      | some p =>
        obtain ⟨g, c⟩ := p
        rw [hf] at ck
        simp only [sl] at ck
        obtain ⟨hF, bs, hg, hsz, hbs⟩ := r0.frame k g c hlt hf
        have hg1 := hg.mod hM fun h => h
        have BG := Lib.hid hg1
        have HBS := Lib.hid hbs
        have HSZ := Lib.hid hsz
        have HR := Lib.hid hR
        have HM := Lib.hid hM
        have e2 := hR.hdr.cell 2
        simp only [List.getElem?_toArray, List.getElem?_cons_zero, List.getElem?_cons_succ] at e2
        have KS := Lib.hid (show Nat.blt k cs'.size = true by rw [hR.csz]; exact Nat.ble_eq_true_of_le hlt)
        have gl := hg1.lt
        have fbl := row0.lt
        have hl2 := hdr0.lt
        have g0l := hR.row.lt
        have h1l := hR.hdr.lt
        have fz := hR.row.frozen k
        have fbW := r0.row.lt
        obtain ⟨i0, hi0, hs0, hb0, hz0⟩ := info_u8
        have HI := Lib.hid hi0
        have HS := Lib.hid hs0
        have HB0 := Lib.hid hb0
        have HZ := Lib.hid hz0
        have hc0 := (hR.row.cell k).trans (hR.at_ k hlt)
        have ne1 : (⟨W.heap.size + 1, 2, none⟩ : Addr) ≠ ⟨W.heap.size, k, none⟩ := fun e => by have := congrArg Addr.block e; simp at this
        have ne2 : (⟨h, 2, none⟩ : Addr) ≠ ⟨W.heap.size, k, none⟩ := fun e => by have := congrArg Addr.block e; simp at this; omega
        have ne3 : (⟨fb, k, none⟩ : Addr) ≠ ⟨W.heap.size, k, none⟩ := fun e => by have := congrArg Addr.block e; simp at this; omega
        have NEWS := Lib.hid (show ∀ j u, (lst 4096 fun j => mem (k * 4096 + j))[j]? = some u → wr.cell? ((⟨g, 0, none⟩ : Addr).add j) = some u from fun j u hu => by
          have hj : j < 4096 := by have := (List.getElem?_eq_some_iff.1 hu).1; rwa [lst_len] at this
          rw [lst_at _ _ hj] at hu
          have e : (⟨g, 0, none⟩ : Addr).add j = ⟨g, j, none⟩ := by unfold Addr.add; split <;> simp_all
          rw [e]
          exact ((hg1.cell j).trans (hbs j hj)).trans hu)
        have BY := Lib.hid (fun i hi => r0.byte i hi)
        clear hR hM r0 hf hg hsz hbs hF hg1 hdr0 row0 hi0 hs0 hb0 hz0
        go_wp2
        go_region_held3 (fun w' => w'.cell? ⟨W.heap.size + 1, 2, none⟩ = some (.slice (some ⟨W.heap.size, 0, none⟩) n n) ∧ w'.cell? ⟨h, 2, none⟩ = some (.slice (some ⟨fb, 0, none⟩) n n) ∧ w'.cell? ⟨fb, k, none⟩ = some (.slice (some ⟨g, 0, none⟩) 4096 c))
          (first
            | (go_keep; done)
            | (go_split_ands
               refine ⟨?_, ?_, ?_⟩
               · (rw [hgrow.cell_far _ (by simp; omega) (by simp [Value.ownBlock])]; assumption)
               · (rw [hgrow.cell_far _ (by simp; omega) (by simp [Value.ownBlock])]; assumption)
               · (rw [hgrow.cell_far _ (by simp; omega) (by simp [Value.ownBlock])]; assumption))
            | (refine ⟨?_, ?_, ?_⟩ <;> (go_keep; done))
            | exact ⟨(World.cell?_setCell_other _ _ _ _ ne1.symm).trans k1, (World.cell?_setCell_other _ _ _ _ ne2.symm).trans k2, (World.cell?_setCell_other _ _ _ _ ne3.symm).trans k3⟩)
          ((refine step_append_lies _ (by rfl) _ _ 35 (by rfl) W.heap.size 5 i0 _ 1 1 Try.underlying35 HI.out HZ.out HS.out HB0.out rfl (by omega) (.slice none 0 0) 0 [] (by rfl) (World.ownsRow_nil _ _ _ _) ⟨g, 0, none⟩ 4096 c (lst 4096 fun j => mem (k * 4096 + j)) (by rfl) (by rw [lst_len]) (by exact NEWS.out) (lst_one _ _) (by omega) (by unfold maxLen; omega) (by omega) (by simp; omega) wr.heap.size (by simp) ?_; intro gg cap w1 hown1 hgrow hat hlt1; have hcell : w1.cell? ⟨W.heap.size, k, none⟩ = some (sl (fs' k)) := (hgrow.cell_far _ (by simp; omega) (by simp [Value.ownBlock])).trans hc0; have hfz : w1.frozen? ⟨W.heap.size, k, none⟩ = false := (World.frozen?_of_block (hgrow.block _ (by simp; omega) (by simp [Value.ownBlock]))).trans fz; have k1 : w1.cell? ⟨W.heap.size + 1, 2, none⟩ = some (.slice (some ⟨W.heap.size, 0, none⟩) n n) := (hgrow.cell_far _ (by simp; omega) (by simp [Value.ownBlock])).trans e2; have k2 : w1.cell? ⟨h, 2, none⟩ = some (.slice (some ⟨fb, 0, none⟩) n n) := (hgrow.cell_far _ (by simp; omega) (by simp [Value.ownBlock])).trans d2; have k3 : w1.cell? ⟨fb, k, none⟩ = some (.slice (some ⟨g, 0, none⟩) 4096 c) := (hgrow.cell_far _ (by simp; omega) (by simp [Value.ownBlock])).trans ck))
        rename_i hHeld
        have hgg : gg = wr.heap.size := by rcases hat with h | h
                                           · cases h
                                           · exact h
        have mn : Mod Nil wr w1 := ⟨hgrow.os, hgrow.tape, hgrow.output, hgrow.size, fun i hi _ => hgrow.block i hi (by simp [Value.ownBlock])⟩
        have hown2 : w1.ownsRow W.heap.size 5 1 (.slice (some ⟨gg, 0, none⟩) 4096 cap) 4096 (lst 4096 fun j => mem (k * 4096 + j)) := by simpa using hown1
        obtain ⟨g3, cap3, cur, hv, _, hcb, hcc, _⟩ := own_form hown2 (by omega)
        have hg3 : gg = g3 := by injection hv with a b c; injection a with a; injection a
        subst hg3
        have b2 := setCell_out w1 W.heap.size k (.slice (some ⟨gg, 0, none⟩) 4096 cap) cs' 35 (HR.out.row.mod mn fun h => h)
        have m2 := setCell_mod w1 W.heap.size k (.slice (some ⟨gg, 0, none⟩) 4096 cap)
        have m : Mod (One W.heap.size) wr (w1.setCell ⟨W.heap.size, k, none⟩ (.slice (some ⟨gg, 0, none⟩) 4096 cap)) := (mn.mono (S' := One W.heap.size) (fun _ _ h => h.elim)).trans m2
        have csz : 4096 ≤ cur.size := by
          have := hcc 4095 (by omega)
          have := (Array.getElem?_eq_some_iff.1 this).1
          omega
        have hl := HR.out.lay (mem' := first mem (k + 1)) hlt b2 (hcb.one m2 (by omega)) csz (fun j hj => by rw [hcc j hj, first, if_pos (by omega)]) (by omega) m
          (fun i hi => by
            unfold first
            by_cases h1 : i < k * 4096
            · rw [if_pos h1, if_pos (by omega)]
            · rw [if_neg h1, if_neg (by omega)])
          (fun j hj => by rw [first, if_pos (by omega)]; exact BY.out _ (by omega))
        have FIN := Lib.hid (⟨⟨_, _, { hl with frame := fun k g c hk hf => ⟨Grow.grow HM.out.size m.size _ (hl.frame k g c hk hf).1, (hl.frame k g c hk hf).2⟩, foot_h := Grow.grow HM.out.size m.size _ hl.foot_h, foot_fb := Grow.grow HM.out.size m.size _ hl.foot_fb, bound := Grow.bound (fun _ h => h.elim) (Nat.le_trans HM.out.size m.size) }⟩, HM.out.trans_new m fun i hi e => by obtain rfl : i = W.heap.size := e; omega⟩ : (∃ cs' fs', MemIn (w1.setCell ⟨W.heap.size, k, none⟩ (.slice (some ⟨gg, 0, none⟩) 4096 cap)) (W.heap.size + 1) W.heap.size cs' fs' base n (first mem (k + 1)) (Grow Nil W (w1.setCell ⟨W.heap.size, k, none⟩ (.slice (some ⟨gg, 0, none⟩) 4096 cap)))) ∧ Mod Nil W (w1.setCell ⟨W.heap.size, k, none⟩ (.slice (some ⟨gg, 0, none⟩) 4096 cap)))
        clear hgg hHeld hown1 hown2 hgrow hat hl m m2 b2 hcb hcc mn hcell hfz k1 k2 k3 hv
        go_wp2
        exact ⟨⟨k + 1, by omega, by go_num, FIN.out.1, FIN.out.2⟩, by simp [intOf]; omega⟩
    · obtain rfl : k = n := by omega
      have HR := Lib.hid hR
      have HM := Lib.hid hM
      clear hR hM r0 hdr0 row0
      go_wp2
      go_ret
      refine ⟨_, rfl, ?_, HM.out.below⟩
      refine Mem.congr ⟨_, _, _, HR.out⟩ fun i hi => ?_
      unfold first
      rw [if_pos hi]
end Go.Proofs.Ytkdohejocmkljaa.Ref
