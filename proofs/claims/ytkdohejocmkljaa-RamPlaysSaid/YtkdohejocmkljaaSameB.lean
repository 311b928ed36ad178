/- Two.Same: a memory and the document's that hold the same bytes. -/
import Derived.Test.YtkdohejocmkljaaSame
namespace Go.Proofs.Ytkdohejocmkljaa.Ref
open Go Go.RowKit Go.Proofs.Ytkdohejocmkljaa.Step Go.Proofs.Ytkdohejocmkljaa.Mem
set_option linter.unusedVariables false
set_option linter.unusedSimpArgs false
set_option maxRecDepth 100000

theorem rd_cells {W : World} {g n : Nat} {cur : Array Value} {f : Nat → Int} {G : Nat → Prop} (b : Blk W g cur 5) (hG : G g) (hc : ∀ k, k < n → cur[k]? = some (.int .u8 (f k))) (hf : ∀ k, k < n → 0 ≤ f k ∧ f k < 256) : Rd W (some ⟨g, 0, none⟩) n f G := fun k hk => by
  refine ⟨_, rfl, hG, ?_, hf k hk⟩
  have : (⟨g, 0, none⟩ : Addr).add k = ⟨g, k, none⟩ := by unfold Addr.add; split <;> simp_all
  rw [this]
  exact (b.cell k).trans (hc k hk)
set_option maxHeartbeats 400000 in
theorem same_two {W : World} {h h2 n : Nat} {base : Int} {mem : Nat → Int} {F1 F2 : Nat → Prop} (r1 : Ram W h base n mem F1) (r2 : Mem W h2 base n mem F2) :
    Calls Try.prog 33 #[.agg #[.pointer (some ⟨h, 0, none⟩), .pointer (some ⟨h2, 0, none⟩)]] W fun e W' => e = .returned (.bool true) ∧ Below W.heap.size W W' := by
  obtain ⟨n1, n2, b1, b2⟩ := r2.size
  have R1 := Lib.hid r1
  have R2 := Lib.hid r2
  have hu62 := Try.underlying62
  clear r1 r2
  go_enter Try.func33, Try.ntmps33
  go_wp2
  obtain ⟨W0, hW0⟩ : ∃ W0, W0 = W.alloc (.cells #[.pointer (some ⟨h, 0, none⟩), .pointer (some ⟨h2, 0, none⟩)] 62 (0, 0)) := ⟨_, rfl⟩
  have B0 := Lib.hid (show Blk W0 W.heap.size #[.pointer (some ⟨h, 0, none⟩), .pointer (some ⟨h2, 0, none⟩)] 62 by rw [hW0]; exact alloc_out _ _ _)
  have BL := Lib.hid (show Below W.heap.size W W0 by rw [hW0]; exact alloc_below _ _)
  have Q1 := Lib.hid (R1.out.below BL.out)
  have Q2 := Lib.hid (R2.out.below BL.out)
  rw [← hW0]
  clear hW0
  go_loopw [3, 4, 5] (fun i a b w => ∃ k : Nat, k ≤ n ∧ i = .int .i64 k ∧ Below W0.heap.size W0 w) (fun i _ _ _ => (n - intOf i).toNat)
  case atStart => exact ⟨0, Nat.zero_le _, rfl, Below.refl _ _⟩
  case round =>
    obtain ⟨k, hk, rfl, hb⟩ := hrel
    have HB := Lib.hid hb
    have QK1 := Lib.hid (Q1.out.below hb)
    have BK := Lib.hid (B0.out.below hb)
    obtain ⟨fb, cs, fs, q⟩ := Q2.out.below hb
    have g0 := BK.out.cell 0
    have g1 := BK.out.cell 1
    have m0 := q.hdr.cell 0
    have m1 := q.hdr.cell 1
    have m2 := q.hdr.cell 2
    simp only [List.getElem?_toArray, List.getElem?_cons_zero, List.getElem?_cons_succ] at g0 g1 m0 m1 m2
    have lg := BK.out.lt
    have lh2 := q.hdr.lt
    by_cases hlt : k < n
    · have T := Lib.hid (fun w (hw : Below wr.heap.size wr w) => bytes_z (QK1.out.below hw) (base + k * 4096) 4096 4096 rfl (by omega) (by omega) (decide_eq_true (by omega)))
      have w1 : IntKind.u64.wrap (base + (k : Int) * 4096) = base + k * 4096 := IntWalk.u64_in _ (by omega)
      have w2 : IntKind.u64.wrap (k : Int) = k := IntWalk.u64_in _ (by omega)
      have w3 : IntKind.u64.wrap ((k : Int) * 4096) = k * 4096 := IntWalk.u64_in _ (by omega)
      have QQ := Lib.hid q
      clear hb q
      go_wp2
      go_region_held3 (fun w' => w'.cell? ⟨W.heap.size, 0, none⟩ = some (.pointer (some ⟨h, 0, none⟩)) ∧ w'.cell? ⟨W.heap.size, 1, none⟩ = some (.pointer (some ⟨h2, 0, none⟩)) ∧ w'.cell? ⟨h2, 0, none⟩ = some (.int .u64 base))
        (first
          | (go_keep; done)
          | exact ⟨(hbb.cell (p := ⟨W.heap.size, 0, none⟩) lg).trans g0, (hbb.cell (p := ⟨W.heap.size, 1, none⟩) lg).trans g1, (hbb.cell (p := ⟨h2, 0, none⟩) lh2).trans m0⟩)
        (((with_reducible refine (T.out _ (Below.drew (Below.refl _ _))).mono ?_); rintro e w9 ⟨g, rfl, bx, hg, hbb⟩))
      rename_i hHeld
      have HBB := Lib.hid (⟨hbb.os, hbb.tape, hbb.output, hbb.size, hbb.block⟩ : Below wr.heap.size wr w9)
      have BX := Lib.hid bx
      have g1' := (hbb.cell (p := ⟨W.heap.size, 1, none⟩) lg).trans g1
      have m2' := (hbb.cell (p := ⟨h2, 2, none⟩) lh2).trans m2
      have m1' := (hbb.cell (p := ⟨h2, 1, none⟩) lh2).trans m1
      have row9 := QQ.out.row.below (⟨hbb.os, hbb.tape, hbb.output, hbb.size, hbb.block⟩ : Below wr.heap.size wr w9)
      have ck := (row9.cell k).trans (QQ.out.at_ k hlt)
      have e1 := eql_nil
      have e2 := eql_some
      have o1 : (base + (k : Int) * 4096 - base).toNat = k * 4096 := by omega
      cases hf : fs k with
      | none =>
        rw [hf] at ck
        simp only [sl] at ck
        have ZR := Lib.hid (zero_any (c := 4096) ((rd_row (G := fun _ => True) BX.out trivial (fun j hj => by rw [o1]; exact QK1.out.byte (by omega))).congr (fun j hj => by rw [o1]; exact QQ.out.none_ k hlt hf j hj)))
        clear hHeld hbb bx g0 g1 m0 m1 m2 row9 hf o1
        go_wp2_with (go_at_call 41; refine (ZR.out).mono ?_; rintro e w10 ⟨rfl, rfl⟩)
        exact ⟨⟨k + 1, by omega, by go_num, HB.out.trans (HBB.out.mono HB.out.size)⟩, by simp [intOf]; omega⟩
      | some p =>
        obtain ⟨gf, c⟩ := p
        rw [hf] at ck
        simp only [sl] at ck
        obtain ⟨_, bs, hgf, hsz, hbs⟩ := QQ.out.frame k gf c hlt hf
        have SM := Lib.hid (same_any (n := 4096) (ca := 4096) (cb := c) ((rd_row (G := fun _ => True) BX.out trivial (fun j hj => by rw [o1]; exact QK1.out.byte (by omega))).congr (fun j hj => by rw [o1])) (rd_cells (G := fun _ => True) (f := fun j => mem (k * 4096 + j)) (hgf.below (⟨hbb.os, hbb.tape, hbb.output, hbb.size, hbb.block⟩ : Below wr.heap.size wr w9)) trivial hbs (fun j hj => QK1.out.byte (by omega))) (by omega))
        clear hHeld hbb bx g0 g1 m0 m1 m2 row9 hf o1 hgf hbs hsz
        go_wp2_with (go_at_call 17; refine (SM.out).mono ?_; rintro e w10 ⟨rfl, hw⟩; have HD := Lib.hid (below_drawn hw); clear hw)
        exact ⟨⟨k + 1, by omega, by go_num, (HB.out.trans (HBB.out.mono HB.out.size)).trans (HD.out.mono (Nat.le_trans HB.out.size HBB.out.size))⟩, by simp [intOf]; omega⟩
    · obtain rfl : k = n := by omega
      clear hb q
      go_wp2
      go_ret
      exact ⟨rfl, BL.out.trans (HB.out.mono BL.out.size)⟩
end Go.Proofs.Ytkdohejocmkljaa.Ref
