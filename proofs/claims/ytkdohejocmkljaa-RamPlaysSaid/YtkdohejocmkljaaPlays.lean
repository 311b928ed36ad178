/- The walk of RamPlays: any script answers as bytes do, and leaves just these bytes (written by genplays.py). -/
import Derived.Test.YtkdohejocmkljaaGame
import Derived.Test.YtkdohejocmkljaaPlaysO
import Derived.Deep.RegionHeld3
import Derived.BigQuiet
namespace Go.Proofs.Ytkdohejocmkljaa.Duo
open Go Go.RowKit Go.Proofs.Ytkdohejocmkljaa.Step Go.Proofs.Ytkdohejocmkljaa.Mem
set_option linter.unusedVariables false
set_option linter.unusedSimpArgs false
set_option maxRecDepth 100000

theorem zero_op : (Try.prog.info? 58).bind (·.zero) = some (.agg #[.int .i64 0, .int .i64 0, .int .u64 0, .int .u64 0, .bool false, .slice none 0 0]) := by kernel_rfl
theorem size_op : (Try.prog.info? 58).map (·.size) = some 6 := by kernel_rfl
theorem alloc_agg {t : TypeId} {cs : Array Value} (h : (Try.prog.info? t).bind (·.zero) = some (.agg cs)) (W : World) : (Instr.alloc t true (.tuple #[])).run Try.prog W = .ok (.pointer (some ⟨W.heap.size, 0, none⟩)) (W.alloc (.cells cs t (0, 0))) := by
  cases hi : Try.prog.info? t with
  | none => rw [hi] at h; cases h
  | some i =>
    rw [hi] at h
    have hz : i.zero = some (.agg cs) := h
    simp [Instr.alloc, zeroValue, typeInfo, hi, hz, newVar, newRow, newObj, Result.andThen, Value.cells, go_sem]
    rfl
theorem rwrite_z {W : World} {h n : Nat} {base : Int} {mem : Nat → Int} {F : Nat → Prop} (r : Ref.Mem W h base n mem F) (addr v z : Int) (s : Nat) (hz : z = s) (ha : 0 ≤ addr ∧ addr < 18446744073709551616) (hv : 0 ≤ v ∧ v < 18446744073709551616) (h1 : wholeB s = true) (h2 : hasB base n addr s = true) :
    Calls Try.prog 26 #[.pointer (some ⟨h, 0, none⟩), .int .u64 addr, .int .i64 z, .int .u64 v] W fun e W' => e = .returned (.bool true) ∧ Ref.Mem W' h base n (wr mem (addr - base).toNat s v) (Grow F W W') ∧ Mod F W W' := by subst hz; exact Ref.write_yes r addr v s ha hv h1 h2
theorem pread_z {W : World} {h n : Nat} {base : Int} {mem : Nat → Int} {F : Nat → Prop} (r : Ram W h base n mem F) (addr z : Int) (s : Nat) (hz : z = s) (ha : 0 ≤ addr ∧ addr < 18446744073709551616) (h1 : wholeB s = true) (h2 : hasB base n addr s = true) :
    Calls Try.prog 11 #[.pointer (some ⟨h, 0, none⟩), .int .u64 addr, .int .i64 z] W fun e W' => e = .returned (.tuple #[.int .u64 (num mem (addr - base).toNat s), .bool true]) ∧ ∃ k, W' = W.drewN k := by subst hz; exact read_yes r addr s ha h1 h2
theorem rread_z {W : World} {h n : Nat} {base : Int} {mem : Nat → Int} {F : Nat → Prop} (r : Ref.Mem W h base n mem F) (addr z : Int) (s : Nat) (hz : z = s) (ha : 0 ≤ addr ∧ addr < 18446744073709551616) (h1 : wholeB s = true) (h2 : hasB base n addr s = true) :
    Calls Try.prog 27 #[.pointer (some ⟨h, 0, none⟩), .int .u64 addr, .int .i64 z] W fun e W' => e = .returned (.tuple #[.int .u64 (num mem (addr - base).toNat s), .bool true]) ∧ W = W' := by subst hz; exact Ref.read_yes r addr s ha h1 h2
theorem rclear_z {W : World} {h n : Nat} {base : Int} {mem : Nat → Int} {F : Nat → Prop} (r : Ref.Mem W h base n mem F) (z : Int) (k : Nat) (hz : z = k) (hk : k < n) :
    Calls Try.prog 31 #[.pointer (some ⟨h, 0, none⟩), .int .i64 z] W fun e W' => e = .returned (.bool true) ∧ Ref.Mem W' h base n (clr mem k) (Grow F W W') ∧ Mod F W W' := by subst hz; exact Ref.clear_yes r k hk
theorem rbytes_z {W : World} {h n : Nat} {base : Int} {mem : Nat → Int} {F : Nat → Prop} (r : Ref.Mem W h base n mem F) (addr z : Int) (s : Nat) (hz : z = s) (ha : 0 ≤ addr ∧ addr < 18446744073709551616) (hs9 : (s : Int) < 9223372036854775808) (h2 : hasB base n addr s = true) :
    Calls Try.prog 30 #[.pointer (some ⟨h, 0, none⟩), .int .u64 addr, .int .i64 z] W fun e W' => ∃ g, e = .returned (.tuple #[.slice (some ⟨g, 0, none⟩) s s, .bool true]) ∧ Blk W' g (row s fun k => mem ((addr - base).toNat + k)) 5 ∧ W.heap.size ≤ g ∧ Below W.heap.size W W' := by subst hz; exact Ref.bytes_yes r addr s ha hs9 h2
theorem own_rd {w : World} {b m : Nat} {v : Value} {f : Nat → Int} (h : w.ownsRow b 5 1 v m (lst m f)) (hf : ∀ k, k < m → 0 ≤ f k ∧ f k < 256) : ∃ A cap, v = .slice A m cap ∧ Rd w A m f (fun k => b ≤ k ∧ k < w.heap.size) := by
  obtain ⟨_, ⟨rfl, rfl⟩ | ⟨g, cap, cur, rfl, hb, ho, hn, hc, hs, ht⟩⟩ := h
  · exact ⟨none, 0, rfl, fun k hk => absurd hk (Nat.not_lt_zero k)⟩
  · refine ⟨some ⟨g, 0, none⟩, cap, rfl, fun k hk => ⟨_, rfl, ⟨hb, (Array.getElem?_eq_some_iff.1 ho).1⟩, ?_, hf k hk⟩⟩
    have h1 := lst_at m f hk
    rw [← ht, List.getElem?_take, if_pos (by omega)] at h1
    have e : (⟨g, 0, none⟩ : Addr).add k = ⟨g, k, none⟩ := by unfold Addr.add; split <;> simp_all
    rw [e]
    exact ((⟨ho⟩ : Blk w g cur 5).cell k).trans (by simpa using h1)
theorem info_two0 : (Try.prog.info? 62).map (fun i => (i.size, i.bytes, i.zero)) = some (2, 16, some (.agg #[.pointer none, .pointer none])) := by kernel_rfl
theorem info_two : ∃ i, Try.prog.info? 62 = some i ∧ i.size = 2 ∧ i.bytes = 16 ∧ i.zero = some (.agg #[.pointer none, .pointer none]) := by
  have h := info_two0
  cases hi : Try.prog.info? 62 with
  | none => rw [hi] at h; cases h
  | some i =>
    rw [hi] at h
    simp only [Option.map_some, Option.some.injEq, Prod.mk.injEq] at h
    exact ⟨i, rfl, h⟩
theorem pairs_at : ∀ (ls : List Oth) (j : Nat) (hj : j < ls.length), (ls.flatMap Oth.cells)[j * 2]? = some (.pointer (some ⟨(ls[j]'hj).h1, 0, none⟩)) ∧ (ls.flatMap Oth.cells)[j * 2 + 1]? = some (.pointer (some ⟨(ls[j]'hj).h2, 0, none⟩))
  | [], j, hj => absurd hj (Nat.not_lt_zero j)
  | p :: r, 0, _ => ⟨rfl, rfl⟩
  | p :: r, j + 1, hj => by
    have ih := pairs_at r j (by simpa using hj)
    have e : (p :: r).flatMap Oth.cells = p.cells ++ r.flatMap Oth.cells := rfl
    have hl : p.cells.length = 2 := rfl
    rw [e, List.getElem?_append_right (by omega), List.getElem?_append_right (by omega), hl, show (j + 1) * 2 - 2 = j * 2 by omega, show (j + 1) * 2 + 1 - 2 = j * 2 + 1 by omega]
    exact ih
theorem own_pairs {w : World} {b : Nat} {v : Value} {ls : List Oth} (h : w.ownsRow b 62 2 v ls.length (ls.flatMap Oth.cells)) :
    ∃ A cap, v = .slice A ls.length cap ∧ ∀ j (hj : j < ls.length), ∃ ad : Addr, A = some ad ∧ w.cell? (ad.add (j * 2)) = some (.pointer (some ⟨(ls[j]'hj).h1, 0, none⟩)) ∧ w.cell? (ad.add (j * 2 + 1)) = some (.pointer (some ⟨(ls[j]'hj).h2, 0, none⟩)) ∧ ad.block < w.heap.size := by
  obtain ⟨_, ⟨hv, hn⟩ | ⟨g, cap, cur, rfl, hb, ho, hn, hc, hs, ht⟩⟩ := h
  · exact ⟨none, 0, by rw [hv, hn], fun j hj => by omega⟩
  · refine ⟨some ⟨g, 0, none⟩, cap, rfl, fun j hj => ⟨_, rfl, ?_, ?_, (Array.getElem?_eq_some_iff.1 ho).1⟩⟩
    all_goals
      obtain ⟨h0, h1⟩ := pairs_at ls j hj
      rw [← ht, List.getElem?_take, if_pos (by omega)] at h0 h1
      have e : ∀ q, (⟨g, 0, none⟩ : Addr).add q = ⟨g, q, none⟩ := fun q => by unfold Addr.add; split <;> simp_all
      rw [e]
    · exact ((⟨ho⟩ : Blk w g cur _).cell _).trans (by simpa using h0)
    · exact ((⟨ho⟩ : Blk w g cur _).cell _).trans (by simpa using h1)
theorem addr_at (a : Addr) (m j : Nat) : (a.add m).add (j + 1) = ⟨(a.add m).block, (a.add m).off + (j + 1), none⟩ := by
  unfold Addr.add
  by_cases h : m = 0 <;> simp [h]

set_option maxHeartbeats 32000000 in
theorem plays_any (base frames : Int) (B : Option Addr) (len cap : Nat) (f : Nat → OpD) (W : World) (w0 : (Lit.int .u64 base).wf = true) (w1 : (Lit.int .i64 frames).wf = true) (rs : RdS W B len f) (hl : len ≤ 9223372036854775807) (hlb : len * 64 ≤ 140737488355328) :
    Calls Try.prog 8 #[.int .u64 base, .int .i64 frames, .slice B len cap] W fun e w' => e = .returned (.bool true) ∧ Below W.heap.size W w' := by
  have hb := u64w w0
  have AW := Lib.hid awake
  obtain ⟨it, hit, hits, hitb, hitz⟩ := info_two
  have HI := Lib.hid hit
  have HIS := Lib.hid hits
  have HIB := Lib.hid hitb
  have HIZ := Lib.hid hitz
  clear hit hits hitb hitz
  cases hnb : newB base frames with
  | false =>
    have T1 := Lib.hid (fun w => new_no w base frames hb hnb)
    have T2 := Lib.hid (fun w => Ref.new_no w base frames hb hnb)
    clear rs hl hlb w0 w1 hb hnb
    go_enter Try.func8, Try.ntmps8
    go_wp2_with (first
      | (go_at_call 10; refine (T1.out _).mono ?_; rintro e w1 ⟨rfl, rfl⟩)
      | (go_at_call 22; refine (T2.out _).mono ?_; rintro e w2 ⟨rfl, rfl⟩)
      | (go_at_call 14; refine (AW.out _).mono ?_; rintro e w3 ⟨rfl, hb⟩; have HB := Lib.hid hb; clear hb))
    go_ret
    exact ⟨rfl, HB.out⟩
  | true =>
    obtain ⟨n1, n2, n3, n4⟩ := of_decide_eq_true hnb
    obtain ⟨n, rfl⟩ := Int.eq_ofNat_of_zero_le (show 0 ≤ frames by omega)
    have T1 := Lib.hid (fun w => new_yes w base n hb hnb)
    have T2 := Lib.hid (fun w => Ref.new_yes w base n hb hnb)
    have RS := Lib.hid rs
    have HL := Lib.hid hl
    have HLB := Lib.hid hlb
    have NB := Lib.hid (show (1 ≤ n ∧ n ≤ 1024) ∧ 0 ≤ base ∧ base ≤ 4503599627370496 from ⟨⟨by omega, by omega⟩, hb.1, n4⟩)
    have hu62 := Try.underlying62
    have hu58 := Try.underlying58
    clear rs hl hlb w0 w1 hb hnb n1 n2 n3 n4
    go_enter Try.func8, Try.ntmps8
    go_wp2_with (first
      | (go_at_call 10; refine (T1.out _).mono ?_; rintro e w1 ⟨h1, rfl, r, m⟩; have R1 := Lib.hid r; have M1 := Lib.hid m; clear r m)
      | (go_at_call 22; refine (T2.out _).mono ?_; rintro e w2 ⟨h2, rfl, r, m⟩; have D0 := Lib.hid (Duo.made (Mod.refl Nil W) R1.out M1.out r m); clear r m)
      | (go_at_call 23; refine (base_any D0.out.one).mono ?_; rintro e w3 ⟨rfl, rfl⟩)
      | (go_at_call 24; refine (frames_any D0.out.one).mono ?_; rintro e w4 ⟨rfl, rfl⟩))
    have G0 := Lib.hid (show Game W w2 base n h1 h2 (fun _ => 0) _ _ (.slice none 0 0) [] from ⟨duo_typed D0.out, fun k h => h.elim (fun a => a.2) fun a => a.2, World.ownsRow_nil _ _ _ _, fun p hp => by cases hp⟩)
    clear D0 R1 M1
    go_loopw [7, 9, 11, 12, 13, 14, 15, 16, 17, 18, 19, 20, 21, 22, 23, 24, 25] (fun m d v i _ _ _ _ _ _ _ _ _ _ _ _ _ w => ∃ (k h1 h2 : Nat) (mem : Nat → Int) (F1 F2 : Nat → Prop) (ls : List Oth), k ≤ len ∧ ls.length ≤ k ∧ i = .int .i64 k ∧ m = .pointer (some ⟨h1, 0, none⟩) ∧ d = .pointer (some ⟨h2, 0, none⟩) ∧ Game W w base n h1 h2 mem F1 F2 v ls) (fun _ _ _ i _ _ _ _ _ _ _ _ _ _ _ _ _ _ => (len - intOf i).toNat)
    case atStart => exact ⟨0, h1, h2, _, _, _, [], Nat.zero_le _, Nat.le_refl _, rfl, rfl, rfl, G0.out⟩
    case round =>
      clear G0
      obtain ⟨k, h1', h2', mem, F1, F2, ls, hk, hlk, rfl, rfl, rfl, hg⟩ := hrel
      have G := Lib.hid hg
      have HLK := Lib.hid hlk
      clear hg hlk
      by_cases hlt : k < len
      · obtain ⟨ad, rfl, hab, hc, ok⟩ := RS.out k hlt
        have hcw : ∀ j v, (f k).cells[j]? = some v → wr.cell? ((ad.add (k * 6)).add j) = some v := fun j v hv => (World.cell?_of_block (G.out.duo.mod.block _ (by rw [Mem.block_add, Mem.block_add]; exact hab) (fun h => h))).trans (hc j v hv)
        obtain ⟨x, hx⟩ : ∃ x, f k = x := ⟨_, rfl⟩
        rw [hx] at hcw ok
        have OK := Lib.hid ok
        clear hc hx ok
        obtain ⟨kind, size, addr, xv, near, A, bl, bc, bf⟩ := x
        have s0 : wr.cell? (ad.add (k * 6)) = some (.int .i64 kind) := hcw 0 _ rfl
        have s1 : wr.cell? ⟨(ad.add (k * 6)).block, (ad.add (k * 6)).off + 1, none⟩ = some (.int .i64 size) := by have := hcw 1 _ rfl; rw [addr_at _ _ 0] at this; exact this
        have s2 : wr.cell? ⟨(ad.add (k * 6)).block, (ad.add (k * 6)).off + 2, none⟩ = some (.int .u64 addr) := by have := hcw 2 _ rfl; rw [addr_at _ _ 1] at this; exact this
        have s3 : wr.cell? ⟨(ad.add (k * 6)).block, (ad.add (k * 6)).off + 3, none⟩ = some (.int .u64 xv) := by have := hcw 3 _ rfl; rw [addr_at _ _ 2] at this; exact this
        have s4 : wr.cell? ⟨(ad.add (k * 6)).block, (ad.add (k * 6)).off + 4, none⟩ = some (.bool near) := by have := hcw 4 _ rfl; rw [addr_at _ _ 3] at this; exact this
        have s5 : wr.cell? ⟨(ad.add (k * 6)).block, (ad.add (k * 6)).off + 5, none⟩ = some (.slice A bl bc) := by have := hcw 5 _ rfl; rw [addr_at _ _ 4] at this; exact this
        have hlen := HL.out
        have nb0 := NB.out
        have OKK := Lib.hid OK.out.kind
        have OKS := Lib.hid OK.out.size
        have OKA := Lib.hid OK.out.addr
        have OKV := Lib.hid OK.out.v
        have OKR := Lib.hid OK.out.rd
        have OKN := Lib.hid OK.out.nil_
        have OKL := Lib.hid OK.out.len
        simp only at OKK OKS OKA OKV OKR OKN OKL
        have TPK := Lib.hid (fun w => place_any kind 6 (by decide) OKK.out (by decide) w)
        clear hcw OK
        cases near with
        | true =>
          obtain ⟨rr, hrr⟩ : ∃ rr, addr % ((n : Int) * 4096 + 16) = rr := ⟨_, rfl⟩
          have hr0 : 0 ≤ rr ∧ rr < (n : Int) * 4096 + 16 := by rw [← hrr]; exact ⟨Int.emod_nonneg _ (by omega), Int.emod_lt_of_pos _ (by omega)⟩
          have hrr' : addr.tmod ((n : Int) * 4096 + 16) = rr := by rw [Int.tmod_eq_emod_of_nonneg OKA.out.1]; exact hrr
          obtain ⟨aa, haa⟩ : ∃ aa, base + rr = aa := ⟨_, rfl⟩
          have a1 : IntKind.u64.wrap (n : Int) = n := IntWalk.u64_in _ (by omega)
          have a2 : IntKind.u64.wrap ((n : Int) * 4096) = n * 4096 := IntWalk.u64_in _ (by omega)
          have a3 : IntKind.u64.wrap ((n : Int) * 4096 + 16) = n * 4096 + 16 := IntWalk.u64_in _ (by omega)
          have a4 : IntKind.u64.wrap (base + rr) = aa := by rw [← haa]; exact IntWalk.u64_in _ (by omega)
          have HAA := Lib.hid (show 0 ≤ aa ∧ aa < 18446744073709551616 from by omega)
          clear haa hr0
          go_wp2_with (first
            | ((with_reducible refine Step.gate_alloc (t := 58) rfl ?_); refine Step.freshAlloc rfl rfl (alloc_agg zero_op) ?_; intro g13 v1 b hg hb; have X13 := Lib.hid b; have BX1 := Lib.hid hb; have HG13 := Lib.hid hg; clear b hg hb)
            | ((with_reducible refine Step.gate_store (t := 58) rfl ?_); refine Step.storeAll (vs := #[.int .i64 kind, .int .i64 size, .int .u64 addr, .int .u64 xv, .bool true, .slice A bl bc]) X13.out rfl rfl rfl rfl rfl size_op rfl rfl ?_; intro v2 nb m; have E13 := Lib.hid nb; have BX2 := Lib.hid (below_mod BX1.out BX1.out.size m (fun k hk e => by obtain rfl : k = g13 := e; exact HG13.out)); have e0 := nb.cell 0; have e1 := nb.cell 1; have e2 := nb.cell 2; have e4 := nb.cell 4; simp only [List.getElem?_toArray, List.getElem?_cons_zero, List.getElem?_cons_succ] at e0 e1 e2 e4; clear nb m s0 s1 s2 s3 s4 s5))
          have G2 := Lib.hid (G.out.below BX2.out)
          have HA1 := Lib.hid (fun w (hw : ∃ k, w = v2.drewN k) => has_any (G2.out.duo.one.drawn hw) aa size HAA.out OKS.out.2)
          have HA2 := Lib.hid (fun w (hw : ∃ k, w = v2.drewN k) => (Ref.has_any (G2.out.duo.two.drawn hw) aa size HAA.out OKS.out.2).mono fun e w' h => (⟨h.1, h.2.symm⟩ : e = .returned (.bool (hasB base n aa size)) ∧ w' = w))
          go_quiet ((first | (go_at_call 13; exact Calls.quiet_of (HA1.out _ ⟨_, rfl⟩)) | (go_at_call 25; exact Calls.quiet_of_same (HA2.out _ ⟨_, rfl⟩))))
          obtain ⟨w3, hw3⟩ : ∃ w3, w3 = v2.drewN nq := ⟨_, rfl⟩
          rw [← hw3]
          have B3 := Lib.hid (below_drawn ⟨nq, hw3⟩)
          have G3 := Lib.hid (G2.out.below B3.out)
          have F13 := Lib.hid (E13.out.below B3.out)
          have HW3 := Lib.hid (show w3.heap.size = v2.heap.size ∧ ∀ k, F1 k ∨ F2 k → k ≠ g13 from ⟨by rw [hw3]; rfl, fun k h e => by subst e; have := G.out.duo.bound k h; have := HG13.out; omega⟩)
          have c0 := F13.out.cell 0
          have c1 := F13.out.cell 1
          have c3 := F13.out.cell 3
          have c5 := F13.out.cell 5
          simp only [List.getElem?_toArray, List.getElem?_cons_zero, List.getElem?_cons_succ] at c0 c1 c3 c5
          clear hw3 e0 e1 e2 e4 G2 HA1 HA2 B3
          obtain hk6 | hk6 | hk6 | hk6 | hk6 | hk6 : kind % 6 = 0 ∨ kind % 6 = 1 ∨ kind % 6 = 2 ∨ kind % 6 = 3 ∨ kind % 6 = 4 ∨ kind % 6 = 5 := by omega
          · have TP := Lib.hid (fun w => (TPK.out w).mono fun e w' h => (by rw [hk6] at h; exact h : e = .returned (.int .i64 0) ∧ w = w'))
            clear TPK hk6
            by_cases hh : (wholeB size && hasB base n aa size) = true
            · as_aux_lemma =>
                have hw1 : wholeB size = true := by cases h : wholeB size <;> simp [h] at hh ⊢
                have hh1 : hasB base n aa size = true := by cases h : hasB base n aa size <;> simp [h] at hh ⊢
                obtain ⟨s, hs⟩ := Int.eq_ofNat_of_zero_le (show 0 ≤ size by have := of_decide_eq_true hw1; omega)
                have P1 := Lib.hid (fun w (d : Ram w h1' base n mem F1) => write_z d aa xv size s hs HAA.out OKV.out (by rw [← hs]; exact hw1) (by rw [← hs]; exact hh1))
                have P2 := Lib.hid (fun w (d : Ref.Mem w h2' base n mem F2) => rwrite_z d aa xv size s hs HAA.out OKV.out (by rw [← hs]; exact hw1) (by rw [← hs]; exact hh1))
                clear hh hw1 hh1 hs
                go_wp2_with (go_at_call 9; refine (TP.out _).mono ?_; rintro e wx ⟨rfl, rfl⟩)
                have GD := Lib.hid (G3.out.below (Below.drew (Below.refl w3.heap.size w3)))
                go_region_held3 (fun w' => w'.cell? ⟨g13, 1, none⟩ = some (.int .i64 size) ∧ w'.cell? ⟨g13, 3, none⟩ = some (.int .u64 xv))
                  (first
                    | exact ⟨c1, c3⟩
                    | exact HK4.out
                    | exact HK5.out)
                  (first
                    | ((with_reducible refine (P1.out _ GD.out.duo.one).mono ?_); rintro e w4 ⟨rfl, r, m⟩; have R4 := Lib.hid r; have M4 := Lib.hid m; have T4 := Lib.hid (GD.out.duo.two.mod m (fun k a b => GD.out.duo.apart k b a)); have HK4 := Lib.hid (show w4.cell? ⟨g13, 1, none⟩ = some (.int .i64 size) ∧ w4.cell? ⟨g13, 3, none⟩ = some (.int .u64 xv) from ⟨(World.cell?_of_block (w := w3) (m.block g13 F13.out.lt (fun h => HW3.out.2 _ (.inl h) rfl))).trans c1, (World.cell?_of_block (w := w3) (m.block g13 F13.out.lt (fun h => HW3.out.2 _ (.inl h) rfl))).trans c3⟩); have L4 := Lib.hid (show g13 < w4.heap.size from Nat.lt_of_lt_of_le F13.out.lt m.size); clear r m)
                    | ((with_reducible refine (P2.out _ T4.out).mono ?_); rintro e w5 ⟨rfl, r, m⟩; have R5 := Lib.hid r; have M5 := Lib.hid m; have HK5 := Lib.hid (show w5.cell? ⟨g13, 1, none⟩ = some (.int .i64 size) ∧ w5.cell? ⟨g13, 3, none⟩ = some (.int .u64 xv) from ⟨(World.cell?_of_block (w := w4) (m.block g13 L4.out (fun h => HW3.out.2 _ (.inr h) rfl))).trans HK4.out.1, (World.cell?_of_block (w := w4) (m.block g13 L4.out (fun h => HW3.out.2 _ (.inr h) rfl))).trans HK4.out.2⟩); clear r m))
                have MM := (M4.out.mono (fun k _ (h : F1 k) => (.inl h : F1 k ∨ F2 k))).trans (M5.out.mono fun k _ (h : F2 k) => .inr h)
                have GS := Lib.hid (GD.out.step (GD.out.duo.step R4.out M4.out R5.out M5.out) MM (fun k hk h => by
                  have hs := M4.out.size
                  rcases h with (h | h) | (h | h)
                  · exact .inl h
                  · omega
                  · exact .inr h
                  · omega))
                clear MM
                go_wp2
                exact ⟨⟨k + 1, h1', h2', _, _, _, ls, by omega, by have := HLK.out; omega, by go_num, rfl, rfl, GS.out⟩, by simp [intOf]; omega⟩
            · as_aux_lemma =>
                have hh' : (wholeB size && hasB base n aa size) = false := by simpa using hh
                have P1 := Lib.hid (fun w (d : Ram w h1' base n mem F1) => write_no d aa size xv HAA.out OKS.out.2 hh')
                have P2 := Lib.hid (fun w (d : Ref.Mem w h2' base n mem F2) => Ref.write_no d aa size xv HAA.out OKS.out.2 hh')
                clear hh hh'
                go_wp2_with (go_at_call 9; refine (TP.out _).mono ?_; rintro e wx ⟨rfl, rfl⟩)
                have GD := Lib.hid (G3.out.below (Below.drew (Below.refl w3.heap.size w3)))
                go_region_held3 (fun w' => w'.cell? ⟨g13, 1, none⟩ = some (.int .i64 size) ∧ w'.cell? ⟨g13, 3, none⟩ = some (.int .u64 xv))
                  (first
                    | exact ⟨c1, c3⟩
                    | exact HK4.out)
                  (first
                    | ((with_reducible refine (P1.out _ GD.out.duo.one).mono ?_); rintro e w4 ⟨rfl, hw⟩; have hb := below_drawn hw; have G4 := Lib.hid (GD.out.below hb); have HK4 := Lib.hid (show w4.cell? ⟨g13, 1, none⟩ = some (.int .i64 size) ∧ w4.cell? ⟨g13, 3, none⟩ = some (.int .u64 xv) from ⟨(World.cell?_of_block (w := w3) (hb.block g13 F13.out.lt)).trans c1, (World.cell?_of_block (w := w3) (hb.block g13 F13.out.lt)).trans c3⟩); clear hw hb)
                    | ((with_reducible refine (P2.out _ G4.out.duo.two).mono ?_); rintro e w5 ⟨rfl, rfl⟩))
                go_wp2
                exact ⟨⟨k + 1, h1', h2', _, _, _, ls, by omega, by have := HLK.out; omega, by go_num, rfl, rfl, G4.out⟩, by simp [intOf]; omega⟩
          · have TP := Lib.hid (fun w => (TPK.out w).mono fun e w' h => (by rw [hk6] at h; exact h : e = .returned (.int .i64 1) ∧ w = w'))
            clear TPK hk6
            by_cases hh : (wholeB size && hasB base n aa size) = true
            · as_aux_lemma =>
                have hw1 : wholeB size = true := by cases h : wholeB size <;> simp [h] at hh ⊢
                have hh1 : hasB base n aa size = true := by cases h : hasB base n aa size <;> simp [h] at hh ⊢
                obtain ⟨s, hs⟩ := Int.eq_ofNat_of_zero_le (show 0 ≤ size by have := of_decide_eq_true hw1; omega)
                have P1 := Lib.hid (fun w (d : Ram w h1' base n mem F1) => pread_z d aa size s hs HAA.out (by rw [← hs]; exact hw1) (by rw [← hs]; exact hh1))
                have P2 := Lib.hid (fun w (d : Ref.Mem w h2' base n mem F2) => rread_z d aa size s hs HAA.out (by rw [← hs]; exact hw1) (by rw [← hs]; exact hh1))
                clear hh hw1 hh1 hs
                go_wp2_with (first
                  | (go_at_call 9; refine (TP.out _).mono ?_; rintro e wx ⟨rfl, rfl⟩)
                  | (go_at_call 11; refine (P1.out _ G3.out.duo.one).mono ?_; rintro e w4 ⟨rfl, hw⟩; have hb := below_drawn hw; have G4 := Lib.hid (G3.out.below hb); have g1 := (F13.out.below hb).cell 1; simp only [List.getElem?_toArray, List.getElem?_cons_zero, List.getElem?_cons_succ] at g1; clear hw hb c0 c1 c3 c5)
                  | (go_at_call 27; refine (P2.out _ G4.out.duo.two).mono ?_; rintro e w5 ⟨rfl, rfl⟩))
                exact ⟨⟨k + 1, h1', h2', _, _, _, ls, by omega, by have := HLK.out; omega, by go_num, rfl, rfl, G4.out⟩, by simp [intOf]; omega⟩
            · as_aux_lemma =>
                have hh' : (wholeB size && hasB base n aa size) = false := by simpa using hh
                have P1 := Lib.hid (fun w (d : Ram w h1' base n mem F1) => read_no d aa size HAA.out OKS.out.2 hh')
                have P2 := Lib.hid (fun w (d : Ref.Mem w h2' base n mem F2) => Ref.read_no d aa size HAA.out OKS.out.2 hh')
                clear hh hh'
                go_wp2_with (first
                  | (go_at_call 9; refine (TP.out _).mono ?_; rintro e wx ⟨rfl, rfl⟩)
                  | (go_at_call 11; refine (P1.out _ G3.out.duo.one).mono ?_; rintro e w4 ⟨rfl, hw⟩; have hb := below_drawn hw; have G4 := Lib.hid (G3.out.below hb); have g1 := (F13.out.below hb).cell 1; simp only [List.getElem?_toArray, List.getElem?_cons_zero, List.getElem?_cons_succ] at g1; clear hw hb c0 c1 c3 c5)
                  | (go_at_call 27; refine (P2.out _ G4.out.duo.two).mono ?_; rintro e w5 ⟨rfl, rfl⟩))
                exact ⟨⟨k + 1, h1', h2', _, _, _, ls, by omega, by have := HLK.out; omega, by go_num, rfl, rfl, G4.out⟩, by simp [intOf]; omega⟩
          · have TP := Lib.hid (fun w => (TPK.out w).mono fun e w' h => (by rw [hk6] at h; exact h : e = .returned (.int .i64 2) ∧ w = w'))
            clear TPK hk6
            by_cases hh : hasB base n aa bl = true
            · as_aux_lemma =>
                have BB := Lib.hid (show ∀ k, k < bl → 0 ≤ bf k ∧ bf k < 256 from fun k hk => by obtain ⟨_, _, _, _, h⟩ := OKR.out k hk; exact h)
                have HHH := Lib.hid hh
                clear hh
                go_wp2_with (go_at_call 9; refine (TP.out _).mono ?_; rintro e wx ⟨rfl, rfl⟩)
                have GD := Lib.hid (G3.out.below (Below.drew (Below.refl w3.heap.size w3)))
                have RD3 := Lib.hid (OKR.out.mod GD.out.duo.mod (fun _ _ h => h) (fun k hk => hk))
                go_region_held3 (fun w' => w'.cell? ⟨g13, 5, none⟩ = some (.slice A bl bc))
                  (first
                    | exact c5
                    | exact HK4.out
                    | exact HK5.out
                    | exact HK6.out)
                  (first
                    | ((with_reducible refine (copyBytes_any (Arg.mk RD3.out OKN.out) OKL.out).mono ?_); rintro e w4 ⟨vc, rfl, own, hb⟩; obtain ⟨Ac, cc, rfl, rdc⟩ := own_rd own BB.out; have RC := Lib.hid rdc; have G4 := Lib.hid (GD.out.below hb); have L4 := Lib.hid (show g13 < w4.heap.size ∧ w3.heap.size ≤ w4.heap.size from ⟨Nat.lt_of_lt_of_le F13.out.lt hb.size, hb.size⟩); have HK4 := Lib.hid (show w4.cell? ⟨g13, 5, none⟩ = some (.slice A bl bc) from (World.cell?_of_block (w := w3) (hb.block g13 F13.out.lt)).trans c5); have RD4 := Lib.hid (RD3.out.below hb (fun k hk => Nat.lt_of_lt_of_le hk GD.out.duo.mod.size)); clear own rdc hb)
                    | ((with_reducible refine (fill_yes G4.out.duo.one aa RC.out (fun k hk => ⟨fun h => by have := GD.out.duo.one.bound k h; omega, hk.2⟩) HAA.out HHH.out).mono ?_); rintro e w5 ⟨rfl, r, m⟩; have R5 := Lib.hid r; have M5 := Lib.hid m; have T5 := Lib.hid (G4.out.duo.two.mod m (fun k a b => G4.out.duo.apart k b a)); have RD5 := Lib.hid (RD4.out.mod m (fun k hk h => by have := G4.out.duo.new k (.inl h); omega) (fun k hk => Nat.lt_of_lt_of_le hk G4.out.duo.mod.size)); have HK5 := Lib.hid (show w5.cell? ⟨g13, 5, none⟩ = some (.slice A bl bc) from (World.cell?_of_block (w := w4) (m.block g13 L4.out.1 (fun h => HW3.out.2 _ (.inl h) rfl))).trans HK4.out); have L5 := Lib.hid (show g13 < w5.heap.size from Nat.lt_of_lt_of_le L4.out.1 m.size); clear r m)
                    | ((with_reducible refine (Ref.fill_yes T5.out aa RD5.out (fun k hk => ⟨fun h => by have := G4.out.duo.new k (.inr h); omega, Nat.lt_of_lt_of_le hk (Nat.le_trans G4.out.duo.mod.size M5.out.size)⟩) HAA.out HHH.out).mono ?_); rintro e w6 ⟨rfl, r, m⟩; have R6 := Lib.hid r; have M6 := Lib.hid m; have HK6 := Lib.hid (show w6.cell? ⟨g13, 5, none⟩ = some (.slice A bl bc) from (World.cell?_of_block (w := w5) (m.block g13 L5.out (fun h => HW3.out.2 _ (.inr h) rfl))).trans HK5.out); clear r m))
                have MM := (M5.out.mono (fun k _ (h : F1 k) => (.inl h : F1 k ∨ F2 k))).trans (M6.out.mono fun k _ (h : F2 k) => .inr h)
                have GS := Lib.hid (G4.out.step (G4.out.duo.step R5.out M5.out R6.out M6.out) MM (fun k hk h => by
                  have hs := M5.out.size
                  rcases h with (h | h) | (h | h)
                  · exact .inl h
                  · omega
                  · exact .inr h
                  · omega))
                clear MM
                go_wp2
                exact ⟨⟨k + 1, h1', h2', _, _, _, ls, by omega, by have := HLK.out; omega, by go_num, rfl, rfl, GS.out⟩, by simp [intOf]; omega⟩
            · as_aux_lemma =>
                have BB := Lib.hid (show ∀ k, k < bl → 0 ≤ bf k ∧ bf k < 256 from fun k hk => by obtain ⟨_, _, _, _, h⟩ := OKR.out k hk; exact h)
                have HHH := Lib.hid (show hasB base n aa bl = false by simpa using hh)
                clear hh
                go_wp2_with (go_at_call 9; refine (TP.out _).mono ?_; rintro e wx ⟨rfl, rfl⟩)
                have GD := Lib.hid (G3.out.below (Below.drew (Below.refl w3.heap.size w3)))
                have RD3 := Lib.hid (OKR.out.mod GD.out.duo.mod (fun _ _ h => h) (fun k hk => hk))
                go_region_held3 (fun w' => w'.cell? ⟨g13, 5, none⟩ = some (.slice A bl bc))
                  (first
                    | exact c5
                    | exact HK4.out
                    | exact HK5.out)
                  (first
                    | ((with_reducible refine (copyBytes_any (Arg.mk RD3.out OKN.out) OKL.out).mono ?_); rintro e w4 ⟨vc, rfl, own, hb⟩; obtain ⟨Ac, cc, rfl, rdc⟩ := own_rd own BB.out; have RC := Lib.hid rdc; have G4 := Lib.hid (GD.out.below hb); have L4 := Lib.hid (show g13 < w4.heap.size ∧ w3.heap.size ≤ w4.heap.size from ⟨Nat.lt_of_lt_of_le F13.out.lt hb.size, hb.size⟩); have HK4 := Lib.hid (show w4.cell? ⟨g13, 5, none⟩ = some (.slice A bl bc) from (World.cell?_of_block (w := w3) (hb.block g13 F13.out.lt)).trans c5); have RD4 := Lib.hid (RD3.out.below hb (fun k hk => Nat.lt_of_lt_of_le hk GD.out.duo.mod.size)); clear own rdc hb)
                    | ((with_reducible refine (fill_no G4.out.duo.one aa Ac bl cc HAA.out (by have := OKL.out; omega) HHH.out).mono ?_); rintro e w5 ⟨rfl, hw⟩; have hb := below_drawn hw; have G5 := Lib.hid (G4.out.below hb); have HK5 := Lib.hid (show w5.cell? ⟨g13, 5, none⟩ = some (.slice A bl bc) from (World.cell?_of_block (w := w4) (hb.block g13 L4.out.1)).trans HK4.out); clear hw hb)
                    | ((with_reducible refine (Ref.fill_no G5.out.duo.two aa A bl bc HAA.out (by have := OKL.out; omega) HHH.out).mono ?_); rintro e w6 ⟨rfl, rfl⟩))
                go_wp2
                exact ⟨⟨k + 1, h1', h2', _, _, _, ls, by omega, by have := HLK.out; omega, by go_num, rfl, rfl, G5.out⟩, by simp [intOf]; omega⟩
          · have TP := Lib.hid (fun w => (TPK.out w).mono fun e w' h => (by rw [hk6] at h; exact h : e = .returned (.int .i64 3) ∧ w = w'))
            clear TPK hk6
            have tb := tmod_bd size 5000 (by decide)
            obtain ⟨tm, htm⟩ : ∃ tm, size.tmod 5000 = tm := ⟨_, rfl⟩
            rw [htm] at tb
            have b2 : IntKind.i64.wrap tm = tm := IntWalk.i64_in _ (by omega)
            have BY := Lib.hid (show ∀ i, i < n * 4096 → 0 ≤ mem i ∧ mem i < 256 from fun i hi => G3.out.duo.one.byte hi)
            by_cases hh : hasB base n aa tm = true
            · as_aux_lemma =>
                obtain ⟨hq1, hq2, hq3⟩ := of_decide_eq_true hh
                obtain ⟨s, hs⟩ := Int.eq_ofNat_of_zero_le hq1
                have P1 := Lib.hid (fun w (d : Ram w h1' base n mem F1) => bytes_z d aa tm s hs HAA.out (by omega) (by rw [← hs]; exact hh))
                have P2 := Lib.hid (fun w (d : Ref.Mem w h2' base n mem F2) => rbytes_z d aa tm s hs HAA.out (by omega) (by rw [← hs]; exact hh))
                have BS := Lib.hid (show ∀ i, i < s → 0 ≤ mem ((aa - base).toNat + i) ∧ mem ((aa - base).toNat + i) < 256 from fun i hi => BY.out _ (by omega))
                have S5 := Lib.hid (show s ≤ 1000000000000 from by omega)
                clear hh hq1 hq2 hq3 tb hs
                go_wp2_with (first
                  | (go_at_call 9; refine (TP.out _).mono ?_; rintro e wx ⟨rfl, rfl⟩)
                  | (go_at_call 16; refine (P1.out _ G3.out.duo.one).mono ?_; rintro e w4 ⟨ga, rfl, bx, hga, hb⟩; have G4 := Lib.hid (G3.out.below hb); have X4 := Lib.hid bx; have g1 := (F13.out.below hb).cell 1; simp only [List.getElem?_toArray, List.getElem?_cons_zero, List.getElem?_cons_succ] at g1; clear bx hga hb c0 c1 c3 c5)
                  | (go_at_call 30; refine (P2.out _ G4.out.duo.two).mono ?_; rintro e w5 ⟨gb, rfl, bx, hgb, hb⟩; have G5 := Lib.hid (G4.out.below hb); have X5 := Lib.hid (X4.out.below hb); have Y5 := Lib.hid bx; clear bx hgb hb g1)
                  | (go_at_call 17; refine (same_rows (ca := s) (cb := s) X5.out Y5.out (fun i hi => rfl) BS.out S5.out).mono ?_; rintro e w6 ⟨rfl, hw⟩; have G6 := Lib.hid (G5.out.below (below_drawn hw)); clear hw))
                exact ⟨⟨k + 1, h1', h2', _, _, _, ls, by omega, by have := HLK.out; omega, by go_num, rfl, rfl, G6.out⟩, by simp [intOf]; omega⟩
            · as_aux_lemma =>
                have hh' : hasB base n aa tm = false := by simpa using hh
                have P1 := Lib.hid (fun w (d : Ram w h1' base n mem F1) => bytes_no d aa tm HAA.out (by omega) hh')
                have P2 := Lib.hid (fun w (d : Ref.Mem w h2' base n mem F2) => Ref.bytes_no d aa tm HAA.out (by omega) hh')
                clear hh hh' tb
                go_wp2_with (first
                  | (go_at_call 9; refine (TP.out _).mono ?_; rintro e wx ⟨rfl, rfl⟩)
                  | (go_at_call 16; refine (P1.out _ G3.out.duo.one).mono ?_; rintro e w4 ⟨rfl, hw⟩; have hb := below_drawn hw; have G4 := Lib.hid (G3.out.below hb); have g1 := (F13.out.below hb).cell 1; simp only [List.getElem?_toArray, List.getElem?_cons_zero, List.getElem?_cons_succ] at g1; clear hw hb c0 c1 c3 c5)
                  | (go_at_call 30; refine (P2.out _ G4.out.duo.two).mono ?_; rintro e w5 ⟨rfl, rfl⟩)
                  | (go_at_call 17; refine (same_any (A := none) (B := none) (n := 0) (ca := 0) (cb := 0) (f := fun _ => 0) (G := fun _ => True) (G' := fun _ => True) (fun i hi => absurd hi (Nat.not_lt_zero i)) (fun i hi => absurd hi (Nat.not_lt_zero i)) (by decide)).mono ?_; rintro e w6 ⟨rfl, hw⟩; have G6 := Lib.hid (G4.out.below (below_drawn hw)); clear hw))
                exact ⟨⟨k + 1, h1', h2', _, _, _, ls, by omega, by have := HLK.out; omega, by go_num, rfl, rfl, G6.out⟩, by simp [intOf]; omega⟩
          · have TP := Lib.hid (fun w => (TPK.out w).mono fun e w' h => (by rw [hk6] at h; exact h : e = .returned (.int .i64 4) ∧ w = w'))
            clear TPK hk6
            by_cases hh : 0 ≤ size ∧ size < n
            · as_aux_lemma =>
                obtain ⟨q, hq⟩ := Int.eq_ofNat_of_zero_le hh.1
                have P1 := Lib.hid (fun w (d : Ram w h1' base n mem F1) => clear_z d size q hq (by omega))
                have P2 := Lib.hid (fun w (d : Ref.Mem w h2' base n mem F2) => rclear_z d size q hq (by omega))
                clear hh hq
                go_wp2_with (go_at_call 9; refine (TP.out _).mono ?_; rintro e wx ⟨rfl, rfl⟩)
                have GD := Lib.hid (G3.out.below (Below.drew (Below.refl w3.heap.size w3)))
                go_region_held3 (fun w' => w'.cell? ⟨g13, 1, none⟩ = some (.int .i64 size))
                  (first
                    | exact c1
                    | exact HK4.out
                    | exact HK5.out)
                  (first
                    | ((with_reducible refine (P1.out _ GD.out.duo.one).mono ?_); rintro e w4 ⟨rfl, r, m⟩; have R4 := Lib.hid r; have M4 := Lib.hid m; have T4 := Lib.hid (GD.out.duo.two.mod m (fun k a b => GD.out.duo.apart k b a)); have HK4 := Lib.hid (show w4.cell? ⟨g13, 1, none⟩ = some (.int .i64 size) from (World.cell?_of_block (w := w3) (m.block g13 F13.out.lt (fun h => HW3.out.2 _ (.inl h) rfl))).trans c1); have L4 := Lib.hid (show g13 < w4.heap.size from Nat.lt_of_lt_of_le F13.out.lt m.size); clear r m)
                    | ((with_reducible refine (P2.out _ T4.out).mono ?_); rintro e w5 ⟨rfl, r, m⟩; have R5 := Lib.hid r; have M5 := Lib.hid m; have HK5 := Lib.hid (show w5.cell? ⟨g13, 1, none⟩ = some (.int .i64 size) from (World.cell?_of_block (w := w4) (m.block g13 L4.out (fun h => HW3.out.2 _ (.inr h) rfl))).trans HK4.out); clear r m))
                have MM := (M4.out.mono (fun k _ (h : F1 k) => (.inl h : F1 k ∨ F2 k))).trans (M5.out.mono fun k _ (h : F2 k) => .inr h)
                have GS := Lib.hid (GD.out.step (GD.out.duo.step R4.out M4.out R5.out M5.out) MM (fun k hk h => by
                  have hs := M4.out.size
                  rcases h with (h | h) | (h | h)
                  · exact .inl h
                  · omega
                  · exact .inr h
                  · omega))
                clear MM
                go_wp2
                exact ⟨⟨k + 1, h1', h2', _, _, _, ls, by omega, by have := HLK.out; omega, by go_num, rfl, rfl, GS.out⟩, by simp [intOf]; omega⟩
            · as_aux_lemma =>
                have P1 := Lib.hid (fun w (d : Ram w h1' base n mem F1) => clear_no d size hh)
                have P2 := Lib.hid (fun w (d : Ref.Mem w h2' base n mem F2) => Ref.clear_no d size hh)
                clear hh
                go_wp2_with (go_at_call 9; refine (TP.out _).mono ?_; rintro e wx ⟨rfl, rfl⟩)
                have GD := Lib.hid (G3.out.below (Below.drew (Below.refl w3.heap.size w3)))
                go_region_held3 (fun w' => w'.cell? ⟨g13, 1, none⟩ = some (.int .i64 size))
                  (first
                    | exact c1)
                  (first
                    | ((with_reducible refine (P1.out _ GD.out.duo.one).mono ?_); rintro e w4 ⟨rfl, rfl⟩)
                    | ((with_reducible refine (P2.out _ GD.out.duo.two).mono ?_); rintro e w5 ⟨rfl, rfl⟩))
                go_wp2
                exact ⟨⟨k + 1, h1', h2', _, _, _, ls, by omega, by have := HLK.out; omega, by go_num, rfl, rfl, GD.out⟩, by simp [intOf]; omega⟩
          · have TP := Lib.hid (fun w => (TPK.out w).mono fun e w' h => (by rw [hk6] at h; exact h : e = .returned (.int .i64 5) ∧ w = w'))
            clear TPK hk6
            by_cases hh : size.tmod 2 = 0
            · as_aux_lemma =>
                have de : (size.tmod 2 == 0) = true := by simpa using hh
                have hlb := HLB.out
                have hlk := HLK.out
                clear hh
                go_wp2_with (first
                  | (go_at_call 9; refine (TP.out _).mono ?_; rintro e wx ⟨rfl, rfl⟩)
                  | (go_at_call 20; refine (copy_any G3.out.duo.one).mono ?_; rintro e w4 ⟨c4, rfl, r, hb⟩; have R4 := Lib.hid r; have B4 := Lib.hid hb; have G4 := Lib.hid (G3.out.below hb); clear r hb)
                  | (go_at_call 32; refine (Ref.copy_any G4.out.duo.two).mono ?_; rintro e w5 ⟨d5, rfl, r, hb⟩; have G5 := Lib.hid (G4.out.below hb); have ND := Lib.hid (Duo.made G3.out.duo.mod R4.out (Mod.of_below B4.out Nil) r (Mod.of_below hb Nil)); have g1 := ((F13.out.below B4.out).below hb).cell 1; simp only [List.getElem?_toArray, List.getElem?_cons_zero, List.getElem?_cons_succ] at g1; clear r hb c0 c1 c3 c5)
                  | ((with_reducible refine Step.gate_build (t := 56) rfl ?_); refine Step.freshSlice (cs := #[.pointer (some ⟨h1', 0, none⟩), .pointer (some ⟨h2', 0, none⟩)]) (T := 62) (n := 1) (m := 1) rfl ?hr ?_; (case hr => first | (go_simp; done) | (go_simp; rfl)); intro gb wb b hgb hbb; have NBk := Lib.hid b; have G6 := Lib.hid (G5.out.below hbb); have ND6 := Lib.hid (ND.out.below hbb); clear b hgb hbb)
                  | (at_builtin; refine wpList_append_own _ rfl _ _ 56 rfl W.heap.size 62 it _ 2 16 Try.underlying56 HI.out HIZ.out HIS.out HIB.out rfl (by omega) _ ls.length (ls.flatMap Oth.cells) rfl G6.out.own ⟨gb, 0, none⟩ 1 1 [.pointer (some ⟨h1', 0, none⟩), .pointer (some ⟨h2', 0, none⟩)] rfl rfl ?h2 (by intro u hu; simp at hu; rcases hu with rfl | rfl <;> rfl) ?h3 ?h4 G6.out.duo.mod.size ?_; rotate_right; intro v' w' own' grow' hv; have OW := Lib.hid own'; have GR := Lib.hid grow'; clear own' grow' hv))
                case h2 =>
                  intro j u hu
                  have hj : j < 2 := by have := (List.getElem?_eq_some_iff.1 hu).1; simp at this; omega
                  have hadd : (⟨gb, 0, none⟩ : Addr).add j = ⟨gb, j, none⟩ := by unfold Addr.add; split <;> simp_all
                  rw [hadd, NBk.out.cell j]
                  obtain e | e : j = 0 ∨ j = 1 := by omega
                  · subst e; exact hu
                  · subst e; exact hu
                case h3 => unfold maxLen; omega
                case h4 => omega
                have NB6 := Lib.hid (show ∀ k, (Grow Nil w3 w4 k ∧ NotTwo wb k) ∨ (Grow Nil w4 w5 k ∧ NotTwo wb k) → w3.heap.size ≤ k from fun k h => by
                  have := B4.out.size
                  rcases h with ⟨h | h, _⟩ | ⟨h | h, _⟩
                  · exact h.elim
                  · exact h.1
                  · exact h.elim
                  · omega)
                have G7 := G6.out.append (p := ⟨h1', h2', mem, F1, F2⟩) OW.out GR.out G6.out.duo G6.out.typed (duo_typed ND6.out) (fun k h => h.elim (fun a => a.2) fun a => a.2) (fun k h h2 => by have := NB6.out k h; have := G3.out.duo.bound k h2; omega) (fun q hq k h h2 => by have := NB6.out k h; have := (G3.out.oth q hq).1.bound k h2; omega)
                exact ⟨⟨k + 1, c4, d5, _, _, _, ls ++ [⟨h1', h2', mem, F1, F2⟩], by omega, by rw [List.length_append]; simp; omega, by go_num, rfl, rfl, G7⟩, by simp [intOf]; omega⟩
            · as_aux_lemma =>
                have de : (size.tmod 2 == 0) = false := by simpa using hh
                have hlb := HLB.out
                have hlk := HLK.out
                clear hh
                go_wp2_with (first
                  | (go_at_call 9; refine (TP.out _).mono ?_; rintro e wx ⟨rfl, rfl⟩)
                  | (go_at_call 20; refine (copy_any G3.out.duo.one).mono ?_; rintro e w4 ⟨c4, rfl, r, hb⟩; have R4 := Lib.hid r; have B4 := Lib.hid hb; have G4 := Lib.hid (G3.out.below hb); clear r hb)
                  | (go_at_call 32; refine (Ref.copy_any G4.out.duo.two).mono ?_; rintro e w5 ⟨d5, rfl, r, hb⟩; have G5 := Lib.hid (G4.out.below hb); have ND := Lib.hid (Duo.made G3.out.duo.mod R4.out (Mod.of_below B4.out Nil) r (Mod.of_below hb Nil)); have g1 := ((F13.out.below B4.out).below hb).cell 1; simp only [List.getElem?_toArray, List.getElem?_cons_zero, List.getElem?_cons_succ] at g1; clear r hb c0 c1 c3 c5)
                  | ((with_reducible refine Step.gate_build (t := 56) rfl ?_); refine Step.freshSlice (cs := #[.pointer (some ⟨c4, 0, none⟩), .pointer (some ⟨d5, 0, none⟩)]) (T := 62) (n := 1) (m := 1) rfl ?hr ?_; (case hr => first | (go_simp; done) | (go_simp; rfl)); intro gb wb b hgb hbb; have NBk := Lib.hid b; have G6 := Lib.hid (G5.out.below hbb); have ND6 := Lib.hid (ND.out.below hbb); clear b hgb hbb)
                  | (at_builtin; refine wpList_append_own _ rfl _ _ 56 rfl W.heap.size 62 it _ 2 16 Try.underlying56 HI.out HIZ.out HIS.out HIB.out rfl (by omega) _ ls.length (ls.flatMap Oth.cells) rfl G6.out.own ⟨gb, 0, none⟩ 1 1 [.pointer (some ⟨c4, 0, none⟩), .pointer (some ⟨d5, 0, none⟩)] rfl rfl ?h2 (by intro u hu; simp at hu; rcases hu with rfl | rfl <;> rfl) ?h3 ?h4 G6.out.duo.mod.size ?_; rotate_right; intro v' w' own' grow' hv; have OW := Lib.hid own'; have GR := Lib.hid grow'; clear own' grow' hv))
                case h2 =>
                  intro j u hu
                  have hj : j < 2 := by have := (List.getElem?_eq_some_iff.1 hu).1; simp at this; omega
                  have hadd : (⟨gb, 0, none⟩ : Addr).add j = ⟨gb, j, none⟩ := by unfold Addr.add; split <;> simp_all
                  rw [hadd, NBk.out.cell j]
                  obtain e | e : j = 0 ∨ j = 1 := by omega
                  · subst e; exact hu
                  · subst e; exact hu
                case h3 => unfold maxLen; omega
                case h4 => omega
                have NB6 := Lib.hid (show ∀ k, (Grow Nil w3 w4 k ∧ NotTwo wb k) ∨ (Grow Nil w4 w5 k ∧ NotTwo wb k) → w3.heap.size ≤ k from fun k h => by
                  have := B4.out.size
                  rcases h with ⟨h | h, _⟩ | ⟨h | h, _⟩
                  · exact h.elim
                  · exact h.1
                  · exact h.elim
                  · omega)
                have G7 := G6.out.append (p := ⟨c4, d5, mem, fun k => Grow Nil w3 w4 k ∧ NotTwo wb k, fun k => Grow Nil w4 w5 k ∧ NotTwo wb k⟩) OW.out GR.out (duo_typed ND6.out) (fun k h => h.elim (fun a => a.2) fun a => a.2) G6.out.duo G6.out.typed (fun k h h2 => by have := NB6.out k h2; have := G3.out.duo.bound k h; omega) (fun q hq => (G6.out.oth q hq).2.2)
                exact ⟨⟨k + 1, h1', h2', _, _, _, ls ++ [⟨c4, d5, mem, fun k => Grow Nil w3 w4 k ∧ NotTwo wb k, fun k => Grow Nil w4 w5 k ∧ NotTwo wb k⟩], by omega, by rw [List.length_append]; simp; omega, by go_num, rfl, rfl, G7⟩, by simp [intOf]; omega⟩
        | false =>
          have HAA := Lib.hid OKA.out
          go_wp2_with (first
            | ((with_reducible refine Step.gate_alloc (t := 58) rfl ?_); refine Step.freshAlloc rfl rfl (alloc_agg zero_op) ?_; intro g13 v1 b hg hb; have X13 := Lib.hid b; have BX1 := Lib.hid hb; have HG13 := Lib.hid hg; clear b hg hb)
            | ((with_reducible refine Step.gate_store (t := 58) rfl ?_); refine Step.storeAll (vs := #[.int .i64 kind, .int .i64 size, .int .u64 addr, .int .u64 xv, .bool false, .slice A bl bc]) X13.out rfl rfl rfl rfl rfl size_op rfl rfl ?_; intro v2 nb m; have E13 := Lib.hid nb; have BX2 := Lib.hid (below_mod BX1.out BX1.out.size m (fun k hk e => by obtain rfl : k = g13 := e; exact HG13.out)); have e0 := nb.cell 0; have e1 := nb.cell 1; have e2 := nb.cell 2; have e4 := nb.cell 4; simp only [List.getElem?_toArray, List.getElem?_cons_zero, List.getElem?_cons_succ] at e0 e1 e2 e4; clear nb m s0 s1 s2 s3 s4 s5))
          have G2 := Lib.hid (G.out.below BX2.out)
          have HA1 := Lib.hid (fun w (hw : ∃ k, w = v2.drewN k) => has_any (G2.out.duo.one.drawn hw) addr size HAA.out OKS.out.2)
          have HA2 := Lib.hid (fun w (hw : ∃ k, w = v2.drewN k) => (Ref.has_any (G2.out.duo.two.drawn hw) addr size HAA.out OKS.out.2).mono fun e w' h => (⟨h.1, h.2.symm⟩ : e = .returned (.bool (hasB base n addr size)) ∧ w' = w))
          go_quiet ((first | (go_at_call 13; exact Calls.quiet_of (HA1.out _ ⟨_, rfl⟩)) | (go_at_call 25; exact Calls.quiet_of_same (HA2.out _ ⟨_, rfl⟩))))
          obtain ⟨w3, hw3⟩ : ∃ w3, w3 = v2.drewN nq := ⟨_, rfl⟩
          rw [← hw3]
          have B3 := Lib.hid (below_drawn ⟨nq, hw3⟩)
          have G3 := Lib.hid (G2.out.below B3.out)
          have F13 := Lib.hid (E13.out.below B3.out)
          have HW3 := Lib.hid (show w3.heap.size = v2.heap.size ∧ ∀ k, F1 k ∨ F2 k → k ≠ g13 from ⟨by rw [hw3]; rfl, fun k h e => by subst e; have := G.out.duo.bound k h; have := HG13.out; omega⟩)
          have c0 := F13.out.cell 0
          have c1 := F13.out.cell 1
          have c3 := F13.out.cell 3
          have c5 := F13.out.cell 5
          simp only [List.getElem?_toArray, List.getElem?_cons_zero, List.getElem?_cons_succ] at c0 c1 c3 c5
          clear hw3 e0 e1 e2 e4 G2 HA1 HA2 B3
          obtain hk6 | hk6 | hk6 | hk6 | hk6 | hk6 : kind % 6 = 0 ∨ kind % 6 = 1 ∨ kind % 6 = 2 ∨ kind % 6 = 3 ∨ kind % 6 = 4 ∨ kind % 6 = 5 := by omega
          · have TP := Lib.hid (fun w => (TPK.out w).mono fun e w' h => (by rw [hk6] at h; exact h : e = .returned (.int .i64 0) ∧ w = w'))
            clear TPK hk6
            by_cases hh : (wholeB size && hasB base n addr size) = true
            · as_aux_lemma =>
                have hw1 : wholeB size = true := by cases h : wholeB size <;> simp [h] at hh ⊢
                have hh1 : hasB base n addr size = true := by cases h : hasB base n addr size <;> simp [h] at hh ⊢
                obtain ⟨s, hs⟩ := Int.eq_ofNat_of_zero_le (show 0 ≤ size by have := of_decide_eq_true hw1; omega)
                have P1 := Lib.hid (fun w (d : Ram w h1' base n mem F1) => write_z d addr xv size s hs HAA.out OKV.out (by rw [← hs]; exact hw1) (by rw [← hs]; exact hh1))
                have P2 := Lib.hid (fun w (d : Ref.Mem w h2' base n mem F2) => rwrite_z d addr xv size s hs HAA.out OKV.out (by rw [← hs]; exact hw1) (by rw [← hs]; exact hh1))
                clear hh hw1 hh1 hs
                go_wp2_with (go_at_call 9; refine (TP.out _).mono ?_; rintro e wx ⟨rfl, rfl⟩)
                have GD := Lib.hid (G3.out.below (Below.drew (Below.refl w3.heap.size w3)))
                go_region_held3 (fun w' => w'.cell? ⟨g13, 1, none⟩ = some (.int .i64 size) ∧ w'.cell? ⟨g13, 3, none⟩ = some (.int .u64 xv))
                  (first
                    | exact ⟨c1, c3⟩
                    | exact HK4.out
                    | exact HK5.out)
                  (first
                    | ((with_reducible refine (P1.out _ GD.out.duo.one).mono ?_); rintro e w4 ⟨rfl, r, m⟩; have R4 := Lib.hid r; have M4 := Lib.hid m; have T4 := Lib.hid (GD.out.duo.two.mod m (fun k a b => GD.out.duo.apart k b a)); have HK4 := Lib.hid (show w4.cell? ⟨g13, 1, none⟩ = some (.int .i64 size) ∧ w4.cell? ⟨g13, 3, none⟩ = some (.int .u64 xv) from ⟨(World.cell?_of_block (w := w3) (m.block g13 F13.out.lt (fun h => HW3.out.2 _ (.inl h) rfl))).trans c1, (World.cell?_of_block (w := w3) (m.block g13 F13.out.lt (fun h => HW3.out.2 _ (.inl h) rfl))).trans c3⟩); have L4 := Lib.hid (show g13 < w4.heap.size from Nat.lt_of_lt_of_le F13.out.lt m.size); clear r m)
                    | ((with_reducible refine (P2.out _ T4.out).mono ?_); rintro e w5 ⟨rfl, r, m⟩; have R5 := Lib.hid r; have M5 := Lib.hid m; have HK5 := Lib.hid (show w5.cell? ⟨g13, 1, none⟩ = some (.int .i64 size) ∧ w5.cell? ⟨g13, 3, none⟩ = some (.int .u64 xv) from ⟨(World.cell?_of_block (w := w4) (m.block g13 L4.out (fun h => HW3.out.2 _ (.inr h) rfl))).trans HK4.out.1, (World.cell?_of_block (w := w4) (m.block g13 L4.out (fun h => HW3.out.2 _ (.inr h) rfl))).trans HK4.out.2⟩); clear r m))
                have MM := (M4.out.mono (fun k _ (h : F1 k) => (.inl h : F1 k ∨ F2 k))).trans (M5.out.mono fun k _ (h : F2 k) => .inr h)
                have GS := Lib.hid (GD.out.step (GD.out.duo.step R4.out M4.out R5.out M5.out) MM (fun k hk h => by
                  have hs := M4.out.size
                  rcases h with (h | h) | (h | h)
                  · exact .inl h
                  · omega
                  · exact .inr h
                  · omega))
                clear MM
                go_wp2
                exact ⟨⟨k + 1, h1', h2', _, _, _, ls, by omega, by have := HLK.out; omega, by go_num, rfl, rfl, GS.out⟩, by simp [intOf]; omega⟩
            · as_aux_lemma =>
                have hh' : (wholeB size && hasB base n addr size) = false := by simpa using hh
                have P1 := Lib.hid (fun w (d : Ram w h1' base n mem F1) => write_no d addr size xv HAA.out OKS.out.2 hh')
                have P2 := Lib.hid (fun w (d : Ref.Mem w h2' base n mem F2) => Ref.write_no d addr size xv HAA.out OKS.out.2 hh')
                clear hh hh'
                go_wp2_with (go_at_call 9; refine (TP.out _).mono ?_; rintro e wx ⟨rfl, rfl⟩)
                have GD := Lib.hid (G3.out.below (Below.drew (Below.refl w3.heap.size w3)))
                go_region_held3 (fun w' => w'.cell? ⟨g13, 1, none⟩ = some (.int .i64 size) ∧ w'.cell? ⟨g13, 3, none⟩ = some (.int .u64 xv))
                  (first
                    | exact ⟨c1, c3⟩
                    | exact HK4.out)
                  (first
                    | ((with_reducible refine (P1.out _ GD.out.duo.one).mono ?_); rintro e w4 ⟨rfl, hw⟩; have hb := below_drawn hw; have G4 := Lib.hid (GD.out.below hb); have HK4 := Lib.hid (show w4.cell? ⟨g13, 1, none⟩ = some (.int .i64 size) ∧ w4.cell? ⟨g13, 3, none⟩ = some (.int .u64 xv) from ⟨(World.cell?_of_block (w := w3) (hb.block g13 F13.out.lt)).trans c1, (World.cell?_of_block (w := w3) (hb.block g13 F13.out.lt)).trans c3⟩); clear hw hb)
                    | ((with_reducible refine (P2.out _ G4.out.duo.two).mono ?_); rintro e w5 ⟨rfl, rfl⟩))
                go_wp2
                exact ⟨⟨k + 1, h1', h2', _, _, _, ls, by omega, by have := HLK.out; omega, by go_num, rfl, rfl, G4.out⟩, by simp [intOf]; omega⟩
          · have TP := Lib.hid (fun w => (TPK.out w).mono fun e w' h => (by rw [hk6] at h; exact h : e = .returned (.int .i64 1) ∧ w = w'))
            clear TPK hk6
            by_cases hh : (wholeB size && hasB base n addr size) = true
            · as_aux_lemma =>
                have hw1 : wholeB size = true := by cases h : wholeB size <;> simp [h] at hh ⊢
                have hh1 : hasB base n addr size = true := by cases h : hasB base n addr size <;> simp [h] at hh ⊢
                obtain ⟨s, hs⟩ := Int.eq_ofNat_of_zero_le (show 0 ≤ size by have := of_decide_eq_true hw1; omega)
                have P1 := Lib.hid (fun w (d : Ram w h1' base n mem F1) => pread_z d addr size s hs HAA.out (by rw [← hs]; exact hw1) (by rw [← hs]; exact hh1))
                have P2 := Lib.hid (fun w (d : Ref.Mem w h2' base n mem F2) => rread_z d addr size s hs HAA.out (by rw [← hs]; exact hw1) (by rw [← hs]; exact hh1))
                clear hh hw1 hh1 hs
                go_wp2_with (first
                  | (go_at_call 9; refine (TP.out _).mono ?_; rintro e wx ⟨rfl, rfl⟩)
                  | (go_at_call 11; refine (P1.out _ G3.out.duo.one).mono ?_; rintro e w4 ⟨rfl, hw⟩; have hb := below_drawn hw; have G4 := Lib.hid (G3.out.below hb); have g1 := (F13.out.below hb).cell 1; simp only [List.getElem?_toArray, List.getElem?_cons_zero, List.getElem?_cons_succ] at g1; clear hw hb c0 c1 c3 c5)
                  | (go_at_call 27; refine (P2.out _ G4.out.duo.two).mono ?_; rintro e w5 ⟨rfl, rfl⟩))
                exact ⟨⟨k + 1, h1', h2', _, _, _, ls, by omega, by have := HLK.out; omega, by go_num, rfl, rfl, G4.out⟩, by simp [intOf]; omega⟩
            · as_aux_lemma =>
                have hh' : (wholeB size && hasB base n addr size) = false := by simpa using hh
                have P1 := Lib.hid (fun w (d : Ram w h1' base n mem F1) => read_no d addr size HAA.out OKS.out.2 hh')
                have P2 := Lib.hid (fun w (d : Ref.Mem w h2' base n mem F2) => Ref.read_no d addr size HAA.out OKS.out.2 hh')
                clear hh hh'
                go_wp2_with (first
                  | (go_at_call 9; refine (TP.out _).mono ?_; rintro e wx ⟨rfl, rfl⟩)
                  | (go_at_call 11; refine (P1.out _ G3.out.duo.one).mono ?_; rintro e w4 ⟨rfl, hw⟩; have hb := below_drawn hw; have G4 := Lib.hid (G3.out.below hb); have g1 := (F13.out.below hb).cell 1; simp only [List.getElem?_toArray, List.getElem?_cons_zero, List.getElem?_cons_succ] at g1; clear hw hb c0 c1 c3 c5)
                  | (go_at_call 27; refine (P2.out _ G4.out.duo.two).mono ?_; rintro e w5 ⟨rfl, rfl⟩))
                exact ⟨⟨k + 1, h1', h2', _, _, _, ls, by omega, by have := HLK.out; omega, by go_num, rfl, rfl, G4.out⟩, by simp [intOf]; omega⟩
          · have TP := Lib.hid (fun w => (TPK.out w).mono fun e w' h => (by rw [hk6] at h; exact h : e = .returned (.int .i64 2) ∧ w = w'))
            clear TPK hk6
            by_cases hh : hasB base n addr bl = true
            · as_aux_lemma =>
                have BB := Lib.hid (show ∀ k, k < bl → 0 ≤ bf k ∧ bf k < 256 from fun k hk => by obtain ⟨_, _, _, _, h⟩ := OKR.out k hk; exact h)
                have HHH := Lib.hid hh
                clear hh
                go_wp2_with (go_at_call 9; refine (TP.out _).mono ?_; rintro e wx ⟨rfl, rfl⟩)
                have GD := Lib.hid (G3.out.below (Below.drew (Below.refl w3.heap.size w3)))
                have RD3 := Lib.hid (OKR.out.mod GD.out.duo.mod (fun _ _ h => h) (fun k hk => hk))
                go_region_held3 (fun w' => w'.cell? ⟨g13, 5, none⟩ = some (.slice A bl bc))
                  (first
                    | exact c5
                    | exact HK4.out
                    | exact HK5.out
                    | exact HK6.out)
                  (first
                    | ((with_reducible refine (copyBytes_any (Arg.mk RD3.out OKN.out) OKL.out).mono ?_); rintro e w4 ⟨vc, rfl, own, hb⟩; obtain ⟨Ac, cc, rfl, rdc⟩ := own_rd own BB.out; have RC := Lib.hid rdc; have G4 := Lib.hid (GD.out.below hb); have L4 := Lib.hid (show g13 < w4.heap.size ∧ w3.heap.size ≤ w4.heap.size from ⟨Nat.lt_of_lt_of_le F13.out.lt hb.size, hb.size⟩); have HK4 := Lib.hid (show w4.cell? ⟨g13, 5, none⟩ = some (.slice A bl bc) from (World.cell?_of_block (w := w3) (hb.block g13 F13.out.lt)).trans c5); have RD4 := Lib.hid (RD3.out.below hb (fun k hk => Nat.lt_of_lt_of_le hk GD.out.duo.mod.size)); clear own rdc hb)
                    | ((with_reducible refine (fill_yes G4.out.duo.one addr RC.out (fun k hk => ⟨fun h => by have := GD.out.duo.one.bound k h; omega, hk.2⟩) HAA.out HHH.out).mono ?_); rintro e w5 ⟨rfl, r, m⟩; have R5 := Lib.hid r; have M5 := Lib.hid m; have T5 := Lib.hid (G4.out.duo.two.mod m (fun k a b => G4.out.duo.apart k b a)); have RD5 := Lib.hid (RD4.out.mod m (fun k hk h => by have := G4.out.duo.new k (.inl h); omega) (fun k hk => Nat.lt_of_lt_of_le hk G4.out.duo.mod.size)); have HK5 := Lib.hid (show w5.cell? ⟨g13, 5, none⟩ = some (.slice A bl bc) from (World.cell?_of_block (w := w4) (m.block g13 L4.out.1 (fun h => HW3.out.2 _ (.inl h) rfl))).trans HK4.out); have L5 := Lib.hid (show g13 < w5.heap.size from Nat.lt_of_lt_of_le L4.out.1 m.size); clear r m)
                    | ((with_reducible refine (Ref.fill_yes T5.out addr RD5.out (fun k hk => ⟨fun h => by have := G4.out.duo.new k (.inr h); omega, Nat.lt_of_lt_of_le hk (Nat.le_trans G4.out.duo.mod.size M5.out.size)⟩) HAA.out HHH.out).mono ?_); rintro e w6 ⟨rfl, r, m⟩; have R6 := Lib.hid r; have M6 := Lib.hid m; have HK6 := Lib.hid (show w6.cell? ⟨g13, 5, none⟩ = some (.slice A bl bc) from (World.cell?_of_block (w := w5) (m.block g13 L5.out (fun h => HW3.out.2 _ (.inr h) rfl))).trans HK5.out); clear r m))
                have MM := (M5.out.mono (fun k _ (h : F1 k) => (.inl h : F1 k ∨ F2 k))).trans (M6.out.mono fun k _ (h : F2 k) => .inr h)
                have GS := Lib.hid (G4.out.step (G4.out.duo.step R5.out M5.out R6.out M6.out) MM (fun k hk h => by
                  have hs := M5.out.size
                  rcases h with (h | h) | (h | h)
                  · exact .inl h
                  · omega
                  · exact .inr h
                  · omega))
                clear MM
                go_wp2
                exact ⟨⟨k + 1, h1', h2', _, _, _, ls, by omega, by have := HLK.out; omega, by go_num, rfl, rfl, GS.out⟩, by simp [intOf]; omega⟩
            · as_aux_lemma =>
                have BB := Lib.hid (show ∀ k, k < bl → 0 ≤ bf k ∧ bf k < 256 from fun k hk => by obtain ⟨_, _, _, _, h⟩ := OKR.out k hk; exact h)
                have HHH := Lib.hid (show hasB base n addr bl = false by simpa using hh)
                clear hh
                go_wp2_with (go_at_call 9; refine (TP.out _).mono ?_; rintro e wx ⟨rfl, rfl⟩)
                have GD := Lib.hid (G3.out.below (Below.drew (Below.refl w3.heap.size w3)))
                have RD3 := Lib.hid (OKR.out.mod GD.out.duo.mod (fun _ _ h => h) (fun k hk => hk))
                go_region_held3 (fun w' => w'.cell? ⟨g13, 5, none⟩ = some (.slice A bl bc))
                  (first
                    | exact c5
                    | exact HK4.out
                    | exact HK5.out)
                  (first
                    | ((with_reducible refine (copyBytes_any (Arg.mk RD3.out OKN.out) OKL.out).mono ?_); rintro e w4 ⟨vc, rfl, own, hb⟩; obtain ⟨Ac, cc, rfl, rdc⟩ := own_rd own BB.out; have RC := Lib.hid rdc; have G4 := Lib.hid (GD.out.below hb); have L4 := Lib.hid (show g13 < w4.heap.size ∧ w3.heap.size ≤ w4.heap.size from ⟨Nat.lt_of_lt_of_le F13.out.lt hb.size, hb.size⟩); have HK4 := Lib.hid (show w4.cell? ⟨g13, 5, none⟩ = some (.slice A bl bc) from (World.cell?_of_block (w := w3) (hb.block g13 F13.out.lt)).trans c5); have RD4 := Lib.hid (RD3.out.below hb (fun k hk => Nat.lt_of_lt_of_le hk GD.out.duo.mod.size)); clear own rdc hb)
                    | ((with_reducible refine (fill_no G4.out.duo.one addr Ac bl cc HAA.out (by have := OKL.out; omega) HHH.out).mono ?_); rintro e w5 ⟨rfl, hw⟩; have hb := below_drawn hw; have G5 := Lib.hid (G4.out.below hb); have HK5 := Lib.hid (show w5.cell? ⟨g13, 5, none⟩ = some (.slice A bl bc) from (World.cell?_of_block (w := w4) (hb.block g13 L4.out.1)).trans HK4.out); clear hw hb)
                    | ((with_reducible refine (Ref.fill_no G5.out.duo.two addr A bl bc HAA.out (by have := OKL.out; omega) HHH.out).mono ?_); rintro e w6 ⟨rfl, rfl⟩))
                go_wp2
                exact ⟨⟨k + 1, h1', h2', _, _, _, ls, by omega, by have := HLK.out; omega, by go_num, rfl, rfl, G5.out⟩, by simp [intOf]; omega⟩
          · have TP := Lib.hid (fun w => (TPK.out w).mono fun e w' h => (by rw [hk6] at h; exact h : e = .returned (.int .i64 3) ∧ w = w'))
            clear TPK hk6
            have tb := tmod_bd size 5000 (by decide)
            obtain ⟨tm, htm⟩ : ∃ tm, size.tmod 5000 = tm := ⟨_, rfl⟩
            rw [htm] at tb
            have b2 : IntKind.i64.wrap tm = tm := IntWalk.i64_in _ (by omega)
            have BY := Lib.hid (show ∀ i, i < n * 4096 → 0 ≤ mem i ∧ mem i < 256 from fun i hi => G3.out.duo.one.byte hi)
            by_cases hh : hasB base n addr tm = true
            · as_aux_lemma =>
                obtain ⟨hq1, hq2, hq3⟩ := of_decide_eq_true hh
                obtain ⟨s, hs⟩ := Int.eq_ofNat_of_zero_le hq1
                have P1 := Lib.hid (fun w (d : Ram w h1' base n mem F1) => bytes_z d addr tm s hs HAA.out (by omega) (by rw [← hs]; exact hh))
                have P2 := Lib.hid (fun w (d : Ref.Mem w h2' base n mem F2) => rbytes_z d addr tm s hs HAA.out (by omega) (by rw [← hs]; exact hh))
                have BS := Lib.hid (show ∀ i, i < s → 0 ≤ mem ((addr - base).toNat + i) ∧ mem ((addr - base).toNat + i) < 256 from fun i hi => BY.out _ (by omega))
                have S5 := Lib.hid (show s ≤ 1000000000000 from by omega)
                clear hh hq1 hq2 hq3 tb hs
                go_wp2_with (first
                  | (go_at_call 9; refine (TP.out _).mono ?_; rintro e wx ⟨rfl, rfl⟩)
                  | (go_at_call 16; refine (P1.out _ G3.out.duo.one).mono ?_; rintro e w4 ⟨ga, rfl, bx, hga, hb⟩; have G4 := Lib.hid (G3.out.below hb); have X4 := Lib.hid bx; have g1 := (F13.out.below hb).cell 1; simp only [List.getElem?_toArray, List.getElem?_cons_zero, List.getElem?_cons_succ] at g1; clear bx hga hb c0 c1 c3 c5)
                  | (go_at_call 30; refine (P2.out _ G4.out.duo.two).mono ?_; rintro e w5 ⟨gb, rfl, bx, hgb, hb⟩; have G5 := Lib.hid (G4.out.below hb); have X5 := Lib.hid (X4.out.below hb); have Y5 := Lib.hid bx; clear bx hgb hb g1)
                  | (go_at_call 17; refine (same_rows (ca := s) (cb := s) X5.out Y5.out (fun i hi => rfl) BS.out S5.out).mono ?_; rintro e w6 ⟨rfl, hw⟩; have G6 := Lib.hid (G5.out.below (below_drawn hw)); clear hw))
                exact ⟨⟨k + 1, h1', h2', _, _, _, ls, by omega, by have := HLK.out; omega, by go_num, rfl, rfl, G6.out⟩, by simp [intOf]; omega⟩
            · as_aux_lemma =>
                have hh' : hasB base n addr tm = false := by simpa using hh
                have P1 := Lib.hid (fun w (d : Ram w h1' base n mem F1) => bytes_no d addr tm HAA.out (by omega) hh')
                have P2 := Lib.hid (fun w (d : Ref.Mem w h2' base n mem F2) => Ref.bytes_no d addr tm HAA.out (by omega) hh')
                clear hh hh' tb
                go_wp2_with (first
                  | (go_at_call 9; refine (TP.out _).mono ?_; rintro e wx ⟨rfl, rfl⟩)
                  | (go_at_call 16; refine (P1.out _ G3.out.duo.one).mono ?_; rintro e w4 ⟨rfl, hw⟩; have hb := below_drawn hw; have G4 := Lib.hid (G3.out.below hb); have g1 := (F13.out.below hb).cell 1; simp only [List.getElem?_toArray, List.getElem?_cons_zero, List.getElem?_cons_succ] at g1; clear hw hb c0 c1 c3 c5)
                  | (go_at_call 30; refine (P2.out _ G4.out.duo.two).mono ?_; rintro e w5 ⟨rfl, rfl⟩)
                  | (go_at_call 17; refine (same_any (A := none) (B := none) (n := 0) (ca := 0) (cb := 0) (f := fun _ => 0) (G := fun _ => True) (G' := fun _ => True) (fun i hi => absurd hi (Nat.not_lt_zero i)) (fun i hi => absurd hi (Nat.not_lt_zero i)) (by decide)).mono ?_; rintro e w6 ⟨rfl, hw⟩; have G6 := Lib.hid (G4.out.below (below_drawn hw)); clear hw))
                exact ⟨⟨k + 1, h1', h2', _, _, _, ls, by omega, by have := HLK.out; omega, by go_num, rfl, rfl, G6.out⟩, by simp [intOf]; omega⟩
          · have TP := Lib.hid (fun w => (TPK.out w).mono fun e w' h => (by rw [hk6] at h; exact h : e = .returned (.int .i64 4) ∧ w = w'))
            clear TPK hk6
            by_cases hh : 0 ≤ size ∧ size < n
            · as_aux_lemma =>
                obtain ⟨q, hq⟩ := Int.eq_ofNat_of_zero_le hh.1
                have P1 := Lib.hid (fun w (d : Ram w h1' base n mem F1) => clear_z d size q hq (by omega))
                have P2 := Lib.hid (fun w (d : Ref.Mem w h2' base n mem F2) => rclear_z d size q hq (by omega))
                clear hh hq
                go_wp2_with (go_at_call 9; refine (TP.out _).mono ?_; rintro e wx ⟨rfl, rfl⟩)
                have GD := Lib.hid (G3.out.below (Below.drew (Below.refl w3.heap.size w3)))
                go_region_held3 (fun w' => w'.cell? ⟨g13, 1, none⟩ = some (.int .i64 size))
                  (first
                    | exact c1
                    | exact HK4.out
                    | exact HK5.out)
                  (first
                    | ((with_reducible refine (P1.out _ GD.out.duo.one).mono ?_); rintro e w4 ⟨rfl, r, m⟩; have R4 := Lib.hid r; have M4 := Lib.hid m; have T4 := Lib.hid (GD.out.duo.two.mod m (fun k a b => GD.out.duo.apart k b a)); have HK4 := Lib.hid (show w4.cell? ⟨g13, 1, none⟩ = some (.int .i64 size) from (World.cell?_of_block (w := w3) (m.block g13 F13.out.lt (fun h => HW3.out.2 _ (.inl h) rfl))).trans c1); have L4 := Lib.hid (show g13 < w4.heap.size from Nat.lt_of_lt_of_le F13.out.lt m.size); clear r m)
                    | ((with_reducible refine (P2.out _ T4.out).mono ?_); rintro e w5 ⟨rfl, r, m⟩; have R5 := Lib.hid r; have M5 := Lib.hid m; have HK5 := Lib.hid (show w5.cell? ⟨g13, 1, none⟩ = some (.int .i64 size) from (World.cell?_of_block (w := w4) (m.block g13 L4.out (fun h => HW3.out.2 _ (.inr h) rfl))).trans HK4.out); clear r m))
                have MM := (M4.out.mono (fun k _ (h : F1 k) => (.inl h : F1 k ∨ F2 k))).trans (M5.out.mono fun k _ (h : F2 k) => .inr h)
                have GS := Lib.hid (GD.out.step (GD.out.duo.step R4.out M4.out R5.out M5.out) MM (fun k hk h => by
                  have hs := M4.out.size
                  rcases h with (h | h) | (h | h)
                  · exact .inl h
                  · omega
                  · exact .inr h
                  · omega))
                clear MM
                go_wp2
                exact ⟨⟨k + 1, h1', h2', _, _, _, ls, by omega, by have := HLK.out; omega, by go_num, rfl, rfl, GS.out⟩, by simp [intOf]; omega⟩
            · as_aux_lemma =>
                have P1 := Lib.hid (fun w (d : Ram w h1' base n mem F1) => clear_no d size hh)
                have P2 := Lib.hid (fun w (d : Ref.Mem w h2' base n mem F2) => Ref.clear_no d size hh)
                clear hh
                go_wp2_with (go_at_call 9; refine (TP.out _).mono ?_; rintro e wx ⟨rfl, rfl⟩)
                have GD := Lib.hid (G3.out.below (Below.drew (Below.refl w3.heap.size w3)))
                go_region_held3 (fun w' => w'.cell? ⟨g13, 1, none⟩ = some (.int .i64 size))
                  (first
                    | exact c1)
                  (first
                    | ((with_reducible refine (P1.out _ GD.out.duo.one).mono ?_); rintro e w4 ⟨rfl, rfl⟩)
                    | ((with_reducible refine (P2.out _ GD.out.duo.two).mono ?_); rintro e w5 ⟨rfl, rfl⟩))
                go_wp2
                exact ⟨⟨k + 1, h1', h2', _, _, _, ls, by omega, by have := HLK.out; omega, by go_num, rfl, rfl, GD.out⟩, by simp [intOf]; omega⟩
          · have TP := Lib.hid (fun w => (TPK.out w).mono fun e w' h => (by rw [hk6] at h; exact h : e = .returned (.int .i64 5) ∧ w = w'))
            clear TPK hk6
            by_cases hh : size.tmod 2 = 0
            · as_aux_lemma =>
                have de : (size.tmod 2 == 0) = true := by simpa using hh
                have hlb := HLB.out
                have hlk := HLK.out
                clear hh
                go_wp2_with (first
                  | (go_at_call 9; refine (TP.out _).mono ?_; rintro e wx ⟨rfl, rfl⟩)
                  | (go_at_call 20; refine (copy_any G3.out.duo.one).mono ?_; rintro e w4 ⟨c4, rfl, r, hb⟩; have R4 := Lib.hid r; have B4 := Lib.hid hb; have G4 := Lib.hid (G3.out.below hb); clear r hb)
                  | (go_at_call 32; refine (Ref.copy_any G4.out.duo.two).mono ?_; rintro e w5 ⟨d5, rfl, r, hb⟩; have G5 := Lib.hid (G4.out.below hb); have ND := Lib.hid (Duo.made G3.out.duo.mod R4.out (Mod.of_below B4.out Nil) r (Mod.of_below hb Nil)); have g1 := ((F13.out.below B4.out).below hb).cell 1; simp only [List.getElem?_toArray, List.getElem?_cons_zero, List.getElem?_cons_succ] at g1; clear r hb c0 c1 c3 c5)
                  | ((with_reducible refine Step.gate_build (t := 56) rfl ?_); refine Step.freshSlice (cs := #[.pointer (some ⟨h1', 0, none⟩), .pointer (some ⟨h2', 0, none⟩)]) (T := 62) (n := 1) (m := 1) rfl ?hr ?_; (case hr => first | (go_simp; done) | (go_simp; rfl)); intro gb wb b hgb hbb; have NBk := Lib.hid b; have G6 := Lib.hid (G5.out.below hbb); have ND6 := Lib.hid (ND.out.below hbb); clear b hgb hbb)
                  | (at_builtin; refine wpList_append_own _ rfl _ _ 56 rfl W.heap.size 62 it _ 2 16 Try.underlying56 HI.out HIZ.out HIS.out HIB.out rfl (by omega) _ ls.length (ls.flatMap Oth.cells) rfl G6.out.own ⟨gb, 0, none⟩ 1 1 [.pointer (some ⟨h1', 0, none⟩), .pointer (some ⟨h2', 0, none⟩)] rfl rfl ?h2 (by intro u hu; simp at hu; rcases hu with rfl | rfl <;> rfl) ?h3 ?h4 G6.out.duo.mod.size ?_; rotate_right; intro v' w' own' grow' hv; have OW := Lib.hid own'; have GR := Lib.hid grow'; clear own' grow' hv))
                case h2 =>
                  intro j u hu
                  have hj : j < 2 := by have := (List.getElem?_eq_some_iff.1 hu).1; simp at this; omega
                  have hadd : (⟨gb, 0, none⟩ : Addr).add j = ⟨gb, j, none⟩ := by unfold Addr.add; split <;> simp_all
                  rw [hadd, NBk.out.cell j]
                  obtain e | e : j = 0 ∨ j = 1 := by omega
                  · subst e; exact hu
                  · subst e; exact hu
                case h3 => unfold maxLen; omega
                case h4 => omega
                have NB6 := Lib.hid (show ∀ k, (Grow Nil w3 w4 k ∧ NotTwo wb k) ∨ (Grow Nil w4 w5 k ∧ NotTwo wb k) → w3.heap.size ≤ k from fun k h => by
                  have := B4.out.size
                  rcases h with ⟨h | h, _⟩ | ⟨h | h, _⟩
                  · exact h.elim
                  · exact h.1
                  · exact h.elim
                  · omega)
                have G7 := G6.out.append (p := ⟨h1', h2', mem, F1, F2⟩) OW.out GR.out G6.out.duo G6.out.typed (duo_typed ND6.out) (fun k h => h.elim (fun a => a.2) fun a => a.2) (fun k h h2 => by have := NB6.out k h; have := G3.out.duo.bound k h2; omega) (fun q hq k h h2 => by have := NB6.out k h; have := (G3.out.oth q hq).1.bound k h2; omega)
                exact ⟨⟨k + 1, c4, d5, _, _, _, ls ++ [⟨h1', h2', mem, F1, F2⟩], by omega, by rw [List.length_append]; simp; omega, by go_num, rfl, rfl, G7⟩, by simp [intOf]; omega⟩
            · as_aux_lemma =>
                have de : (size.tmod 2 == 0) = false := by simpa using hh
                have hlb := HLB.out
                have hlk := HLK.out
                clear hh
                go_wp2_with (first
                  | (go_at_call 9; refine (TP.out _).mono ?_; rintro e wx ⟨rfl, rfl⟩)
                  | (go_at_call 20; refine (copy_any G3.out.duo.one).mono ?_; rintro e w4 ⟨c4, rfl, r, hb⟩; have R4 := Lib.hid r; have B4 := Lib.hid hb; have G4 := Lib.hid (G3.out.below hb); clear r hb)
                  | (go_at_call 32; refine (Ref.copy_any G4.out.duo.two).mono ?_; rintro e w5 ⟨d5, rfl, r, hb⟩; have G5 := Lib.hid (G4.out.below hb); have ND := Lib.hid (Duo.made G3.out.duo.mod R4.out (Mod.of_below B4.out Nil) r (Mod.of_below hb Nil)); have g1 := ((F13.out.below B4.out).below hb).cell 1; simp only [List.getElem?_toArray, List.getElem?_cons_zero, List.getElem?_cons_succ] at g1; clear r hb c0 c1 c3 c5)
                  | ((with_reducible refine Step.gate_build (t := 56) rfl ?_); refine Step.freshSlice (cs := #[.pointer (some ⟨c4, 0, none⟩), .pointer (some ⟨d5, 0, none⟩)]) (T := 62) (n := 1) (m := 1) rfl ?hr ?_; (case hr => first | (go_simp; done) | (go_simp; rfl)); intro gb wb b hgb hbb; have NBk := Lib.hid b; have G6 := Lib.hid (G5.out.below hbb); have ND6 := Lib.hid (ND.out.below hbb); clear b hgb hbb)
                  | (at_builtin; refine wpList_append_own _ rfl _ _ 56 rfl W.heap.size 62 it _ 2 16 Try.underlying56 HI.out HIZ.out HIS.out HIB.out rfl (by omega) _ ls.length (ls.flatMap Oth.cells) rfl G6.out.own ⟨gb, 0, none⟩ 1 1 [.pointer (some ⟨c4, 0, none⟩), .pointer (some ⟨d5, 0, none⟩)] rfl rfl ?h2 (by intro u hu; simp at hu; rcases hu with rfl | rfl <;> rfl) ?h3 ?h4 G6.out.duo.mod.size ?_; rotate_right; intro v' w' own' grow' hv; have OW := Lib.hid own'; have GR := Lib.hid grow'; clear own' grow' hv))
                case h2 =>
                  intro j u hu
                  have hj : j < 2 := by have := (List.getElem?_eq_some_iff.1 hu).1; simp at this; omega
                  have hadd : (⟨gb, 0, none⟩ : Addr).add j = ⟨gb, j, none⟩ := by unfold Addr.add; split <;> simp_all
                  rw [hadd, NBk.out.cell j]
                  obtain e | e : j = 0 ∨ j = 1 := by omega
                  · subst e; exact hu
                  · subst e; exact hu
                case h3 => unfold maxLen; omega
                case h4 => omega
                have NB6 := Lib.hid (show ∀ k, (Grow Nil w3 w4 k ∧ NotTwo wb k) ∨ (Grow Nil w4 w5 k ∧ NotTwo wb k) → w3.heap.size ≤ k from fun k h => by
                  have := B4.out.size
                  rcases h with ⟨h | h, _⟩ | ⟨h | h, _⟩
                  · exact h.elim
                  · exact h.1
                  · exact h.elim
                  · omega)
                have G7 := G6.out.append (p := ⟨c4, d5, mem, fun k => Grow Nil w3 w4 k ∧ NotTwo wb k, fun k => Grow Nil w4 w5 k ∧ NotTwo wb k⟩) OW.out GR.out (duo_typed ND6.out) (fun k h => h.elim (fun a => a.2) fun a => a.2) G6.out.duo G6.out.typed (fun k h h2 => by have := NB6.out k h2; have := G3.out.duo.bound k h; omega) (fun q hq => (G6.out.oth q hq).2.2)
                exact ⟨⟨k + 1, h1', h2', _, _, _, ls ++ [⟨c4, d5, mem, fun k => Grow Nil w3 w4 k ∧ NotTwo wb k, fun k => Grow Nil w4 w5 k ∧ NotTwo wb k⟩], by omega, by rw [List.length_append]; simp; omega, by go_num, rfl, rfl, G7⟩, by simp [intOf]; omega⟩
      · have hkl : len = k := by omega
        subst hkl
        have LL := Lib.hid (show ls.length ≤ 9223372036854775807 from Nat.le_trans HLK.out HL.out)
        obtain ⟨A2, cap2, rfl, hcells⟩ := own_pairs G.out.own
        have PC := Lib.hid hcells
        clear hcells HLK
        go_wp2
        go_loopw [26] (fun i w => ∃ j : Nat, j ≤ ls.length ∧ i = .int .i64 j ∧ Below wr.heap.size wr w) (fun i _ => (ls.length - intOf i).toNat)
        case atStart => exact ⟨0, Nat.zero_le _, rfl, Below.refl _ _⟩
        case round =>
          obtain ⟨j, hj, rfl, hbw⟩ := hrel
          have GJ := Lib.hid (G.out.below hbw)
          have BJ := Lib.hid hbw
          by_cases hj2 : j < ls.length
          · obtain ⟨ae, rfl, p0, p1, hae⟩ := PC.out j hj2
            have q0 : wr.cell? (ae.add (j * 2)) = some (.pointer (some ⟨(ls[j]'hj2).h1, 0, none⟩)) := (World.cell?_of_block (hbw.block _ (by rw [Mem.block_add]; exact hae))).trans p0
            have q1 : wr.cell? ⟨(ae.add (j * 2)).block, (ae.add (j * 2)).off + 1, none⟩ = some (.pointer (some ⟨(ls[j]'hj2).h2, 0, none⟩)) := by
              have e : (⟨(ae.add (j * 2)).block, (ae.add (j * 2)).off + 1, none⟩ : Addr) = ae.add (j * 2 + 1) := by unfold Addr.add; by_cases h : j * 2 = 0 <;> simp [h, Nat.add_assoc]
              rw [e]
              exact (World.cell?_of_block (hbw.block _ (by rw [Mem.block_add]; exact hae))).trans p1
            have SA := Lib.hid (show Calls Try.prog 33 #[.agg #[.pointer (some ⟨(ls[j]'hj2).h1, 0, none⟩), .pointer (some ⟨(ls[j]'hj2).h2, 0, none⟩)]] wr fun e W' => e = .returned (.bool true) ∧ Below wr.heap.size wr W' from Ref.same_two (GJ.out.oth _ (List.getElem_mem hj2)).1.one (GJ.out.oth _ (List.getElem_mem hj2)).1.two)
            have hll : ls.length ≤ 9223372036854775807 := LL.out
            clear p0 p1 hbw
            generalize (ls[j]'hj2).h1 = y1 at q0 SA
            generalize (ls[j]'hj2).h2 = y2 at q1 SA
            go_wp2_with (go_at_call 33; refine (SA.out).mono ?_; rintro e w5 ⟨rfl, hb⟩; have HB := Lib.hid hb; clear hb)
            exact ⟨⟨j + 1, by omega, by go_num, BJ.out.trans (HB.out.mono BJ.out.size)⟩, by simp [intOf]; omega⟩
          · have hjl : ls.length = j := by omega
            clear hbw
            have SA := Lib.hid (Ref.same_two GJ.out.duo.one GJ.out.duo.two)
            go_wp2_with (first
              | (go_at_call 33; refine (SA.out).mono ?_; rintro e w5 ⟨rfl, hb⟩; have G5 := Lib.hid (GJ.out.below hb); clear hb)
              | (go_at_call 14; refine (AW.out _).mono ?_; rintro e w6 ⟨rfl, hb⟩; have G6 := Lib.hid (G5.out.below hb); clear hb))
            go_ret
            exact ⟨rfl, G6.out.duo.out⟩
end Go.Proofs.Ytkdohejocmkljaa.Duo
