/- law00.Memory: written cell by cell. -/
import Derived.Test.YtfoocpcpljlndaaMemory
namespace Go.Proofs.Ytfoocpcpljlndaa.Duo
open Go Go.RowKit Go.Proofs.Ytfoocpcpljlndaa.Step Go.Proofs.Ytfoocpcpljlndaa.Mem
set_option linter.unusedVariables false
set_option linter.unusedSimpArgs false
set_option maxRecDepth 100000

/-- A slice's cells: the place and the number of each. -/
def RdC (W : World) (A : Option Addr) (n : Nat) (f : Nat → Int × Int) (G : Nat → Prop) : Prop :=
  ∀ i, i < n → ∃ ad, A = some ad ∧ G ad.block ∧ W.cell? (ad.add (i * 2)) = some (.int .i64 (f i).1) ∧ W.cell? (ad.add (i * 2 + 1)) = some (.int .u64 (f i).2) ∧ (-9223372036854775808 ≤ (f i).1 ∧ (f i).1 < 9223372036854775808) ∧ (0 ≤ (f i).2 ∧ (f i).2 < 18446744073709551616)
/-- What a memory of so many frames holds when cells have been written into it. -/
def cm (n : Nat) (f : Nat → Int × Int) : Nat → Nat → Int
  | 0 => fun _ => 0
  | k + 1 => wr (cm n f k) (8 * ((f k).1 % ((512 * n : Nat) : Int))).toNat 8 (f k).2
theorem block_add (a : Addr) (k : Nat) : (a.add k).block = a.block := by unfold Addr.add; split <;> rfl
theorem addr_snd (a : Addr) (m : Nat) : (⟨(a.add m).block, (a.add m).off + 1, none⟩ : Addr) = a.add (m + 1) := by
  unfold Addr.add
  by_cases h : m = 0 <;> simp [h, Nat.add_assoc]
theorem RdC.mod {W W' : World} {A : Option Addr} {n : Nat} {f : Nat → Int × Int} {G S : Nat → Prop} (r : RdC W A n f G) (m : Mod S W W') (hs : ∀ k, G k → ¬ S k) (hG : ∀ k, G k → k < W.heap.size) : RdC W' A n f G := fun i hi => by
  obtain ⟨ad, e, g, h0, h1, h2⟩ := r i hi
  exact ⟨ad, e, g, (World.cell?_of_block (m.block _ (by rw [block_add]; exact hG _ g) (by rw [block_add]; exact hs _ g))).trans h0, (World.cell?_of_block (m.block _ (by rw [block_add]; exact hG _ g) (by rw [block_add]; exact hs _ g))).trans h1, h2⟩

theorem RdC.wide {W : World} {A : Option Addr} {n : Nat} {f : Nat → Int × Int} {G G' : Nat → Prop} (r : RdC W A n f G) (h : ∀ k, G k → G' k) : RdC W A n f G' := fun i hi => by
  obtain ⟨ad, e, g, h2⟩ := r i hi
  exact ⟨ad, e, h _ g, h2⟩
/-- The eight bytes of a number, written. -/
def wr_ (mem : Nat → Int) (o : Nat) (v : Int) : Nat → Int := wr mem o 8 v
theorem results_row_tmp {P : Program} {fn : Func} {p u : Tmp} {ty : TypeId} (h : fn.results = #[.cell p ty, .tmp u]) (tmps : Array Value) (w : World) (g : Nat) (t : TypeId) (cs : Array Value) (d : TypeDesc)
    (hp : tmps.getD p undef = .pointer (some ⟨g, 0, none⟩)) (hg : Blk w g cs t) (hu : P.underlying ty = some d) (hd : (match d with | .struct _ | .array _ _ => true | _ => false) = true) (hi : (P.info? ty).map (·.size) = some cs.size) :
    (results fn tmps).run P w = .ok (.tuple #[.agg cs, tmps.getD u undef]) w := by
  rw [results_cell_tmp h, hp]
  have h2 := run_loadVar_row (P := P) w g t ty cs (0, 0) d hg.out hu hd hi
  simp [asAddr, Result.andThen, h2]
theorem zero_two : (Try.prog.info? 31).bind (·.zero) = some (.agg #[.pointer none, .pointer none]) := by kernel_rfl
theorem alloc_agg {t : TypeId} {cs : Array Value} (h : (Try.prog.info? t).bind (·.zero) = some (.agg cs)) (W : World) : (Instr.alloc t true (.tuple #[])).run Try.prog W = .ok (.pointer (some ⟨W.heap.size, 0, none⟩)) (W.alloc (.cells cs t (0, 0))) := by
  cases hi : Try.prog.info? t with
  | none => rw [hi] at h; cases h
  | some i =>
    rw [hi] at h
    have hz : i.zero = some (.agg cs) := h
    simp [Instr.alloc, zeroValue, typeInfo, hi, hz, newVar, newRow, newObj, Result.andThen, Value.cells, go_sem]
    rfl
theorem new_z (w : World) (base z : Int) (n : Nat) (hz : z = n) (hb : 0 ≤ base ∧ base < 18446744073709551616) (h : newB base n = true) :
    Calls Try.prog 23 #[.int .u64 base, .int .i64 z] w fun e W' => ∃ h, e = .returned (.tuple #[.pointer (some ⟨h, 0, none⟩), .int .i64 0]) ∧ Ram W' h base n (fun _ => 0) (Grow Nil w W') ∧ Mod Nil w W' := by subst hz; exact new_yes w base n hb h
theorem rnew_z (w : World) (base z : Int) (n : Nat) (hz : z = n) (hb : 0 ≤ base ∧ base < 18446744073709551616) (h : newB base n = true) :
    Calls Try.prog 24 #[.int .u64 base, .int .i64 z] w fun e W' => ∃ h, e = .returned (.tuple #[.pointer (some ⟨h, 0, none⟩), .int .i64 0]) ∧ Ref.Mem W' h base n (fun _ => 0) (Grow Nil w W') ∧ Mod Nil w W' := by subst hz; exact Ref.new_yes w base n hb h
theorem size_two : (Try.prog.info? 31).map (·.size) = some 2 := by kernel_rfl

set_option maxHeartbeats 4000000 in
theorem memory_any (W : World) (base z : Int) (n : Nat) (hz : z = n) (hb : 0 ≤ base ∧ base < 18446744073709551616) (hn : newB base n = true) (A : Option Addr) (len cap : Nat) (f : Nat → Int × Int) (r : RdC W A len f (· < W.heap.size)) (hl : len ≤ 9223372036854775807) :
    Calls Try.prog 15 #[.int .u64 base, .int .i64 z, .slice A len cap] W fun e w' => ∃ h1 h2 F1 F2, e = .returned (.tuple #[.agg #[.pointer (some ⟨h1, 0, none⟩), .pointer (some ⟨h2, 0, none⟩)], .bool true]) ∧ Duo W w' h1 h2 base n (cm n f len) F1 F2 := by
  obtain ⟨n1, n2, nb, b2⟩ := of_decide_eq_true hn
  obtain ⟨b0, b1⟩ := hb
  have T1 := Lib.hid (fun w => new_z w base z n hz ⟨b0, b1⟩ hn)
  have T2 := Lib.hid (fun w => rnew_z w base z n hz ⟨b0, b1⟩ hn)
  have R := Lib.hid r
  have Z := Lib.hid hz
  have HL := Lib.hid hl
  have hu := Try.underlying31
  have w512 : IntKind.i64.wrap (512 * z) = 512 * n := by rw [hz]; exact IntWalk.i64_in _ (by omega)
  clear r hn hl hz nb
  go_enter Try.func15, Try.ntmps15
  go_wp2_with (first
    | ((with_reducible refine Step.gate_alloc (t := 31) rfl ?_); refine Step.freshAlloc rfl rfl (alloc_agg zero_two) ?_; (first
        | (have this := Lib.hid D0; intro g12 w4 b hg hb; have B12 := Lib.hid b; have B6c := Lib.hid (B6.out.below hb); have D1 := Lib.hid (D0.out.below hb); have HG12 := Lib.hid hg; clear b hg hb this)
        | (intro g6 w1 b hg hb; have B6a := Lib.hid b; have HB6 := Lib.hid hb; have HG6 := Lib.hid hg; clear b hg hb)))
    | (go_at_call 23; refine (T1.out _).mono ?_; rintro e w2 ⟨h1, rfl, r, m⟩; have R1 := Lib.hid r; have M1 := Lib.hid m; have B6b := Lib.hid (B6a.out.mod m (fun h => h)); clear r m)
    | (go_at_call 24; refine (T2.out _).mono ?_; rintro e w3 ⟨h2, rfl, r, m⟩; have D0 := Lib.hid (Duo.made (Mod.of_below HB6.out Nil) R1.out M1.out r m); have B6 := Lib.hid (B6b.out.mod m (fun h => h)); have L6 := Lib.hid (show ∀ k, Grow Nil w1 w2 k ∨ Grow Nil w2 w3 k → k ≠ g6 from fun k h e => by subst e; have := B6a.out.lt; have := M1.out.size; rcases h with (h | h) | (h | h) <;> first | exact h | omega); clear r m)
    | ((with_reducible refine Step.gate_store (t := 31) rfl ?_); refine Step.storeAll (vs := #[.pointer (some ⟨h1, 0, none⟩), .pointer (some ⟨h2, 0, none⟩)]) B12.out rfl rfl rfl rfl rfl size_two rfl rfl ?_; intro w5 nb m; have N12 := Lib.hid nb; have N6 := Lib.hid (B6c.out.one m (by have := B6.out.lt; have := HG12.out; omega)); have D2 := Lib.hid (D1.out.other m (fun k h e => by obtain rfl : k = g12 := e; have := D0.out.bound k h; have := HG12.out; omega) (fun k e => by obtain rfl : k = g12 := e; have := HG12.out; have := D0.out.mod.size; omega)); have L12 := Lib.hid (show ∀ k, Grow Nil w1 w2 k ∨ Grow Nil w2 w3 k → k ≠ g12 from fun k h e => by subst e; have := D0.out.bound k h; have := HG12.out; omega); clear nb m))
  have G12 := Lib.hid (show W.heap.size ≤ g12 from by have := HG12.out; have := D0.out.mod.size; omega)
  have NE := Lib.hid (show g6 ≠ g12 from by have := B6.out.lt; have := HG12.out; omega)
  obtain ⟨F1, F2, hD, hL6, hL12⟩ : ∃ F1 F2, Duo W w5 h1 h2 base n (cm n f 0) F1 F2 ∧ (∀ k, F1 k ∨ F2 k → k ≠ g6) ∧ (∀ k, F1 k ∨ F2 k → k ≠ g12) := ⟨_, _, D2.out, L6.out, L12.out⟩
  have DD := Lib.hid hD
  have LL6 := Lib.hid hL6
  have LL12 := Lib.hid hL12
  clear hD hL6 hL12 D0 D1 D2 L6 L12 R1 M1 B6 B6a B6b B6c B12 HG12 HB6
  go_loopw [13] (fun i w => ∃ k : Nat, k ≤ len ∧ i = .int .i64 k ∧ Blk w g12 #[.pointer (some ⟨h1, 0, none⟩), .pointer (some ⟨h2, 0, none⟩)] 31 ∧ Blk w g6 #[.pointer none, .pointer none] 31 ∧ ∃ F1 F2, Duo W w h1 h2 base n (cm n f k) F1 F2 ∧ (∀ k, F1 k ∨ F2 k → k ≠ g6) ∧ (∀ k, F1 k ∨ F2 k → k ≠ g12)) (fun i _ => (len - intOf i).toNat)
  case atStart => exact ⟨0, Nat.zero_le _, rfl, N12.out, N6.out, F1, F2, DD.out, LL6.out, LL12.out⟩
  case round =>
    clear DD LL6 LL12 N12 N6 F1 F2
    obtain ⟨k, hk, rfl, hB12, hB6, F1, F2, hD, hL6, hL12⟩ := hrel
    have DK := Lib.hid hD
    have K12 := Lib.hid hB12
    have K6 := Lib.hid hB6
    have LK6 := Lib.hid hL6
    have LK12 := Lib.hid hL12
    clear hD hB12 hB6 hL6 hL12
    by_cases hlt : k < len
    · obtain ⟨ad, rfl, hab, hc0, hc1, hv0, hv1⟩ := (R.out.mod DK.out.mod (fun k hk h => h) (fun k hk => hk)) k hlt
      obtain ⟨q, hq⟩ := Int.eq_ofNat_of_zero_le (show 0 ≤ (f k).1 % ((512 * n : Nat) : Int) from Int.emod_nonneg _ (by omega))
      have hq2 : (q : Int) < 512 * n := by have := Int.emod_lt_of_pos (f k).1 (show (0 : Int) < ((512 * n : Nat) : Int) by omega); omega
      have TP := Lib.hid (fun w => (place_any (f k).1 (512 * n) (by omega) hv0 (by omega) w).mono fun e w' h => (by rw [show (512 * n : Int) = ((512 * n : Nat) : Int) by omega, hq] at h; exact h : e = .returned (.int .i64 q) ∧ w = w'))
      have q1 : IntKind.u64.wrap (q : Int) = q := IntWalk.u64_in _ (by omega)
      have q2 : IntKind.u64.wrap (8 * (q : Int)) = 8 * q := IntWalk.u64_in _ (by omega)
      have q3 : IntKind.u64.wrap (base + 8 * (q : Int)) = base + 8 * q := IntWalk.u64_in _ (by omega)
      have TW := Lib.hid (fun w (hw : Below wr.heap.size wr w) => wboth (DK.out.below hw) (base + 8 * q) (f k).2 (by omega) hv1 (decide_eq_true (by omega)))
      have CM := Lib.hid (show cm n f (k + 1) = wr_ (cm n f k) (base + 8 * q - base).toNat (f k).2 from by show Mem.wr (cm n f k) (8 * ((f k).1 % ((512 * n : Nat) : Int))).toNat 8 (f k).2 = _; rw [hq]; unfold wr_; congr 1; omega)
      have LB := Lib.hid (show ad.block < wr.heap.size from by have := DK.out.mod.size; omega)
      have NA := Lib.hid (show ¬ (F1 ad.block ∨ F2 ad.block) from fun h => by have := DK.out.new _ h; omega)
      generalize (f k).1 = v0 at hc0 TP hq
      generalize (f k).2 = v1 at hc1 TW CM
      have e1 : ad.add (k * 2) = (ad.add (k * 2)) := rfl
      rw [← addr_snd] at hc1
      have cB := K12.out.cell 0
      have cC := K12.out.cell 1
      simp only [List.getElem?_toArray, List.getElem?_cons_zero, List.getElem?_cons_succ] at cB cC
      clear hv0 hv1 hq hq2 e1
      go_wp2
      go_region_held3 (fun w' => w'.cell? ⟨g12, 0, none⟩ = some (.pointer (some ⟨h1, 0, none⟩)) ∧ w'.cell? ⟨g12, 1, none⟩ = some (.pointer (some ⟨h2, 0, none⟩)) ∧ w'.cell? (ad.add (k * 2)) = some (.int .i64 v0) ∧ w'.cell? ⟨(ad.add (k * 2)).block, (ad.add (k * 2)).off + 1, none⟩ = some (.int .u64 v1))
        (first
          | exact ⟨cB, cC, hc0, hc1⟩
          | exact ⟨(World.cell?_of_block (w := wr) (hm.block g12 K12.out.lt (fun h => LK12.out _ h rfl))).trans cB, (World.cell?_of_block (w := wr) (hm.block g12 K12.out.lt (fun h => LK12.out _ h rfl))).trans cC, (World.cell?_of_block (w := wr) (hm.block _ (by rw [block_add]; exact LB.out) (by rw [block_add]; exact NA.out))).trans hc0, (show w9.cell? ⟨(ad.add (k * 2)).block, (ad.add (k * 2)).off + 1, none⟩ = wr.cell? ⟨(ad.add (k * 2)).block, (ad.add (k * 2)).off + 1, none⟩ from World.cell?_of_block (hm.block (ad.add (k * 2)).block (by rw [block_add]; exact LB.out) (by rw [block_add]; exact NA.out))).trans hc1⟩)
        (first
          | ((with_reducible refine (TP.out _).mono ?_); rintro e w8 ⟨rfl, rfl⟩)
          | ((with_reducible refine (TW.out _ (Below.drew (Below.refl _ _))).mono ?_); rintro e w9 ⟨rfl, F1', F2', hd, hf1, hf2, hm⟩))
      rename_i hHeld
      have HM := Lib.hid (show Mod (fun k => F1 k ∨ F2 k) wr w9 from ⟨hm.os, hm.tape, hm.output, hm.size, hm.block⟩)
      have HD := Lib.hid hd
      have HF1 := Lib.hid hf1
      have HF2 := Lib.hid hf2
      clear hHeld hm hd hf1 hf2 cB cC hc0 hc1
      have hlen := HL.out
      go_wp2
      refine ⟨⟨k + 1, by omega, by go_num, K12.out.mod HM.out (fun h => LK12.out _ h rfl), K6.out.mod HM.out (fun h => LK6.out _ h rfl), F1', F2', CM.out ▸ HD.out, fun j h e => ?_, fun j h e => ?_⟩, by simp [intOf]; omega⟩
      · subst e
        exact LK6.out j (h.elim (fun h => .inl (HF1.out j K6.out.lt h)) fun h => .inr (HF2.out j K6.out.lt h)) rfl
      · subst e
        exact LK12.out j (h.elim (fun h => .inl (HF1.out j K12.out.lt h)) fun h => .inr (HF2.out j K12.out.lt h)) rfl
    · obtain rfl : k = len := by omega
      have cB := K12.out.cell 0
      have cC := K12.out.cell 1
      simp only [List.getElem?_toArray, List.getElem?_cons_zero, List.getElem?_cons_succ] at cB cC
      go_wp2_with (first
        | ((with_reducible refine Step.gate_store (t := 31) rfl ?_); refine Step.storeAll (vs := #[.pointer (some ⟨h1, 0, none⟩), .pointer (some ⟨h2, 0, none⟩)]) K6.out rfl rfl rfl rfl rfl size_two rfl rfl ?_; intro w7 nb m; have N6 := Lib.hid nb; have D7 := Lib.hid (DK.out.other m (fun k h e => LK6.out _ h e) (fun k e => by obtain rfl : k = g6 := e; exact HG6.out)); clear nb m))
      refine bodyPost_ret (results_row_tmp rfl _ _ g6 _ _ _ rfl N6.out hu rfl size_two) rfl ⟨h1, h2, F1, F2, rfl, D7.out⟩
end Go.Proofs.Ytfoocpcpljlndaa.Duo
