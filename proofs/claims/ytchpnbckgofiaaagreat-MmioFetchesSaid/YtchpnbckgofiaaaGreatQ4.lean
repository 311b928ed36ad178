/- Parts of the walks and laws for the claim: MemoryB, LendA, Fill, DkM, CaseM, Seq, SeqB, Tab; no conditions beyond the theorems' own. -/
import Derived.Deep.RegionHeld3
import Derived.Laws.AppendOwn
import Derived.Laws.OwnMore
import Derived.Test.YtchpnbckgofiaaaGreatQ1
import Derived.Test.YtchpnbckgofiaaaGreatQ2
import Derived.Test.YtchpnbckgofiaaaGreatQ3
section
namespace Go.Proofs.YtchpnbckgofiaaaGreat.Duo
open Go Go.RowKit Go.Proofs.YtchpnbckgofiaaaGreat.Step Go.Proofs.YtchpnbckgofiaaaGreat.Mem
set_option linter.unusedVariables false
set_option linter.unusedSimpArgs false
set_option maxRecDepth 100000
/-- A slice's cells: the place and the number of each. -/
def RdC (W : World) (A : Option Addr) (n : Nat) (f : Nat → Int × Int) (G : Nat → Prop) : Prop :=
  ∀ i, i < n → ∃ ad, A = some ad ∧ G ad.block ∧ W.cell? (ad.add (i * 2)) = some (.int .i64 (f i).1) ∧ W.cell? (ad.add (i * 2 + 1)) = some (.int .u64 (f i).2) ∧ (-9223372036854775808 ≤ (f i).1 ∧ (f i).1 < 9223372036854775808) ∧ (0 ≤ (f i).2 ∧ (f i).2 < 18446744073709551616)
/-- What a memory of so many frames holds when cells have been written into it. -/
def cm (n : Nat) (f : Nat → Int × Int) : Nat → Nat → Int
  | 0 => fun _ => 0
  | k + 1 => wr (cm n f k) (8 * ((f k).1 % ((512 * n : Nat) : Int))).toNat 8 (f k).2
theorem block_add (a : Addr) (k : Nat) : (a.add k).block = a.block := by unfold Addr.add; split <;> rfl
theorem addr_snd (a : Addr) (m : Nat) : (⟨(a.add m).block, (a.add m).off + 1, none⟩ : Addr) = a.add (m + 1) := by
  unfold Addr.add
  by_cases h : m = 0 <;> simp [h, Nat.add_assoc]
theorem RdC.mod {W W' : World} {A : Option Addr} {n : Nat} {f : Nat → Int × Int} {G S : Nat → Prop} (r : RdC W A n f G) (m : Mod S W W') (hs : ∀ k, G k → ¬ S k) (hG : ∀ k, G k → k < W.heap.size) : RdC W' A n f G := fun i hi => by
  obtain ⟨ad, e, g, h0, h1, h2⟩ := r i hi
  exact ⟨ad, e, g, (World.cell?_of_block (m.block _ (by rw [block_add]; exact hG _ g) (by rw [block_add]; exact hs _ g))).trans h0, (World.cell?_of_block (m.block _ (by rw [block_add]; exact hG _ g) (by rw [block_add]; exact hs _ g))).trans h1, h2⟩
theorem RdC.wide {W : World} {A : Option Addr} {n : Nat} {f : Nat → Int × Int} {G G' : Nat → Prop} (r : RdC W A n f G) (h : ∀ k, G k → G' k) : RdC W A n f G' := fun i hi => by
  obtain ⟨ad, e, g, h2⟩ := r i hi
  exact ⟨ad, e, h _ g, h2⟩
/-- The eight bytes of a number, written. -/
def wr_ (mem : Nat → Int) (o : Nat) (v : Int) : Nat → Int := wr mem o 8 v
theorem results_row_tmp {P : Program} {fn : Func} {p u : Tmp} {ty : TypeId} (h : fn.results = #[.cell p ty, .tmp u]) (tmps : Array Value) (w : World) (g : Nat) (t : TypeId) (cs : Array Value) (d : TypeDesc)
    (hp : tmps.getD p undef = .pointer (some ⟨g, 0, none⟩)) (hg : Blk w g cs t) (hu : P.underlying ty = some d) (hd : (match d with | .struct _ | .array _ _ => true | _ => false) = true) (hi : (P.info? ty).map (·.size) = some cs.size) :
    (results fn tmps).run P w = .ok (.tuple #[.agg cs, tmps.getD u undef]) w := by
  rw [results_cell_tmp h, hp]
  have h2 := run_loadVar_row (P := P) w g t ty cs (0, 0) d hg.out hu hd hi
  simp [asAddr, Result.andThen, h2]
theorem zero_two : (Tryz.prog.info? 33).bind (·.zero) = some (.agg #[.pointer none, .pointer none]) := by kernel_rfl
theorem alloc_agg {t : TypeId} {cs : Array Value} (h : (Tryz.prog.info? t).bind (·.zero) = some (.agg cs)) (W : World) : (Instr.alloc t true (.tuple #[])).run Tryz.prog W = .ok (.pointer (some ⟨W.heap.size, 0, none⟩)) (W.alloc (.cells cs t (0, 0))) := by
  cases hi : Tryz.prog.info? t with
  | none => rw [hi] at h; cases h
  | some i =>
    rw [hi] at h
    have hz : i.zero = some (.agg cs) := h
    simp [Instr.alloc, zeroValue, typeInfo, hi, hz, newVar, newRow, newObj, Result.andThen, Value.cells, go_sem]
    rfl
theorem new_z (w : World) (base z : Int) (n : Nat) (hz : z = n) (hb : 0 ≤ base ∧ base < 18446744073709551616) (h : newB base n = true) :
    Calls Tryz.prog 24 #[.int .u64 base, .int .i64 z] w fun e W' => ∃ h, e = .returned (.tuple #[.pointer (some ⟨h, 0, none⟩), .int .i64 0]) ∧ Ram W' h base n (fun _ => 0) (Grow Nil w W') ∧ Mod Nil w W' := by subst hz; exact new_yes w base n hb h
theorem rnew_z (w : World) (base z : Int) (n : Nat) (hz : z = n) (hb : 0 ≤ base ∧ base < 18446744073709551616) (h : newB base n = true) :
    Calls Tryz.prog 25 #[.int .u64 base, .int .i64 z] w fun e W' => ∃ h, e = .returned (.tuple #[.pointer (some ⟨h, 0, none⟩), .int .i64 0]) ∧ Ref.Mem W' h base n (fun _ => 0) (Grow Nil w W') ∧ Mod Nil w W' := by subst hz; exact Ref.new_yes w base n hb h
theorem size_two : (Tryz.prog.info? 33).map (·.size) = some 2 := by kernel_rfl
set_option maxHeartbeats 4000000 in
theorem memory_any (W : World) (base z : Int) (n : Nat) (hz : z = n) (hb : 0 ≤ base ∧ base < 18446744073709551616) (hn : newB base n = true) (A : Option Addr) (len cap : Nat) (f : Nat → Int × Int) (r : RdC W A len f (· < W.heap.size)) (hl : len ≤ 9223372036854775807) :
    Calls Tryz.prog 9 #[.int .u64 base, .int .i64 z, .slice A len cap] W fun e w' => ∃ h1 h2 F1 F2, e = .returned (.tuple #[.agg #[.pointer (some ⟨h1, 0, none⟩), .pointer (some ⟨h2, 0, none⟩)], .bool true]) ∧ Duo W w' h1 h2 base n (cm n f len) F1 F2 := by
  obtain ⟨n1, n2, nb, b2⟩ := of_decide_eq_true hn
  obtain ⟨b0, b1⟩ := hb
  have T1 := Lib.hid (fun w => new_z w base z n hz ⟨b0, b1⟩ hn)
  have T2 := Lib.hid (fun w => rnew_z w base z n hz ⟨b0, b1⟩ hn)
  have R := Lib.hid r
  have Z := Lib.hid hz
  have HL := Lib.hid hl
  have hu := Tryz.underlying33
  have w512 : IntKind.i64.wrap (512 * z) = 512 * n := by rw [hz]; exact IntWalk.i64_in _ (by omega)
  clear r hn hl hz nb
  go_enter Tryz.func9, Tryz.ntmps9
  go_wp2_with (first
 | (refine Step.freshAlloc rfl rfl (alloc_agg zero_two) ?_; (first
        | (have this := Lib.hid D0; intro g12 w4 b hg hb; have B12 := Lib.hid b; have B6c := Lib.hid (B6.out.below hb); have D1 := Lib.hid (D0.out.below hb); have HG12 := Lib.hid hg; clear b hg hb this)
        | (intro g6 w1 b hg hb; have B6a := Lib.hid b; have HB6 := Lib.hid hb; have HG6 := Lib.hid hg; clear b hg hb)))
 | (go_at_call 24; refine (T1.out _).mono ?_; rintro e w2 ⟨h1, rfl, r, m⟩; have R1 := Lib.hid r; have M1 := Lib.hid m; have B6b := Lib.hid (B6a.out.mod m (fun h => h)); clear r m)
 | (go_at_call 25; refine (T2.out _).mono ?_; rintro e w3 ⟨h2, rfl, r, m⟩; have D0 := Lib.hid (Duo.made (Mod.of_below HB6.out Nil) R1.out M1.out r m); have B6 := Lib.hid (B6b.out.mod m (fun h => h)); have L6 := Lib.hid (show ∀ k, Grow Nil w1 w2 k ∨ Grow Nil w2 w3 k → k ≠ g6 from fun k h e => by subst e; have := B6a.out.lt; have := M1.out.size; rcases h with (h | h) | (h | h) <;> first | exact h | omega); clear r m)
 | (refine Step.storeAll (vs := #[.pointer (some ⟨h1, 0, none⟩), .pointer (some ⟨h2, 0, none⟩)]) B12.out rfl rfl rfl rfl rfl size_two rfl rfl ?_; intro w5 nb m; have N12 := Lib.hid nb; have N6 := Lib.hid (B6c.out.one m (by have := B6.out.lt; have := HG12.out; omega)); have D2 := Lib.hid (D1.out.other m (fun k h e => by obtain rfl : k = g12 := e; have := D0.out.bound k h; have := HG12.out; omega) (fun k e => by obtain rfl : k = g12 := e; have := HG12.out; have := D0.out.mod.size; omega)); have L12 := Lib.hid (show ∀ k, Grow Nil w1 w2 k ∨ Grow Nil w2 w3 k → k ≠ g12 from fun k h e => by subst e; have := D0.out.bound k h; have := HG12.out; omega); clear nb m))
  have G12 := Lib.hid (show W.heap.size ≤ g12 from by have := HG12.out; have := D0.out.mod.size; omega)
  have NE := Lib.hid (show g6 ≠ g12 from by have := B6.out.lt; have := HG12.out; omega)
  obtain ⟨F1, F2, hD, hL6, hL12⟩ : ∃ F1 F2, Duo W w5 h1 h2 base n (cm n f 0) F1 F2 ∧ (∀ k, F1 k ∨ F2 k → k ≠ g6) ∧ (∀ k, F1 k ∨ F2 k → k ≠ g12) := ⟨_, _, D2.out, L6.out, L12.out⟩
  have DD := Lib.hid hD
  have LL6 := Lib.hid hL6
  have LL12 := Lib.hid hL12
  clear hD hL6 hL12 D0 D1 D2 L6 L12 R1 M1 B6 B6a B6b B6c B12 HG12 HB6
  go_loopw [13] (fun i w => ∃ k : Nat, k ≤ len ∧ i = .int .i64 k ∧ Blk w g12 #[.pointer (some ⟨h1, 0, none⟩), .pointer (some ⟨h2, 0, none⟩)] 33 ∧ Blk w g6 #[.pointer none, .pointer none] 33 ∧ ∃ F1 F2, Duo W w h1 h2 base n (cm n f k) F1 F2 ∧ (∀ k, F1 k ∨ F2 k → k ≠ g6) ∧ (∀ k, F1 k ∨ F2 k → k ≠ g12)) (fun i _ => (len - intOf i).toNat)
  case atStart => exact ⟨0, Nat.zero_le _, rfl, N12.out, N6.out, F1, F2, DD.out, LL6.out, LL12.out⟩
  case round =>
    clear DD LL6 LL12 N12 N6 F1 F2
    obtain ⟨k, hk, rfl, hB12, hB6, F1, F2, hD, hL6, hL12⟩ := hrel
    have DK := Lib.hid hD
    have K12 := Lib.hid hB12
    have K6 := Lib.hid hB6
    have LK6 := Lib.hid hL6
    have LK12 := Lib.hid hL12
    clear hD hB12 hB6 hL6 hL12
    by_cases hlt : k < len
    · obtain ⟨ad, rfl, hab, hc0, hc1, hv0, hv1⟩ := (R.out.mod DK.out.mod (fun k hk h => h) (fun k hk => hk)) k hlt
      obtain ⟨q, hq⟩ := Int.eq_ofNat_of_zero_le (show 0 ≤ (f k).1 % ((512 * n : Nat) : Int) from Int.emod_nonneg _ (by omega))
      have hq2 : (q : Int) < 512 * n := by have := Int.emod_lt_of_pos (f k).1 (show (0 : Int) < ((512 * n : Nat) : Int) by omega); omega
      have TP := Lib.hid (fun w => (place_any (f k).1 (512 * n) (by omega) hv0 (by omega) w).mono fun e w' h => (by rw [show (512 * n : Int) = ((512 * n : Nat) : Int) by omega, hq] at h; exact h : e = .returned (.int .i64 q) ∧ w = w'))
      have q1 : IntKind.u64.wrap (q : Int) = q := IntWalk.u64_in _ (by omega)
      have q2 : IntKind.u64.wrap (8 * (q : Int)) = 8 * q := IntWalk.u64_in _ (by omega)
      have q3 : IntKind.u64.wrap (base + 8 * (q : Int)) = base + 8 * q := IntWalk.u64_in _ (by omega)
      have TW := Lib.hid (fun w (hw : Below wr.heap.size wr w) => wboth (DK.out.below hw) (base + 8 * q) (f k).2 (by omega) hv1 (decide_eq_true (by omega)))
      have CM := Lib.hid (show cm n f (k + 1) = wr_ (cm n f k) (base + 8 * q - base).toNat (f k).2 from by show Mem.wr (cm n f k) (8 * ((f k).1 % ((512 * n : Nat) : Int))).toNat 8 (f k).2 = _; rw [hq]; unfold wr_; congr 1; omega)
      have LB := Lib.hid (show ad.block < wr.heap.size from by have := DK.out.mod.size; omega)
      have NA := Lib.hid (show ¬ (F1 ad.block ∨ F2 ad.block) from fun h => by have := DK.out.new _ h; omega)
      generalize (f k).1 = v0 at hc0 TP hq
      generalize (f k).2 = v1 at hc1 TW CM
      have e1 : ad.add (k * 2) = (ad.add (k * 2)) := rfl
      rw [← addr_snd] at hc1
      have cB := K12.out.cell 0
      have cC := K12.out.cell 1
      simp only [List.getElem?_toArray, List.getElem?_cons_zero, List.getElem?_cons_succ] at cB cC
      clear hv0 hv1 hq hq2 e1
      go_wp2
      go_region_held3 (fun w' => w'.cell? ⟨g12, 0, none⟩ = some (.pointer (some ⟨h1, 0, none⟩)) ∧ w'.cell? ⟨g12, 1, none⟩ = some (.pointer (some ⟨h2, 0, none⟩)) ∧ w'.cell? (ad.add (k * 2)) = some (.int .i64 v0) ∧ w'.cell? ⟨(ad.add (k * 2)).block, (ad.add (k * 2)).off + 1, none⟩ = some (.int .u64 v1))
        (first
          | exact ⟨cB, cC, hc0, hc1⟩
          | exact ⟨(World.cell?_of_block (w := wr) (hm.block g12 K12.out.lt (fun h => LK12.out _ h rfl))).trans cB, (World.cell?_of_block (w := wr) (hm.block g12 K12.out.lt (fun h => LK12.out _ h rfl))).trans cC, (World.cell?_of_block (w := wr) (hm.block _ (by rw [block_add]; exact LB.out) (by rw [block_add]; exact NA.out))).trans hc0, (show w9.cell? ⟨(ad.add (k * 2)).block, (ad.add (k * 2)).off + 1, none⟩ = wr.cell? ⟨(ad.add (k * 2)).block, (ad.add (k * 2)).off + 1, none⟩ from World.cell?_of_block (hm.block (ad.add (k * 2)).block (by rw [block_add]; exact LB.out) (by rw [block_add]; exact NA.out))).trans hc1⟩)
        (first
 | ((with_reducible refine (TP.out _).mono ?_); rintro e w8 ⟨rfl, rfl⟩)
 | ((with_reducible refine (TW.out _ (Below.drew (Below.refl _ _))).mono ?_); rintro e w9 ⟨rfl, F1', F2', hd, hf1, hf2, hm⟩))
      rename_i hHeld
      have HM := Lib.hid (show Mod (fun k => F1 k ∨ F2 k) wr w9 from ⟨hm.os, hm.tape, hm.output, hm.size, hm.block⟩)
      have HD := Lib.hid hd
      have HF1 := Lib.hid hf1
      have HF2 := Lib.hid hf2
      clear hHeld hm hd hf1 hf2 cB cC hc0 hc1
      have hlen := HL.out
      go_wp2
      refine ⟨⟨k + 1, by omega, by go_num, K12.out.mod HM.out (fun h => LK12.out _ h rfl), K6.out.mod HM.out (fun h => LK6.out _ h rfl), F1', F2', CM.out ▸ HD.out, fun j h e => ?_, fun j h e => ?_⟩, by simp [intOf]; omega⟩
      · subst e
        exact LK6.out j (h.elim (fun h => .inl (HF1.out j K6.out.lt h)) fun h => .inr (HF2.out j K6.out.lt h)) rfl
      · subst e
        exact LK12.out j (h.elim (fun h => .inl (HF1.out j K12.out.lt h)) fun h => .inr (HF2.out j K12.out.lt h)) rfl
    · obtain rfl : k = len := by omega
      have cB := K12.out.cell 0
      have cC := K12.out.cell 1
      simp only [List.getElem?_toArray, List.getElem?_cons_zero, List.getElem?_cons_succ] at cB cC
      go_wp2_with (first
 | (refine Step.storeAll (vs := #[.pointer (some ⟨h1, 0, none⟩), .pointer (some ⟨h2, 0, none⟩)]) K6.out rfl rfl rfl rfl rfl size_two rfl rfl ?_; intro w7 nb m; have N6 := Lib.hid nb; have D7 := Lib.hid (DK.out.other m (fun k h e => LK6.out _ h e) (fun k e => by obtain rfl : k = g6 := e; exact HG6.out)); clear nb m))
      refine bodyPost_ret (results_row_tmp rfl _ _ g6 _ _ _ rfl N6.out hu rfl size_two) rfl ⟨h1, h2, F1, F2, rfl, D7.out⟩
end Go.Proofs.YtchpnbckgofiaaaGreat.Duo
end
section
namespace Go.Proofs.YtchpnbckgofiaaaGreat.Mem
open Go Go.RowKit Go.Proofs.YtchpnbckgofiaaaGreat.Step
set_option linter.unusedVariables false
set_option linter.unusedSimpArgs false
set_option maxRecDepth 100000
/-- The bytes as a list of cells. -/
def lst (n : Nat) (f : Nat → Int) : List Value := (List.range n).map fun k => .int .u8 (f k)
theorem lst_len (n : Nat) (f : Nat → Int) : (lst n f).length = n := by simp [lst]
theorem lst_at (n : Nat) (f : Nat → Int) {k : Nat} (h : k < n) : (lst n f)[k]? = some (.int .u8 (f k)) := by simp [lst, h]
theorem lst_one (n : Nat) (f : Nat → Int) : ∀ u ∈ lst n f, u.oneCell' = true := by
  intro u hu
  obtain ⟨k, _, rfl⟩ := List.mem_map.1 hu
  rfl
theorem info_u8 : ∃ i, Tryz.prog.info? 5 = some i ∧ i.size = 1 ∧ i.bytes = 1 ∧ i.zero = some (.int .u8 0) := by
  have h := mk_u8
  cases hi : Tryz.prog.info? 5 with
  | none => rw [hi] at h; cases h
  | some i =>
    rw [hi] at h
    simp only [Option.map_some, Option.some.injEq, Prod.mk.injEq] at h
    exact ⟨i, rfl, h⟩
/-- An argument's bytes, nil or not. -/
structure Arg (W : World) (A : Option Addr) (n c : Nat) (f : Nat → Int) (G : Nat → Prop) : Prop where
  rd : Rd W A n f G
  nil_ : A = none → n = 0 ∧ c = 0
set_option maxHeartbeats 1000000 in
theorem copyBytes_any {W : World} {A : Option Addr} {n c : Nat} {f : Nat → Int} {G : Nat → Prop} (r : Arg W A n c f G) (hn : n ≤ 140737488355328) :
    Calls Tryz.prog 28 #[.slice A n c] W fun e W' => ∃ v, e = .returned v ∧ W'.ownsRow W.heap.size 5 1 v n (lst n f) ∧ Below W.heap.size W W' := by
  obtain ⟨i, hi, hs, hb, hz⟩ := info_u8
  have R := Lib.hid r
  have HI := Lib.hid hi
  have HS := Lib.hid hs
  have HB := Lib.hid hb
  have HZ := Lib.hid hz
  clear hi hs hb hz r
  cases A with
  | none =>
    obtain ⟨rfl, rfl⟩ := R.out.nil_ rfl
    go_enter Tryz.func28, Tryz.ntmps28
    go_wp2
    go_ret
    exact ⟨_, rfl, World.ownsRow_nil _ _ _ _, Below.refl _ _⟩
  | some ad =>
    go_enter Tryz.func28, Tryz.ntmps28
    go_wp2_with ((with_reducible refine wpList_append_own (w := W) rfl _ _ 23 rfl W.heap.size 5 i _ 1 1 Tryz.underlying23 HI.out HZ.out HS.out HB.out rfl (by omega) (.slice none 0 0) 0 [] rfl (World.ownsRow_nil _ _ _ _) ad n c (lst n f) rfl ?h1 ?h2 (lst_one _ _) ?h3 ?h4 (Nat.le_refl _) ?_); rotate_right; intro v' w' own' grow' hv; have OW := Lib.hid own'; have GR := Lib.hid grow'; clear own' grow' hv)
    case h1 => rw [lst_len, Nat.mul_one]
    case h2 =>
      intro j u hu
      have hj : j < n := by have := (List.getElem?_eq_some_iff.1 hu).1; rwa [lst_len] at this
      rw [lst_at n f hj] at hu
      obtain ⟨ad', e, _, hc, _⟩ := R.out.rd j hj
      obtain rfl := Option.some.inj e
      rw [hc]; exact hu
    case h3 => unfold maxLen; omega
    case h4 => omega
    go_ret
    refine ⟨_, rfl, ?_, (Below.refl _ _).grown GR.out (Nat.le_refl _) (fun k hk => by cases hk)⟩
    have := OW.out
    rwa [Nat.zero_add, List.nil_append] at this
end Go.Proofs.YtchpnbckgofiaaaGreat.Mem
end
section
namespace Go.Proofs.YtchpnbckgofiaaaGreat.Hart
open Go Go.RowKit Go.Proofs.YtchpnbckgofiaaaGreat.Step Go.Proofs.YtchpnbckgofiaaaGreat.Enc Go.Proofs.YtchpnbckgofiaaaGreat.Kn
open Go.Proofs.YtchpnbckgofiaaaGreat.Mem (Ram Grow hasB wholeB num wr Rd fl Arg lst)
open Go.Proofs.YtchpnbckgofiaaaGreat.Duo (Duo)
set_option linter.unusedVariables false
set_option linter.unusedSimpArgs false
set_option maxRecDepth 100000
theorem pl_pr3 : Step.plainT Tryz.prog 31 = true := by kernel_rfl
theorem own_rd {w : World} {b m : Nat} {v : Value} {f : Nat → Int} (h : w.ownsRow b 5 1 v m (lst m f)) (hf : ∀ k, k < m → 0 ≤ f k ∧ f k < 256) : ∃ A cap, v = .slice A m cap ∧ Rd w A m f (fun k => b ≤ k ∧ k < w.heap.size) := by
  obtain ⟨_, ⟨rfl, rfl⟩ | ⟨g, cap, cur, rfl, hb, ho, hn, hc, hs, ht⟩⟩ := h
  · exact ⟨none, 0, rfl, fun k hk => absurd hk (Nat.not_lt_zero k)⟩
  · refine ⟨some ⟨g, 0, none⟩, cap, rfl, fun k hk => ⟨_, rfl, ⟨hb, (Array.getElem?_eq_some_iff.1 ho).1⟩, ?_, hf k hk⟩⟩
    have h1 := Mem.lst_at m f hk
    rw [← ht, List.getElem?_take, if_pos (by omega)] at h1
    have e : (⟨g, 0, none⟩ : Addr).add k = ⟨g, k, none⟩ := by unfold Addr.add; split <;> simp_all
    rw [e]
    exact ((⟨ho⟩ : Blk w g cur 5).cell k).trans (by simpa using h1)
set_option maxHeartbeats 2000000 in
theorem fboth {W w : World} {h1 h2 n s c : Nat} {base : Int} {mem : Nat → Int} {F1 F2 G : Nat → Prop} {A : Option Addr} {f : Nat → Int} (d : Duo W w h1 h2 base n mem F1 F2) (r : Arg w A s c f G) (hG : ∀ k, G k → ¬ F1 k ∧ ¬ F2 k ∧ k < w.heap.size) (hs : s ≤ 140737488355328) (hf : ∀ k, k < s → 0 ≤ f k ∧ f k < 256) (addr : Int) (ha : 0 ≤ addr ∧ addr < 18446744073709551616) (hh : hasB base n addr s = true) :
    Calls Tryz.prog 11 #[.agg #[.pointer (some ⟨h1, 0, none⟩), .pointer (some ⟨h2, 0, none⟩)], .int .u64 addr, .slice A s c] w fun e w' => e = .returned (.tuple #[]) ∧ ∃ F1' F2', Duo W w' h1 h2 base n (fl mem (addr - base).toNat s f) F1' F2' ∧ (∀ k, k < w.heap.size → F1' k → F1 k) ∧ (∀ k, k < w.heap.size → F2' k → F2 k) ∧ Mod (fun k => F1 k ∨ F2 k) w w' := by
  have TC1 := Lib.hid (fun (X : World) (b : Below w.heap.size w X) => (Mem.copyBytes_any (W := X) (A := A) (n := s) (c := c) (f := f) (G := G) ⟨r.rd.below b fun k hk => (hG k hk).2.2, r.nil_⟩ hs).mono fun e w' h => (by
    obtain ⟨v, e, own, bl⟩ := h
    obtain ⟨B, cap, rfl, rd⟩ := own_rd own hf
    exact ⟨B, cap, e, rd, bl⟩ : ∃ B cap, e = .returned (.slice B s cap) ∧ Rd w' B s f (fun k => X.heap.size ≤ k ∧ k < w'.heap.size) ∧ Below X.heap.size X w'))
  have TR := Lib.hid (fun (X Y : World) (b : Below w.heap.size w X) (b2 : Below X.heap.size X Y) (B : Option Addr) (cap : Nat) (rd : Rd Y B s f (fun k => X.heap.size ≤ k ∧ k < Y.heap.size)) =>
    Mem.fill_yes (c := cap) ((d.one.below b).below b2) addr rd (fun k hk => ⟨fun h => by have := d.bound k (.inl h); have := b.size; omega, hk.2⟩) ha hh)
  have TS := Lib.hid (fun (X Y : World) (b : Below w.heap.size w X) (m : Mod F1 X Y) => Ref.fill_yes (c := c) ((d.two.below b).mod m fun k h2 h1 => d.apart k h1 h2) addr ((r.rd.below b fun k hk => (hG k hk).2.2).mod m (fun k hk => (hG k hk).1) fun k hk => Nat.lt_of_lt_of_le (hG k hk).2.2 b.size) (fun k hk => ⟨(hG k hk).2.1, by have := (hG k hk).2.2; have := b.size; have := m.size; omega⟩) ha hh)
  have D := Lib.hid d
  clear d r hG hs hf ha hh
  go_enter Tryz.func11, Tryz.ntmps11
  have ST := Lib.hid (Kn.nil (S := Step.Nil) (W := w))
  go_wp2_with (((with_reducible refine Step.gate_box (t := 33) rfl ?_); refine Step.fresh (cs := #[.pointer (some ⟨h1, 0, none⟩), .pointer (some ⟨h2, 0, none⟩)]) (T := 33) rfl ?hr ?_; (case hr => first | (go_simp; done) | (go_simp; rfl)); intro g1 w1 b hg hb; replace ST := Lib.hid (ST.out.made b hg hb); clear b hb; have HG := Lib.hid hg; clear hg))
  have c0 := ST.out.at0.cell 0
  simp only [List.getElem?_toArray, List.getElem?_cons_zero] at c0
  go_region_held3 (fun w' => w'.cell? ⟨g1, 0, none⟩ = some (.pointer (some ⟨h1, 0, none⟩))) (first | (go_keep; done) | exact G1.out.cell 0 | exact ST.out.at0.cell 0)
    ((first
 | (go_at_call 28; (with_reducible refine (TC1.out _ (ST.out.call (Below.drew (Below.refl _ _))).below).mono ?_); rintro e wc ⟨B, cap, rfl, rd, hb⟩; have S0 := Lib.hid (ST.out.call (Below.drew (Below.refl _ _))).below; have RD := Lib.hid rd; have CB := Lib.hid hb; replace ST := Lib.hid ((ST.out.call (Below.drew (Below.refl _ _))).call hb); clear rd hb)
 | (go_at_call 27; (with_reducible refine (TR.out _ _ S0.out CB.out _ _ RD.out).mono ?_); rintro e w3 ⟨rfl, r, m⟩; have R1 := Lib.hid r; have M1 := Lib.hid m; have G1 := Lib.hid (ST.out.at0.mod m fun h => by have := D.out.bound _ (.inl h); have := HG.out; omega); clear r m)))
  go_wp2_with (first
 | (refine Step.load G1.out rfl rfl rfl pl_pr3 rfl ?_)
 | (go_at_call 29; (with_reducible refine (TS.out _ _ ST.out.below M1.out).mono ?_); rintro e w4 ⟨rfl, r, m⟩; have R2 := Lib.hid r; have M2 := Lib.hid m; clear r m))
  go_end0
  have dd := (D.out.below ST.out.below).step R1.out M1.out R2.out M2.out
  have hs := ST.out.below.size
  refine ⟨rfl, _, _, dd, fun k hk h => h.elim id fun h => by omega, fun k hk h => h.elim id fun h => by have := M1.out.size; omega, ?_⟩
  refine ((Mod.of_below ST.out.below _).trans (M1.out.mono fun k _ h => .inl h)).trans (M2.out.mono fun k _ h => .inr h)
end Go.Proofs.YtchpnbckgofiaaaGreat.Hart
end
section
namespace Go.Proofs.YtchpnbckgofiaaaGreat.Hart
open Go Go.RowKit Go.Proofs.YtchpnbckgofiaaaGreat.Step Go.Proofs.YtchpnbckgofiaaaGreat.Enc Go.Proofs.YtchpnbckgofiaaaGreat.Kn
open Go.Proofs.YtchpnbckgofiaaaGreat.Mem (Ram Grow hasB wholeB num wr Rd fl Arg lst)
open Go.Proofs.YtchpnbckgofiaaaGreat.Duo (Duo)
set_option linter.unusedVariables false
set_option linter.unusedSimpArgs false
abbrev Blks : Type := List (Nat × Array Value × TypeId)
/-- From W to w: a memory, the document's, and the listed blocks, all of them new and apart. -/
structure DK (W w : World) (h1 h2 : Nat) (base : Int) (n : Nat) (m1 m2 : Nat → Int) (F1 F2 : Nat → Prop) (L : Blks) : Prop where
  one : Ram w h1 base n m1 F1
  two : Ref.Mem w h2 base n m2 F2
  apart : ∀ k, F1 k → ¬ F2 k
  new : ∀ k, F1 k ∨ F2 k → W.heap.size ≤ k
  kn : Kn Step.Nil W w L
  ap : ∀ k, F1 k ∨ F2 k → ∀ p ∈ L, p.1 ≠ k
section
variable {W w w' : World} {h1 h2 n g : Nat} {base : Int} {m1 m2 mem mem' m1' : Nat → Int} {F1 F2 F1' F2' : Nat → Prop} {L L' : Blks} {c c' : Array Value} {T T' : TypeId}
theorem DK.bound (d : DK W w h1 h2 base n m1 m2 F1 F2 L) : ∀ k, F1 k ∨ F2 k → k < w.heap.size := fun k h => h.elim (d.one.bound k) (d.two.bound k)
theorem DK.of (d : Duo W w h1 h2 base n mem F1 F2) (k : Kn Step.Nil W w L) (a : ∀ k, F1 k ∨ F2 k → ∀ p ∈ L, p.1 ≠ k) : DK W w h1 h2 base n mem mem F1 F2 L := ⟨d.one, d.two, d.apart, d.new, k, a⟩
theorem DK.duo (d : DK W w h1 h2 base n mem mem F1 F2 L) : Duo W w h1 h2 base n mem F1 F2 := ⟨d.one, d.two, d.apart, d.new, d.kn.mod⟩
theorem DK.size (d : DK W w h1 h2 base n m1 m2 F1 F2 L) : W.heap.size ≤ w.heap.size := d.kn.mod.size
theorem DK.below (d : DK W w h1 h2 base n m1 m2 F1 F2 L) : Below W.heap.size W w := d.kn.below
theorem DK.call (d : DK W w h1 h2 base n m1 m2 F1 F2 L) (b : Below w.heap.size w w') : DK W w' h1 h2 base n m1 m2 F1 F2 L := ⟨d.one.below b, d.two.below b, d.apart, d.new, d.kn.call b, d.ap⟩
theorem DK.made (d : DK W w h1 h2 base n m1 m2 F1 F2 L) (b : Blk w' g c T) (hg : w.heap.size ≤ g) (hb : Below w.heap.size w w') : DK W w' h1 h2 base n m1 m2 F1 F2 ((g, c, T) :: L) :=
  ⟨d.one.below hb, d.two.below hb, d.apart, d.new, d.kn.made b hg hb, fun k hk p hp => by
    rcases List.mem_cons.1 hp with rfl | hp
    · have := d.bound k hk
      show g ≠ k
      omega
    · exact d.ap k hk p hp⟩
/-- A listed block is turned. -/
theorem DK.set (d : DK W w h1 h2 base n m1 m2 F1 F2 L) (k : Kn Step.Nil W w' L') (m : Mod (One g) w w') (hg : ∃ p ∈ L, p.1 = g) (hL : L'.map (·.1) = L.map (·.1)) : DK W w' h1 h2 base n m1 m2 F1 F2 L' := by
  obtain ⟨p, hp, rfl⟩ := hg
  refine ⟨d.one.mod m fun k hk e => d.ap k (.inl hk) p hp (e : k = p.1).symm, d.two.mod m fun k hk e => d.ap k (.inr hk) p hp (e : k = p.1).symm, d.apart, d.new, k, fun k hk q hq => ?_⟩
  have : q.1 ∈ L'.map (·.1) := List.mem_map.2 ⟨q, hq, rfl⟩
  rw [hL] at this
  obtain ⟨r, hr, e⟩ := List.mem_map.1 this
  rw [← e]
  exact d.ap k hk r hr
/-- Both memories are turned. -/
theorem DK.turn (d : DK W w h1 h2 base n m1 m2 F1 F2 L) (r1 : Ram w' h1 base n m1' F1') (r2 : Ref.Mem w' h2 base n mem' F2') (ha : ∀ k, F1' k → ¬ F2' k) (f1 : ∀ k, k < w.heap.size → F1' k → F1 k) (f2 : ∀ k, k < w.heap.size → F2' k → F2 k) (m : Mod (fun k => F1 k ∨ F2 k) w w') :
    DK W w' h1 h2 base n m1' mem' F1' F2' L := by
  have hf : ∀ k, F1' k ∨ F2' k → k < w.heap.size → F1 k ∨ F2 k := fun k hk hl => hk.imp (f1 k hl) (f2 k hl)
  refine ⟨r1, r2, ha, fun k hk => ?_, d.kn.turn m (fun p hp e => d.ap _ e p hp rfl) fun i hi e => absurd (d.new i e) (by omega), fun k hk p hp e => ?_⟩
  · have := d.size
    by_cases hl : k < w.heap.size
    · exact d.new k (hf k hk hl)
    · omega
  · have := (d.kn.blk p hp).lt
    exact d.ap k (hf k hk (by omega)) p hp e
theorem DK.duoTurn (d : DK W w h1 h2 base n m1 m2 F1 F2 L) (u : Duo W w' h1 h2 base n mem' F1' F2') (f1 : ∀ k, k < w.heap.size → F1' k → F1 k) (f2 : ∀ k, k < w.heap.size → F2' k → F2 k) (m : Mod (fun k => F1 k ∨ F2 k) w w') : DK W w' h1 h2 base n mem' mem' F1' F2' L :=
  d.turn u.one u.two u.apart f1 f2 m
theorem DK.blk (d : DK W w h1 h2 base n m1 m2 F1 F2 L) {p : Nat × Array Value × TypeId} (hp : p ∈ L) : Blk w p.1 p.2.1 p.2.2 := d.kn.blk p hp
theorem DK.drop {p : Nat × Array Value × TypeId} (d : DK W w h1 h2 base n m1 m2 F1 F2 (p :: L)) : DK W w h1 h2 base n m1 m2 F1 F2 L := ⟨d.one, d.two, d.apart, d.new, d.kn.drop, fun k hk q hq => d.ap k hk q (List.mem_cons_of_mem _ hq)⟩
theorem Duo_ahead {V : World} (d : Duo V w h1 h2 base n mem F1 F2) (b : Below W.heap.size W V) : Duo W w h1 h2 base n mem F1 F2 :=
  ⟨d.one, d.two, d.apart, fun k h => Nat.le_trans b.size (d.new k h), (Mod.of_below b Step.Nil).trans d.mod⟩
/-- A call laid two memories. -/
theorem DK.begin {V : World} (k : Kn Step.Nil W V L) (d : Duo V w h1 h2 base n mem F1 F2) : DK W w h1 h2 base n mem mem F1 F2 L :=
  DK.of (Duo_ahead d k.below) (k.call d.out) fun i hi p hp e => by
    have := (k.blk p hp).lt
    have := d.new i hi
    omega
end
end Go.Proofs.YtchpnbckgofiaaaGreat.Hart
end
section
namespace Go.Proofs.YtchpnbckgofiaaaGreat.Hart
open Go Go.RowKit Go.Proofs.YtchpnbckgofiaaaGreat.Step Go.Proofs.YtchpnbckgofiaaaGreat.Enc Go.Proofs.YtchpnbckgofiaaaGreat.Kn
open Go.Proofs.YtchpnbckgofiaaaGreat.Mem (Ram Grow hasB wholeB num wr Rd fl Arg lst newB place_any)
open Go.Proofs.YtchpnbckgofiaaaGreat.Duo (Duo RdC cm memory_any size_two)
set_option linter.unusedVariables false
set_option linter.unusedSimpArgs false
set_option maxRecDepth 100000
/-- A case, as an argument. -/
def cs15 (b fr : Int) (A : Option Addr) (s c : Nat) (A2 : Option Addr) (len cap : Nat) (root : Int) (h : Hrt) : Array Value := #[.int .u64 b, .int .i64 fr, .slice A s c, .slice A2 len cap, .int .u64 root, .int .u64 (h.x 0), .int .u64 (h.x 1), .int .u64 (h.x 2), .int .u64 (h.x 3), .int .u64 (h.x 4), .int .u64 (h.x 5), .int .u64 (h.x 6), .int .u64 (h.x 7), .int .u64 (h.x 8), .int .u64 (h.x 9), .int .u64 (h.x 10), .int .u64 (h.x 11), .int .u64 (h.x 12), .int .u64 (h.x 13), .int .u64 (h.x 14), .int .u64 (h.x 15), .int .u64 (h.x 16), .int .u64 (h.x 17), .int .u64 (h.x 18), .int .u64 (h.x 19), .int .u64 (h.x 20), .int .u64 (h.x 21), .int .u64 (h.x 22), .int .u64 (h.x 23), .int .u64 (h.x 24), .int .u64 (h.x 25), .int .u64 (h.x 26), .int .u64 (h.x 27), .int .u64 (h.x 28), .int .u64 (h.x 29), .int .u64 (h.x 30), .int .u64 (h.x 31), .int .u64 h.pc, .bool h.user, .bool h.on, .bool h.spie, .bool h.spp, .bool h.sum, .bool h.mxr, .bool h.rsv, .int .u64 h.stvec, .int .u64 h.sscr, .int .u64 h.sepc, .int .u64 h.scause, .int .u64 h.stval, .int .u64 h.sie, .int .u64 h.sip, .int .u64 h.satp, .int .u64 h.resv]
theorem pl_sb : Step.plainT Tryz.prog 23 = true := by kernel_rfl
section
variable {b fr : Int} {A A2 : Option Addr} {s c len cap : Nat} {root : Int} {h : Hrt}
theorem cs15_0 : (cs15 b fr A s c A2 len cap root h)[0]? = some (.int .u64 b) := rfl
theorem cs15_1 : (cs15 b fr A s c A2 len cap root h)[1]? = some (.int .i64 fr) := rfl
theorem cs15_2 : (cs15 b fr A s c A2 len cap root h)[2]? = some (.slice A s c) := rfl
theorem cs15_3 : (cs15 b fr A s c A2 len cap root h)[3]? = some (.slice A2 len cap) := rfl
theorem cs15_4 : (cs15 b fr A s c A2 len cap root h)[4]? = some (.int .u64 root) := rfl
theorem cs15_list : (cs15 b fr A s c A2 len cap root h).toList = [.int .u64 b, .int .i64 fr, .slice A s c, .slice A2 len cap, .int .u64 root] ++ (hc h).toList := rfl
theorem row_cs : Row (cs15 b fr A s c A2 len cap root h) 5 (hc h) := by
  intro j v hv
  rw [← Array.getElem?_toList, cs15_list, List.getElem?_append_right (by show 5 ≤ 5 + j; omega)]
  simpa using hv
end
theorem size_case15 {b fr : Int} {A A2 : Option Addr} {s c len cap : Nat} {root : Int} {h : Hrt} : (Tryz.prog.info? 29).map (·.size) = some (cs15 b fr A s c A2 len cap root h).size := (by kernel_rfl : (Tryz.prog.info? 29).map (·.size) = some 54)
section
variable {W w2 wm : World} {g5 g1 h1 h2 n : Nat} {c5 c1 : Array Value} {T5 T1 : TypeId} {base : Int} {mem : Nat → Int} {F1 F2 : Nat → Prop}
theorem both_a (ST : Kn Step.Nil W w2 [(g5, c5, T5), (g1, c1, T1)]) (d : Duo (w2.alloc (.cells #[.pointer none, .pointer none] 33)).drew wm h1 h2 base n mem F1 F2) :
    Blk wm w2.heap.size #[.pointer none, .pointer none] 33 ∧ Kn Step.Nil W ((wm.setCell ⟨w2.heap.size, 0, none⟩ (.pointer (some ⟨h1, 0, none⟩))).setCell ⟨w2.heap.size, 1, none⟩ (.pointer (some ⟨h2, 0, none⟩))) [(w2.heap.size, #[.pointer (some ⟨h1, 0, none⟩), .pointer (some ⟨h2, 0, none⟩)], 33), (g5, c5, T5), (g1, c1, T1)] ∧ Duo W ((wm.setCell ⟨w2.heap.size, 0, none⟩ (.pointer (some ⟨h1, 0, none⟩))).setCell ⟨w2.heap.size, 1, none⟩ (.pointer (some ⟨h2, 0, none⟩))) h1 h2 base n mem F1 F2 ∧ ∀ k, F1 k ∨ F2 k → ∀ p ∈ ([(w2.heap.size, #[.pointer (some ⟨h1, 0, none⟩), .pointer (some ⟨h2, 0, none⟩)], 33), (g5, c5, T5), (g1, c1, T1)] : Blks), p.1 ≠ k := by
  have KA := ((ST.made (alloc_out w2 #[.pointer none, .pointer none] 33) (Nat.le_refl _) (alloc_below _ _)).call (Below.drew (Below.refl _ _))).call d.out
  have KB := KA.set0 (setCell_out _ _ 0 (.pointer (some ⟨h1, 0, none⟩)) _ _ KA.at0) (setCell_mod _ _ _ _)
  have KC := KB.set0 (setCell_out _ _ 1 (.pointer (some ⟨h2, 0, none⟩)) _ _ KB.at0) (setCell_mod _ _ _ _)
  have DW := Duo_ahead d ((ST.call (alloc_below w2 (.cells #[.pointer none, .pointer none] 33))).call (Below.drew (Below.refl _ _))).below
  have hN : W.heap.size ≤ w2.heap.size := ST.below.size
  have hX : w2.heap.size < (w2.alloc (.cells #[.pointer none, .pointer none] 33)).heap.size := (alloc_out w2 _ _).lt
  have l5 := ST.at0.lt
  have l1 := ST.at1.lt
  have hnew : ∀ k, F1 k ∨ F2 k → (w2.alloc (.cells #[.pointer none, .pointer none] 33)).heap.size ≤ k := fun k hk => d.new k hk
  have nN : ∀ k, F1 k ∨ F2 k → ¬ One w2.heap.size k := fun k hk e => by
    have e' : k = w2.heap.size := e
    have := hnew k hk
    omega
  refine ⟨KA.at0, KC, (DW.other (setCell_mod wm w2.heap.size 0 (.pointer (some ⟨h1, 0, none⟩))) nN fun k e => ?_).other (setCell_mod _ w2.heap.size 1 (.pointer (some ⟨h2, 0, none⟩))) nN fun k e => ?_, fun k hk p hp => ?_⟩
  · have e' : k = w2.heap.size := e
    omega
  · have e' : k = w2.heap.size := e
    omega
  · have := hnew k hk
    simp only [List.mem_cons, List.not_mem_nil, or_false] at hp
    rcases hp with rfl | rfl | rfl
    · show w2.heap.size ≠ k; omega
    · show g5 ≠ k; omega
    · show g1 ≠ k; omega
theorem both_b (ST : Kn Step.Nil W w2 [(g5, c5, T5), (g1, c1, T1)]) (d : Duo w2.drew wm h1 h2 base n mem F1 F2) :
    Kn Step.Nil W (wm.alloc (.cells #[.pointer (some ⟨h1, 0, none⟩), .pointer (some ⟨h2, 0, none⟩)] 33)) [(wm.heap.size, #[.pointer (some ⟨h1, 0, none⟩), .pointer (some ⟨h2, 0, none⟩)], 33), (g5, c5, T5), (g1, c1, T1)] ∧ Duo W (wm.alloc (.cells #[.pointer (some ⟨h1, 0, none⟩), .pointer (some ⟨h2, 0, none⟩)] 33)) h1 h2 base n mem F1 F2 ∧ ∀ k, F1 k ∨ F2 k → ∀ p ∈ ([(wm.heap.size, #[.pointer (some ⟨h1, 0, none⟩), .pointer (some ⟨h2, 0, none⟩)], 33), (g5, c5, T5), (g1, c1, T1)] : Blks), p.1 ≠ k := by
  have KC := (ST.call (Below.drew (Below.refl _ _))).call d.out
  have DW := Duo_ahead d (ST.call (Below.drew (Below.refl _ _))).below
  have l5 := ST.at0.lt
  have l1 := ST.at1.lt
  refine ⟨KC.made (alloc_out wm _ _) (Nat.le_refl _) (alloc_below _ _), DW.below (alloc_below _ _), fun k hk p hp => ?_⟩
  have : w2.heap.size ≤ k := d.new k hk
  have := DW.bound k hk
  simp only [List.mem_cons, List.not_mem_nil, or_false] at hp
  rcases hp with rfl | rfl | rfl
  · show wm.heap.size ≠ k; omega
  · show g5 ≠ k; omega
  · show g1 ≠ k; omega
end
set_option maxHeartbeats 8000000 in
theorem casem_le (W : World) (b fr : Int) (hfr : -9223372036854775808 ≤ fr ∧ fr < 9223372036854775808) (hb0 : 0 ≤ b ∧ b < 18446744073709551616) (base : Int) (hbase : b % 1099511627776 / 4096 * 4096 = base) (n : Nat) (hn : 1 + fr % 8 = n) (A : Option Addr) (s c s2 : Nat) (hcut : s = s2) (f : Nat → Int) (hA : Arg W A s2 c f (· < W.heap.size)) (hs : s2 ≤ 4096) (hf : ∀ k, k < s2 → 0 ≤ f k ∧ f k < 256)
    (A2 : Option Addr) (len cap : Nat) (f2 : Nat → Int × Int) (hA2 : RdC W A2 len f2 (· < W.heap.size)) (hl : len ≤ 9223372036854775807) (root : Int) (h : Hrt) :
    Calls Tryz.prog 4 #[.agg (cs15 b fr A s c A2 len cap root h)] W fun e w' => ∃ h1 h2 F1 F2, e = .returned (.tuple #[.agg #[.pointer (some ⟨h1, 0, none⟩), .pointer (some ⟨h2, 0, none⟩)], .bool true]) ∧ Duo W w' h1 h2 base n (fl (cm n f2 len) 0 s2 f) F1 F2 := by
  have e0 : 0 ≤ base ∧ base < 1099511627776 := by omega
  have en : 1 ≤ n ∧ n ≤ 8 := by omega
  have hnew : newB base n = true := decide_eq_true (by refine ⟨?_, ?_, ?_, ?_⟩ <;> omega)
  have w1 : IntKind.u64.wrap (IntKind.u64.wrap ((b.tmod 1099511627776).tdiv 4096) * 4096) = base := by
    rw [Int.tmod_eq_emod_of_nonneg hb0.1, Int.tdiv_eq_ediv_of_nonneg (by omega), IntWalk.u64_in (b % 1099511627776 / 4096) (by omega), hbase]; exact IntWalk.u64_in _ (by omega)
  have w2 : IntKind.i64.wrap (1 + fr % 8) = n := by rw [hn]; exact IntWalk.i64_in _ (by omega)
  have HHB := Lib.hid (show hasB base n base (s2 : Nat) = true by simp only [hasB, decide_eq_true_eq]; omega)
  have TP := Lib.hid (fun w => place_any fr 8 (by decide) hfr (by decide) w)
  have TM := Lib.hid (fun (X : World) (bl : Below W.heap.size W X) => memory_any X base n n rfl (by omega) hnew A2 len cap f2 ((hA2.mod (Mod.of_below bl Step.Nil) (fun _ _ h => h) fun _ h => h).wide fun k hk => Nat.lt_of_lt_of_le hk bl.size) hl)
  have RA := Lib.hid hA
  have HS := Lib.hid hs
  have HC := Lib.hid hcut
  have HF := Lib.hid hf
  have HE0 := Lib.hid e0
  clear hA hA2 hs hl hf hnew e0 en hb0 hfr hbase hn hcut
  go_enter Tryz.func4, Tryz.ntmps4
  have ST := Lib.hid (Kn.nil (S := Step.Nil) (W := W))
  go_wp2_with (first
 | ((with_reducible refine Step.gate_box (t := 29) rfl ?_); refine Step.fresh (cs := cs15 b fr A s c A2 len cap root h) (T := 29) rfl ?hr ?_; (case hr => first | (go_simp; done) | (go_simp; rfl)); intro g1 w1 b hg hb; replace ST := Lib.hid (ST.out.made b hg hb); clear b hb; clear hg)
 | (refine Step.freshAlloc rfl rfl (Duo.alloc_agg Duo.zero_two) ?_; intro g5 w2 b hg hb; replace ST := Lib.hid (ST.out.made b hg hb); clear b hb; clear hg)
 | (refine Step.load ST.out.at1 rfl rfl rfl pl_u64 cs15_0 ?_))
  have c1 := (ST.out.at1.cell 1).trans cs15_1
  have c3 := (ST.out.at1.cell 3).trans cs15_3
  have hu := Tryz.underlying33
  have hz := size_two
  go_region_held3 (fun w' => w'.cell? ⟨g1, 1, none⟩ = some (.int .i64 fr) ∧ w'.cell? ⟨g1, 3, none⟩ = some (.slice A2 len cap))
    (first | (go_keep; done) | ((refine ⟨?_, ?_⟩ <;> go_keep); done) | exact ⟨(K8.out.at2.cell 1).trans cs15_1, (K8.out.at2.cell 3).trans cs15_3⟩ | exact ⟨((((ST.out.call (Below.drew (Below.refl _ _))).call d.out).call (alloc_below _ _)).at1.cell 1).trans cs15_1, ((((ST.out.call (Below.drew (Below.refl _ _))).call d.out).call (alloc_below _ _)).at1.cell 3).trans cs15_3⟩ | exact ⟨(((ST.out.call (Below.drew (Below.refl _ _))).call d.out).at1.cell 1).trans cs15_1, (((ST.out.call (Below.drew (Below.refl _ _))).call d.out).at1.cell 3).trans cs15_3⟩ | exact ⟨((((ST.out.call (alloc_below _ _)).call (Below.drew (Below.refl _ _))).call d.out).at1.cell 1).trans cs15_1, ((((ST.out.call (alloc_below _ _)).call (Below.drew (Below.refl _ _))).call d.out).at1.cell 3).trans cs15_3⟩)
    ((first
 | (go_at_call 10; (with_reducible refine (TP.out _).mono ?_); rintro e w' ⟨rfl, rfl⟩)
 | (go_at_call 9; (with_reducible refine (TM.out _ (by first | exact (ST.out.call (Below.drew (Below.refl _ _))).below | exact ((ST.out.call (alloc_below _ _)).call (Below.drew (Below.refl _ _))).below)).mono ?_); rintro e wm ⟨h1, h2, F1, F2, rfl, d⟩; (first | (have VA := both_a ST.out d; have n0 := VA.1.cell 0; have n1 := VA.1.cell 1; have f0 := VA.1.frozen 0; have f1 := VA.1.frozen 1; simp only [List.getElem?_toArray, List.getElem?_cons_zero, List.getElem?_cons_succ] at n0 n1; have K8 := Lib.hid VA.2.1; have D8 := Lib.hid VA.2.2.1; have NF8 := Lib.hid VA.2.2.2; clear VA; obtain ⟨gN, hgN⟩ : ∃ x, x = w2.heap.size := ⟨_, rfl⟩) | (have VB := both_b ST.out d; have K8 := Lib.hid VB.1; have D8 := Lib.hid VB.2.1; have NF8 := Lib.hid VB.2.2; clear VB; obtain ⟨gN, hgN⟩ : ∃ x, x = wm.heap.size := ⟨_, rfl⟩)))))
  all_goals
    rename_i hHeld
    clear hHeld
    have ST' := Lib.hid (DK.of D8.out K8.out NF8.out)
    replace ST := ST'
    clear ST' D8 K8 NF8 d
    rw [← hgN] at ST ⊢
    clear hgN
    have hsd : decide ((4096 : Int) < (s : Int)) = false := by have := HS.out; have := HC.out; exact decide_eq_false (by omega)
    have hsd2 : ((s : Int) > 4096) = False := eq_false (by have := HS.out; have := HC.out; omega)
    obtain rfl := HC.out
    go_wp2_with (first
 | (refine Step.load ST.out.kn.at2 rfl rfl rfl pl_sb cs15_2 ?_)
 | (refine Step.loadAll ST.out.kn.at0 rfl rfl rfl Tryz.underlying33 rfl size_two ?_)
 | (refine Step.storeAll ST.out.kn.at1 rfl rfl rfl rfl rfl size_two rfl rfl ?_; intro w3 nb m; replace ST := Lib.hid (ST.out.set (ST.out.kn.set1 nb m) m ⟨_, List.mem_of_getElem? (i := 1) rfl, rfl⟩ rfl); clear nb m)
 | (go_at_call 11; (with_reducible refine (fboth ST.out.duo (⟨RA.out.rd.below ST.out.below (fun k h => h), RA.out.nil_⟩ : Arg _ A _ c f (fun x => x < W.heap.size)) (fun k hk => by have hk' : k < W.heap.size := hk; have hz := ST.out.size; exact ⟨fun h => by have := ST.out.new k (.inl h); omega, fun h => by have := ST.out.new k (.inr h); omega, by omega⟩) (by have := HS.out; omega) HF.out base (by have := HE0.out; omega) HHB.out).mono ?_); rintro e w9 ⟨rfl, F1', F2', hd, f1, f2, m⟩; rw [show (base - base).toNat = 0 by omega] at hd; replace ST := Lib.hid (ST.out.duoTurn hd f1 f2 m); clear hd f1 f2 m))
    refine bodyPost_ret (results_row_tmp rfl _ _ _ _ _ _ rfl ST.out.kn.at1 Tryz.underlying33 rfl size_two) rfl ?_
    exact ⟨h1, h2, _, _, rfl, ST.out.duo⟩
set_option maxHeartbeats 8000000 in
theorem casem_gt (W : World) (b fr : Int) (hfr : -9223372036854775808 ≤ fr ∧ fr < 9223372036854775808) (hb0 : 0 ≤ b ∧ b < 18446744073709551616) (base : Int) (hbase : b % 1099511627776 / 4096 * 4096 = base) (n : Nat) (hn : 1 + fr % 8 = n) (A : Option Addr) (s c s2 : Nat) (hcut : 4096 < s ∧ s2 = 4096 ∧ s ≤ c) (f : Nat → Int) (hA : Arg W A s2 c f (· < W.heap.size)) (hs : s2 ≤ 4096) (hf : ∀ k, k < s2 → 0 ≤ f k ∧ f k < 256)
    (A2 : Option Addr) (len cap : Nat) (f2 : Nat → Int × Int) (hA2 : RdC W A2 len f2 (· < W.heap.size)) (hl : len ≤ 9223372036854775807) (root : Int) (h : Hrt) :
    Calls Tryz.prog 4 #[.agg (cs15 b fr A s c A2 len cap root h)] W fun e w' => ∃ h1 h2 F1 F2, e = .returned (.tuple #[.agg #[.pointer (some ⟨h1, 0, none⟩), .pointer (some ⟨h2, 0, none⟩)], .bool true]) ∧ Duo W w' h1 h2 base n (fl (cm n f2 len) 0 s2 f) F1 F2 := by
  have e0 : 0 ≤ base ∧ base < 1099511627776 := by omega
  have en : 1 ≤ n ∧ n ≤ 8 := by omega
  have hnew : newB base n = true := decide_eq_true (by refine ⟨?_, ?_, ?_, ?_⟩ <;> omega)
  have w1 : IntKind.u64.wrap (IntKind.u64.wrap ((b.tmod 1099511627776).tdiv 4096) * 4096) = base := by
    rw [Int.tmod_eq_emod_of_nonneg hb0.1, Int.tdiv_eq_ediv_of_nonneg (by omega), IntWalk.u64_in (b % 1099511627776 / 4096) (by omega), hbase]; exact IntWalk.u64_in _ (by omega)
  have w2 : IntKind.i64.wrap (1 + fr % 8) = n := by rw [hn]; exact IntWalk.i64_in _ (by omega)
  have HHB := Lib.hid (show hasB base n base (s2 : Nat) = true by simp only [hasB, decide_eq_true_eq]; omega)
  have TP := Lib.hid (fun w => place_any fr 8 (by decide) hfr (by decide) w)
  have TM := Lib.hid (fun (X : World) (bl : Below W.heap.size W X) => memory_any X base n n rfl (by omega) hnew A2 len cap f2 ((hA2.mod (Mod.of_below bl Step.Nil) (fun _ _ h => h) fun _ h => h).wide fun k hk => Nat.lt_of_lt_of_le hk bl.size) hl)
  have RA := Lib.hid hA
  have HS := Lib.hid hs
  have HC := Lib.hid hcut
  have HF := Lib.hid hf
  have HE0 := Lib.hid e0
  clear hA hA2 hs hl hf hnew e0 en hb0 hfr hbase hn hcut
  go_enter Tryz.func4, Tryz.ntmps4
  have ST := Lib.hid (Kn.nil (S := Step.Nil) (W := W))
  go_wp2_with (first
 | ((with_reducible refine Step.gate_box (t := 29) rfl ?_); refine Step.fresh (cs := cs15 b fr A s c A2 len cap root h) (T := 29) rfl ?hr ?_; (case hr => first | (go_simp; done) | (go_simp; rfl)); intro g1 w1 b hg hb; replace ST := Lib.hid (ST.out.made b hg hb); clear b hb; clear hg)
 | (refine Step.freshAlloc rfl rfl (Duo.alloc_agg Duo.zero_two) ?_; intro g5 w2 b hg hb; replace ST := Lib.hid (ST.out.made b hg hb); clear b hb; clear hg)
 | (refine Step.load ST.out.at1 rfl rfl rfl pl_u64 cs15_0 ?_))
  have c1 := (ST.out.at1.cell 1).trans cs15_1
  have c3 := (ST.out.at1.cell 3).trans cs15_3
  have hu := Tryz.underlying33
  have hz := size_two
  go_region_held3 (fun w' => w'.cell? ⟨g1, 1, none⟩ = some (.int .i64 fr) ∧ w'.cell? ⟨g1, 3, none⟩ = some (.slice A2 len cap))
    (first | (go_keep; done) | ((refine ⟨?_, ?_⟩ <;> go_keep); done) | exact ⟨(K8.out.at2.cell 1).trans cs15_1, (K8.out.at2.cell 3).trans cs15_3⟩ | exact ⟨((((ST.out.call (Below.drew (Below.refl _ _))).call d.out).call (alloc_below _ _)).at1.cell 1).trans cs15_1, ((((ST.out.call (Below.drew (Below.refl _ _))).call d.out).call (alloc_below _ _)).at1.cell 3).trans cs15_3⟩ | exact ⟨(((ST.out.call (Below.drew (Below.refl _ _))).call d.out).at1.cell 1).trans cs15_1, (((ST.out.call (Below.drew (Below.refl _ _))).call d.out).at1.cell 3).trans cs15_3⟩ | exact ⟨((((ST.out.call (alloc_below _ _)).call (Below.drew (Below.refl _ _))).call d.out).at1.cell 1).trans cs15_1, ((((ST.out.call (alloc_below _ _)).call (Below.drew (Below.refl _ _))).call d.out).at1.cell 3).trans cs15_3⟩)
    ((first
 | (go_at_call 10; (with_reducible refine (TP.out _).mono ?_); rintro e w' ⟨rfl, rfl⟩)
 | (go_at_call 9; (with_reducible refine (TM.out _ (by first | exact (ST.out.call (Below.drew (Below.refl _ _))).below | exact ((ST.out.call (alloc_below _ _)).call (Below.drew (Below.refl _ _))).below)).mono ?_); rintro e wm ⟨h1, h2, F1, F2, rfl, d⟩; (first | (have VA := both_a ST.out d; have n0 := VA.1.cell 0; have n1 := VA.1.cell 1; have f0 := VA.1.frozen 0; have f1 := VA.1.frozen 1; simp only [List.getElem?_toArray, List.getElem?_cons_zero, List.getElem?_cons_succ] at n0 n1; have K8 := Lib.hid VA.2.1; have D8 := Lib.hid VA.2.2.1; have NF8 := Lib.hid VA.2.2.2; clear VA; obtain ⟨gN, hgN⟩ : ∃ x, x = w2.heap.size := ⟨_, rfl⟩) | (have VB := both_b ST.out d; have K8 := Lib.hid VB.1; have D8 := Lib.hid VB.2.1; have NF8 := Lib.hid VB.2.2; clear VB; obtain ⟨gN, hgN⟩ : ∃ x, x = wm.heap.size := ⟨_, rfl⟩)))))
  all_goals
    rename_i hHeld
    clear hHeld
    have ST' := Lib.hid (DK.of D8.out K8.out NF8.out)
    replace ST := ST'
    clear ST' D8 K8 NF8 d
    rw [← hgN] at ST ⊢
    clear hgN
    have hsd : decide ((4096 : Int) < (s : Int)) = true := by have := HC.out; exact decide_eq_true (by omega)
    have hsd2 : ((s : Int) > 4096) = True := eq_true (by have := HC.out; omega)
    have hsd3 : ((4096 : Int) ≤ (c : Int)) = True := eq_true (by have := HC.out; omega)
    have hsd4 : ((c : Int) < 4096) = False := eq_false (by have := HC.out; omega)
    have hsd5 : (4096 ≤ c) = True := eq_true (by have := HC.out; omega)
    obtain rfl := HC.out.2.1
    go_wp2_with (first
 | (refine Step.load ST.out.kn.at2 rfl rfl rfl pl_sb cs15_2 ?_)
 | (refine Step.loadAll ST.out.kn.at0 rfl rfl rfl Tryz.underlying33 rfl size_two ?_)
 | (refine Step.storeAll ST.out.kn.at1 rfl rfl rfl rfl rfl size_two rfl rfl ?_; intro w3 nb m; replace ST := Lib.hid (ST.out.set (ST.out.kn.set1 nb m) m ⟨_, List.mem_of_getElem? (i := 1) rfl, rfl⟩ rfl); clear nb m)
 | (go_at_call 11; (with_reducible refine (fboth ST.out.duo (⟨RA.out.rd.below ST.out.below (fun k h => h), RA.out.nil_⟩ : Arg _ A _ c f (fun x => x < W.heap.size)) (fun k hk => by have hk' : k < W.heap.size := hk; have hz := ST.out.size; exact ⟨fun h => by have := ST.out.new k (.inl h); omega, fun h => by have := ST.out.new k (.inr h); omega, by omega⟩) (by have := HS.out; omega) HF.out base (by have := HE0.out; omega) HHB.out).mono ?_); rintro e w9 ⟨rfl, F1', F2', hd, f1, f2, m⟩; rw [show (base - base).toNat = 0 by omega] at hd; replace ST := Lib.hid (ST.out.duoTurn hd f1 f2 m); clear hd f1 f2 m))
    refine bodyPost_ret (results_row_tmp rfl _ _ _ _ _ _ rfl ST.out.kn.at1 Tryz.underlying33 rfl size_two) rfl ?_
    exact ⟨h1, h2, _, _, rfl, ST.out.duo⟩
/-- A case and what it hands in. -/
structure C15 where
  b : Int
  fr : Int
  A : Option Addr
  s : Nat
  c : Nat
  f : Nat → Int
  A2 : Option Addr
  len : Nat
  cap : Nat
  f2 : Nat → Int × Int
  root : Int
  h : Hrt
def C15.cells (k : C15) : Array Value := cs15 k.b k.fr k.A k.s k.c k.A2 k.len k.cap k.root k.h
structure C15.Ok (W : World) (k : C15) : Prop where
  b : U64 k.b
  fr : -9223372036854775808 ≤ k.fr ∧ k.fr < 9223372036854775808
  arg : Arg W k.A k.s k.c k.f (· < W.heap.size)
  le : k.s ≤ k.c
  rd : RdC W k.A2 k.len k.f2 (· < W.heap.size)
  len : k.len ≤ 9223372036854775807
  root : U64 k.root
  h : Fit k.h
theorem casem_any (W : World) (k : C15) (q : k.Ok W) : Calls Tryz.prog 4 #[.agg k.cells] W fun e w' => ∃ h1 h2 base n mem F1 F2, e = .returned (.tuple #[.agg #[.pointer (some ⟨h1, 0, none⟩), .pointer (some ⟨h2, 0, none⟩)], .bool true]) ∧ Duo W w' h1 h2 base n mem F1 F2 := by
  obtain ⟨b, fr, A, s, c, f, A2, len, cap, f2, root, h⟩ := k
  obtain ⟨hb, hfr, hA, hsc, hA2, hl, hr, hf⟩ := q
  dsimp only at *
  obtain ⟨n, hn⟩ := Int.eq_ofNat_of_zero_le (show 0 ≤ 1 + fr % 8 by omega)
  have hby : ∀ m, m ≤ s → ∀ k, k < m → 0 ≤ f k ∧ f k < 256 := fun m hm k hk => by
    obtain ⟨_, _, _, _, h0, h1⟩ := hA.rd k (by omega)
    exact ⟨h0, h1⟩
  by_cases h4 : s ≤ 4096
  · exact (casem_le W b fr hfr hb.out _ rfl n hn A s c s rfl f hA h4 (hby s (by omega)) A2 len cap f2 hA2 hl root h).mono fun e w' ⟨h1, h2, F1, F2, he, d⟩ => ⟨h1, h2, _, _, _, F1, F2, he, d⟩
  · exact (casem_gt W b fr hfr hb.out _ rfl n hn A s c 4096 ⟨by omega, rfl, hsc⟩ f ⟨fun k hk => hA.rd k (by omega), fun e => by have := (hA.nil_ e).1; omega⟩ (by omega) (hby 4096 (by omega)) A2 len cap f2 hA2 hl root h).mono fun e w' ⟨h1, h2, F1, F2, he, d⟩ => ⟨h1, h2, _, _, _, F1, F2, he, d⟩
end Go.Proofs.YtchpnbckgofiaaaGreat.Hart
end
section
namespace Go.Proofs.YtchpnbckgofiaaaGreat.Sq
open Go Go.RowKit Go.Proofs.YtchpnbckgofiaaaGreat.Reg Go.Proofs.YtchpnbckgofiaaaGreat.Calm
set_option linter.unusedVariables false
set_option linter.unusedSimpArgs false
section
variable {P : Program} {ops : Array Oper}
/-- Any invariant that every operation keeps. -/
theorem any_invB {Inv : Array Bool → Act → World → Prop} {Q : Exit → Act → World → Prop} (hback : ∀ (i : Nat) (o : Oper), ops[i]? = some o → ∀ e ∈ o.after, Region.binds .any e = true → e.on < i)
    (hstep : ∀ (i : Nat) (o : Oper), ops[i]? = some o → ∀ (L : Array Bool) (a : Act) (w : World), L.size = ops.size → L.getD i true = false → (∀ e ∈ o.after, Region.binds .any e = true → L.getD e.on true = true) → Inv L a w → wpOp P ops Q i (Inv (L.setIfInBounds i true)) a w)
    (hQ : ∀ (L : Array Bool) (a : Act) (w : World), L.size = ops.size → (∀ i, i < ops.size → L.getD i true = true) → Inv L a w → Q .normal a w) :
    ∀ (fuel : Nat) (L : Array Bool) (a : Act) (w : World), L.size = ops.size → left ops.size L ≤ fuel → Inv L a w → wpAny P .any ops Q fuel L a w := by
  have all : ∀ (L : Array Bool), L.size = ops.size → Region.ready .any ops L = [] → ∀ i, i < ops.size → L.getD i true = true := by
    intro L hsz hr i
    induction i using Nat.strongRecOn with
    | ind i ih =>
      intro hi
      cases hL : L.getD i true with
      | true => rfl
      | false =>
        exfalso
        have ho : ops[i]? = some ops[i] := Array.getElem?_eq_getElem hi
        have ha := hback i _ ho
        have : i ∈ Region.ready .any ops L := mem_ready.2 ⟨hL, ops[i], ho, fun e he hb => by
          have h1 := ih e.on (ha e he hb) (Nat.lt_trans (ha e he hb) hi)
          have h2 : e.on < L.size := by rw [hsz]; exact Nat.lt_trans (ha e he hb) hi
          simpa [Array.getD_eq_getD_getElem?, Array.getElem?_eq_getElem h2] using h1⟩
        rw [hr] at this; cases this
  intro fuel
  induction fuel with
  | zero =>
    intro L a w hsz hleft hI
    have hr : Region.ready .any ops L = [] := by
      apply List.eq_nil_iff_forall_not_mem.2
      intro i hi
      obtain ⟨hL, o, ho, _⟩ := mem_ready.1 hi
      have hin : i < ops.size := (Array.getElem?_eq_some_iff.1 ho).1
      have := left_set hin (by omega) hL
      omega
    exact ⟨hr, hQ L a w hsz (all L hsz hr) hI⟩
  | succ fuel ih =>
    intro L a w hsz hleft hI
    refine ⟨fun hr => hQ L a w hsz (all L hsz hr) hI, fun i hi => ?_⟩
    obtain ⟨hL, o, ho, hall⟩ := mem_ready.1 hi
    have hin : i < ops.size := (Array.getElem?_eq_some_iff.1 ho).1
    have hdep : ∀ e ∈ o.after, Region.binds .any e = true → L.getD e.on true = true := fun e he hb => by
      have h1 := hall e he hb
      rcases Nat.lt_or_ge e.on L.size with h' | h'
      · simpa [Array.getD_eq_getD_getElem?, Array.getElem?_eq_getElem h'] using h1
      · simp [Array.getD_eq_getD_getElem?, Array.getElem?_eq_none h'] at h1
    refine wpOp_mono (fun a' w' hI' => ih _ a' w' (by simpa using hsz) ?_ hI') (hstep i o ho L a w hsz hL hdep hI)
    have := left_set hin (show i < L.size by omega) hL
    omega
/-- k waits for j. -/
def dep (ops : Array Oper) (k j : Nat) : Bool := match ops[k]? with | some o => o.after.any (fun e => e.on == j && Region.binds .any e) | none => false
/-- All that those of S wait for, below n. -/
def sweep (ops : Array Oper) : Nat → List Nat → List Nat
  | 0, S => S
  | j + 1, S => if S.any (fun k => dep ops k j) then sweep ops j (j :: S) else sweep ops j S
def lastAfter (ops : Array Oper) (i : Nat) : Bool := (List.range i).all fun j => (sweep ops i [i]).contains j
/-- What stands listed, so does all that it waited for. -/
def Closed (ops : Array Oper) (L : Array Bool) : Prop := ∀ (k : Nat) (o : Oper), ops[k]? = some o → L.getD k false = true → ∀ e ∈ o.after, Region.binds .any e = true → L.getD e.on true = true
theorem dep_out {k j : Nat} (h : dep ops k j = true) : ∃ o, ops[k]? = some o ∧ ∃ e ∈ o.after, e.on = j ∧ Region.binds .any e = true := by
  unfold dep at h
  cases ho : ops[k]? with
  | none => rw [ho] at h; cases h
  | some o =>
    rw [ho] at h
    obtain ⟨e, he, hb⟩ := Array.any_eq_true'.1 h
    simp only [Bool.and_eq_true, beq_iff_eq] at hb
    exact ⟨o, rfl, e, he, hb.1, hb.2⟩
theorem sweep_listed {L : Array Bool} {i : Nat} {o : Oper} (ho : ops[i]? = some o) (hc : Closed ops L) (hsz : L.size = ops.size) (hdep : ∀ e ∈ o.after, Region.binds .any e = true → L.getD e.on true = true) :
    ∀ (n : Nat) (S : List Nat), n ≤ ops.size → (∀ k ∈ S, k = i ∨ L.getD k true = true) → ∀ k ∈ sweep ops n S, k = i ∨ L.getD k true = true
  | 0, S, _, hS, k, hk => hS k hk
  | j + 1, S, hn, hS, k, hk => by
    unfold sweep at hk
    split at hk
    · rename_i hany
      refine sweep_listed ho hc hsz hdep j (j :: S) (by omega) (fun x hx => ?_) k hk
      rcases List.mem_cons.1 hx with rfl | hx
      · obtain ⟨y, hy, hd⟩ := List.any_eq_true.1 hany
        obtain ⟨oy, hoy, e, he, rfl, hb⟩ := dep_out hd
        rcases hS y hy with rfl | hy'
        · rw [ho] at hoy; obtain rfl := Option.some.inj hoy
          exact .inr (hdep e he hb)
        · have hyl : y < L.size := by rw [hsz]; exact (Array.getElem?_eq_some_iff.1 hoy).1
          exact .inr (hc y oy hoy (by simpa [Array.getD_eq_getD_getElem?, Array.getElem?_eq_getElem hyl] using hy') e he hb)
      · exact hS x hx
    · exact sweep_listed ho hc hsz hdep j S (by omega) hS k hk
theorem lastAfter_all {L : Array Bool} {i : Nat} {o : Oper} (h : lastAfter ops i = true) (ho : ops[i]? = some o) (hc : Closed ops L) (hsz : L.size = ops.size) (hdep : ∀ e ∈ o.after, Region.binds .any e = true → L.getD e.on true = true) :
    ∀ j, j < i → L.getD j true = true := fun j hj => by
  have h1 := List.all_eq_true.1 h j (List.mem_range.2 hj)
  have h2 := sweep_listed ho hc hsz hdep i [i] (Nat.le_of_lt (Array.getElem?_eq_some_iff.1 ho).1) (fun k hk => .inl (List.mem_singleton.1 hk)) j (by simpa using h1)
  rcases h2 with h2 | h2
  · omega
  · exact h2
theorem Closed.set {L : Array Bool} {i : Nat} {o : Oper} (hc : Closed ops L) (ho : ops[i]? = some o) (hdep : ∀ e ∈ o.after, Region.binds .any e = true → L.getD e.on true = true) : Closed ops (L.setIfInBounds i true) := by
  have hup : ∀ j, L.getD j true = true → (L.setIfInBounds i true).getD j true = true := by
    intro j hj
    by_cases e : i = j
    · subst e
      by_cases hl : i < L.size
      · simp [Array.getD_eq_getD_getElem?, hl]
      · simp [Array.getD_eq_getD_getElem?, hl]
    · simpa [Array.getD_eq_getD_getElem?, Array.getElem?_setIfInBounds_ne e] using hj
  intro k o' ho' hk e he hb
  by_cases ek : i = k
  · subst ek
    rw [ho] at ho'; obtain rfl := Option.some.inj ho'
    exact hup _ (hdep e he hb)
  · have hk' : L.getD k false = true := by simpa [Array.getD_eq_getD_getElem?, Array.getElem?_setIfInBounds_ne ek] using hk
    exact hup _ (hc k o' ho' hk' e he hb)
/-- The first m operations look only at what is filled ahead of them, no two of them fill one slot; the others come behind all that stands ahead of them. -/
def parted (ops : Array Oper) (m : Nat) : Bool :=
  (List.range ops.size).all fun i => match ops[i]? with
    | none => true
    | some o => (o.after.all fun e => !Region.binds .any e || decide (e.on < i)) && (match o.op with | .select .. => false | _ => true) &&
        (if i < m then ((o.looksAt ops).all fun t => (List.range m).all fun j => match ops[j]? with
          | none => true
          | some oj => oj.dst != some t || o.after.any fun e => e.on == j && Region.binds .any e) && ((List.range m).all fun j => j == i || match ops[j]? with | none => true | some oj => oj.dst == none || oj.dst != o.dst)
         else lastAfter ops i)
theorem parted_at {m : Nat} (h : parted ops m = true) {i : Nat} {o : Oper} (ho : ops[i]? = some o) :
    (∀ e ∈ o.after, Region.binds .any e = true → e.on < i) ∧ (∀ cs b, o.op ≠ .select cs b) ∧ (i < m → ∀ t ∈ o.looksAt ops, ∀ (j : Nat) (oj : Oper), j < m → ops[j]? = some oj → oj.dst = some t → ∃ e ∈ o.after, e.on = j ∧ Region.binds .any e = true) ∧
      (i < m → ∀ (j : Nat) (oj : Oper), j < m → j ≠ i → ops[j]? = some oj → ∀ t, oj.dst = some t → o.dst ≠ some t) ∧ (m ≤ i → lastAfter ops i = true) := by
  unfold parted at h
  have hi : i < ops.size := (Array.getElem?_eq_some_iff.1 ho).1
  have h1 := List.all_eq_true.1 h i (List.mem_range.2 hi)
  simp only [ho, Bool.and_eq_true, Array.all_eq_true'] at h1
  obtain ⟨⟨ha, hs⟩, hl⟩ := h1
  refine ⟨fun e he hb => by have h := ha e he; rw [hb] at h; simpa using h, fun cs b e => ?_, fun him t ht j oj hjm hj hd => ?_, fun him j oj hjm hne hj t hd => ?_, fun him => ?_⟩
  · rw [e] at hs; cases hs
  · rw [if_pos him, Bool.and_eq_true] at hl
    have h2 := List.all_eq_true.1 hl.1 t ht
    have h3 := List.all_eq_true.1 h2 j (List.mem_range.2 hjm)
    simp only [hj, hd, bne_self_eq_false, Bool.false_or] at h3
    obtain ⟨e, he, hb⟩ := Array.any_eq_true'.1 h3
    simp only [Bool.and_eq_true, beq_iff_eq] at hb
    exact ⟨e, he, hb.1, hb.2⟩
  · rw [if_pos him, Bool.and_eq_true] at hl
    have h3 := List.all_eq_true.1 hl.2 j (List.mem_range.2 hjm)
    simp only [hj, hd, Bool.or_eq_true, beq_iff_eq] at h3
    intro e
    rcases h3 with h3 | h3 | h3
    · exact hne h3
    · cases h3
    · rw [e] at h3; simp at h3
  · rwa [if_neg (by omega)] at hl
/-- An operation at a frame, wherever the condition holds: it yields v and keeps the condition. -/
def Comes (P : Program) (ops : Array Oper) (I : World → Prop) (a : Act) (o : Oper) (v : Value) : Prop :=
  (Region.wanted o (yielded ops a.tmps) = true ∧ ∀ X, I X → o.wp P a X (fun a' X' => a' = a.put o.dst v ∧ I X') (fun _ _ _ => False)) ∨ (Region.wanted o (yielded ops a.tmps) = false ∧ v = undef)
def Seq (P : Program) (ops : Array Oper) (I : World → Prop) : List Oper → Act → (Act → Prop) → Prop
  | [], a, K => K a
  | o :: r, a, K => ∃ v, Comes P ops I a o v ∧ Seq P ops I r (a.put o.dst v) K
theorem seq_nil {I : World → Prop} {a : Act} {K : Act → Prop} (h : K a) : Seq P ops I [] a K := h
def fr : Act → List (Oper × Value) → Act
  | a, [] => a
  | a, (o, v) :: q => fr (a.put o.dst v) q
theorem fr_size : ∀ (q : List (Oper × Value)) (a : Act), (fr a q).tmps.size = a.tmps.size
  | [], _ => rfl
  | (o, v) :: q, a => (fr_size q _).trans (by cases h : o.dst <;> simp [Act.put])
theorem fr_defers : ∀ (q : List (Oper × Value)) (a : Act), (fr a q).defers = a.defers
  | [], _ => rfl
  | (o, v) :: q, a => (fr_defers q _).trans (by cases h : o.dst <;> simp [Act.put])
theorem fr_other (t : Nat) : ∀ (q : List (Oper × Value)) (a : Act), (∀ p ∈ q, p.1.dst ≠ some t) → (fr a q).tmps[t]? = a.tmps[t]?
  | [], _, _ => rfl
  | (o, v) :: q, a, h => (fr_other t q _ fun p hp => h p (List.mem_cons_of_mem _ hp)).trans (by
      have h1 : o.dst ≠ some t := h _ (List.mem_cons_self ..)
      cases hd : o.dst with
      | none => rfl
      | some d =>
        have : d ≠ t := fun e => h1 (by rw [hd, e])
        simp [Act.put, Array.getElem?_setIfInBounds_ne this])
theorem fr_append : ∀ (q r : List (Oper × Value)) (a : Act), fr a (q ++ r) = fr (fr a q) r
  | [], _, _ => rfl
  | (o, v) :: q, r, a => fr_append q r (a.put o.dst v)
theorem seq_out {I : World → Prop} {K : Act → Prop} : ∀ (l : List Oper) (a : Act), Seq P ops I l a K → ∃ vs : List Value, vs.length = l.length ∧ K (fr a (l.zip vs)) ∧
    ∀ (i : Nat) (o : Oper) (v : Value), l[i]? = some o → vs[i]? = some v → Comes P ops I (fr a ((l.zip vs).take i)) o v
  | [], a, h => ⟨[], rfl, h, fun i o v ho => by simp at ho⟩
  | o :: r, a, ⟨v, hc, h⟩ => by
    obtain ⟨vs, hl, hK, hall⟩ := seq_out r _ h
    refine ⟨v :: vs, by simp [hl], hK, fun i o' v' ho hv => ?_⟩
    cases i with
    | zero =>
      simp only [List.getElem?_cons_zero, Option.some.injEq] at ho hv
      subst ho hv
      exact hc
    | succ i =>
      simp only [List.getElem?_cons_succ] at ho hv
      exact hall i o' v' ho hv
theorem put_back {a fin : Act} {d : Option Tmp} {u v : Value} (hsz : a.tmps.size = fin.tmps.size) (h : a.put d u = a.put d v) (hv : fin.put d v = fin) : fin.put d u = fin := by
  cases d with
  | none => rfl
  | some t =>
    by_cases hl : t < a.tmps.size
    · have h1 := congrArg (fun x : Act => x.tmps[t]?) h
      simp only [Act.put, Array.getElem?_setIfInBounds_self, hl, if_true, Option.some.injEq] at h1
      rw [h1]; exact hv
    · have : fin.tmps.setIfInBounds t u = fin.tmps := Array.setIfInBounds_eq_of_size_le (by rw [← hsz]; exact Nat.not_lt.1 hl)
      show ({ fin with tmps := fin.tmps.setIfInBounds t u } : Act) = fin
      rw [this]
/-- The same operation at another frame that shows it the same. -/
theorem wp_move {I : World → Prop} {o : Oper} {a fin : Act} {X : World} {v : Value} (hex : execOp a.eval o = execOp fin.eval o) (hsz : a.tmps.size = fin.tmps.size) (hv : fin.put o.dst v = fin)
    (h : o.wp P a X (fun a' X' => a' = a.put o.dst v ∧ I X') (fun _ _ _ => False)) : o.wp P fin X (fun a' X' => a' = fin ∧ I X') (fun _ _ _ => False) := by
  unfold Oper.wp at *
  rw [hex] at h
  generalize (execOp fin.eval o).run P X = r at *
  cases r with
  | ok n w' =>
    cases n <;> simp only [Oper.upon] at h ⊢
    case value u => exact ⟨put_back hsz h.1 hv, h.2⟩
    case skip => exact ⟨put_back hsz h.1 hv, h.2⟩
    case defer d =>
      exfalso
      have h1 := congrArg Act.defers h.1
      have h2 : (({ a with defers := d :: a.defers } : Act).put o.dst undef).defers = d :: a.defers := by cases o.dst <;> rfl
      have h3 : (a.put o.dst v).defers = a.defers := by cases o.dst <;> rfl
      rw [h2, h3] at h1
      have := congrArg List.length h1
      simp at this
    case enter f args =>
      refine Calls.mono h fun e w'' he => ?_
      cases e with
      | returned u => exact ⟨put_back hsz he.1 hv, he.2⟩
      | panicked c => exact he.elim
      | outgrown => obtain ⟨_, _, hf⟩ := he; exact hf.elim
    case row row args => exact Rows.mono h fun u w'' he => ⟨put_back hsz he.1 hv, he.2⟩
  | halt x w' =>
    cases x <;> simp only [Oper.upon] at h ⊢
/-- What is asked of an operation at the final frame. -/
def Keeps (P : Program) (ops : Array Oper) (fin : Act) (I : World → Prop) (o : Oper) : Prop :=
  ∀ X, I X → if Region.wanted o (yielded ops fin.tmps) then o.wp P fin X (fun a' X' => a' = fin ∧ I X') (fun _ _ _ => False) else fin.put o.dst undef = fin
theorem looks_eq {a fin : Act} {o : Oper} (hs : ∀ cs b, o.op ≠ .select cs b) (seen : ∀ t ∈ o.looksAt ops, a.tmps[t]? = fin.tmps[t]?) :
    execOp a.eval o = execOp fin.eval o ∧ Region.wanted o (yielded ops a.tmps) = Region.wanted o (yielded ops fin.tmps) := by
  refine ⟨execOp_congr o hs fun x hx => ?_, ?_⟩
  · cases x with
    | tmp t =>
      have := seen t (List.mem_append_left _ (List.mem_filterMap.2 ⟨.tmp t, by simpa using hx, rfl⟩))
      simp only [Act.eval, Array.getD_eq_getD_getElem?, this]
    | _ => rfl
  · unfold Region.wanted
    cases hg : o.guard with
    | none => rfl
    | some p =>
      obtain ⟨g, want⟩ := p
      have : yielded ops a.tmps g = yielded ops fin.tmps g := by
        unfold yielded
        cases hgd : (ops[g]?).bind (·.dst) with
        | none => rfl
        | some t =>
          have ht : t ∈ o.looksAt ops := List.mem_append_right _ (by simp [hg, hgd])
          simp only [Option.bind_some, seen t ht]
      simp only [this]
theorem keep_step {m : Nat} {L : Array Bool} {a fin : Act} {i : Nat} {o : Oper} {w : World} {I : World → Prop} {Q : Exit → Act → World → Prop} {K : Act → World → Prop} (hp : parted ops m = true) (ho : ops[i]? = some o) (him : i < m)
    (hdep : ∀ e ∈ o.after, Region.binds .any e = true → L.getD e.on true = true) (h : AgreeM ops m L a fin) (hw : I w) (hc : Keeps P ops fin I o)
    (hK : ∀ a' w', AgreeM ops m (L.setIfInBounds i true) a' fin → I w' → K a' w') : wpOp P ops Q i K a w := by
  obtain ⟨_, hs, hl, _⟩ := parted_at hp ho
  obtain ⟨hex, hwa⟩ := looks_eq (a := a) (fin := fin) hs (fun t ht => h.slot t fun j oj hjm hj hd => by
    obtain ⟨e, he, rfl, hb⟩ := hl him t ht j oj hjm hj hd
    exact hdep e he hb)
  have hdo := hc w hw
  unfold wpOp
  simp only [ho]
  rw [hwa]
  split
  · rename_i hw'
    rw [if_pos hw'] at hdo
    refine .inl ?_
    unfold Oper.wp at *
    rw [hex]
    generalize (execOp fin.eval o).run P w = r at *
    cases r with
    | ok n w' =>
      cases n <;> simp only [Oper.upon] at hdo ⊢
      case value u => exact hK _ _ (agreeM_put ho h hdo.1) hdo.2
      case skip => exact hK _ _ (agreeM_put ho h hdo.1) hdo.2
      case defer d =>
        exfalso
        have h1 := congrArg Act.defers hdo.1
        have h2 : (({ fin with defers := d :: fin.defers } : Act).put o.dst undef).defers = d :: fin.defers := by cases o.dst <;> rfl
        rw [h2] at h1
        have := congrArg List.length h1
        simp at this
      case enter f args =>
        refine Calls.mono hdo fun e w'' he => ?_
        cases e with
        | returned u => exact hK _ _ (agreeM_put ho h he.1) he.2
        | panicked c => exact he.elim
        | outgrown => obtain ⟨_, _, hf⟩ := he; exact hf.elim
      case row row args => exact Rows.mono hdo fun u w'' he => hK _ _ (agreeM_put ho h he.1) he.2
    | halt x w' =>
      cases x <;> simp only [Oper.upon] at hdo ⊢
  · rename_i hw'
    rw [if_neg hw'] at hdo
    exact hK _ _ (agreeM_put ho h hdo) hw
theorem keeps_of {m : Nat} {l : List Oper} {vs : List Value} {a : Act} {i : Nat} {o : Oper} {v : Value} {I : World → Prop} (hp : parted ops m = true) (hlm : l.length ≤ m) (hops : ∀ (j : Nat) (oj : Oper), l[j]? = some oj → ops[j]? = some oj)
    (hvs : vs.length = l.length) (ho : l[i]? = some o) (hv : vs[i]? = some v) (hc : Comes P ops I (fr a ((l.zip vs).take i)) o v) : Keeps P ops (fr a (l.zip vs)) I o := by
  have hil : i < l.length := (List.getElem?_eq_some_iff.1 ho).1
  have him : i < m := Nat.lt_of_lt_of_le hil hlm
  obtain ⟨hb, hs, hl, hd, _⟩ := parted_at hp (hops i o ho)
  have hz : (l.zip vs)[i]? = some (o, v) := by rw [List.getElem?_zip_eq_some]; exact ⟨ho, hv⟩
  have hiz : i < (l.zip vs).length := (List.getElem?_eq_some_iff.1 hz).1
  have hsplit : l.zip vs = (l.zip vs).take i ++ ((o, v) :: (l.zip vs).drop (i + 1)) := by
    have h1 : (l.zip vs).drop i = (o, v) :: (l.zip vs).drop (i + 1) := by
      rw [List.drop_eq_getElem_cons hiz]; congr 1
      have := List.getElem?_eq_getElem hiz; rw [hz] at this; exact (Option.some.inj this).symm
    rw [← h1, List.take_append_drop]
  have hfin : fr a (l.zip vs) = fr ((fr a ((l.zip vs).take i)).put o.dst v) ((l.zip vs).drop (i + 1)) := by
    conv => lhs; rw [hsplit]
    rw [fr_append]; rfl
  -- who stands behind
  have behind : ∀ p ∈ (l.zip vs).drop (i + 1), ∃ j, i < j ∧ j < m ∧ ops[j]? = some p.1 := by
    intro p hp'
    obtain ⟨k, hk⟩ := List.mem_iff_getElem?.1 hp'
    rw [List.getElem?_drop, List.getElem?_zip_eq_some] at hk
    have hkl : i + 1 + k < l.length := (List.getElem?_eq_some_iff.1 hk.1).1
    exact ⟨i + 1 + k, by omega, by omega, hops _ _ hk.1⟩
  generalize hai : fr a ((l.zip vs).take i) = ai at *
  generalize hq : (l.zip vs).drop (i + 1) = q at *
  have hsz : ai.tmps.size = (fr a (l.zip vs)).tmps.size := by rw [hfin, fr_size]; cases h : o.dst <;> simp [Act.put]
  have seen : ∀ t ∈ o.looksAt ops, ai.tmps[t]? = (fr a (l.zip vs)).tmps[t]? := by
    intro t ht
    have hno : ∀ (j : Nat) (oj : Oper), i ≤ j → j < m → ops[j]? = some oj → oj.dst ≠ some t := by
      intro j oj hij hjm hj he
      obtain ⟨e, he', rfl, hbd⟩ := hl him t ht j oj hjm hj he
      have := hb e he' hbd
      omega
    rw [hfin, fr_other t q _ fun p hp' he => by
      obtain ⟨j, hij, hjm, hj⟩ := behind p hp'
      exact hno j p.1 (by omega) hjm hj he]
    have h1 := hno i o (Nat.le_refl _) him (hops i o ho)
    cases hdst : o.dst with
    | none => rfl
    | some d =>
      have : d ≠ t := fun e => h1 (by rw [hdst, e])
      simp [Act.put, Array.getElem?_setIfInBounds_ne this]
  have hput : (fr a (l.zip vs)).put o.dst v = fr a (l.zip vs) := by
    cases hdst : o.dst with
    | none => rfl
    | some d =>
      have hslot : (fr a (l.zip vs)).tmps[d]? = (ai.tmps.setIfInBounds d v)[d]? := by
        rw [hfin, fr_other d q _ fun p hp' he => by
          obtain ⟨j, hij, hjm, hj⟩ := behind p hp'
          exact hd him j p.1 hjm (by omega) hj d he hdst, hdst]
        rfl
      have : (fr a (l.zip vs)).tmps.setIfInBounds d v = (fr a (l.zip vs)).tmps := by
        apply Array.ext_getElem?
        intro t
        by_cases e : d = t
        · subst e
          rw [hslot, Array.getElem?_setIfInBounds_self, Array.getElem?_setIfInBounds_self, hsz]
        · rw [Array.getElem?_setIfInBounds_ne e]
      show ({ (fr a (l.zip vs)) with tmps := (fr a (l.zip vs)).tmps.setIfInBounds d v } : Act) = _
      rw [this]
  obtain ⟨hex, hwa⟩ := looks_eq (a := ai) (fin := fr a (l.zip vs)) hs seen
  intro X hX
  rcases hc with ⟨hw, h⟩ | ⟨hw, rfl⟩
  · rw [if_pos (by rw [← hwa]; exact hw)]
    exact wp_move hex hsz hput (h X hX)
  · rw [if_neg (by rw [← hwa, hw]; decide)]
    exact hput
/-- **The first m operations in whatever order, walked once; then the rest in the text's order.** -/
theorem region {l : List Oper} {id : Nat} {a : Act} {w : World} {I : World → Prop} {Q : Exit → Act → World → Prop} (hm : P.follows .mixedOrders = true) (m : Nat) (hI : I { w with drawn := w.drawn + 1 })
    (hp : parted l.toArray m = true) (h : ∀ (ops : Array Oper) (K : Act → Prop), ops = l.toArray → RowKit.Hid (∀ fin, (∀ w', I w' → wpList P ops Q (l.drop m) fin w') → K fin) → Seq P ops I (l.take m) a K) : (Code.region id l.toArray true).wp P Q a w := by
  have hsz : l.toArray.size = l.length := by simp
  replace h := h _ _ rfl (Lib.hid fun _ h => h)
  obtain ⟨vs, hvs, hrest, hcomes⟩ := seq_out _ _ h
  have hkeep : ∀ o ∈ l.take m, Keeps P l.toArray (fr a ((l.take m).zip vs)) I o := by
    intro o ho
    obtain ⟨i, hi⟩ := List.mem_iff_getElem?.1 ho
    have hil : i < (l.take m).length := (List.getElem?_eq_some_iff.1 hi).1
    have hv : vs[i]? = some vs[i] := List.getElem?_eq_getElem (by omega)
    refine keeps_of (m := m) hp (by simp; omega) (fun j oj hj => ?_) hvs hi hv (hcomes i o _ hi hv)
    have : (l.take m)[j]? = l[j]? := by
      rw [List.getElem?_take]
      split
      · rfl
      · rename_i hc
        have := (List.getElem?_eq_some_iff.1 hj).1
        simp at this
        omega
    rw [this] at hj
    simpa using hj
  have hslots : ∀ t, (∀ (j : Nat) (o : Oper), j < m → l.toArray[j]? = some o → o.dst ≠ some t) → (fr a ((l.take m).zip vs)).tmps[t]? = a.tmps[t]? := by
    intro t ht
    refine fr_other t _ a fun p hp' => ?_
    obtain ⟨k, hk⟩ := List.mem_iff_getElem?.1 hp'
    rw [List.getElem?_zip_eq_some] at hk
    have h1 := hk.1
    rw [List.getElem?_take] at h1
    split at h1
    · rename_i hkm
      exact ht k p.1 hkm (by simpa using h1)
    · cases h1
  have hfd : (fr a ((l.take m).zip vs)).defers = a.defers := fr_defers _ _
  have hfs : (fr a ((l.take m).zip vs)).tmps.size = a.tmps.size := fr_size _ _
  clear hcomes h
  generalize fr a ((l.take m).zip vs) = fin at *
  refine wp_region_any hm ?_
  let Inv : Array Bool → Act → World → Prop := fun L a' w => Closed l.toArray L ∧ (((∀ j, m ≤ j → j < l.length → L.getD j true = false) ∧ AgreeM l.toArray m L a' fin ∧ I w) ∨ (∃ k, m < k ∧ k ≤ l.length ∧ (∀ j, j < l.length → (L.getD j true = true ↔ j < k)) ∧ wpList P l.toArray Q (l.drop k) a' w))
  have hset : ∀ (L : Array Bool) (i j : Nat), L.size = l.length → j < l.length → ((L.setIfInBounds i true).getD j true = true ↔ (j = i ∨ L.getD j true = true)) := by
    intro L i j hs hj
    by_cases e : i = j
    · subst e; simp [Array.getD_eq_getD_getElem?, hs, hj]
    · have : j ≠ i := fun h => e h.symm
      simp [Array.getD_eq_getD_getElem?, Array.getElem?_setIfInBounds_ne e, this]
  refine any_invB (Inv := Inv) (fun i o ho => (parted_at hp ho).1) ?_ ?_ _ _ _ _ (by simp) (left_le _ _) ?_
  · intro i o ho L a' w hL hLi hdep hInv
    have hLo := hL
    rw [hsz] at hL
    have hil : i < l.length := by have := (Array.getElem?_eq_some_iff.1 ho).1; simpa using this
    have hol : l[i]? = some o := by simpa using ho
    obtain ⟨_, _, _, _, htail⟩ := parted_at hp ho
    obtain ⟨hcl, hInv⟩ := hInv
    have hcl2 := hcl.set ho hdep
    rcases hInv with ⟨hnone, hag, hb⟩ | ⟨k, hmk, hkl, hk, hrun⟩
    · by_cases him : i < m
      · refine keep_step hp ho him hdep hag hb (hkeep o (List.mem_of_getElem? (i := i) (by rw [List.getElem?_take, if_pos him]; exact hol))) fun a'' w'' ha'' hb'' => ⟨hcl2, .inl ⟨fun j hj hjl => ?_, ha'', hb''⟩⟩
        have e : i ≠ j := by omega
        have := hnone j hj hjl
        simpa [Array.getD_eq_getD_getElem?, Array.getElem?_setIfInBounds_ne e] using this
      · -- the first of the rest
        have hmi : m ≤ i := by omega
        have hall : ∀ j, j < i → L.getD j true = true := lastAfter_all (htail hmi) ho hcl hLo hdep
        have him2 : i = m := by
          rcases Nat.lt_or_ge m i with h | h
          · have := hall m h; rw [hnone m (Nat.le_refl _) (by omega)] at this; cases this
          · omega
        subst him2
        have hfin : a' = fin := by
          have ht : a'.tmps = fin.tmps := Array.ext_getElem? fun t => hag.slot t fun j o' hj _ _ => hall j hj
          have hd := hag.defers
          cases a'; cases hq : fin; simp_all
        subst hfin
        have hr := hrest w hb
        have hdrop : l.drop i = o :: l.drop (i + 1) := by
          rw [List.drop_eq_getElem_cons hil]; congr 1
          have := List.getElem?_eq_getElem hil; rw [hol] at this; exact (Option.some.inj this).symm
        rw [hdrop] at hr
        refine wpOp_mono (fun a'' w'' h'' => ⟨hcl2, .inr ⟨i + 1, by omega, by omega, fun j hj => ?_, h''⟩⟩) (wpOp_tail ho hr)
        rw [hset L i j hL hj]
        constructor
        · rintro (h | h)
          · omega
          · rcases Nat.lt_or_ge j i with h1 | h1
            · omega
            · rw [hnone j h1 hj] at h; cases h
        · intro h
          rcases Nat.lt_or_ge j i with h1 | h1
          · exact .inr (hall j h1)
          · exact .inl (by omega)
    · -- further on
      have hki : k ≤ i := by
        rcases Nat.lt_or_ge i k with h | h
        · have := (hk i hil).2 h; rw [hLi] at this; cases this
        · exact h
      have hall : ∀ j, j < i → L.getD j true = true := lastAfter_all (htail (by omega)) ho hcl hLo hdep
      have hik : i = k := by
        rcases Nat.lt_or_ge k i with h | h
        · have := (hk k (by omega)).1 (hall k h); omega
        · omega
      subst hik
      have hdrop : l.drop i = o :: l.drop (i + 1) := by
        rw [List.drop_eq_getElem_cons hil]; congr 1
        have := List.getElem?_eq_getElem hil; rw [hol] at this; exact (Option.some.inj this).symm
      rw [hdrop] at hrun
      refine wpOp_mono (fun a'' w'' h'' => ⟨hcl2, .inr ⟨i + 1, by omega, by omega, fun j hj => ?_, h''⟩⟩) (wpOp_tail ho hrun)
      rw [hset L i j hL hj]
      constructor
      · rintro (h | h)
        · omega
        · have := (hk j hj).1 h; omega
      · intro h
        rcases Nat.lt_or_ge j i with h1 | h1
        · exact .inr (hall j h1)
        · exact .inl (by omega)
  · intro L a' w hL hall hInv
    rw [hsz] at hall
    rcases hInv.2 with ⟨hnone, hag, hb⟩ | ⟨k, hmk, hkl, hk, hrun⟩
    · have hml : l.length ≤ m := by
        rcases Nat.lt_or_ge m l.length with h | h
        · have h1 := hnone m (Nat.le_refl _) h; rw [hall m h] at h1; cases h1
        · exact h
      have hfin : a' = fin := by
        have ht : a'.tmps = fin.tmps := Array.ext_getElem? fun t => hag.slot t fun j o' _ hj _ => hall j (by have := (Array.getElem?_eq_some_iff.1 hj).1; simpa using this)
        have hd := hag.defers
        cases a'; cases hq : fin; simp_all
      subst hfin
      have hr := hrest w hb
      rw [List.drop_of_length_le hml] at hr
      exact hr
    · have : k = l.length := by
        rcases Nat.lt_or_ge k l.length with h | h
        · have h1 := (hk k h).1 (hall k h); omega
        · omega
      subst this
      rw [List.drop_length] at hrun
      exact hrun
  · refine ⟨fun k o _ hk => (by exfalso; rw [Array.getD_eq_getD_getElem?, Array.getElem?_replicate] at hk; split at hk <;> simp at hk), .inl ⟨fun j hj hjl => by simp [Array.getD_eq_getD_getElem?, hjl], ⟨hfd.symm, hfs.symm, fun t ht => (hslots t fun j o hj ho he => ?_).symm⟩, hI⟩⟩
    have h2 := ht j o hj ho he
    have hjl : j < l.length := by have := (Array.getElem?_eq_some_iff.1 ho).1; simpa using this
    simp [Array.getD_eq_getD_getElem?, hjl] at h2
end
end Go.Proofs.YtchpnbckgofiaaaGreat.Sq
end
section
namespace Go.Proofs.YtchpnbckgofiaaaGreat.Sq
open Go Go.RowKit Go.Proofs.YtchpnbckgofiaaaGreat.Reg Go.Proofs.YtchpnbckgofiaaaGreat.Calm Go.Proofs.YtchpnbckgofiaaaGreat.Step
set_option linter.unusedVariables false
set_option linter.unusedSimpArgs false
section
variable {P : Program} {ops : Array Oper} {I : World → Prop} {o : Oper} {r : List Oper} {a : Act} {K : Act → Prop}
theorem seq_val {v : Value} (hw : Region.wanted o (yielded ops a.tmps) = true) (hr : ∀ X, I X → (execOp a.eval o).run P X = .ok (.value v) X) (h : Seq P ops I r (a.put o.dst v) K) : Seq P ops I (o :: r) a K :=
  ⟨v, .inl ⟨hw, fun X hX => by unfold Oper.wp; rw [hr X hX]; exact ⟨rfl, hX⟩⟩, h⟩
theorem seq_pure {v : Value} (hg : o.guard = none) (hr : ∀ X, (execOp a.eval o).run P X = .ok (.value v) X) (h : Seq P ops I r (a.put o.dst v) K) : Seq P ops I (o :: r) a K :=
  seq_val (by simp [Region.wanted, hg]) (fun X _ => hr X) h
theorem seq_pure_g {v : Value} (hw : Region.wanted o (yielded ops a.tmps) = true) (hr : ∀ X, (execOp a.eval o).run P X = .ok (.value v) X) (h : Seq P ops I r (a.put o.dst v) K) : Seq P ops I (o :: r) a K :=
  seq_val hw (fun X _ => hr X) h
theorem seq_not (hw : Region.wanted o (yielded ops a.tmps) = false) (h : Seq P ops I r (a.put o.dst undef) K) : Seq P ops I (o :: r) a K := ⟨undef, .inr ⟨hw, rfl⟩, h⟩
theorem seq_move {x : Operand} (hg : o.guard = none) (ho : o.op = .move x) (h : Seq P ops I r (a.put o.dst (a.eval x)) K) : Seq P ops I (o :: r) a K :=
  seq_pure hg (fun X => by simp [execOp, ho]) h
theorem seq_check {x : Operand} {ad : Addr} (hg : o.guard = none) (ho : o.op = .nilCheck x) (hx : a.eval x = .pointer (some ad)) (h : Seq P ops I r (a.put o.dst (.pointer (some ad))) K) : Seq P ops I (o :: r) a K :=
  seq_pure hg (fun X => by simp only [execOp, ho, hx]; rfl) h
/-- A cell of a block is read. -/
theorem seq_load {t : TypeId} {x : Operand} {g i : Nat} {cs : Array Value} {T : TypeId} {v : Value} (hB : ∀ X, I X → Blk X g cs T) (hw : Region.wanted o (yielded ops a.tmps) = true) (ho : o.op = .load t x) (hx : a.eval x = .pointer (some ⟨g, i, none⟩)) (ht : plainT P t = true) (hv : cs[i]? = some v)
    (h : Seq P ops I r (a.put o.dst v) K) : Seq P ops I (o :: r) a K :=
  seq_val hw (fun X hX => by
    have := run_load1 (P := P) ht (((hB X hX).cell i).trans hv)
    simp [execOp, ho, hx, this, Result.andThen]) h
theorem row_all (cs : Array Value) : Row cs 0 cs := fun j v hv => by simpa using hv
theorem wanted_none {o : Oper} {y : Nat → Option Bool} (hg : o.guard = none) : Region.wanted o y = true := by simp [Region.wanted, hg]
end
end Go.Proofs.YtchpnbckgofiaaaGreat.Sq
end
section
namespace Go.Proofs.YtchpnbckgofiaaaGreat.Tab
open Go Go.RowKit Go.Proofs.YtchpnbckgofiaaaGreat.Mem
set_option linter.unusedVariables false
set_option linter.unusedSimpArgs false
/-- A word of 64 bits. -/
def U64 (v : Int) : Prop := 0 ≤ v ∧ v < 18446744073709551616
/-- The low byte of an entry, and its bits. -/
def lo (e : Int) : Nat := e.toNat % 256
def bt (e : Int) (i : Nat) : Bool := (lo e).testBit i
theorem lo_lt (e : Int) : lo e < 256 := Nat.mod_lt _ (by decide)
theorem and_lo {e : Int} (c : Nat) (h : U64 e) (hc : c < 256) : bits .and .u64 e c = ((lo e &&& c : Nat) : Int) := by
  rw [u64_and _ _ h.1 h.2 (by omega) (by omega), Int.toNat_natCast]
  have h1 : c = 255 &&& c := by
    have := Nat.and_two_pow_sub_one_eq_mod c 8
    rw [Nat.and_comm]
    exact (this.trans (Nat.mod_eq_of_lt hc)).symm
  have h2 : e.toNat &&& 255 = lo e := Nat.and_two_pow_sub_one_eq_mod e.toNat 8
  have h3 : e.toNat &&& c = lo e &&& c := by
    conv => lhs; rw [h1, ← Nat.and_assoc, h2]
  rw [h3]
theorem and_mask {a : Int} (s : Nat) (h : U64 a) (hs : s < 64) : bits .and .u64 a ((2 ^ s - 1 : Nat) : Int) = a % (2 ^ s : Nat) := by
  have hp : 2 ^ s < 18446744073709551616 := Nat.pow_lt_pow_right (by decide) hs
  rw [u64_and _ _ h.1 h.2 (by omega) (by omega), Int.toNat_natCast, Nat.and_two_pow_sub_one_eq_mod]
  obtain ⟨A, rfl⟩ := Int.eq_ofNat_of_zero_le h.1
  rw [Int.toNat_natCast, Int.natCast_emod]
theorem or_add {a b : Int} (s : Nat) (ha : U64 a) (hd : a % (2 ^ s : Nat) = 0) (hb : 0 ≤ b ∧ b < (2 ^ s : Nat)) (hb2 : b < 18446744073709551616) : bits .or .u64 a b = a + b := by
  obtain ⟨a1, a2⟩ := ha
  obtain ⟨b1, b2⟩ := hb
  rw [u64_or _ _ a1 a2 b1 hb2]
  obtain ⟨A, rfl⟩ := Int.eq_ofNat_of_zero_le a1
  obtain ⟨B, rfl⟩ := Int.eq_ofNat_of_zero_le b1
  simp only [Int.toNat_natCast]
  have hA : A = 2 ^ s * (A / 2 ^ s) := by
    have : A % 2 ^ s = 0 := by omega
    have := Nat.div_add_mod A (2 ^ s)
    omega
  have : A ||| B = A + B := by
    rw [hA]
    exact (Nat.two_pow_add_eq_or_of_lt (by omega) _).symm
  omega
/-- Is an entry wrong; does it point to a table; the page that it names. -/
def wrongB (e : Int) : Bool := !bt e 0 || (bt e 2 && !bt e 1) || decide (18014398509481984 ≤ e)
def ptr (e : Int) : Bool := !bt e 1 && !bt e 3
def pn (e : Int) : Int := e / 1024 % 17592186044416
/-- A leaf whose page is no multiple of its level's. -/
def odd (e : Int) (l : Nat) : Bool := decide (pn e % (2 ^ (9 * l) : Nat) ≠ 0)
/-- The address that a leaf makes. -/
def at_ (e : Int) (l : Nat) (addr : Int) : Int := pn e * 4096 + addr % (2 ^ (12 + 9 * l) : Nat)
/-- The place in a table. -/
def ix (addr : Int) (l : Nat) : Int := addr / (2 ^ (12 + 9 * l) : Nat) % 512
/-- What a walk comes to: a read that failed, a fault of the tables, a leaf and its level. -/
inductive Res where | bus (f t i : Int) | page | leaf (e : Int) (l : Nat)
def down (rd : Int → Int → Int × Int) (addr : Int) : Nat → Int → Res
  | 0, _ => .page
  | l + 1, t =>
    if (rd t (ix addr l)).2 ≠ 0 then .bus (rd t (ix addr l)).2 t (ix addr l) else if wrongB (rd t (ix addr l)).1 = true then .page
    else if ptr (rd t (ix addr l)).1 = true then down rd addr l (pn (rd t (ix addr l)).1) else if odd (rd t (ix addr l)).1 l = true then .page else .leaf (rd t (ix addr l)).1 l
/-- A table's entry in a memory. -/
def phys (base : Int) (n : Nat) (mem : Nat → Int) (t i : Int) : Int × Int :=
  if 4503599627370496 ≤ t then (0, 3) else if hasB base n (t * 4096 + 8 * i) 8 = true then (num mem (t * 4096 + 8 * i - base).toNat 8, 0) else (0, 3)
/-- Does a leaf of the second stage let an access; what it allows. -/
def lets2 (e a : Int) : Bool := bt e 4 && bt e 6 && (if a = 1 then bt e 3 else if a = 2 then bt e 1 else if a = 3 then bt e 2 && bt e 7 else false)
def perm (e : Int) : Int := (if bt e 1 = true then 2 else 0) + (if bt e 2 = true ∧ bt e 7 = true then 4 else 0) + (if bt e 3 = true then 8 else 0)
def guestOf (gpa a : Int) : Res → Int × Int × Int
  | .bus f _ _ => (0, 0, f)
  | .page => (0, 0, 2)
  | .leaf e l => if lets2 e a = true then (at_ e l gpa, perm e, 0) else (0, 0, 2)
/-- The second stage. -/
def guest (base : Int) (n : Nat) (mem : Nat → Int) (root gpa a : Int) : Int × Int × Int :=
  if root = 0 then (gpa, 14, 0) else if 549755813888 ≤ gpa then (0, 0, 2) else guestOf gpa a (down (phys base n mem) gpa 3 root)
/-- Does a leaf of the first stage let an access? -/
def lets1 (user sum mxr : Bool) (e a : Int) : Bool :=
  !((user && !bt e 4) || (!user && bt e 4 && (decide (a = 1) || !sum))) && bt e 6 && (if a = 1 then bt e 3 else if a = 2 then bt e 1 || (mxr && bt e 3) else if a = 3 then bt e 2 && bt e 7 else false)
/-- An entry of the first stage. -/
def virt (base : Int) (n : Nat) (mem : Nat → Int) (root t i : Int) : Int × Int :=
  if (guest base n mem root (t * 4096 + 8 * i) 2).2.2 ≠ 0 then (0, (guest base n mem root (t * 4096 + 8 * i) 2).2.2)
  else if hasB base n (guest base n mem root (t * 4096 + 8 * i) 2).1 8 = true then (num mem ((guest base n mem root (t * 4096 + 8 * i) 2).1 - base).toNat 8, 0) else (0, 3)
/-- What a translation comes to: the physical and the guest-physical address, the fault, whether it was an entry's. -/
structure Place where
  pa : Int
  gpa : Int
  fault : Int
  walk : Bool
def second (base : Int) (n : Nat) (mem : Nat → Int) (root g a : Int) : Place :=
  if (guest base n mem root g a).2.2 ≠ 0 then ⟨0, g, (guest base n mem root g a).2.2, false⟩ else ⟨(guest base n mem root g a).1, g, 0, false⟩
/-- Is a virtual address one of 39 bits, extended? -/
def canon (va : Int) : Bool := decide (va < 274877906944) || decide (18446743798831644672 ≤ va)
def firstOf (user sum mxr : Bool) (va a : Int) : Res → Place ⊕ Int
  | .bus f t i => .inl ⟨0, t * 4096 + 8 * i, f, true⟩
  | .page => .inl ⟨0, 0, 1, false⟩
  | .leaf e l => if lets1 user sum mxr e a = true then .inr (at_ e l va) else .inl ⟨0, 0, 1, false⟩
/-- The first stage's answer: a fault and where, or the guest-physical address. -/
def first (rd : Int → Int → Int × Int) (satp : Int) (user sum mxr : Bool) (va a : Int) : Place ⊕ Int :=
  if satp / 1152921504606846976 = 0 then .inr va else if satp / 1152921504606846976 ≠ 8 then .inl ⟨0, 0, 1, false⟩
  else if canon va = false then .inl ⟨0, 0, 1, false⟩ else firstOf user sum mxr va a (down rd va 3 (satp % 17592186044416))
def translate (base : Int) (n : Nat) (mem : Nat → Int) (satp root : Int) (user sum mxr : Bool) (va a : Int) : Place :=
  match first (virt base n mem root) satp user sum mxr va a with
  | .inl p => p
  | .inr g => second base n mem root g a
theorem num_u64 {mem : Nat → Int} {o s : Nat} (h : ∀ i, o ≤ i → i < o + 8 → 0 ≤ mem i ∧ mem i < 256) : U64 (num mem o 8) := by
  have := num_range 8 o h
  exact ⟨this.1, by have := this.2; omega⟩
theorem pn_u (e : Int) : 0 ≤ pn e ∧ pn e < 17592186044416 := by unfold pn; omega
theorem ix_u (addr : Int) (l : Nat) : 0 ≤ ix addr l ∧ ix addr l < 512 := by unfold ix; omega
theorem phys_u {base : Int} {n : Nat} {mem : Nat → Int} {t i : Int} (hb : 0 ≤ base) (hm : ∀ i, i < n * 4096 → 0 ≤ mem i ∧ mem i < 256) : U64 (phys base n mem t i).1 ∧ ((phys base n mem t i).2 = 0 ∨ (phys base n mem t i).2 = 3) := by
  unfold phys
  split
  · exact ⟨⟨by decide, by decide⟩, .inr rfl⟩
  · split
    · rename_i h
      have := of_decide_eq_true h
      exact ⟨num_u64 (s := 0) fun i h1 h2 => hm i (by omega), .inl rfl⟩
    · exact ⟨⟨by decide, by decide⟩, .inr rfl⟩
theorem pow_fit : ∀ l : Nat, l ≤ 2 → (2 : Nat) ^ (12 + 9 * l) ≤ 1073741824
  | 0, _ => by decide | 1, _ => by decide | 2, _ => by decide
  | n + 3, h => by omega
theorem at_u (e : Int) {l : Nat} (hl : l ≤ 2) (addr : Int) : 0 ≤ at_ e l addr ∧ at_ e l addr < 144115188075855872 := by
  have h := pn_u e
  have h2 := pow_fit l hl
  have h3 : 0 < 2 ^ (12 + 9 * l) := Nat.pow_pos (by decide)
  have h4 : 0 ≤ addr % (2 ^ (12 + 9 * l) : Nat) := Int.emod_nonneg _ (by omega)
  have h5 := Int.emod_lt_of_pos addr (show (0 : Int) < (2 ^ (12 + 9 * l) : Nat) by omega)
  unfold at_; omega
theorem down_leaf {rd : Int → Int → Int × Int} {addr : Int} (hr : ∀ t l, U64 (rd t (ix addr l)).1) : ∀ (l : Nat) (t e : Int) (k : Nat), down rd addr l t = .leaf e k → U64 e ∧ k < l ∧ wrongB e = false ∧ ptr e = false ∧ odd e k = false := by
  intro l
  induction l with
  | zero =>
    intro t e k h
    simp [down] at h
  | succ l ih =>
    intro t e k h
    simp only [down] at h
    split at h <;> try cases h
    split at h <;> try cases h
    split at h
    · obtain ⟨h1, h2, h3⟩ := ih _ _ _ h
      exact ⟨h1, by omega, h3⟩
    · split at h <;> try cases h
      rename_i h1 h2 h3 h4
      exact ⟨hr _ _, Nat.lt_succ_self _, by simpa using h2, by simpa using h3, by simpa using h4⟩
theorem down_bus {rd : Int → Int → Int × Int} {P : Int → Prop} {addr : Int} (hr : ∀ t l, (rd t (ix addr l)).2 = 0 ∨ P (rd t (ix addr l)).2) : ∀ (l : Nat) (t f q i : Int), down rd addr l t = .bus f q i → f ≠ 0 ∧ P f := by
  intro l
  induction l with
  | zero =>
    intro t f q i h
    simp [down] at h
  | succ l ih =>
    intro t f q i h
    simp only [down] at h
    split at h
    · rename_i h1
      cases h
      exact ⟨h1, (hr _ _).resolve_left h1⟩
    · split at h <;> try cases h
      split at h
      · exact ih _ _ _ _ h
      · split at h <;> cases h
end Go.Proofs.YtchpnbckgofiaaaGreat.Tab
end
